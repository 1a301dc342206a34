/-
  A part of the proof that the law HerdReadings returns true for every input; conditions: none beyond the statement's own. (part 6 of 7)
-/
import Derived.Shelf.Spec.SlicesGrow
import Derived.Test.YtcldiigclhgafaaGreatNge
set_option linter.unusedSimpArgs false
set_option linter.unusedVariables false
set_option maxHeartbeats 16000000
set_option maxRecDepth 100000
namespace Go.Proofs.YtcldiigclhgafaaGreat
open Go Go.Abs
open Go.Abs.Enc (enc)
theorem ala(h c:Nat)(k d kn b s o dm f:Int)(r:aW 6 Int)(hh:h≤5)(hc:c≤9999)(h1:0≤k∧k≤6)(h2:0≤d∧d≤100)(h3:0≤kn∧kn≤100)(h4:1≤b∧b≤6)(h5:1≤s∧s≤2)(h6:1≤o∧o≤12)(h7:0≤dm∧dm≤6∧dm≠b)(h8:k=0→0≤f∧f<c)(h9:k=4→iw r=true) :
  iW (jY ⟨⟨h,c⟩,k,if k=0 then 0 else d,kn,b,dm,s,o,if k=4 then r else oq,if k=0 then ⟨h,f⟩ else ⟨0,0⟩⟩)=true:=by
 obtain hk | hk | hk | hk | hk | hk | hk:k=0∨k=1∨k=2∨k=3∨k=4∨k=5∨k=6:=by omega
 all_goals
  subst hk;simp[iW,pT,jY,pZ,cj]
 all_goals first
  |omega
  |(have:=h8 rfl;omega)
  |(refine ⟨?_,?_⟩ <;>first | exact ⟨by omega,h9 rfl⟩ | exact h9 rfl | omega)
  |(have:=h9 rfl;simp[this];omega)
theorem alb{m:bU}(hm:eg m=true)(picks:List Int)(h c i:Nat)(n:fJ)(hh:h≤5)(hc:c≤9999)(h0:n.g 1%7=0→0<c):iW (jY (kF m picks h c i n))=true:=by
 obtain ⟨hw,-,-⟩:=L3 hm;refine ala h c _ _ _ _ _ _ _ _ _ hh hc ?_ ?_ ?_ ?_ ?_ ?_ ?_ ?_ ?_
 iterate 6 omega
 ·refine ⟨?_,?_,?_⟩ <;>split <;>omega
 ·intro hk;have:=h0 hk;exact ⟨zw8 _ (by omega),zv7 _ (by omega)⟩
 ·intro _;simp only[uG];split
  ·rename_i hg;have a1:=zw8 (n.g 8) (show (m.given.length:Int)≠0 by omega);have a2:=zv7 (n.g 8) (show (0:Int)<(m.given.length:Int) by omega);exact amy hw (KM hm (by omega)) _
  ·decide
def lf(e:aq):Prop:=0≤e.bP∧e.bP≤12∧(e.kind=1∨e.kind=2→1≤e.dq∧e.dq≤2∧1≤e.cH∧e.cH≤6)
theorem ajY{x:aq}(h1:1≤x.bP∧x.bP≤12)(h2:1≤x.dq∧x.dq≤2)(h3:1≤x.cH∧x.cH≤6):lf (jY x):=by
 refine ⟨?_,?_,fun hk =>?_⟩
 ·show 0≤(if x.kind=1∨x.kind=3∨x.kind=5 then x.bP else 0)
  split <;>omega
 ·show (if x.kind=1∨x.kind=3∨x.kind=5 then x.bP else 0)≤12
  split <;>omega
 ·have hk:x.kind=1∨x.kind=2:=hk
  show 1≤(if x.kind=1∨x.kind=2 then x.dq else 0)∧(if x.kind=1∨x.kind=2 then x.dq else 0)≤2∧1≤(if x.kind=0 then 0 else x.cH)∧(if x.kind=0 then 0 else x.cH)≤6
  rw[if_pos hk,if_neg (by omega)];omega
theorem ajZ(m:bU)(picks:List Int)(h c i:Nat)(n:fJ):lf (jY (kF m picks h c i n)) :=
 ajY (by show 1≤1+n.g 6%12∧1+n.g 6%12≤12;omega) (by show 1≤1+n.g 5%2∧1+n.g 5%2≤2;omega) (by show 1≤1+n.g 4%6∧1+n.g 4%6≤6;omega)
theorem yb{m:bU}(hm:eg m=true)(ls:List fJ)(picks:List Int)(h:Nat)(hh:h≤5):∀ i,i≤9999→(∀ x∈gl m ls picks h i,iW x=true∧lf x)∧∀ k (hk:k<(gl m ls picks h i).length),((gl m ls picks h i)[k]).bF=⟨h,k⟩
 |0,_=>⟨by simp[gl],by simp[gl]⟩
 |i+1,hi=>by
  obtain ⟨h1,h2⟩:=yb hm ls picks h hh i (by omega);have hl:=tJ m ls picks h i;simp only[gl,r9];split
  ·rename_i hc;refine ⟨fun x hx =>?_,fun k hk =>?_⟩
   ·rcases zy4.1 hx with hx | hx
    ·exact h1 x hx
    ·simp only[List.mem_singleton] at hx;subst hx;exact ⟨alb hm picks h _ i _ hh (by omega) (fun hk=>Nat.pos_of_ne_zero fun e=>hc.2 ⟨hk,e⟩),ajZ ..⟩
   ·rw[List.getElem_append];split
    ·exact h2 k _
    ·rename_i hk2;simp only[zz3,List.length_singleton] at hk;have e:k=(gl m ls picks h i).length:=by omega
     subst e;simp[jY,kF]
  ·exact ⟨h1,h2⟩
theorem Lu{m:bU}(hm:eg m=true)(ls:List fJ)(picks:List Int){h i:Nat}(hh:h≤5)(hi:i≤9999){x:aq}(hx:x∈gl m ls picks h i):x.bF.fh=(h:Int):=by
 obtain ⟨k,hk,rfl⟩:=List.getElem_of_mem hx;rw[(yb hm ls picks h hh i hi).2 k hk]
theorem ya{m:bU}(hm:eg m=true)(ls:List fJ)(picks:List Int):∀ h,h≤5→(∀ x∈ir m ls picks h,iW x=true∧lf x∧x.bF.fh<(h:Int))∧oy (ir m ls picks h)
 |0,_=>⟨by simp[ir],.nil⟩
 |h+1,hh=>by
  obtain ⟨h1,h2⟩:=ya hm ls picks h (by omega);have hn:=(yc ls).2;obtain ⟨h3,h4⟩:=yb hm ls picks h (by omega) (iG ls) (by omega);simp only[ir];refine ⟨fun x hx =>?_,List.pairwise_append.2 ⟨h2,List.pairwise_iff_getElem.2 fun i j hi hj hij =>?_,fun a ha b hb =>?_⟩⟩
  ·rcases zy4.1 hx with hx | hx
   ·obtain ⟨a,b,c⟩:=h1 x hx;exact ⟨a,b,by omega⟩
   ·obtain ⟨a,b⟩:=h3 x hx;exact ⟨a,b,by rw[Lu hm ls picks (by omega) (by omega) hx];omega⟩
  ·rw[h4 i hi,h4 j hj];simp[before];omega
  ·have e1:=(h1 a ha).2.2;have e2:=Lu hm ls picks (by omega) (by omega) hb;simp[before,e2];omega
theorem L0{m:bU}(hm:eg m=true)(ls:List fJ)(picks:List Int):dQ (oT m ls picks)=true:=by
 obtain ⟨h1,h2⟩:=ya hm ls picks 3 (by omega);exact ub.2 ⟨x9 m ls picks 3,fun x hx=>(h1 x hx).1,h2⟩
theorem Lz{m:bU}(hm:eg m=true)(ls:List fJ)(picks:List Int)(i:Nat):lf (ab (oT m ls picks) i):=by
 by_cases h:i<(oT m ls picks).length
 ·rw[←iS h];exact ((ya hm ls picks 3 (by omega)).1 _ (zx3 h)).2.1
 ·have:ab (oT m ls picks) i=default:=by simp[ab,zz0,List.getElem?_eq_none (Nat.le_of_not_lt h)]
  rw[this];exact ⟨by decide,by decide,by decide⟩
def lb(b:aD):Prop:=0≤b.bP∧b.bP≤12∧1≤b.dq∧b.dq≤2∧1≤b.no∧b.no≤9999
theorem ajX{b b':aD}{x:aq}(hb:lb b)(hx:lf x)(h:eZ b x=some b'):lb b':=by
 simp only[eZ] at h;obtain ⟨x1,x2,x3⟩:=hx;obtain ⟨b1,b2,b3,b4,b5,b6⟩:=hb
 repeat' split at h
 all_goals first
  |(cases h;done)
  |(simp only[u8] at h;subst h;exact ⟨by simp only;omega,by simp only;omega,b3,b4,b5,b6⟩)
theorem ajW{bs bs':List aD}{x:aq}(hb:∀ b∈bs,lb b)(hx:lf x)(h:dK c5 bs x=some bs'):∀ b∈bs',lb b:=by
 simp only[dK] at h;split at h
 ·rename_i hk;split at h
  ·simp only[u8] at h;subst h;intro b hm;simp only[c5,zy4,List.mem_singleton] at hm;rcases hm with hm | rfl
   ·exact hb b hm
   ·obtain ⟨x1,x2,x3⟩:=hx;have:=x3 hk;exact ⟨x1,x2,this.1,this.2.1,this.2.2.1,by simp only[fP];omega⟩
  ·cases h
 ·split at h
  ·cases h
  ·rename_i b0 hb0;simp only[zz1] at h;obtain ⟨b',hb',rfl⟩:=h;intro b hm;simp only[lx,zx9] at hm;obtain ⟨a,ha,rfl⟩:=hm;split
   ·exact ajX (hb b0 (pW hb0).1) hx hb'
   ·exact hb a ha
theorem Ly(l:List aq)(hl:∀ i,lf (ab l i)):∀ (o:List Nat) (s:List aD×List Nat),(∀ b∈s.1,lb b)→∀ b∈(o.foldl (lB c5 l) s).1,lb b
 | [],_,h=>h
 |i::o,s,h=>by
  refine Ly l hl o _ ?_;simp only[lB];split
  ·rename_i bs hbs;exact ajW h (hl i) hbs
  ·exact h
theorem yi{l:List aq}(hl:∀ i,lf (ab l i))(day known:Int):∀ b∈cu l day known,lb b:=Ly l hl _ _ (by simp)
def oF(bs:List aD)(o s:Int):Nat:=(bs.filter fun b => !decide (0≤b.cV)&&(b.bP==o&&b.dq==s)).length
def mE(bs:List aD)(o:Nat):Nat→Nat
 |0=>0
 |s+1=>mE bs o s+oF bs ((o+1:Nat):Int) ((s+1:Nat):Int)
def jU(bs:List aD):Nat→Nat
 |0=>0
 |o+1=>jU bs o+mE bs o 2
def oX(bs:List aD)(n:Nat):Nat:=(bs.filter fun b => !decide (0≤b.cV)&&(decide (1≤b.bP)&&decide (b.bP≤(n:Int)))).length
theorem WH(b:aD)(bs:List aD)(o s:Int):oF (b::bs) o s=oF bs o s+if (!decide (0≤b.cV)&&(b.bP==o&&b.dq==s))=true then 1 else 0:=by
 simp only[oF,zx4];split <;>simp
theorem am6{bs:List aD}(hb:∀ b∈bs,lb b)(o:Nat):oX bs (o+1)=oX bs o+mE bs o 2:=by
 induction bs with
 |nil=>rfl
 |cons b bs ih =>
  have ih:=ih fun x hx=>hb x (by simp[hx]);obtain ⟨b1,b2,b3,b4,-,-⟩:=hb b (by simp);have hs:b.dq=1∨b.dq=2:=by omega
  simp only[mE,WH] at ih ⊢;simp only[oX,zx4] at ih ⊢;by_cases hd:0≤b.cV
  ·simp only[hd,decide_true,Bool.not_true,Bool.false_and,zz6,if_false];omega
  ·simp only[hd,decide_false,Bool.not_false,Bool.true_and];by_cases h1:b.bP=((o+1:Nat):Int)
   ·have e1:(decide (1≤b.bP)&&decide (b.bP≤((o+1:Nat):Int)))=true:=by simp;omega
    have e2:(decide (1≤b.bP)&&decide (b.bP≤(o:Int)))=false:=by simp;omega
    rw[e1,e2,if_pos rfl,if_neg (by decide),List.length_cons];rcases hs with hs | hs
    ·have f1:(b.bP==((o+1:Nat):Int)&&b.dq==((0+1:Nat):Int))=true:=by simp[h1,hs]
     have f2:(b.bP==((o+1:Nat):Int)&&b.dq==((0+1+1:Nat):Int))=false:=by simp[h1,hs]
     rw[if_pos f1,if_neg (by rw[f2];decide)];omega
    ·have f1:(b.bP==((o+1:Nat):Int)&&b.dq==((0+1:Nat):Int))=false:=by simp[h1,hs]
     have f2:(b.bP==((o+1:Nat):Int)&&b.dq==((0+1+1:Nat):Int))=true:=by simp[h1,hs]
     rw[if_pos f2,if_neg (by rw[f1];decide)];omega
   ·have f:∀ s:Int,(b.bP==((o+1:Nat):Int)&&b.dq==s)=false:=fun s=>by
     have:(b.bP==((o+1:Nat):Int))=false:=beq_eq_false_iff_ne.2 h1;rw[this];rfl
    have e:(decide (1≤b.bP)&&decide (b.bP≤((o+1:Nat):Int)))=(decide (1≤b.bP)&&decide (b.bP≤(o:Int))):=by
     rw[Bool.eq_iff_iff];simp;omega
    simp only[f,zz6,if_false,e];split <;>(try simp only[List.length_cons]) <;>omega
theorem PH{bs:List aD}(hb:∀ b∈bs,lb b):∀ o,jU bs o=oX bs o
 |0=>by
  have:(bs.filter fun b => !decide (0≤b.cV)&&(decide (1≤b.bP)&&decide (b.bP≤((0:Nat):Int))))=[]:=by
   rw[List.filter_eq_nil_iff];intro b _;simp;omega
  simp only[jU,oX,this,zu2]
 |o+1=>by rw[jU,PH hb o,am6 hb o]
def oJ(l:List aq)(day known no:Int):Int:=(nL l no day known).1
theorem KP{l:List aq}{day known:Int}(hok:dQ l=true)(hd:cj 0 100000 day=true)(hk:cj 0 100000 known=true){b:aD}(hb:b∈cu l day known)(hm:lb b)(ha:¬ 0≤b.cV):nL l b.no day known=(b.bP,0):=by
 have hg:cw (cu l day known) b.no=some b:=KF (nM hok day known).1 hb;have hno:cj 1 9999 b.no=true:=by
  obtain ⟨-,-,-,-,h5,h6⟩:=hm;simp[cj];omega
 have hc:eK l [ee b.no 9999] [day,known]=0:=by
  have e1:(ee b.no 9999).g 0=b.no:=rfl;have e2:(ee b.no 9999).g 1=9999:=rfl;simp only[eK,hok,if_true,List.all_cons,List.all_nil,e1,e2,hno,Bool.and_true,List.any_cons,List.any_nil,hd,hk,Bool.not_true,Bool.or_false,zz6,if_false]
 simp only[nL,hc,if_true,hg,if_neg ha]
theorem alK{l:List aq}{day known:Int}(hok:dQ l=true)(hl:∀ i,lf (ab l i))(hd:cj 0 100000 day=true)(hk:cj 0 100000 known=true) :
  ((c4 (((cu l day known).filter fun b => !decide (0≤b.cV)).map (·.no))).filter fun no=>oJ l day known no != 0).length=oX (cu l day known) 12:=by
 have hb:=yi hl day known;rw[((mC _).filter _).length_eq,List.filter_map,zy2,List.filter_filter,oX]
 congr 1
 refine List.filter_congr fun b hm =>?_;obtain ⟨m1,m2,-,-,-,-⟩:=hb b hm;simp only[Function.comp];by_cases ha:0≤b.cV
 ·simp[ha]
 ·have:=KP hok hd hk hm (hb b hm) ha;simp only[oJ,this,ha,decide_false,Bool.not_false,Bool.and_true,Bool.true_and];rw[Bool.eq_iff_iff];simp;omega
def mi(l:List aq)(day known:Int)(fG:List Int)(i:Nat):Nat:=((fG.take i).filter fun no=>oJ l day known no != 0).length
theorem alJ(l:List aq)(day known:Int){fG:List Int}{i:Nat}(h:i<fG.length):mi l day known fG (i+1)=mi l day known fG i+if oJ l day known fG[i] != 0 then 1 else 0:=by
 simp only[mi];rw[zy1 h,List.filter_append,zz3,zx4,zv5];split <;>simp_all
theorem alI(l:List aq)(day known:Int)(fG:List Int)(i:Nat):mi l day known fG i≤fG.length :=
 zu1 (zv9 _ _) (by rw[zy7];omega)
theorem Dv(bs:List aD)(o s:Int):oF bs o s≤bs.length:=zv9 _ _
theorem zG(bs:List aD)(o:Nat):∀ s,mE bs o s≤s*bs.length
 |0=>zw7 _
 |s+1=>by
  have h1:=zG bs o s;have h2:=Dv bs ((o+1:Nat):Int) ((s+1:Nat):Int);rw[mE,Nat.succ_mul];omega
theorem PG(bs:List aD):∀ o,jU bs o≤o*(2*bs.length)
 |0=>zw7 _
 |o+1=>by
  have h1:=PG bs o;have h2:=zG bs o 2;rw[jU,Nat.succ_mul];omega
theorem anw{a b:Nat}(h:a+b<9223372036854775807):IntKind.i64.wrap ((a:Int)+(b:Int))=((a+b:Nat):Int):=km a b h
theorem Rb(c:List Int)(ls:List fJ)(n:jC)(hc:c.length*8≤140737488355328):ay Tryz.prog 4 [enc c,enc ls,enc n] (enc true):=by
 obtain ⟨m,hm⟩:∃ m,m=m0 c:=⟨_,rfl⟩
 have hokm:eg m=true:=by rw[hm];exact L5 c
 have h24:=Ao c (by omega);rw[←hm] at h24;have h23:=An m ls c hokm hc;have hok:=L0 hokm ls c;have hev:=Lz hokm ls c;generalize oT m ls c=l at h23 hok hev;obtain ⟨D,hD⟩:∃ D,D=n.g 0%32:=⟨_,rfl⟩
 obtain ⟨dz,hKn⟩:∃ dz,dz=n.g 1%45:=⟨_,rfl⟩
 have hDb:0≤D∧D<32:=by rw[hD];exact ⟨zw8 _ (by decide),zv7 _ (by decide)⟩
 have hKb:0≤dz∧dz<45:=by rw[hKn];exact ⟨zw8 _ (by decide),zv7 _ (by decide)⟩
 have hd:cj 0 100000 D=true:=by simp[cj];omega
 have hk:cj 0 100000 dz=true:=by simp[cj];omega
 have hb:=yi hev D dz;have hbl:=(nM hok D dz).2.1;have hck:∀ ns,(ns.all fun q:jC=>cj 1 (q.g 1) (q.g 0))=true→eK l ns [D,dz]=0:=fun ns h=>by
  simp only[eK,hok,if_true,h,List.any_cons,List.any_nil,hd,hk,Bool.not_true,Bool.or_false,zz6,if_false]
 have h26:=Ap l D dz;have hA:oA l D dz=(c4 (((cu l D dz).filter fun b => !decide (0≤b.cV)).map (·.no)),0):=by simp only[oA,hck [] rfl,if_true]
 rw[hA] at h26;have hall:=alK hok hev hd hk;have hsum:=PH hb 12;have hmem:∀ no∈c4 (((cu l D dz).filter fun b => !decide (0≤b.cV)).map (·.no)),nL l no D dz=(oJ l D dz no,0):=fun no hno=>by
  rw[(mC _).mem_iff,zx9] at hno;obtain ⟨b,hbm,rfl⟩:=hno;obtain ⟨m1,m2⟩:=zu0.1 hbm;have:=KP hok hd hk m1 (hb b m1) (by simpa using m2);simp only[oJ,this]
 have hnl:(c4 (((cu l D dz).filter fun b => !decide (0≤b.cV)).map (·.no))).length≤60:=by
  rw[(mC _).length_eq,zy2];exact zu1 (zv9 _ _) hbl
 generalize c4 (((cu l D dz).filter fun b => !decide (0≤b.cV)).map (·.no))=fG at h26 hall hmem hnl;have hC:∀ o s:Nat,1≤o→o≤12→1≤s→s≤2→pM l o s D dz=((oF (cu l D dz) o s:Int),0):=fun o s h1 h2 h3 h4=>by
  have h0:=hck [ee o 99,ee s 9] (by
   have e1:(ee (o:Int) 99).g 0=o:=rfl;have e2:(ee (o:Int) 99).g 1=99:=rfl;have e3:(ee (s:Int) 9).g 0=s:=rfl;have e4:(ee (s:Int) 9).g 1=9:=rfl;simp only[List.all_cons,List.all_nil,e1,e2,e3,e4,cj];simp;omega)
  simp only[pM,h0,if_true];rfl
 have hSl:=PG (cu l D dz);have hSs:=zG (cu l D dz);have hcl:=Dv (cu l D dz);obtain ⟨bs,hbs⟩:∃ bs,bs=cu l D dz:=⟨_,rfl⟩
 rw[←hbs] at hall hsum hC hSl hSs hcl hbl;refine ay.bn Tryz.func4 T7 V2 Ye (t7 rfl) (fun hwf W0 D0 E1 =>?_);simp only[fK,rT,bg,zz4,Nat.reduceAdd];clear hwf;have R:=v6 @x4 (v6 @eG (v6 @bd (v6 @aU @U)))
 repeat' ((first |(with_reducible refine .guard (fun hb =>?_) (fun hb =>?_) <;>try simp only[hb])|refine J.aL (by decide +kernel) rfl fun K hK =>?_|refine .lead _ (h24) ?_|refine .lead _ (h23) ?_|refine .flat _ (gN _ _ (by decide) (by decide)) rfl ?_|refine .lead _ (h26) ?_|(refine .aG [0,1,2,5,6,7,8,9,10,11,12,13,14,15,16,17,18,19,20,40,44,59,61,65,69,82] hK ?_;clear hK K)|(with_reducible refine .done (hK _ ?_);clear hK K)|refine J.of rfl ?_|(with_reducible refine ak.aK (fun h =>?_) (fun h =>?_) <;>try simp only[h])) <;>try simp only[aM,R,←hD,←hKn,Nat.reduceEqDiff,reduceIte,Int.reduceBNe,Nat.reduceBEq])
 all_goals clear R
 refine J.loop (fun i:Nat=>au [(7,enc l),(8,.int .i64 D),(9,.int .i64 dz),(10,enc fG),(12,.int .i64 (mi l D dz fG i)),(13,.int .i64 i)] []) (fun i=>i≤fG.length) (fun i=>fG.length-i) 0 (zw7 _) ?_ (fun i hi =>?_)
 ·have e:mi l D dz fG 0=0:=by simp[mi]
  rw[e];refine aC.bI ?_ ?_ ?_ ?_ <;>simp[aT,bC,bB,a6,aV,I.only,bh]
 have hol:=alI l D dz fG i;by_cases hlt:i<fG.length
 ·have hc1:=fO hlt;have he:=fun A=>ft (A:=A) 1 hlt rfl;have hw:=eB (i:=i) (by omega);have hwo:=eB (i:=mi l D dz fG i) (by omega);have hsu:=alJ l D dz hlt;have hF:=Aq l fG[i] D dz;rw[hmem _ (zx3 hlt)] at hF;rcases q:(oJ l D dz fG[i] != 0)
  all_goals
   rw[q] at hsu;simp only[if_true,zz6,if_false,Nat.add_zero] at hsu;have R:=v6 @hc1 (v6 @he (v6 @hw (v6 @hwo (v6 @q (v6 @bd (v6 @aU @U))))))
   repeat' ((first |(with_reducible refine .guard (fun hb =>?_) (fun hb =>?_) <;>try simp only[hb])|refine J.aL (by decide +kernel) rfl fun K hK =>?_|refine .flat _ (hF) rfl ?_|(refine .aG [0,1,2,5,6,7,8,9,10,11,12,13,14,15,16,17,18,19,20,40,44,59,61,65,69,82] hK ?_;clear hK K)|(with_reducible refine .done (hK _ ?_);clear hK K)|refine J.of rfl ?_|(with_reducible refine ak.aK (fun h =>?_) (fun h =>?_) <;>try simp only[h])) <;>try simp only[aM,R,Nat.reduceEqDiff,reduceIte,Int.reduceBNe,Nat.reduceBEq])
   all_goals clear R
   refine ⟨i+1,by omega,by omega,?_⟩;rw[hsu];refine aC.bI ?_ ?_ ?_ ?_ <;>simp[aT,bC,bB,a6,aV,I.only,bh]
 have hc1:=gi hlt;have hge:i=fG.length:=by omega
 subst hge;have hfin:mi l D dz fG fG.length=jU bs 12:=by
  rw[hsum,←hall,mi,List.take_length]
 rw[hfin];have R:=v6 @hc1 (v6 @bd (v6 @aU @U))
 repeat' ((first |(with_reducible refine .guard (fun hb =>?_) (fun hb =>?_) <;>try simp only[hb])|refine J.aL (by decide +kernel) rfl fun K hK =>?_|(refine .aG [0,1,2,5,6,7,8,9,10,11,12,13,14,15,16,17,18,19,20,40,44,59,61,65,69,82] hK ?_;clear hK K)|(with_reducible refine .done (hK _ ?_);clear hK K)|refine J.of rfl ?_|(with_reducible refine ak.aK (fun h =>?_) (fun h =>?_) <;>try simp only[h])) <;>try simp only[aM,R,Nat.reduceEqDiff,reduceIte,Nat.reduceBEq])
 all_goals clear R
 refine J.loop (fun o:Nat=>au [(7,enc l),(8,.int .i64 D),(9,.int .i64 dz),(12,.int .i64 (jU bs 12:Nat)),(16,.int .i64 (jU bs o:Nat)),(17,.int .i64 ((o+1:Nat):Int))] []) (fun o=>o≤12) (fun o=>12-o) 0 (zw7 _) ?_ (fun o ho =>?_)
 ·simp only[jU];refine aC.bI ?_ ?_ ?_ ?_ <;>simp[aT,bC,bB,a6,aV,I.only,bh]
 have h1:=hSl o;have h2:o*(2*bs.length)≤12*(2*bs.length):=Nat.mul_le_mul_right _ ho;by_cases ho12:o<12
 case neg =>
  have e:o=12:=by omega
  subst e;have q1:decide (((12+1:Nat):Int)≤12)=false:=rfl;have q2:∀ x:Int,(x==x)=true:=fun x=>by simp
  have R:=v6 @q1 (v6 @q2 (v6 @bd (v6 @aU @U)))
  repeat' ((first |(with_reducible refine .guard (fun hb =>?_) (fun hb =>?_) <;>try simp only[hb])|refine J.aL (by decide +kernel) rfl fun K hK =>?_|refine .flat _ (Am) rfl ?_|(refine .aG [0,1,2,5,6,7,8,9,10,11,12,13,14,15,16,17,18,19,20,40,44,59,61,65,69,82] hK ?_;clear hK K)|(with_reducible refine .done (hK _ ?_);clear hK K)|refine J.of rfl ?_|(with_reducible refine ak.aK (fun h =>?_) (fun h =>?_) <;>try simp only[h])) <;>try simp only[aM,R,Nat.reduceEqDiff,reduceIte,Nat.reduceBEq])
  all_goals clear R
 have q1:decide (((o+1:Nat):Int)≤12)=true:=decide_eq_true (by omega);have hwo:=eB (i:=o+1) (by omega);have R:=v6 @q1 (v6 @bd (v6 @aU @U))
 repeat' ((first |(with_reducible refine .guard (fun hb =>?_) (fun hb =>?_) <;>try simp only[hb])|refine J.aL (by decide +kernel) rfl fun K hK =>?_|(refine .aG [0,1,2,5,6,7,8,9,10,11,12,13,14,15,16,17,18,19,20,40,44,59,61,65,69,82] hK ?_;clear hK K)|(with_reducible refine .done (hK _ ?_);clear hK K)|refine J.of rfl ?_|(with_reducible refine ak.aK (fun h =>?_) (fun h =>?_) <;>try simp only[h])) <;>try simp only[aM,R,Nat.reduceEqDiff,reduceIte,Nat.reduceBEq])
 all_goals clear R
 refine J.loop (fun s:Nat=>au [(7,enc l),(8,.int .i64 D),(9,.int .i64 dz),(12,.int .i64 (jU bs 12:Nat)),(16,.int .i64 ((jU bs o+mE bs o s:Nat):Int)),(17,.int .i64 ((o+1:Nat):Int)),(18,.int .i64 ((s+1:Nat):Int))] []) (fun s=>s≤2) (fun s=>2-s) 0 (zw7 _) ?_ (fun s hs =>?_)
 ·simp only[mE,Nat.add_zero];refine aC.bI ?_ ?_ ?_ ?_ <;>simp[aT,bC,bB,a6,aV,I.only,bh]
 by_cases hs2:s<2
 case neg =>
  have e:s=2:=by omega
  subst e;have q3:decide (((2+1:Nat):Int)≤2)=false:=rfl;have R:=v6 @q3 (v6 @hwo (v6 @bd (v6 @aU @U)))
  repeat' ((first |(with_reducible refine .guard (fun hb =>?_) (fun hb =>?_) <;>try simp only[hb])|refine J.aL (by decide +kernel) rfl fun K hK =>?_|(refine .aG [0,1,2,5,6,7,8,9,10,11,12,13,14,15,16,17,18,19,20,40,44,59,61,65,69,82] hK ?_;clear hK K)|(with_reducible refine .done (hK _ ?_);clear hK K)|refine J.of rfl ?_|(with_reducible refine ak.aK (fun h =>?_) (fun h =>?_) <;>try simp only[h])) <;>try simp only[aM,R,Nat.reduceEqDiff,reduceIte,Nat.reduceBEq])
  all_goals clear R
  refine ⟨o+1,by omega,by omega,?_⟩;simp only[jU];refine aC.bI ?_ ?_ ?_ ?_ <;>simp[aT,bC,bB,a6,aV,I.only,bh]
 have q3:decide (((s+1:Nat):Int)≤2)=true:=decide_eq_true (by omega);have hws:=eB (i:=s+1) (by omega);have h3:=hSs o s;have h4:s*bs.length≤2*bs.length:=Nat.mul_le_mul_right _ hs;have h5:=hcl ((o+1:Nat):Int) ((s+1:Nat):Int);have hwa:=anw (a:=jU bs o+mE bs o s) (b:=oF bs ((o+1:Nat):Int) ((s+1:Nat):Int)) (by omega);have hF:=Ar l ((o+1:Nat):Int) ((s+1:Nat):Int) D dz;rw[hC (o+1) (s+1) (by omega) (by omega) (by omega) (by omega)] at hF;have R:=v6 @q3 (v6 @hws (v6 @hwa (v6 @bd (v6 @aU @U))))
 repeat' ((first |(with_reducible refine .guard (fun hb =>?_) (fun hb =>?_) <;>try simp only[hb])|refine J.aL (by decide +kernel) rfl fun K hK =>?_|refine .flat _ (hF) rfl ?_|(refine .aG [0,1,2,5,6,7,8,9,10,11,12,13,14,15,16,17,18,19,20,40,44,59,61,65,69,82] hK ?_;clear hK K)|(with_reducible refine .done (hK _ ?_);clear hK K)|refine J.of rfl ?_|(with_reducible refine ak.aK (fun h =>?_) (fun h =>?_) <;>try simp only[h])) <;>try simp only[aM,R,Nat.reduceEqDiff,reduceIte,Int.reduceBNe,Nat.reduceBEq])
 all_goals clear R
 refine ⟨s+1,by omega,by omega,?_⟩;simp only[mE,←Nat.add_assoc];refine aC.bI ?_ ?_ ?_ ?_ <;>simp[aT,bC,bB,a6,aV,I.only,bh]
end Go.Proofs.YtcldiigclhgafaaGreat
namespace Go.Proofs.YtcldiigclhgafaaGreat
open Go Go.Abs Go.ChangeShapes Go.WideShapes Go.ChangeAt Go.RowKit
open Go.Abs.Enc (enc)
theorem aks:jW Tryz.prog 130 (aW 9 Int):=Mn (K3 (by kernel_rfl)) tV (by kernel_rfl) (by decide)
theorem LQ:jW Tryz.prog 43 (List (aW 9 Int)):=Mo (by kernel_rfl) aks (by kernel_rfl)
theorem Lk{H:Type}{P:Program}{ts:List TypeId}{ds:List (DataW H)}(hz:(DataW.weightsEach P ts ds).all (· ≤ reachBytes)=true){j:Nat}{t e:TypeId}{d:DataW H}{n:Nat}(ht:ts[j]?=some t)(hd:ds[j]?=some d)(hu:P.underlying t=some (.slice e))(hb:8≤P.bytesOf e)
  (h:n=0∨∃ elems spare,d=.slice elems spare∧elems.length=n):n*8≤140737488355328:=by
 rcases h with h | ⟨elems,spare,rfl,h⟩
 ·omega
 ·have h1:=sized_slice hz ht hd hu;have h2:reachBytes<2^47:=reachBytes_lt;have h3:(elems.length+spare.length)*8≤(elems.length+spare.length)*P.bytesOf e:=Nat.mul_le_mul_left _ hb;omega
theorem ai5(os:Os)(started:os.Started)(H:Type)(enc0:TypeId×Value→H) :
  ReturnsInHanded {} Tryz.checked os 4 .any (Rows.herdSumsSpec.pre6 enc0 Tryz.prog Tryz.f4 Rows.herdSumsRow.domain false) (Rows.herdSumsSpec.post enc0 Tryz.prog Tryz.f4 false true false false):=by
 refine returnsInHanded_of_change_sized (C:=Tryz.checked) Tryz.own started (by kernel_rfl) Tryz.func4
  (ChangeSpec.witness6 (enc:=enc0) (C:=Tryz.checked) false ⟨#[],#[.slice none 0 0,.slice none 0 0,.agg #[.int .i64 0,.int .i64 0]],[]⟩ 8 (by kernel_rfl) (by kernel_rfl) (by kernel_rfl) (by kernel_rfl)) ?_
 intro W base args ds gs before hval0 hW hcnd hz0 _;have hval:∀ (j:Nat) t v,Tryz.f4.params[j]?=some t→args[j]?=some v→Value.okWide Tryz.prog W .any base t v:=hval0;have hz:(DataW.weightsEach Tryz.prog (Tryz.f4.params.toList++Rows.herdSumsSpec.plain.varTypes Tryz.prog) (ds++gs)).all (· ≤ reachBytes)=true:=hz0;have hW':=hW;obtain ⟨p,q,hA0,hV,hbef,hfz,hnd⟩:=hW;have hA:DataW.TrodAll enc0 Tryz.prog W 0 (fun _=>true) true Tryz.f4.params.toList args.toList ds p:=hA0;rw[Tryz.params4] at hA hval hz;obtain ⟨v0,v1,v2,d0,d1,d2,p0,p1,p2,rfl,rfl,rfl,h0,h1,h2⟩:=trodAll_three hA;obtain ⟨rfl,rfl⟩:=trodVars_none hV;obtain ⟨a0,k0,l0⟩:=Mm LP (e:=3) (by kernel_rfl) (hval 0 29 v0 rfl rfl) h0;obtain ⟨a1,c1,k1⟩:=ug LQ rfl (by kernel_rfl) (hval 1 43 v1 rfl rfl) h1;obtain ⟨a2,c2,k2⟩:=alA akr rfl (by kernel_rfl) (hval 2 28 v2 rfl rfl) h2;have n0:=Lk hz (j:=0) (t:=29) (e:=3) rfl rfl (by kernel_rfl) (of_decide_eq_true (by kernel_rfl)) l0;exact Lc (tb:=4) Tryz.Lb (by rw[Tryz.params4]) rfl rfl (by rw[hbef];simp) rfl rfl (by kernel_rfl) (by kernel_rfl) hW' h0 h1 h2 (by
  intro t ht;simp only[zx6,List.mem_nil_iff,or_false] at ht;rcases ht with rfl | rfl | rfl <;>exact ⟨by kernel_rfl,of_decide_eq_true (by kernel_rfl)⟩) (Rb a0 a1 a2 n0) (O8 k0 ⟨c1,k1⟩ ⟨c2,k2⟩)
theorem ai4:Rows.HerdSumsSaid :=
 OpenClaim.holds_of_wide 4 Tryz.f4 rfl rfl rfl rfl rfl rfl rfl ⟨rfl,rfl,rfl,rfl,rfl⟩ rfl rfl rfl rfl rfl (by kernel_rfl) Tryz.func4 (by kernel_rfl)
  (of_decide_eq_true (by kernel_rfl)) (by unfold Func.isWrapper;first | (rw[if_pos (by decide +kernel)];kernel_rfl) | (rw[if_neg (by decide +kernel)];exact ⟨rfl,rfl⟩))
  (fun os started H enc0 _=>ai5 os started H enc0)
#print axioms ai4
end Go.Proofs.YtcldiigclhgafaaGreat
namespace Go.Proofs.YtcldiigclhgafaaGreat
open Go Go.Abs
open Go.Abs.Enc (enc)
def jz(xs:List Int):List (Nat×ah):=[(1000002,.box (.own 1000080 xs.length)),(1000080,.bY 3 1 (xs.map enc))]
theorem amT(xs ys:List Int):fu (jz xs) (jz ys):=by
 refine ⟨fun n=>by simp only[jz,al,aj];(repeat' split) <;>rfl,fun n x h =>?_,fun n h =>?_⟩
 ·simp only[jz,aj] at h
  repeat' split at h
  all_goals first | (cases h;done) | (simp only[u8] at h;subst h;exact ⟨by simp[jz,al,aj,ah.only,I.only,dy],rfl⟩)
 ·simp only[jz,al,aj] at h
  repeat' split at h
  all_goals first | omega | (simp at h;done)
theorem am2(l:List aq)(known:Int):(eQ l known).length≤l.length:=by
 have:=zv9 (fun i=>(gp l known).getD i false) (List.range l.length)
 rwa [List.length_range] at this
theorem anG(l:List aq)(known:Int)(hl:l.length≤60):cC Tryz.prog 144 [.nils 1,.func 146 [.ref (enc l),.ref (enc (gp l known))]] [] (fun r os'=>r=enc (cL (eQ l known))∧os'=[]):=by
 refine cC.bn Tryz.func144 Tb U6 Xi (t7 rfl) (t7 rfl) (fun n h=>by simp[al,aj] at h) (fun hwf W0 D0 E1 =>?_);simp only[BD,Ng,bg,zz4];clear hwf;refine .ao (by decide +kernel) fun K hK =>?_;simp only[Gf,U,simprocAttr];refine .done (hK _ ?_);clear hK K;refine J.seq (J.seq ?_);refine .bx (by decide +kernel) fun K hK =>?_;simp only[Gg,U,simprocAttr]
 try simp only[aU,U,simprocAttr]
 refine .done (hK _ ?_);clear hK K;try simp only[ar]
 refine J.sub (aC.vi 2 80 3 1 1 [] _ rfl rfl rfl (B:=au [(2,.ptr 2 []),(6,.func 146 [.ref (enc l),.ref (enc (gp l known))])] [(2,.box (.own 80 0)),(80,.bY 3 1 [])]) ?_) ?_
 ·simp only[fI];refine aC.bI ?_ ?_ ?_ ?_ <;>simp[aT,bC,bB,a6,al,aV,cg,I.only,I.bT,ah.only,bh]
 refine J.block (J.kd (osb0:=jz []) (tsR:=[(2,.ptr 1000002 [])]) (ρ:=[(1999999,999999),(1000002,2),(1000080,80)])
  (fun k os=>os=jz (cL ((eQ l known).take k)))
  (fun _ _=>False)
  rfl (t7 rfl) (by simp only[U,simprocAttr]) (by simp[I.bZ,I.bD,dG]) vE (Ab l (gp l known) hl (uO l known)) (fun _=>rfl) rfl rfl rfl (fun o=>⟨?_,?_⟩) ?_ ?_ ?_ ?_ ?_ ?_ ?_)
 ·intro n x hx;simp only[dp,jz,aj] at hx
  repeat' split at hx
  all_goals first | (cases hx;done) | (subst_vars;simp only[u8] at hx;subst hx;simp[dp,jz,al,bA,aj,ah.aN,I.aN,I.cQ,ah.only,I.only,I.bT,ah.eX])
 ·intro a b ha hb;simp only[dp,jz,al,aj] at ha hb
  repeat' split at ha
  all_goals first | (simp at ha;done) | skip
  all_goals (repeat' split at hb)
  all_goals first | (simp at hb;done) | (subst_vars;simp[bA])
 ·simp[mB,aV,I.aN,bA,I.only,jz,al,aj]
 ·rintro k os rfl;exact amT ..
 ·rintro e os h;exact h.elim
 ·simp[jz,cL]
 ·rintro k osb hk rfl W1 D1 E1 La o1 o2;have hk':k<(eQ l known).length:=hk;have hsl:=am2 l known;obtain ⟨i,hi⟩:∃ i,i=(eQ l known).getD k 0:=⟨_,rfl⟩
  have hit:((iK (fun i=>(gp l known).getD i false) l.length).getD k 0)=i:=hi.symm;have hsu:(eQ l known).take (k+1)=(eQ l known).take k++[i]:=by
   rw[hi,zy1 hk',zz0,zz9 hk'];rfl
  have hdl:((eQ l known).take k).length≤60:=by rw[zy7];omega
  generalize (eQ l known).take k=dk at hsu hdl ⊢;simp only[hit,qp,dp,jz];have R:=v6 @aU @U
  repeat' ((first |(with_reducible refine .guard (fun hb =>?_) (fun hb =>?_) <;>try simp only[hb])|refine J.aL (by decide +kernel) rfl fun K hK =>?_|(refine .aG [0,1,2,4,5,6,7] hK ?_;clear hK K)|(with_reducible refine .done (hK _ ?_);clear hK K)|refine J.of rfl ?_|(with_reducible refine ak.aK (fun h =>?_) (fun h =>?_) <;>try simp only[h])) <;>try simp only[aM,R,simprocAttr])
  all_goals clear R
  refine ⟨by simp[],?_⟩;have hap:=fun (A:ae) d rest=>nC (α:=Int) (A:=A) (d:=d) 3 1 8 1000080 (l:=(cL dk).length) (es:=cL dk) (ys:=[(i:Int)]) (rest:=rest) rfl rfl (by simp) (by simp[cL,maxLen];omega) (by simp[cL];omega);have R:=v6 @hap (v6 @mN (v6 @eG (v6 @Px (v6 @eM (v6 @bd (v6 @aU @U))))))
  repeat' ((first |(with_reducible refine .guard (fun hb =>?_) (fun hb =>?_) <;>try simp only[hb])|refine J.aL (by decide +kernel) rfl fun K hK =>?_|(refine .aG [0,1,2,4,5,6,7] hK ?_;clear hK K)|(with_reducible refine .done (hK _ ?_);clear hK K)|refine J.of rfl ?_|(with_reducible refine ak.aK (fun h =>?_) (fun h =>?_) <;>try simp only[h])) <;>try simp only[aM,R,simprocAttr])
  all_goals clear R
  refine ⟨_,?_,rfl⟩;have hti:cL (dk++[i])=cL dk++[(i:Int)]:=by simp[cL]
  rw[hsu,hti];generalize cL dk=xs;intro n x hx;simp only[dp,aj] at hx
  (repeat' split at hx) <;>first
   |(cases hx;done)
   |(subst_vars;simp only[u8] at hx;subst hx;simp[dp,al,au,aj,ah.only,I.only,bh,ah.eX,dy,fA,I.bT])
 ·rintro os rfl;have eN:(eQ l known).take (iK (fun i=>(gp l known).getD i false) l.length).length=eQ l known:=List.take_length;simp only[eN,jz,dI,zz8,zx1,bA,ah.aN,I.aN,fB,ar,bO,reduceIte,Nat.reduceEqDiff,zy0,zy3];have hfo:=mW (k:=(cL (eQ l known)).length) (T:=3) (es:=cL (eQ l known)) 1 rfl rfl;have R:=v6 @eG (v6 @bd (v6 @aU @U))
  repeat' ((first |(with_reducible refine .guard (fun hb =>?_) (fun hb =>?_) <;>try simp only[hb])|refine J.aL (by decide +kernel) rfl fun K hK =>?_|(refine .aG [0,1,2,4,5,6,7] hK ?_;clear hK K)|(with_reducible refine .done (hK _ ?_);clear hK K)|refine J.of rfl ?_|(with_reducible refine ak.aK (fun h =>?_) (fun h =>?_) <;>try simp only[h])) <;>try simp only[aM,R,simprocAttr])
  all_goals clear R
  rw[eY];exact ⟨[],[enc (cL (eQ l known))],oM,⟨⟨_,rfl,.inr hfo⟩,trivial⟩,rfl,rfl⟩
 ·rintro e os h;exact h.elim
theorem As(l:List aq)(no known:Int):ay Tryz.prog 39 [enc l,enc no,enc known] (.tuple [enc (oE l no known).1,enc (oE l no known).2]):=by
 refine ay.bn Tryz.func39 T6 V1 Yd (t7 rfl) (fun hwf W0 D0 E1 =>?_);simp only[CA,Oe,bg,zz4,Nat.reduceAdd];clear hwf;have hC:=ot l [ee no 9999] [known];simp only[oE];generalize hc:eK l [ee no 9999] [known]=e at hC ⊢;by_cases he:e=0
 ·have hn:=nZ he;subst he;have hok:=mP hc;have hF:=ou l known hok;have hk:=p7 (cu l 100000 known) no;cases hg:cw (cu l 100000 known) no with
  |none =>
   rw[hg] at hk;have R:=v6 @hn (v6 @hk (v6 @mN (v6 @sZ (v6 @uU dE))))
   repeat' ((first |(with_reducible refine .guard (fun hb =>?_) (fun hb =>?_) <;>try simp only[hb])|refine J.aL (by decide +kernel) rfl fun K hK =>?_|refine .flat _ (hC) rfl ?_|refine .lead _ (hF) ?_|(refine .aG [0,1,2,6,7,8,9,18,30] hK ?_;clear hK K)|(with_reducible refine .done (hK _ ?_);clear hK K)|refine J.of rfl ?_|(with_reducible refine ak.aK (fun h =>?_) (fun h =>?_) <;>try simp only[h])) <;>try simp only[aM,R,simprocAttr])
   all_goals clear R
  |some b =>
   rw[hg] at hk;have R:=v6 @hn (v6 @hk (v6 @mN (v6 @sZ (v6 @uU dE))))
   repeat' ((first |(with_reducible refine .guard (fun hb =>?_) (fun hb =>?_) <;>try simp only[hb])|refine J.aL (by decide +kernel) rfl fun K hK =>?_|refine .flat _ (hC) rfl ?_|refine .lead _ (hF) ?_|(refine .aG [0,1,2,6,7,8,9,18,30] hK ?_;clear hK K)|(with_reducible refine .done (hK _ ?_);clear hK K)|refine J.of rfl ?_|(with_reducible refine ak.aK (fun h =>?_) (fun h =>?_) <;>try simp only[h])) <;>try simp only[aM,R,simprocAttr])
   all_goals clear R
 ·have hn:=n8 he;have R:=v6 @hn (v6 @he (v6 @mN (v6 @sZ (v6 @uU dE))))
  repeat' ((first |(with_reducible refine .guard (fun hb =>?_) (fun hb =>?_) <;>try simp only[hb])|refine J.aL (by decide +kernel) rfl fun K hK =>?_|refine .flat _ (hC) rfl ?_|(refine .aG [0,1,2,6,7,8,9,18,30] hK ?_;clear hK K)|(with_reducible refine .done (hK _ ?_);clear hK K)|refine J.of rfl ?_|(with_reducible refine ak.aK (fun h =>?_) (fun h =>?_) <;>try simp only[h])) <;>try simp only[aM,R,simprocAttr])
  all_goals clear R
theorem KV{α:Type}(f:α→Int)(a x:α)(m:List α):nT f (a::m) x=if f a≤f x then a::nT f m x else x::a::m:=by
 by_cases h:f a≤f x <;>simp[nT,h]
theorem xN{α:Type}{f:α→Int}{x y:α} : ∀ {l:List α},y∈nT f l x↔y=x∨y∈l
 | []=>by simp[nT]
 |a::l=>by
  rw[KV];split
  ·simp only[zx6,xN (l:=l)];constructor <;>(rintro (h | h | h) <;>simp[h])
  ·simp only[zx6]
theorem KW{x:Int} : ∀ {l:List Int},gf l→x∉l→gf (nT id l x)
 | [],_,_=>by simp[nT,gf]
 |a::l,h,hx=>by
  simp only[gf,zw3] at h;simp only[zx6,not_or] at hx;rw[KV];split
  ·rename_i hle;simp only[id] at hle;refine zw3.2 ⟨fun y hy =>?_,KW h.2 hx.2⟩;rcases xN.1 hy with rfl | hy
   ·omega
   ·exact h.1 y hy
  ·rename_i hle;simp only[id] at hle;refine zw3.2 ⟨fun y hy =>?_,zw3.2 h⟩;rcases zx6.1 hy with rfl | hy
   ·omega
   ·have:=h.1 y hy;omega
theorem RC{l:List Int}{x:Int}(h:gf l):gf (oz l x):=by
 simp only[oz];split
 ·exact h
 ·rename_i hx;exact KW h hx
theorem RB{l:List Int}{x y:Int} : y∈oz l x↔y=x∨y∈l:=by
 simp only[oz];split
 ·rename_i hx;constructor
  ·exact .inr
  ·rintro (rfl | h)
   ·exact hx
   ·exact h
 ·exact xN
theorem EH:∀ (l o:List Int),gf o→gf (l.foldl oz o)
 | [],_,h=>h
 |_::l,_,h=>EH l _ (RC h)
theorem EG{y:Int} : ∀ (l o:List Int),y∈l.foldl oz o↔y∈o∨y∈l
 | [],o=>by simp
 |x::l,o=>by
  rw[List.foldl_cons,EG l,RB,zx6];constructor
  ·rintro ((h | h) | h) <;>simp[h]
  ·rintro (h | h | h) <;>simp[h]
theorem uI(l:List Int):gf (lz l):=EH l [] .nil
theorem zx{l:List Int}{y:Int} : y∈lz l↔y∈l:=by simp[lz,EG]
def mR(m:bU)(a b:List aD):List Int:=(lz (a.map (·.no)++b.map (·.no))).filter fun no => !jb m (cw a no) (cw b no)
theorem amL{a b:List Int}(h:∀ y,y∈a↔y∈b):lz a=lz b:=zf (uI a) (uI b) fun y=>by rw[zx,zx,h]
def kC(m:bU)(l:List aq)(a:Item)(known:Int):List Int×Int:=if eg m then (if eK l [] [known]=0 then (if l6 l a then (mR m (cu l 100000 known) (cu (da l (gC l a)) 100000 known),0) else ([],3)) else ([],eK l [] [known])) else ([],13)
theorem J.anP{W0:World}{D0:aR}{nn:Nat}{ow:Nat→Prop}{E1:aZ}{Y:Value→List I→List (Nat×ah)→cO→Prop}{kH:Option Nat}{y:aO}{Q:Exit→ae→Prop}{ts:List (Nat×I)}{os:List (Nat×ah)}{a b d n:Nat}{xs:List Int}(hx:xs≠[])
  (hd:Abs.b7 ts d=.own n xs.length) (hn:aj os n=some (.cT 3 xs)) (hlt:n<1000000) (hl:xs.length≤60) (ht:∀ t,nc n xs.length (Abs.b7 ts t)) (ho:a6 (fun j => ![n].contains j) (cW [n] os))
  (ts':List (Nat×I)) (h1:∀ q∈ts',q.1≠a∧q.1≠b∧Abs.b7 ts q.1=q.2∧q.2.only (fun j=>j != n)=true)
  (hda:d≠a) (hdb:d≠b)
  (h:∀ q,J ⟨Tryz.prog,W0,D0,nn,ow,E1,Y,kH⟩ y Q (au ((d,.view n [] 1 0 xs.length)::ts') ((n,.box (.agg ((c4 xs++List.replicate q 0).map enc)))::cW [n] os))) :
  J ⟨Tryz.prog,W0,D0,nn,ow,E1,Y,kH⟩ (.seq (.bV none [⟨some a,.mv (.t d),none⟩,⟨some b,.call 107 [.t a],none⟩]) y) Q (au ts os):=by
 have hdrop:∀ m,aj (cW [n] os) m=if m=n then none else aj os m:=fun m=>by
  have:=mZ [n] os m;simpa using this
 have ho':∀ m y,aj os m=some y→m≠n→y.only (fun j=>j != n)=true:=fun m y hy hm=>by
  have:=ue ho m y (by rw[hdrop,if_neg hm];exact hy);exact qI (fun j hj=>by simpa using hj) this
 refine J.zP hn hx hlt ht (fun m y hy hm=>.inr (ho' m y hy hm)) fun q =>?_;refine J.seq (J.bV (cl:=[]) (by rfl) fun K hK =>?_);have hd':Abs.b7 (ts.map fun p=>(p.1,fm n xs.length p.2)) d=.view n [] 1 0 xs.length:=by
  rw[nU _ rfl,hd];simp[fm]
 simp only[U,simprocAttr,hd'];refine .bS false [(1000000,n)] (bJ 1000000 (xs++List.replicate q 0)) [.view 1000000 [] 1 0 xs.length] _ rfl (uZ xs _ (by omega)) ?_ ?_ ?_ ?_
 ·refine ⟨fun m y hy =>?_,fun m m' h h' _=>by rw[cE.1 h,cE.1 h']⟩;simp only[bJ,aj] at hy;split at hy
  ·rename_i hm;cases hy;subst hm;exact ⟨by simp only[bA,if_true,aj,ah.aN,I.aN,fB],fZ _ _,rfl⟩
  ·cases hy
 ·exact ⟨.inl ⟨by simp[I.aN,bA],cE.2 rfl,rfl⟩,trivial⟩
 ·rintro eH os2 ⟨rfl,rfl⟩;refine ⟨fun m y hy =>?_,fun m m' h h' _=>by rw[cE.1 h,cE.1 h'],fun m hm=>by rw[cE.1 hm];exact cE.2 rfl,fun m a b=>by rw[cE.1 a] at b;simp[bJ,al,aj] at b,rfl,fun _=>rfl⟩;simp only[bJ,aj] at hy;split at hy
  ·cases hy;exact ⟨fZ _ _,rfl,fun h=>by cases h⟩
  ·cases hy
 ·rintro eH os2 ⟨rfl,rfl⟩
  try simp only[bJ,dI,zz8,zx1,ah.aN,I.aN,fB,bA,reduceIte,zy0,zy3,I.cQ,U,simprocAttr]
  refine .done (hK _ ?_);clear hK K;refine J.sub (aC.dh (ts':=(d,I.view n [] 1 0 xs.length)::ts') ⟨?_,zF fun p hp =>?_⟩ (fun m =>?_)) (h q)
  ·simp only[Abs.b7,hda,hdb,if_false];exact hd'
  ·obtain ⟨k1,k2,k3,k4⟩:=h1 p hp;have h5:Abs.b7 (ts.map fun p=>(p.1,fm n xs.length p.2)) p.1=p.2:=by
    rw[nU _ rfl,k3,qF k4]
   simp only[Abs.b7,k1,k2,if_false,h5]
  ·by_cases hm:m=n
   ·simp[aj,hm]
   ·simp only[aj,if_neg hm,rH,hdrop];cases h6:aj os m with
    |none=>rfl
    |some y =>
     have h7:iJ (fm n xs.length) y=y:=zJ _ (qI (fun j hj=>by simpa using hj) (ho' _ _ h6 hm));simp[h7]
def dg(xs:List Int):Nat→List Int
 |0=>[]
 |r+1=>if r=0∨xs.getD r 0≠xs.getD (r-1) 0 then dg xs r++[xs.getD r 0] else dg xs r
theorem Dw(xs:List Int):∀ r,(dg xs r).length≤r
 |0=>zz7 _
 |r+1=>by
  have:=Dw xs r;simp only[dg];split <;>simp <;>omega
theorem tq{xs:List Int}{i:Nat}(h:i<xs.length):xs.getD i 0=xs[i]:=by
 rw[zz0,zz9 h];rfl
theorem Dy{xs:List Int}(hs:xs.Pairwise (· ≤ ·)):∀ r,r≤xs.length→gf (dg xs r)∧∀ y,y∈dg xs r↔y∈xs.take r
 |0,_=>⟨.nil,by simp[dg]⟩
 |r+1,h=>by
  obtain ⟨h1,h2⟩:=Dy hs r (by omega);have hx:=tq (xs:=xs) (i:=r) (by omega);rw[zy1 (by omega),←hx];simp only[dg];by_cases h0:r=0
  ·subst h0;simp[dg,gf]
  have hp:=tq (xs:=xs) (i:=r-1) (by omega);have hle:∀ y∈xs.take r,y≤xs.getD (r-1) 0:=fun y hy=>by
   obtain ⟨i,hi,rfl⟩:=List.mem_take_iff_getElem.1 hy;rw[hp];by_cases e:i=r-1
   ·simp only[e];omega
   ·exact List.pairwise_iff_getElem.1 hs i (r-1) (by omega) (by omega) (by omega)
  have hpr:xs.getD (r-1) 0≤xs.getD r 0:=by
   rw[hp,hx];exact List.pairwise_iff_getElem.1 hs (r-1) r (by omega) (by omega) (by omega)
  have hpm:xs.getD (r-1) 0∈xs.take r:=by
   rw[hp,List.mem_take_iff_getElem];exact ⟨r-1,by omega,rfl⟩
  by_cases he:xs.getD r 0=xs.getD (r-1) 0
  ·rw[if_neg (fun h=>h.elim h0 (fun h=>h he))];refine ⟨h1,fun y =>?_⟩;rw[h2,zy4,List.mem_singleton];constructor
   ·exact .inl
   ·rintro (h | rfl)
    ·exact h
    ·rw[he];exact hpm
  ·rw[if_pos (.inr he)];refine ⟨List.pairwise_append.2 ⟨h1,by simp,fun y hy z hz =>?_⟩,fun y=>by rw[zy4,zy4,h2]⟩;have:=hle y ((h2 y).1 hy);simp only[List.mem_singleton] at hz;subst hz;omega
theorem Dz(xs:List Int):dg (c4 xs) (c4 xs).length=lz xs:=by
 obtain ⟨h1,h2⟩:=Dy (Pq xs) _ (zz7 _);refine zf h1 (uI xs) fun y =>?_;rw[h2,List.take_length,zx,(mC xs).mem_iff]
def WJ(xs:List Int)(N:Nat):cO:=fun r os'=>∃ ws:List Int,r=.view 1000000 [] 1 0 (dg xs xs.length).length∧os'=bJ 1000000 ws∧ws.take (dg xs xs.length).length=dg xs xs.length∧ws.length=N
theorem K8{m lo l i:Nat}(h:i<l)(fs:List I):mb m [] 1 lo l 1 (i:Int) (some fs)=some (.ptr m [lo+i]):=xW h
theorem P9(xs q:List Int)(hn:xs.length≤200):cC Tryz.prog 108 [.view 1000000 [] 1 0 xs.length] (bJ 1000000 (xs++q)) (WJ xs (xs++q).length):=by
 refine cC.bn Tryz.func108 C0 Dd DA (t7 rfl) (t7 rfl) my (fun hwf W0 D0 E1 =>?_);simp only[vv,yY,bg];clear hwf;have hcl:∀ k,k≤xs.length→dg xs k=xs.take k→(dg xs k).length=k:=fun k hk e=>by rw[e,zy7];omega
 by_cases h2:xs.length<2
 ·have hd2:decide ((xs.length:Int)<2)=true:=by simp;omega
  have e:dg xs xs.length=xs:=by
   have:xs.length=0∨xs.length=1:=by omega
   rcases this with e | e
   ·rw[e,List.eq_nil_of_length_eq_zero e];rfl
   ·obtain ⟨x,rfl⟩:=List.length_eq_one_iff.1 e;simp[dg]
  have R:=v6 @hd2 (v6 @dj (v6 @bd (v6 @aU @U)))
  repeat' ((first |(with_reducible refine .guard (fun hb =>?_) (fun hb =>?_) <;>try simp only[hb])|refine J.aL (by decide +kernel) rfl fun K hK =>?_|(refine .aG [0,2,3,4,5,8,13,25,32,44] hK ?_;clear hK K)|(with_reducible refine .done (hK _ ?_);clear hK K)|refine J.of rfl ?_|(with_reducible refine ak.aK (fun h =>?_) (fun h =>?_) <;>try simp only[h])) <;>try simp only[aM,R,simprocAttr])
  all_goals clear R
  rw[eY];exact ⟨bJ 1000000 (xs++q),[.view 1000000 [] 1 0 xs.length],jG rfl (fun p=>fZ p _),⟨⟨_,rfl,.inl ⟨rfl,rfl,rfl⟩⟩,trivial⟩,xs++q,by rw[e];rfl,rfl,by rw[e,List.take_left],rfl⟩
 have hd2:decide ((xs.length:Int)<2)=false:=by simp;omega
 have hat:∀ i,i<xs.length→(xs++q).getD i 0=xs.getD i 0:=fun i hi=>by
  simp only[zz0];rw[zy8 hi]
 have R:=v6 @hd2 (v6 @dj (v6 @bd (v6 @aU @U)))
 repeat' ((first |(with_reducible refine .guard (fun hb =>?_) (fun hb =>?_) <;>try simp only[hb])|refine J.aL (by decide +kernel) rfl fun K hK =>?_|(refine .aG [0,2,3,4,5,8,13,25,32,44] hK ?_;clear hK K)|(with_reducible refine .done (hK _ ?_);clear hK K)|refine J.of rfl ?_|(with_reducible refine ak.aK (fun h =>?_) (fun h =>?_) <;>try simp only[h])) <;>try simp only[aM,R,simprocAttr])
 all_goals clear R
 refine J.loop (fun k:Nat=>au [(0,.view 1000000 [] 1 0 xs.length),(3,.int .i64 k)] (bJ 1000000 (xs++q))) (fun k=>1≤k∧k≤xs.length∧dg xs k=xs.take k) (fun k=>xs.length-k) 1 ⟨zz7 _,by omega,?_⟩ ?_ (fun k hk =>?_)
 ·have e1:dg xs 1=[xs.getD 0 0]:=by simp[dg]
  rw[e1,zy1 (by omega),tq (by omega)];rfl
 ·try simp only[bJ]
  refine aC.bI ?_ ?_ ?_ ?_ <;>simp[aT,bC,bB,a6,al,aV,cg,I.only,ah.only,dy,fA]
 obtain ⟨k1,k2,k3⟩:=hk;simp only[bJ];by_cases hlt:k<xs.length
 case neg =>
  have hc:=gi hlt;have hge:k=xs.length:=by omega
  subst hge;rw[List.take_length] at k3;have R:=v6 @hc (v6 @dj (v6 @bd (v6 @aU @U)))
  repeat' ((first |(with_reducible refine .guard (fun hb =>?_) (fun hb =>?_) <;>try simp only[hb])|refine J.aL (by decide +kernel) rfl fun K hK =>?_|(refine .aG [0,2,3,4,5,8,13,25,32,44] hK ?_;clear hK K)|(with_reducible refine .done (hK _ ?_);clear hK K)|refine J.of rfl ?_|(with_reducible refine ak.aK (fun h =>?_) (fun h =>?_) <;>try simp only[h])) <;>try simp only[aM,R,simprocAttr])
  all_goals clear R
  rw[eY];exact ⟨bJ 1000000 (xs++q),[.view 1000000 [] 1 0 xs.length],jG rfl (fun p=>fZ p _),⟨⟨_,rfl,.inl ⟨rfl,rfl,rfl⟩⟩,trivial⟩,xs++q,by rw[k3];rfl,rfl,by rw[k3,List.take_left],rfl⟩
 have hc:=fO hlt;have hw:=eB (i:=k) (by omega);have hw1:IntKind.i64.wrap ((k:Int)-1)=((k-1:Nat):Int):=by rw[cF _ (by omega) (by omega)];omega
 have v1:=gW (n:=xs.length) (i:=k) hlt;have v2:=gW (n:=xs.length) (i:=k-1) (by omega);have l1:=fD (xs:=xs++q) (i:=k) (by simp;omega);have l2:=fD (xs:=xs++q) (i:=k-1) (by simp;omega);rw[hat _ (by omega)] at l1 l2;have hsu:dg xs (k+1)=if xs.getD k 0≠xs.getD (k-1) 0 then dg xs k++[xs.getD k 0] else dg xs k:=by
  simp only[dg];simp[show k≠0 by omega]
 rcases hq:(xs.getD k 0==xs.getD (k-1) 0)
 ·have hne:xs.getD k 0≠xs.getD (k-1) 0:=by simpa using hq
  have R:=v6 @hc (v6 @hw (v6 @hw1 (v6 @v1 (v6 @v2 (v6 @l1 (v6 @l2 (v6 @hq (v6 @dj (v6 @bd (v6 @aU @U))))))))))
  repeat' ((first |(with_reducible refine .guard (fun hb =>?_) (fun hb =>?_) <;>try simp only[hb])|refine J.aL (by decide +kernel) rfl fun K hK =>?_|(refine .aG [0,2,3,4,5,8,13,25,32,44] hK ?_;clear hK K)|(with_reducible refine .done (hK _ ?_);clear hK K)|refine J.of rfl ?_|(with_reducible refine ak.aK (fun h =>?_) (fun h =>?_) <;>try simp only[h])) <;>try simp only[aM,R,simprocAttr])
  all_goals clear R
  refine ⟨k+1,⟨by omega,by omega,?_⟩,by omega,?_⟩
  ·rw[hsu,if_pos hne,k3,zy1 hlt,tq hlt]
  ·try simp only[bJ]
   refine aC.bI ?_ ?_ ?_ ?_ <;>simp[aT,bC,bB,a6,al,aV,cg,I.only,ah.only,dy,fA]
 have heq:xs.getD k 0=xs.getD (k-1) 0:=by simpa using hq
 rw[if_neg (fun h=>h heq)] at hsu;have hsl:=qx (n:=1000000) (p:=[]) (sz:=1) (k:=xs.length) (total:=(xs++q).length) (i:=k) (by omega) (by simp) (by simp;omega);have hml:((xs++q).map (enc (α:=Int))).length=(xs++q).length:=by simp
 have R:=v6 @hc (v6 @hw1 (v6 @v1 (v6 @v2 (v6 @l1 (v6 @l2 (v6 @hq (v6 @hml (v6 @hsl (v6 @dj (v6 @bd (v6 @aU @U)))))))))))
 repeat' ((first |(with_reducible refine .guard (fun hb =>?_) (fun hb =>?_) <;>try simp only[hb])|refine J.aL (by decide +kernel) rfl fun K hK =>?_|(refine .aG [0,2,3,4,5,8,13,25,32,44] hK ?_;clear hK K)|(with_reducible refine .done (hK _ ?_);clear hK K)|refine J.of rfl ?_|(with_reducible refine ak.aK (fun h =>?_) (fun h =>?_) <;>try simp only[h])) <;>try simp only[aM,R,zu3,simprocAttr])
 all_goals clear R
 refine J.loop (fun s:Nat×List Int=>au [(0,.view 1000000 [] 1 0 xs.length),(3,.int .i64 (dg xs (k+s.1)).length),(4,.view 1000000 [] 1 k (xs.length-k)),(5,.int .i64 s.1)] (bJ 1000000 s.2)) (fun s=>1≤s.1∧k+s.1≤xs.length∧s.2.length=(xs++q).length∧s.2.take (dg xs (k+s.1)).length=dg xs (k+s.1)∧(dg xs (k+s.1)).length+1≤k+s.1∧∀ j,k+s.1≤j+1→s.2[j]?=(xs++q)[j]?) (fun s=>xs.length-k-s.1) (1,xs++q) ⟨zz7 _,by simp only;omega,rfl,?_,?_,fun j _=>rfl⟩ ?_ ?_
 ·simp only[hsu,k3,zy7];rw[Nat.min_eq_left (by omega),zx8 (by omega)]
 ·simp only[hsu,hcl k k2 k3];omega
 ·simp only[hsu,hcl k k2 k3,bJ];refine aC.bI ?_ ?_ ?_ ?_ <;>simp[aT,bC,bB,a6,al,aV,cg,I.only,ah.only,dy,fA]
 rintro ⟨t,ws⟩ ⟨t1,t2,t3,t4,t5,t6⟩;simp only at t1 t2 t3 t4 t5 t6 ⊢;simp only[bJ];have htl:(xs++q).length=xs.length+q.length:=zz3;have hgt:∀ j,k+t≤j+1→j<xs.length→ws.getD j 0=xs.getD j 0:=fun j h1 h2=>by
  rw[zz0,t6 j h1,←zz0,hat j h2]
 by_cases hlt2:t<xs.length-k
 ·have hc2:decide ((t:Int)<((xs.length-k:Nat):Int))=true:=by simp;omega
  have hw2:=eB (i:=t) (by omega);have hw3:IntKind.i64.wrap ((t:Int)-1)=((t-1:Nat):Int):=by rw[cF _ (by omega) (by omega)];omega
  have hw4:=eB (i:=(dg xs (k+t)).length) (by omega);have v3:=K8 (m:=1000000) (lo:=k) (l:=xs.length-k) (i:=t) hlt2;have v4:=K8 (m:=1000000) (lo:=k) (l:=xs.length-k) (i:=t-1) (by omega);have v5:=gW (n:=xs.length) (i:=(dg xs (k+t)).length) (by omega);have l3:=fD (xs:=ws) (i:=k+t) (by omega);have l4:=fD (xs:=ws) (i:=k+(t-1)) (by omega);rw[hgt _ (by omega) (by omega)] at l3 l4;have s1:=fun (A:ae) v u rest=>mD (A:=A) (n:=1000000) (xs:=ws) (i:=(dg xs (k+t)).length) (by omega) v u rest;have l5:=fD (xs:=ws) (i:=(dg xs (k+t)).length) (by omega);have hsu2:dg xs (k+(t+1))=if xs.getD (k+t) 0≠xs.getD (k+(t-1)) 0 then dg xs (k+t)++[xs.getD (k+t) 0] else dg xs (k+t):=by
   rw[show k+(t+1)=(k+t)+1 by omega];simp only[dg];rw[show k+t-1=k+(t-1) by omega];have h0:(k+t=0)=False:=by simp;omega
   simp only[h0,false_or]
  generalize hL:dg xs (k+t)=az at *;rcases hq2:(xs.getD (k+t) 0 != xs.getD (k+(t-1)) 0)
  ·have heq2:xs.getD (k+t) 0=xs.getD (k+(t-1)) 0:=by simpa using hq2
   rw[if_neg (fun h=>h heq2)] at hsu2;have R:=v6 @hc2 (v6 @hw2 (v6 @hw3 (v6 @v3 (v6 @v4 (v6 @l3 (v6 @l4 (v6 @hq2 (v6 @dj (v6 @bd (v6 @aU @U))))))))))
   repeat' ((first |(with_reducible refine .guard (fun hb =>?_) (fun hb =>?_) <;>try simp only[hb])|refine J.aL (by decide +kernel) rfl fun K hK =>?_|(refine .aG [0,2,3,4,5,8,13,25,32,44] hK ?_;clear hK K)|(with_reducible refine .done (hK _ ?_);clear hK K)|refine J.of rfl ?_|(with_reducible refine ak.aK (fun h =>?_) (fun h =>?_) <;>try simp only[h])) <;>try simp only[aM,R,simprocAttr])
   all_goals clear R
   refine ⟨(t+1,ws),⟨by simp only;omega,by simp only;omega,t3,?_,?_,fun j hj=>t6 j (by simp only at hj;omega)⟩,by simp only;omega,?_⟩
   ·simp only[hsu2];exact t4
   ·simp only[hsu2];omega
   ·simp only[hsu2];refine aC.bI ?_ ?_ ?_ ?_ <;>simp[aT,bC,bB,a6,al,aV,cg,I.only,ah.only,dy]
  ·have hne2:xs.getD (k+t) 0≠xs.getD (k+(t-1)) 0:=by simpa using hq2
   rw[if_pos hne2] at hsu2;have R:=v6 @hc2 (v6 @hw2 (v6 @hw3 (v6 @hw4 (v6 @v3 (v6 @v4 (v6 @v5 (v6 @l3 (v6 @l4 (v6 @l5 (v6 @s1 (v6 @hq2 (v6 @dj (v6 @bd (v6 @aU @U))))))))))))))
   repeat' ((first |(with_reducible refine .guard (fun hb =>?_) (fun hb =>?_) <;>try simp only[hb])|refine J.aL (by decide +kernel) rfl fun K hK =>?_|(refine .aG [0,2,3,4,5,8,13,25,32,44] hK ?_;clear hK K)|(with_reducible refine .done (hK _ ?_);clear hK K)|refine J.of rfl ?_|(with_reducible refine ak.aK (fun h =>?_) (fun h =>?_) <;>try simp only[h])) <;>try simp only[aM,R,simprocAttr])
   all_goals clear R
   refine ⟨(t+1,ws.set az.length (xs.getD (k+t) 0)),⟨by simp only;omega,by simp only;omega,by simpa using t3,?_,?_,fun j hj =>?_⟩,by simp only;omega,?_⟩
   ·simp only[hsu2,zz3,List.length_singleton];rw[zy1 (by simp;omega),List.take_set_of_le (zz7 _),t4];simp
   ·simp only[hsu2,zz3,List.length_singleton];omega
   ·simp only at hj;rw[List.getElem?_set_ne (by omega)];exact t6 j (by omega)
   ·simp only[hsu2,zz3,List.length_singleton];generalize ws.set _ _=ws2;refine aC.bI ?_ ?_ ?_ ?_ <;>simp[aT,bC,bB,a6,al,aV,cg,I.only,ah.only,dy]
 ·have hc2:decide ((t:Int)<((xs.length-k:Nat):Int))=false:=by simp;omega
  have hkt:k+t=xs.length:=by omega
  rw[hkt] at t4 t5 ⊢;have hsl2:=qx (n:=1000000) (p:=[]) (sz:=1) (k:=xs.length) (total:=ws.length) (i:=(dg xs xs.length).length) (by omega) (by omega) (by omega);have hsl3:=fun us:List Int=>fun (hu:us.length=ws.length)=>r7 (n:=1000000) (p:=[]) (sz:=1) (k:=xs.length) (total:=us.length) (i:=(dg xs xs.length).length) (by omega) (by omega);have hml2:∀ us:List Int,(us.map (enc (α:=Int))).length=us.length:=fun us=>by simp
  have hclr:=fun (A:ae) rest ho=>qX (A:=A) (rest:=rest) (esz:=1) (α:=Int) 0 (n:=1000000) (lo:=(dg xs xs.length).length) (k:=xs.length-(dg xs xs.length).length) (xs:=ws) ho (by omega);simp only[gT] at hclr;obtain ⟨us,hus⟩:∃ us,us=ws.take (dg xs xs.length).length++(List.replicate (xs.length-(dg xs xs.length).length) 0++ws.drop ((dg xs xs.length).length+(xs.length-(dg xs xs.length).length))):=⟨_,rfl⟩
  have hul:us.length=ws.length:=by
   rw[hus];simp only[zz3,zy7,zv4,zy9];omega
  have hut:us.take (dg xs xs.length).length=dg xs xs.length:=by
   rw[hus,zx8 (by rw[zy7];omega),List.take_take,Nat.min_self,t4]
  have hsl3:=hsl3 us hul;simp only[←hus] at hclr;generalize hL:dg xs xs.length=az at *;refine J.seq (J.seq ?_);refine .bx (by decide +kernel) fun K hK =>?_;simp only[Fa,U,simprocAttr]
  try simp only[hc2,dj,U,simprocAttr]
  refine .done (hK _ ?_);clear hK K;try simp only[ar]
  refine J.bM ?_;simp only[ak,U,simprocAttr];refine ⟨fun h =>?_,fun h =>?_⟩
  ·cases h
  refine J.exit ?_;try simp only[ar,bO,simprocAttr]
  refine .ao (by decide +kernel) fun K hK =>?_;simp only[E8,U,simprocAttr]
  try simp only[hml2,hsl2,zu3,dj,U,simprocAttr]
  rw[hclr _ _ rfl]
  try simp only[U,simprocAttr]
  refine .done (hK _ ?_);clear hK K;refine .ao (by decide +kernel) fun K hK =>?_;simp only[E9,U,simprocAttr]
  try simp only[hml2,hsl3,zu3,dj,U,simprocAttr]
  refine .done (hK _ ?_);clear hK K;refine J.ret ?_;simp only[bO,ar,eY];exact ⟨bJ 1000000 us,[.view 1000000 [] 1 0 az.length],jG rfl (fun p=>fZ p _),⟨⟨_,rfl,.inl ⟨rfl,rfl,rfl⟩⟩,trivial⟩,us,by rw[hL];rfl,rfl,by rw[hL];exact hut,by omega⟩
theorem Qa:ay Tryz.prog 108 [enc ([]:List Int)] (enc ([]:List Int)):=by
 refine ay.bn Tryz.func108 C0 Dd DA (t7 rfl) (fun hwf W0 D0 E1 =>?_);simp only[vv,yY,bg];clear hwf;have h0:decide (((([]:List Int).length:Nat):Int)<2)=true:=rfl;have h1:decide ((0:Int)<2)=true:=rfl;have R:=v6 @h0 (v6 @h1 (v6 @bd (v6 @aU @U)))
 repeat' ((first |(with_reducible refine .guard (fun hb =>?_) (fun hb =>?_) <;>try simp only[hb])|refine J.aL (by decide +kernel) rfl fun K hK =>?_|(refine .aG [0,2,3,4,5,8,13,25,32,44] hK ?_;clear hK K)|(with_reducible refine .done (hK _ ?_);clear hK K)|refine J.of rfl ?_|(with_reducible refine ak.aK (fun h =>?_) (fun h =>?_) <;>try simp only[h])) <;>try simp only[aM,R,simprocAttr])
 all_goals clear R
def DR(xs:List Int)(p:Int→Bool)(N:Nat):cO:=fun r os'=>∃ us:List Int,r=.view 1000000 [] 1 0 (xs.filter fun x => !p x).length∧os'=bJ 1000000 us∧us.take (xs.filter fun x => !p x).length=(xs.filter fun x => !p x)∧us.length=N
theorem Qu(xs q:List Int)(hn:xs.length≤200)(hq:0<(xs++q).length)(f:FuncId)(caps:List I)(hcaps:I.eS caps=true)(p:Int→Bool)(hf:∀ x∈xs,ay Tryz.prog f (enc x::caps) (enc (p x))) :
  cC Tryz.prog 151 [.view 1000000 [] 1 0 xs.length,.func f caps] (bJ 1000000 (xs++q)) (DR xs p (xs++q).length):=by
 refine cC.bn Tryz.func151 C4 Dg DE (t7 rfl) (t7 rfl) my (fun hwf W0 D0 E1 =>?_);simp only[vy,y5,bg,zz4];clear hwf;have hcl:I.bZ caps=true:=kr caps hcaps;have hfc:∀ aA A,ca aA A caps=some caps:=fun aA A=>j5 aA A caps hcaps;have hon:∀ q,I.bT q caps=true:=fun q=>kc q caps hcl;have hF:=u6 xs f caps hcaps p hf;have hfp:lY 1 0 xs.length (some ((xs++q).map enc))=some (enc xs):=wo rfl;simp only[bJ];cases hfi:xs.findIdx? p with
 |none =>
  have hi:j7 p xs=-1:=by simp[j7,hfi]
  rw[hi] at hF;rw[List.findIdx?_eq_none_iff] at hfi;have hk:(xs.filter fun x => !p x)=xs:=by
   rw[List.filter_eq_self];intro x hx;simp[hfi x hx]
  have q1:((-1:Int)==-1)=true:=rfl;have R:=v6 @q1 (v6 @hfp (v6 @hfc (v6 @gv (v6 @dj (v6 @bd (v6 @aU @U))))))
  repeat' ((first |(with_reducible refine .guard (fun hb =>?_) (fun hb =>?_) <;>try simp only[hb])|refine J.aL (by decide +kernel) rfl fun K hK =>?_|refine .flat _ (hF) rfl ?_|(refine .aG [0,1,4,5,6,7,12,19,29] hK ?_;clear hK K)|(with_reducible refine .done (hK _ ?_);clear hK K)|refine J.of rfl ?_|(with_reducible refine ak.aK (fun h =>?_) (fun h =>?_) <;>try simp only[h])) <;>try simp only[aM,R,Nat.reduceEqDiff,reduceIte,Nat.reduceBEq])
  all_goals clear R
  rw[eY];exact ⟨bJ 1000000 (xs++q),[.view 1000000 [] 1 0 xs.length],jG rfl (fun p=>fZ p _),⟨⟨_,rfl,.inl ⟨rfl,rfl,rfl⟩⟩,trivial⟩,xs++q,by rw[hk];rfl,rfl,by rw[hk,List.take_left],rfl⟩
 |some i0 =>
  obtain ⟨q1,q2,q3⟩:=zv2.1 hfi;have hi:j7 p xs=(i0:Int):=by simp[j7,hfi]
  rw[hi] at hF;have hstart:xs.take i0=(xs.take (i0+1)).filter fun x => !p x:=by
   rw[zy1 q1,List.filter_append,zx4,q2];simp only[Bool.not_true,zz6,if_false,zv5,zx7]
   symm
   rw[List.filter_eq_self];intro x hx;obtain ⟨j,hj,rfl⟩:=List.mem_take_iff_getElem.1 hx;have:=q3 j (by omega);simpa using this
  have n1:((i0:Int)==-1)=false:=beq_eq_false_iff_ne.2 (by omega);have hwi:=eB (i:=i0) (by omega);have R:=v6 @n1 (v6 @hwi (v6 @hfp (v6 @hfc (v6 @gv (v6 @dj (v6 @bd (v6 @aU @U)))))))
  repeat' ((first |(with_reducible refine .guard (fun hb =>?_) (fun hb =>?_) <;>try simp only[hb])|refine J.aL (by decide +kernel) rfl fun K hK =>?_|refine .flat _ (hF) rfl ?_|(refine .aG [0,1,4,5,6,7,12,19,29] hK ?_;clear hK K)|(with_reducible refine .done (hK _ ?_);clear hK K)|refine J.of rfl ?_|(with_reducible refine ak.aK (fun h =>?_) (fun h =>?_) <;>try simp only[h])) <;>try simp only[aM,R,Nat.reduceEqDiff,reduceIte,Nat.reduceBEq])
  all_goals clear R
  refine J.loop (fun s:List Int×Nat×Nat=>au [(0,.view 1000000 [] 1 0 xs.length),(1,.func f caps),(5,.int .i64 s.2.1),(6,.int .i64 s.2.2)] (bJ 1000000 s.1)) (fun s=>s.1.length=(xs++q).length∧s.2.1<s.2.2∧s.2.2≤xs.length∧s.1.take s.2.1=(xs.take s.2.2).filter (fun x => !p x)∧s.1.drop s.2.2=(xs++q).drop s.2.2) (fun s=>xs.length-s.2.2) (xs++q,i0,i0+1) ⟨rfl,by simp only;omega,by simp only;omega,?_,rfl⟩ ?_ ?_
  ·simp only;rw[zx8 (by omega)];exact hstart
  ·simp only[bJ];refine aC.bI ?_ ?_ ?_ ?_ <;>simp[*,aT,bC,bB,a6,al,aV,cg,I.only,ah.only,dy,fA]
  rintro ⟨ws,i,j⟩ ⟨c1,c2,c3,fK,iD⟩;simp only at c1 c2 c3 fK iD ⊢;simp only[bJ];have hlen:(xs++q).length=xs.length+q.length:=zz3;by_cases hlt:j<xs.length
  ·have hc:=fO hlt;have hwj:=eB (i:=j) (by omega);have hwi2:=eB (i:=i) (by omega);have v1:=gW (n:=xs.length) (i:=j) hlt;have v2:=gW (n:=xs.length) (i:=i) (by omega);have l1:=fD (xs:=ws) (i:=j) (by omega);have l2:=fD (xs:=ws) (i:=i) (by omega);have hwj2:ws.getD j 0=xs[j]:=by
    have h1:(ws.drop j)[0]?=((xs++q).drop j)[0]?:=by rw[iD]
    simp only[List.getElem?_drop,Nat.add_zero] at h1;rw[zz0,h1,zy8 hlt,zz9 hlt];rfl
   rw[hwj2] at l1;have hP:=hf _ (zx3 hlt);have ht:(xs.take (j+1)).filter (fun x => !p x)=(xs.take j).filter (fun x => !p x)++if (!p xs[j]) then [xs[j]] else []:=by
    rw[zy1 hlt,List.filter_append,zx4,zv5]
   have s1:=fun (A:ae) v u rest=>mD (A:=A) (n:=1000000) (xs:=ws) (i:=i) (by omega) v u rest;generalize xs[j]=y at l1 hP ht;rcases hp:p y
   ·rw[hp] at hP ht;simp only[Bool.not_false,if_true] at ht;have R:=v6 @hc (v6 @hwj (v6 @hwi2 (v6 @v1 (v6 @v2 (v6 @l1 (v6 @l2 (v6 @s1 (v6 @hfc (v6 @gv (v6 @dj (v6 @bd (v6 @aU @U))))))))))))
    repeat' ((first |(with_reducible refine .guard (fun hb =>?_) (fun hb =>?_) <;>try simp only[hb])|refine J.aL (by decide +kernel) rfl fun K hK =>?_|refine .flat _ (hP) rfl ?_|(refine .aG [0,1,4,5,6,7,12,19,29] hK ?_;clear hK K)|(with_reducible refine .done (hK _ ?_);clear hK K)|refine J.of rfl ?_|(with_reducible refine ak.aK (fun h =>?_) (fun h =>?_) <;>try simp only[h])) <;>try simp only[aM,R,zy0,Nat.reduceEqDiff,reduceIte,Nat.reduceBEq])
    all_goals clear R
    refine ⟨(ws.set i y,i+1,j+1),⟨by simp[c1],by simp only;omega,by simp only;omega,?_,?_⟩,by simp only;omega,?_⟩
    ·simp only;rw[ht,←fK,zy1 (by simp;omega),List.take_set_of_le (zz7 _)];simp
    ·simp only;rw[List.drop_set_of_lt (by omega)];have:(ws.drop j).drop 1=((xs++q).drop j).drop 1:=by rw[iD]
     simpa[List.drop_drop] using this
    ·simp only[];generalize ws.set i y=us;refine aC.bI ?_ ?_ ?_ ?_ <;>simp[*,aT,bC,bB,a6,al,aV,cg,I.only,ah.only,dy]
   ·rw[hp] at hP ht;simp only[Bool.not_true,zz6,if_false,zx7] at ht;have R:=v6 @hc (v6 @hwj (v6 @v1 (v6 @l1 (v6 @hfc (v6 @gv (v6 @dj (v6 @bd (v6 @aU @U))))))))
    repeat' ((first |(with_reducible refine .guard (fun hb =>?_) (fun hb =>?_) <;>try simp only[hb])|refine J.aL (by decide +kernel) rfl fun K hK =>?_|refine .flat _ (hP) rfl ?_|(refine .aG [0,1,4,5,6,7,12,19,29] hK ?_;clear hK K)|(with_reducible refine .done (hK _ ?_);clear hK K)|refine J.of rfl ?_|(with_reducible refine ak.aK (fun h =>?_) (fun h =>?_) <;>try simp only[h])) <;>try simp only[aM,R,zy0,Nat.reduceEqDiff,reduceIte,Nat.reduceBEq])
    all_goals clear R
    refine ⟨(ws,i,j+1),⟨c1,by simp only;omega,by simp only;omega,?_,?_⟩,by simp only;omega,?_⟩
    ·simp only;rw[ht];exact fK
    ·simp only;have:(ws.drop j).drop 1=((xs++q).drop j).drop 1:=by rw[iD]
     simpa[List.drop_drop] using this
    ·simp only[];refine aC.bI ?_ ?_ ?_ ?_ <;>simp[*,aT,bC,bB,a6,al,aV,cg,I.only,ah.only,dy]
  ·have hj:j=xs.length:=by omega
   subst hj;have hc:=gi hlt;rw[List.take_length] at fK;have hlk:(xs.filter fun x => !p x).length=i:=by rw[←fK,zy7];omega
   have hsl2:=qx (n:=1000000) (p:=[]) (sz:=1) (k:=xs.length) (total:=ws.length) (i:=i) (by omega) (by omega) (by omega);have hsl3:=fun us:List Int=>fun (hu:us.length=ws.length)=>r7 (n:=1000000) (p:=[]) (sz:=1) (k:=xs.length) (total:=us.length) (i:=i) (by omega) (by omega);have hml2:∀ us:List Int,(us.map (enc (α:=Int))).length=us.length:=fun us=>by simp
   have hclr:=fun (A:ae) rest ho=>qX (A:=A) (rest:=rest) (esz:=1) (α:=Int) 0 (n:=1000000) (lo:=i) (k:=xs.length-i) (xs:=ws) ho (by omega);simp only[gT] at hclr;obtain ⟨us,hus⟩:∃ us,us=ws.take i++(List.replicate (xs.length-i) 0++ws.drop (i+(xs.length-i))):=⟨_,rfl⟩
   have hul:us.length=ws.length:=by
    rw[hus];simp only[zz3,zy7,zv4,zy9];omega
   have hut:us.take i=xs.filter fun x => !p x:=by
    rw[hus,zx8 (by rw[zy7];omega),List.take_take,Nat.min_self,fK]
   have hsl3:=hsl3 us hul;simp only[←hus] at hclr;refine J.seq (J.seq ?_);refine .bx (by decide +kernel) fun K hK =>?_;simp only[Gm,U,Nat.reduceEqDiff,reduceIte]
   try simp only[hc,dj,U,Nat.reduceEqDiff,reduceIte]
   refine .done (hK _ ?_);clear hK K;try simp only[ar]
   refine J.bM ?_;simp only[ak,U,Nat.reduceEqDiff,reduceIte];refine ⟨fun h =>?_,fun h =>?_⟩
   ·cases h
   refine J.exit ?_;try simp only[ar,bO,reduceIte]
   refine .ao (by decide +kernel) fun K hK =>?_;simp only[Gk,U,Nat.reduceEqDiff,reduceIte]
   try simp only[hml2,hsl2,zu3,dj,U,Nat.reduceEqDiff,reduceIte]
   rw[hclr _ _ rfl]
   try simp only[U]
   refine .done (hK _ ?_);clear hK K;refine .ao (by decide +kernel) fun K hK =>?_;simp only[Gl,U,Nat.reduceEqDiff,reduceIte]
   try simp only[hml2,hsl3,zu3,dj,U,Nat.reduceEqDiff,reduceIte]
   refine .done (hK _ ?_);clear hK K;refine J.ret ?_;simp only[eY];exact ⟨bJ 1000000 us,[.view 1000000 [] 1 0 i],jG rfl (fun p=>fZ p _),⟨⟨_,rfl,.inl ⟨rfl,rfl,rfl⟩⟩,trivial⟩,us,by rw[hlk];rfl,rfl,by rw[hlk];exact hut,by omega⟩
end Go.Proofs.YtcldiigclhgafaaGreat
namespace Go.Proofs.YtcldiigclhgafaaGreat
open Go Go.Abs Go.Shelf
open Go.Abs.Enc (enc)
def rW:Go.Shelf.Ren:=⟨fun | 4=>190 | n=>n,fun | 22=>29 | 25=>3 | n=>n,fun n=>n⟩
theorem ajC:Go.Proofs.Lays8.n4 Tryz.prog rW := {
 mixed:=by kernel_rfl
 f4:=⟨Tryz.f190.name,by kernel_rfl,Tryz.func190.trans (congrArg some (by kernel_rfl))⟩
 t0:=Tryz.underlying0
 a0:=Tryz.isAgg0
 z0:=Tryz.sizeOf0
 v0:=Tryz.zeroValue0
 t3:=Tryz.underlying3
 a3:=Tryz.isAgg3
 z3:=Tryz.sizeOf3
 v3:=Tryz.zeroValue3
 t4:=Tryz.underlying4
 a4:=Tryz.isAgg4
 z4:=Tryz.sizeOf4
 v4:=Tryz.zeroValue4
 t9:=Tryz.underlying9
 a9:=Tryz.isAgg9
 z9:=Tryz.sizeOf9
 v9:=Tryz.zeroValue9
 t20:=Tryz.underlying20
 a20:=Tryz.isAgg20
 z20:=Tryz.sizeOf20
 v20:=Tryz.zeroValue20
 t22:=Tryz.underlying29
 a22:=Tryz.isAgg29
 z22:=Tryz.sizeOf29
 v22:=Tryz.zeroValue29 }
theorem xH(w:World)(o:Obj):(w.drew.alloc o).heap=w.heap.push o:=rfl
theorem aja:∃ i,Tryz.prog.info? 3=some i∧i.zero=some (.int .i64 0)∧i.size=1∧i.bytes=8:=by
 have h:(Tryz.prog.info? 3).map (fun i=>(i.zero,i.size,i.bytes))=some (some (.int .i64 0),1,8):=by kernel_rfl
 cases h2:Tryz.prog.info? 3 with
 |none=>rw[h2] at h;cases h
 |some i =>
  rw[h2] at h;simp only[zy5,u8,Prod.mk.injEq] at h;exact ⟨i,rfl,h.1,h.2.1,h.2.2⟩
theorem anD(n:Nat):(Builtin.zeroCells (Value.int .i64 0).cells n).toList=(List.replicate n (0:Int)).map (Value.int .i64):=by
 have e:(Value.int .i64 0).cells = #[.int .i64 0]:=rfl;rw[e];refine List.ext_getElem (by simp[Builtin.zeroCells]) fun i h1 h2 =>?_;simp[Builtin.zeroCells,Nat.mod_one]
end Go.Proofs.YtcldiigclhgafaaGreat
namespace Go.Proofs.YtcldiigclhgafaaGreat
open Go Go.Abs Go.Shelf Go.RowKit
open Go.Abs.Enc (enc)
theorem QT(n:Nat)(h0:0<n)(hn:n≤1000):cC Tryz.prog 190 [.nils 1,enc (n:Int)] [] (fun r os'=>∃ k,n≤k∧r=.view 9 [] 1 0 0∧os'=bJ 9 (List.replicate k 0)):=by
 refine ⟨C7,fun w D E vs _ hD hO hv =>?_⟩;have aw:∀ m,E m=none:=fun m=>by
  have:=hO.bS m;simpa only[aj,dc] using this
 simp only[aH] at hv;obtain ⟨v,rest,cs,rfl,hp,hr,v2,rest2,cs2,rfl,hp2,hr2,rfl⟩:=hv;have e1:cs=[.slice none 0 0]:=hr;subst e1;have hv1:v=.slice none 0 0:=by
  have:[Value.slice none 0 0]=[v]:=hp;simpa using this.symm
 subst hv1;have e2:cs2=[.int .i64 n]∧_:=hr2;obtain ⟨e2,-⟩:=e2;subst e2;have hv2:v2=.int .i64 n:=by
  have:[Value.int .i64 (n:Int)]=[v2]:=hp2;simpa using this.symm
 subst hv2;obtain ⟨i0,q1,q2,q3,q4⟩:=aja;refine (Go.Proofs.Any8.slices_Grow_grow ajC i0 (.int .i64 0) q1 q2 (by omega) none 0 0 n [] w (zz7 _) (by omega) (by rw[q4];omega) (by omega) (by simp) (fun _=>rfl) (fun a h=>by cases h)).mono ?_;rintro e w' ⟨rfl,hw'⟩;obtain ⟨K,hK⟩:∃ K,K=grownCap w (0+n) 0 (rW.t 25):=⟨_,rfl⟩
 have hKn:n≤K:=by rw[hK];simpa using grownCap_ge w (0+n) 0 (rW.t 25)
 have hKm:K≤maxLen:=by rw[hK];exact grownCap_le_maxLen w _ _ _ (by simp only[maxLen];omega)
 rw[←hK] at hw' ⊢;obtain ⟨cells,hc⟩:∃ cells,cells=(([]:List Value).toArray++Builtin.zeroCells (Value.int .i64 0).cells (0+n-0)++Builtin.zeroCells (Value.int .i64 0).cells (K-(0+n))):=⟨_,rfl⟩
 rw[←hc] at hw';have hcl:cells.toList=(List.replicate K (0:Int)).map (Value.int .i64):=by
  rw[hc];simp only[Array.toList_append,anD,zy3,zz4,Nat.sub_zero];rw[←zx5,List.replicate_append_replicate,show n+(K-n)=K by omega]
 have hb:w'.heap[w.heap.size]?=some (.cells cells (rW.t 25) (0,0)):=by
  rw[hw',xH];simp
 have hother:∀ k,k<w.heap.size→w'.heap[k]?=w.heap[k]?:=fun k hk=>by
  rw[hw',xH];simp[Array.getElem?_push,Nat.ne_of_lt hk]
 have hsz:w.heap.size<w'.heap.size:=by rw[hw',xH];simp
 have o1:w'.os=w.os:=by rw[hw'];rfl
 have o2:w'.tape=w.tape:=by rw[hw'];rfl
 have o3:w'.output=w.output:=by rw[hw'];rfl
 have hsh:(I.agg ((List.replicate K (0:Int)).map enc)).aQ=.ep (List.replicate K .one):=by rw[qv,zv4]
 refine ⟨_,D,fun m=>if m=9 then some (.aA w.heap.size (I.agg ((List.replicate K (0:Int)).map enc)).aQ) else none,.view 9 [] 1 0 0,bJ 9 (List.replicate K 0),rfl,⟨K,hKn,rfl,rfl⟩,?_,⟨fun m =>?_,fun a b e e' b' ha hb' _ _ =>?_⟩,⟨o1,o2,o3,Nat.le_of_lt hsz,fun k hk =>?_⟩,fun _ _ h=>h,fun b0 o h=>Nat.lt_trans (hD b0 o h) hsz,fun _ _ h _ _=>h,fun m e h _ =>?_,⟨fun b0 o u hd hc0 =>?_,fun b0 es ck hd hc0 =>?_⟩⟩
 ·refine ⟨[.slice (some ⟨w.heap.size,0,none⟩) 0 K],rfl,w.heap.size,_,0,List.replicate K .one,if_pos rfl,?_,?_,?_,by simpa using hKm,by simp,fun s hs =>?_⟩
  ·rw[hsh];rfl
  ·rw[hsh];rfl
  ·simp
  ·rw[List.eq_of_mem_replicate hs];rfl
 ·by_cases hm:m=9
  ·subst hm;simp only[bJ,aj,if_true];refine ⟨w.heap.size,cells,rW.t 25,if_pos rfl,.inl (zz7 _),hb,?_,fun o h=>Nat.lt_irrefl _ (hD _ o h)⟩
   show aI w' D _ _ _
   rw[hcl];exact qq fun y hy=>by
    rw[List.eq_of_mem_replicate hy];simp[IntKind.min,IntKind.max,IntKind.bits,IntKind.signed]
  ·simp only[bJ,aj,if_neg hm,dc]
 ·split at ha
  ·split at hb'
   ·rename_i h1 h2;rw[h1,h2]
   ·cases hb'
  ·cases ha
 ·exact hother k (Nat.lt_of_not_le fun h=>hk (.inl h))
 ·rw[aw m] at h;cases h
 ·simp only[World.cell?,hother b0 (hD b0 o hd)] at hc0 ⊢;exact hc0
 ·rw[hother b0 (hD b0 0 hd)];exact hc0
end Go.Proofs.YtcldiigclhgafaaGreat
namespace Go.Proofs.YtcldiigclhgafaaGreat
open Go Go.Abs
open Go.Abs.Enc (enc)
theorem LN:(∀ A z,vH A (.nils z)=some (.int .i64 ((0:Nat):Int)))∧(∀ A z,jK A (.nils z)=some (.int .i64 0))∧decide ((0:Int)<0)=false∧decide ((((0:Nat):Int))<0)=false∧((0:Nat):Int)=0∧IntKind.i64.wrap ((0:Int)-0)=0∧IntKind.i64.wrap ((0:Int)+0)=0 :=
 ⟨fun _ _=>rfl,fun _ _=>rfl,rfl,rfl,rfl,by decide,by decide⟩
theorem QU:cC Tryz.prog 190 [.nils 1,enc (0:Int)] [] (fun r os'=>r=.nils 1∧os'=[]):=by
 refine cC.bn Tryz.func190 C7 VA XM (t7 rfl) (t7 rfl) (fun m hm=>by simp[al,aj] at hm) (fun hwf W0 D0 E1 =>?_);simp only[B9,NN,bg,zz4];clear hwf;have R:=v6 @LN (v6 @akB (v6 @bd (v6 @aU @U)))
 repeat' ((first |(with_reducible refine .guard (fun hb =>?_) (fun hb =>?_) <;>try simp only[hb])|refine J.aL (by decide +kernel) rfl fun K hK =>?_|(refine .aG [0,1,4,6,16] hK ?_;clear hK K)|(with_reducible refine .done (hK _ ?_);clear hK K)|refine J.of rfl ?_|(with_reducible refine ak.aK (fun h =>?_) (fun h =>?_) <;>try simp only[h])) <;>try simp only[aM,R,Nat.reduceEqDiff,reduceIte,Nat.reduceBEq])
 all_goals clear R
 rw[eY];exact ⟨[],[.nils 1],oM,⟨⟨_,rfl,.inl ⟨rfl,rfl,rfl⟩⟩,trivial⟩,rfl,rfl⟩
theorem RS(A:ae)(d:Option Nat)(e bytes:Nat)(z:I)(rest:List aB):ic A d e 1 bytes z (enc ([]:List Int)) rest (.nils 1)=aE rest (A.aP d (.nils 1)):=by
 show ic A d e 1 bytes z (.slice 1 []) rest (.nils 1)=_
 simp[ic,eI,fw]
theorem ED{xss:List (List Int)}(h:xss.flatten=[]){i:Nat}(hi:i<xss.length):xss[i]=[]:=List.flatten_eq_nil_iff.1 h _ (zx3 hi)
theorem Qt(xss:List (List Int))(hl:xss.length≤60)(h0:xss.flatten=[]):ay Tryz.prog 150 [enc xss] (enc ([]:List Int)):=by
 refine ay.bn Tryz.func150 C3 Df DC (t7 rfl) (fun hwf W0 D0 E1 =>?_);simp only[vx,y0,bg];clear hwf;have R:=v6 @bd (v6 @aU @U)
 repeat' ((first |(with_reducible refine .guard (fun hb =>?_) (fun hb =>?_) <;>try simp only[hb])|refine J.aL (by decide +kernel) rfl fun K hK =>?_|(refine .aG [0,2,3,5,6,8,9,10,11,12,20,25,26,27,28] hK ?_;clear hK K)|(with_reducible refine .done (hK _ ?_);clear hK K)|refine J.of rfl ?_|(with_reducible refine ak.aK (fun h =>?_) (fun h =>?_) <;>try simp only[h])) <;>try simp only[aM,R,Nat.reduceEqDiff,reduceIte,Nat.reduceBEq])
 all_goals clear R
 refine J.loop (fun i:Nat=>au [(0,enc xss),(3,.int .i64 0),(9,enc xss),(10,.int .i64 xss.length),(11,.int .i64 i)] []) (fun i=>i≤xss.length) (fun i=>xss.length-i) 0 (zw7 _) ?_ (fun i hi =>?_)
 ·refine aC.bI ?_ ?_ ?_ ?_ <;>simp[aT,bC,bB,a6,aV,I.only,bh]
 by_cases hlt:i<xss.length
 ·have hc:=fO hlt;have hw:=eB (i:=i) (by omega);have he:=fun A=>ft (A:=A) 1 hlt rfl;rw[ED h0 hlt] at he;have hln:((([]:List Int).length:Nat):Int)=0:=rfl;have R:=v6 @hc (v6 @hw (v6 @he (v6 @LN (v6 @hln (v6 @bd (v6 @aU @U))))))
  repeat' ((first |(with_reducible refine .guard (fun hb =>?_) (fun hb =>?_) <;>try simp only[hb])|refine J.aL (by decide +kernel) rfl fun K hK =>?_|(refine .aG [0,2,3,5,6,8,9,10,11,12,20,25,26,27,28] hK ?_;clear hK K)|(with_reducible refine .done (hK _ ?_);clear hK K)|refine J.of rfl ?_|(with_reducible refine ak.aK (fun h =>?_) (fun h =>?_) <;>try simp only[h])) <;>try simp only[aM,R,Nat.reduceEqDiff,reduceIte,Nat.reduceBEq])
  all_goals clear R
  refine ⟨i+1,by omega,by omega,?_⟩;refine aC.bI ?_ ?_ ?_ ?_ <;>simp[aT,bC,bB,a6,aV,I.only,bh]
 have hc:=gi hlt;have R:=v6 @hc (v6 @bd (v6 @aU @U))
 repeat' ((first |(with_reducible refine .guard (fun hb =>?_) (fun hb =>?_) <;>try simp only[hb])|refine J.aL (by decide +kernel) rfl fun K hK =>?_|(refine .aG [0,2,3,5,6,8,9,10,11,12,20,25,26,27,28] hK ?_;clear hK K)|(with_reducible refine .done (hK _ ?_);clear hK K)|refine J.of rfl ?_|(with_reducible refine ak.aK (fun h =>?_) (fun h =>?_) <;>try simp only[h])) <;>try simp only[aM,R,Nat.reduceEqDiff,reduceIte,Nat.reduceBEq])
 all_goals clear R
 refine .bS false [(9,906)] [] [.nils 1,enc (0:Int)] _ rfl QU fT.nil ⟨.inl ⟨rfl,rfl,rfl⟩,.inl ⟨rfl,rfl,rfl⟩,trivial⟩ ?_ ?_
 ·rintro x os' ⟨rfl,rfl⟩;exact eh.nil (fun _=>rfl) (fun h=>by cases h)
 rintro x os' ⟨rfl,rfl⟩
 try simp only[gK,zy3,U,Nat.reduceEqDiff,reduceIte]
 refine .done (hK _ ?_);clear hK K;have R:=v6 @bd (v6 @aU @U)
 repeat' ((first |(with_reducible refine .guard (fun hb =>?_) (fun hb =>?_) <;>try simp only[hb])|refine J.aL (by decide +kernel) rfl fun K hK =>?_|(refine .aG [0,2,3,5,6,8,9,10,11,12,20,25,26,27,28] hK ?_;clear hK K)|(with_reducible refine .done (hK _ ?_);clear hK K)|refine J.of rfl ?_|(with_reducible refine ak.aK (fun h =>?_) (fun h =>?_) <;>try simp only[h])) <;>try simp only[aM,R,Nat.reduceEqDiff,reduceIte,Nat.reduceBEq])
 all_goals clear R
 refine J.loop (fun i:Nat=>au [(6,.nils 1),(25,enc xss),(26,.int .i64 xss.length),(27,.int .i64 i)] []) (fun i=>i≤xss.length) (fun i=>xss.length-i) 0 (zw7 _) ?_ (fun i hi =>?_)
 ·refine aC.bI ?_ ?_ ?_ ?_ <;>simp[aT,bC,bB,a6,aV,I.only,bh]
 by_cases hlt:i<xss.length
 ·have hc:=fO hlt;have hw:=eB (i:=i) (by omega);have he:=fun A=>ft (A:=A) 1 hlt rfl;rw[ED h0 hlt] at he;have R:=v6 @hc (v6 @hw (v6 @he (v6 @RS (v6 @bd (v6 @aU @U)))))
  repeat' ((first |(with_reducible refine .guard (fun hb =>?_) (fun hb =>?_) <;>try simp only[hb])|refine J.aL (by decide +kernel) rfl fun K hK =>?_|(refine .aG [0,2,3,5,6,8,9,10,11,12,20,25,26,27,28] hK ?_;clear hK K)|(with_reducible refine .done (hK _ ?_);clear hK K)|refine J.of rfl ?_|(with_reducible refine ak.aK (fun h =>?_) (fun h =>?_) <;>try simp only[h])) <;>try simp only[aM,R,Nat.reduceEqDiff,reduceIte,Nat.reduceBEq])
  all_goals clear R
  refine ⟨i+1,by omega,by omega,?_⟩;refine aC.bI ?_ ?_ ?_ ?_ <;>simp[aT,bC,bB,a6,aV,I.only,bh]
 have hc:=gi hlt;have R:=v6 @hc (v6 @bd (v6 @aU @U))
 repeat' ((first |(with_reducible refine .guard (fun hb =>?_) (fun hb =>?_) <;>try simp only[hb])|refine J.aL (by decide +kernel) rfl fun K hK =>?_|(refine .aG [0,2,3,5,6,8,9,10,11,12,20,25,26,27,28] hK ?_;clear hK K)|(with_reducible refine .done (hK _ ?_);clear hK K)|refine J.of rfl ?_|(with_reducible refine ak.aK (fun h =>?_) (fun h =>?_) <;>try simp only[h])) <;>try simp only[aM,R,Nat.reduceEqDiff,reduceIte,Nat.reduceBEq])
 all_goals clear R
 all_goals rfl
theorem yP(p:Nat→Bool)(k:Nat):I.bT p (List.replicate k (.int .i64 0))=true:=by
 have:=dy p (List.replicate k (0:Int))
 rwa [List.map_replicate] at this
theorem RX{A:ae}{d:Option Nat}{e bytes:Nat}(z:I){n:Nat}{fs ys:List Int}{k:Nat}{rest:List aB}(hy:ys≠[])(ho:A.o n=some (.box (.agg ((fs++List.replicate (k-fs.length) 0).map enc))))(hk:(fs++ys).length≤k) :
  ic A d e 1 bytes z (enc ys) rest (.view n [] 1 0 fs.length)=aE rest ((A.aS n (.box (.agg (((fs++ys)++List.replicate (k-(fs++ys).length) 0).map enc)))).aP d (.view n [] 1 0 (fs++ys).length)):=by
 rw[zz3] at hk;have h3:fs.length+ys.length≤(fs++List.replicate (k-fs.length) (0:Int)).length:=by rw[zz3,zv4];omega
 rw[RT (esz:=1) z (show Enc.sz Int=1 from rfl) hy ho h3];have e1:(fs++List.replicate (k-fs.length) (0:Int)).take fs.length=fs:=List.take_left;have e2:(fs++List.replicate (k-fs.length) (0:Int)).drop (fs.length+ys.length)=List.replicate (k-(fs++ys).length) 0:=by
  rw[List.drop_append,List.drop_of_length_le (by omega),zy3,List.drop_replicate,zz3]
  congr 1;omega
 rw[e1,e2,zz3,zz5]
def Dl(fs:List Int):cO:=fun r os'=>∃ k,r=.view 906 [] 1 0 fs.length∧os'=bJ 906 (fs++List.replicate k 0)
theorem Qs(xss:List (List Int))(hl:xss.length≤60)(hn:xss.flatten.length≤200)(h0:xss.flatten≠[]):cC Tryz.prog 150 [enc xss] [] (Dl xss.flatten):=by
 refine cC.bn Tryz.func150 C3 Df DC (t7 rfl) (t7 rfl) (fun m hm=>by simp[al,aj] at hm) (fun hwf W0 D0 E1 =>?_);simp only[vx,y0,bg];clear hwf;have hpre:∀ i,(xss.take i).flatten.length≤xss.flatten.length:=fun i=>by
  have:xss.flatten=(xss.take i).flatten++(xss.drop i).flatten:=by rw[←List.flatten_append,zx0]
  rw[this,zz3];omega
 have hsucc:∀ i (h:i<xss.length),(xss.take (i+1)).flatten=(xss.take i).flatten++xss[i]:=fun i h=>by
  rw[zy1 h,List.flatten_append];simp
 have R:=v6 @bd (v6 @aU @U)
 repeat' ((first |(with_reducible refine .guard (fun hb =>?_) (fun hb =>?_) <;>try simp only[hb])|refine J.aL (by decide +kernel) rfl fun K hK =>?_|(refine .aG [0,2,3,5,6,8,9,10,11,12,20,25,26,27,28] hK ?_;clear hK K)|(with_reducible refine .done (hK _ ?_);clear hK K)|refine J.of rfl ?_|(with_reducible refine ak.aK (fun h =>?_) (fun h =>?_) <;>try simp only[h])) <;>try simp only[aM,R,Nat.reduceEqDiff,reduceIte,Nat.reduceBEq])
 all_goals clear R
 refine J.loop (fun i:Nat=>au [(0,enc xss),(3,.int .i64 (xss.take i).flatten.length),(9,enc xss),(10,.int .i64 xss.length),(11,.int .i64 i)] []) (fun i=>i≤xss.length) (fun i=>xss.length-i) 0 (zw7 _) ?_ (fun i hi =>?_)
 ·simp only[List.take_zero,List.flatten_nil,zu2];refine aC.bI ?_ ?_ ?_ ?_ <;>simp[aT,bC,bB,a6,aV,I.only,bh]
 by_cases hlt:i<xss.length
 ·have hc:=fO hlt;have hw:=eB (i:=i) (by omega);have he:=fun A=>ft (A:=A) 1 hlt rfl;have h1:=hpre (i+1);rw[hsucc i hlt,zz3] at h1;have hs:=hsucc i hlt;generalize xss[i]=y at he h1 hs;generalize (xss.take i).flatten=fs at h1 hs;have hadd:IntKind.i64.wrap ((fs.length:Int)+(y.length:Int))=(((fs++y).length:Nat):Int):=by
   rw[cF _ (by omega) (by omega),zz3];omega
  have hneg:decide ((((fs++y).length:Nat):Int)<0)=false:=by simp;omega
  have R:=v6 @hc (v6 @hw (v6 @he (v6 @hadd (v6 @hneg (v6 @bd (v6 @aU @U))))))
  repeat' ((first |(with_reducible refine .guard (fun hb =>?_) (fun hb =>?_) <;>try simp only[hb])|refine J.aL (by decide +kernel) rfl fun K hK =>?_|(refine .aG [0,2,3,5,6,8,9,10,11,12,20,25,26,27,28] hK ?_;clear hK K)|(with_reducible refine .done (hK _ ?_);clear hK K)|refine J.of rfl ?_|(with_reducible refine ak.aK (fun h =>?_) (fun h =>?_) <;>try simp only[h])) <;>try simp only[aM,R,Nat.reduceEqDiff,reduceIte,Nat.reduceBEq])
  all_goals clear R
  refine ⟨i+1,by omega,by omega,?_⟩;rw[hs];refine aC.bI ?_ ?_ ?_ ?_ <;>simp[aT,bC,bB,a6,aV,I.only,bh]
 have hc:=gi hlt;have hge:i=xss.length:=by omega
 subst hge;rw[List.take_length];have hpos:0<xss.flatten.length:=List.length_pos_iff.2 h0;have R:=v6 @hc (v6 @bd (v6 @aU @U))
 repeat' ((first |(with_reducible refine .guard (fun hb =>?_) (fun hb =>?_) <;>try simp only[hb])|refine J.aL (by decide +kernel) rfl fun K hK =>?_|(refine .aG [0,2,3,5,6,8,9,10,11,12,20,25,26,27,28] hK ?_;clear hK K)|(with_reducible refine .done (hK _ ?_);clear hK K)|refine J.of rfl ?_|(with_reducible refine ak.aK (fun h =>?_) (fun h =>?_) <;>try simp only[h])) <;>try simp only[aM,R,Nat.reduceEqDiff,reduceIte,Nat.reduceBEq])
 all_goals clear R
 refine .bS false [(9,906)] [] [.nils 1,enc ((xss.flatten.length:Nat):Int)] _ rfl (QT xss.flatten.length hpos (by omega)) fT.nil ⟨.inl ⟨rfl,rfl,rfl⟩,.inl ⟨rfl,rfl,rfl⟩,trivial⟩ ?_ ?_
 ·rintro x os' ⟨k,_,rfl,rfl⟩;exact eh.qe (fun p=>fZ p _) (fun h=>by cases h) rfl (fun h=>by cases h) rfl (by decide)
 rintro x os' ⟨k,hk,rfl,rfl⟩
 try simp only[bJ,gK,fB,zy0,zy3,reduceIte,U,Nat.reduceEqDiff,reduceIte]
 refine .done (hK _ ?_);clear hK K;have R:=v6 @bd (v6 @aU @U)
 repeat' ((first |(with_reducible refine .guard (fun hb =>?_) (fun hb =>?_) <;>try simp only[hb])|refine J.aL (by decide +kernel) rfl fun K hK =>?_|(refine .aG [0,2,3,5,6,8,9,10,11,12,20,25,26,27,28] hK ?_;clear hK K)|(with_reducible refine .done (hK _ ?_);clear hK K)|refine J.of rfl ?_|(with_reducible refine ak.aK (fun h =>?_) (fun h =>?_) <;>try simp only[h])) <;>try simp only[aM,R,Nat.reduceEqDiff,reduceIte,Nat.reduceBEq])
 all_goals clear R
 refine J.loop (fun i:Nat=>au [(6,.view 906 [] 1 0 (xss.take i).flatten.length),(25,enc xss),(26,.int .i64 xss.length),(27,.int .i64 i)] (bJ 906 ((xss.take i).flatten++List.replicate (k-(xss.take i).flatten.length) 0))) (fun i=>i≤xss.length) (fun i=>xss.length-i) 0 (zw7 _) ?_ (fun i hi =>?_)
 ·simp only[List.take_zero,List.flatten_nil,zu2,zy3,Nat.sub_zero,bJ];refine aC.bI ?_ ?_ ?_ ?_ <;>simp[*,aT,bC,bB,a6,al,aV,cg,I.only,ah.only,bh,gT,yP]
 by_cases hlt:i<xss.length
 ·have hc:=fO hlt;have hw:=eB (i:=i) (by omega);have he:=fun A=>ft (A:=A) 1 hlt rfl;have h1:=hpre (i+1);have hs:=hsucc i hlt;rw[hs] at h1;generalize xss[i]=y at he h1 hs;generalize (xss.take i).flatten=fs at h1 hs;simp only[bJ];have R:=v6 @hc (v6 @hw (v6 @he (v6 @bd (v6 @aU @U))))
  repeat' ((first |(with_reducible refine .guard (fun hb =>?_) (fun hb =>?_) <;>try simp only[hb])|refine J.aL (by decide +kernel) rfl fun K hK =>?_|(refine .aG [0,2,3,5,6,8,9,10,11,12,20,25,26,27,28] hK ?_;clear hK K)|(with_reducible refine .done (hK _ ?_);clear hK K)|refine J.of rfl ?_|(with_reducible refine ak.aK (fun h =>?_) (fun h =>?_) <;>try simp only[h])) <;>try simp only[aM,R,Nat.reduceEqDiff,reduceIte,Nat.reduceBEq])
  all_goals clear R
  by_cases hy:y=[]
  ·subst hy;have happ:=fun (A:ae) d e bytes (rest:List aB) ho=>AN (A:=A) (d:=d) (e:=e) (bytes:=bytes) (rest:=rest) (esz:=1) (n:=906) (l:=fs.length) (xs:=fs++List.replicate (k-fs.length) 0) (.int .i64 0) (enc ([]:List Int)) rfl ho (by simp);rw[happ _ _ _ _ _ rfl]
   try simp only[U,Nat.reduceEqDiff,reduceIte]
   have R:=v6 @hw (v6 @bd (v6 @aU @U))
   repeat' ((first |(with_reducible refine .guard (fun hb =>?_) (fun hb =>?_) <;>try simp only[hb])|refine J.aL (by decide +kernel) rfl fun K hK =>?_|(refine .aG [0,2,3,5,6,8,9,10,11,12,20,25,26,27,28] hK ?_;clear hK K)|(with_reducible refine .done (hK _ ?_);clear hK K)|refine J.of rfl ?_|(with_reducible refine ak.aK (fun h =>?_) (fun h =>?_) <;>try simp only[h])) <;>try simp only[aM,R,Nat.reduceEqDiff,reduceIte,Nat.reduceBEq])
   all_goals clear R
   refine ⟨i+1,by omega,by omega,?_⟩;simp only[hs,zx7];refine aC.bI ?_ ?_ ?_ ?_ <;>simp[*,aT,bC,bB,a6,al,aV,cg,I.only,ah.only,dy,fA,bh,gT,yP]
  ·have happ:=fun (A:ae) d e bytes (rest:List aB) ho=>RX (A:=A) (d:=d) (e:=e) (bytes:=bytes) (rest:=rest) (n:=906) (fs:=fs) (ys:=y) (k:=k) (.int .i64 0) hy ho (by omega);rw[happ _ _ _ _ _ rfl]
   try simp only[U,Nat.reduceEqDiff,reduceIte]
   have R:=v6 @hw (v6 @bd (v6 @aU @U))
   repeat' ((first |(with_reducible refine .guard (fun hb =>?_) (fun hb =>?_) <;>try simp only[hb])|refine J.aL (by decide +kernel) rfl fun K hK =>?_|(refine .aG [0,2,3,5,6,8,9,10,11,12,20,25,26,27,28] hK ?_;clear hK K)|(with_reducible refine .done (hK _ ?_);clear hK K)|refine J.of rfl ?_|(with_reducible refine ak.aK (fun h =>?_) (fun h =>?_) <;>try simp only[h])) <;>try simp only[aM,R,Nat.reduceEqDiff,reduceIte,Nat.reduceBEq])
   all_goals clear R
   refine ⟨i+1,by omega,by omega,?_⟩;simp only[hs];refine aC.bI ?_ ?_ ?_ ?_ <;>simp[*,aT,bC,bB,a6,al,aV,cg,I.only,ah.only,dy,fA,bh,gT,yP]
 have hc:=gi hlt;have hge:i=xss.length:=by omega
 subst hge;rw[List.take_length];simp only[bJ];have R:=v6 @hc (v6 @bd (v6 @aU @U))
 repeat' ((first |(with_reducible refine .guard (fun hb =>?_) (fun hb =>?_) <;>try simp only[hb])|refine J.aL (by decide +kernel) rfl fun K hK =>?_|(refine .aG [0,2,3,5,6,8,9,10,11,12,20,25,26,27,28] hK ?_;clear hK K)|(with_reducible refine .done (hK _ ?_);clear hK K)|refine J.of rfl ?_|(with_reducible refine ak.aK (fun h =>?_) (fun h =>?_) <;>try simp only[h])) <;>try simp only[aM,R,Nat.reduceEqDiff,reduceIte,Nat.reduceBEq])
 all_goals clear R
 rw[eY];exact ⟨bJ 906 (xss.flatten++List.replicate (k-xss.flatten.length) 0),[.view 906 [] 1 0 xss.flatten.length],jG rfl (fun p=>fZ p _),⟨⟨_,rfl,.inl ⟨rfl,rfl,rfl⟩⟩,trivial⟩,_,rfl,rfl⟩
theorem Qr(b:aD):ay Tryz.prog 149 [.ref (enc (⟨b⟩:eJ))] (enc true):=by
 refine ay.bn Tryz.func149 Td U9 Xl (t7 rfl) (fun hwf W0 D0 E1 =>?_);simp only[BG,Nj,bg];clear hwf;have R:=v6 @eG (v6 @aU @U)
 repeat' ((first |(with_reducible refine .guard (fun hb =>?_) (fun hb =>?_) <;>try simp only[hb])|refine J.aL (by decide +kernel) rfl fun K hK =>?_|(refine .aG [2] hK ?_;clear hK K)|(with_reducible refine .done (hK _ ?_);clear hK K)|refine J.of rfl ?_|(with_reducible refine ak.aK (fun h =>?_) (fun h =>?_) <;>try simp only[h])) <;>try simp only[aM,R,reduceIte,Nat.reduceBEq])
 all_goals clear R
theorem Av(l:List aD)(h:l.length≤60):ay Tryz.prog 72 [eU l,.func 149 []] (enc (c4 (l.map (·.no)))):=by
 have:=sx l h 149 [] rfl (fun _=>true) (fun b _=>Qr b)
 rwa [List.filter_eq_self.2 (fun _ _=>rfl)] at this
theorem Qw(m:bU)(no:Int)(a b:List aD):ay Tryz.prog 152 [enc no,.ref (enc m),.ref (eU a),.ref (eU b)] (enc (jb m (cw a no) (cw b no))):=by
 have hF:=Aw m (cw a no) (cw b no);have hx:∀ bs,gA (.i .i64) .nilp (.int .i64 no) (dx bs) (bs.map fun b=>.ref (enc (⟨b⟩:eJ)))=some (iH (cw bs no),(cw bs no).isSome):=fun bs=>by
  rw[p7];cases cw bs no <;>rfl
 have hol:(∀ aA A x,bl aA A (iH x)=some (iH x)):=fun aA A x=>by cases x <;>simp[iH,bl,dG]
 refine ay.bn Tryz.func152 Te Va Xm (t7 rfl) (fun hwf W0 D0 E1 =>?_);simp only[BH,Nk,bg,zz4,Nat.reduceAdd];clear hwf;have R:=v6 @hx (v6 @hol (v6 @eO dE))
 repeat' ((first |(with_reducible refine .guard (fun hb =>?_) (fun hb =>?_) <;>try simp only[hb])|refine J.aL (by decide +kernel) rfl fun K hK =>?_|refine .lead _ (hF) ?_|(refine .aG [0,1,2,3,5] hK ?_;clear hK K)|(with_reducible refine .done (hK _ ?_);clear hK K)|refine J.of rfl ?_|(with_reducible refine ak.aK (fun h =>?_) (fun h =>?_) <;>try simp only[h])) <;>try simp only[aM,R,Nat.reduceEqDiff,reduceIte,Nat.reduceBEq])
 all_goals clear R
theorem Qv(f:FuncId)(caps:List I)(hcaps:I.eS caps=true):ay Tryz.prog 151 [enc ([]:List Int),.func f caps] (enc ([]:List Int)):=by
 have hF:=u6 ([]:List Int) f caps hcaps (fun _=>true) (fun x h=>by cases h);have hi:j7 (fun _=>true) []=-1:=rfl;rw[hi] at hF;have hfc:∀ aA A,ca aA A caps=some caps:=fun aA A=>j5 aA A caps hcaps;have q1:((-1:Int)==-1)=true:=rfl;refine ay.bn Tryz.func151 C4 Dg DE (t7 rfl) (fun hwf W0 D0 E1 =>?_);simp only[vy,y5,bg,zz4];clear hwf;have R:=v6 @q1 (v6 @hfc (v6 @gv (v6 @bd (v6 @aU @U))))
 repeat' ((first |(with_reducible refine .guard (fun hb =>?_) (fun hb =>?_) <;>try simp only[hb])|refine J.aL (by decide +kernel) rfl fun K hK =>?_|refine .flat _ (hF) rfl ?_|(refine .aG [0,1,4,5,6,7,12,19,29] hK ?_;clear hK K)|(with_reducible refine .done (hK _ ?_);clear hK K)|refine J.of rfl ?_|(with_reducible refine ak.aK (fun h =>?_) (fun h =>?_) <;>try simp only[h])) <;>try simp only[aM,R,Nat.reduceEqDiff,reduceIte,Nat.reduceBEq])
 all_goals clear R
theorem Qb(m:bU)(a b:List aD)(ha:a.length≤60)(hb:b.length≤60):ay Tryz.prog 109 [enc m,eU a,eU b] (enc (mR m a b)):=by
 have hd:I.eS [.ref (enc m),.ref (eU a),.ref (eU b)]=true:=by simp only[I.eS,I.done,dG,nQ,zw5]
 have h1:=Av a ha;have h2:=Av b hb;have hal:(c4 (a.map (·.no))).length≤60:=by rw[(mC _).length_eq,zy2];exact ha
 have hbl:(c4 (b.map (·.no))).length≤60:=by rw[(mC _).length_eq,zy2];exact hb
 have hdf:mR m a b=(lz (c4 (a.map (·.no))++c4 (b.map (·.no)))).filter fun no => !jb m (cw a no) (cw b no):=by
  simp only[mR]
  congr 1
  refine amL fun y =>?_;rw[zy4,zy4,(mC _).mem_iff,(mC _).mem_iff]
 rw[hdf,←Dz];generalize c4 (a.map (·.no))=av at h1 hal;generalize c4 (b.map (·.no))=bs at h2 hbl;have hbe:iC 1 (some [enc av,enc bs])=some (enc [av,bs]):=mM (ys:=[av,bs]) 1 rfl;have hfl:[av,bs].flatten=av++bs:=by simp
 refine ay.bn Tryz.func109 SK UF WQ (t7 rfl) (fun hwf W0 D0 E1 =>?_);simp only[Bc,MO,bg,zz4,Nat.reduceAdd];clear hwf;refine .ao (by decide +kernel) fun K hK =>?_;simp only[Fb,U,Nat.reduceEqDiff,reduceIte]
 try simp only[dE,U,Nat.reduceEqDiff,reduceIte]
 refine .done (hK _ ?_);clear hK K;refine .ao (by decide +kernel) fun K hK =>?_;simp only[Fc,U]
 try simp only[eO,zy0,dE,U,Nat.reduceEqDiff,reduceIte,Int.reduceBNe,Int.reduceBEq]
 refine .done (hK _ ?_);clear hK K;refine J.seq (J.rV (gs:=wz) [] [] [0,1,3,4,2,5,6,7,8] (by decide +kernel) (fc.of (by simp[oQ])) fun K hK =>?_)
 try simp only[oZ,wz,List.getD_cons_zero,List.getD_cons_succ,dE,U,Nat.reduceEqDiff,reduceIte]
 refine .lead _ h1 ?_
 try simp only[dE,U,Nat.reduceEqDiff,reduceIte]
 refine .lead _ h2 ?_
 try simp only[hbe,dE,U,Nat.reduceEqDiff,reduceIte]
 by_cases hne:av++bs=[]
 ·refine .lead _ (Qt [av,bs] (by simp) (by rw[hfl,hne])) ?_
  try simp only[U,Nat.reduceEqDiff,reduceIte]
  refine .done (hK _ ?_);clear hK K;rw[hne];have hs0:(dg (c4 ([]:List Int)) (c4 ([]:List Int)).length).filter (fun no => !jb m (cw a no) (cw b no))=[]:=by rw[Dz];rfl
  rw[hs0];have hall:([I.ptr 3 [],I.ptr 4 [],I.ptr 5 []].all fun y=>y.cm)=true:=rfl;have R:=v6 @eO (v6 @hall dE)
  repeat' ((first |(with_reducible refine .guard (fun hb =>?_) (fun hb =>?_) <;>try simp only[hb])|refine J.aL (by decide +kernel) rfl fun K hK =>?_|refine .lead _ ((zY _ (.inr rfl))) ?_|refine .lead _ (Qa) ?_|(refine .aG [0,1,2,3,4,5,6,7,8] hK ?_;clear hK K)|(with_reducible refine .done (hK _ ?_);clear hK K)|refine J.of rfl ?_|(with_reducible refine ak.aK (fun h =>?_) (fun h =>?_) <;>try simp only[h])) <;>try simp only[aM,R,Nat.reduceEqDiff,reduceIte,Nat.reduceBEq])
  all_goals clear R
  refine .iE [3,4,5] (enc ([]:List Int)) rfl (Qv 152 [.ref (enc m),.ref (eU a),.ref (eU b)] hd) ?_ ?_ ?_
  ·try simp only[iU,zx4,zv5,List.contains_cons,Nat.reduceBEq,Bool.or_true,Bool.true_or,BEq.rfl,dG,dE,U,Nat.reduceEqDiff,reduceIte]
  ·simp[cW,a6]
  ·try simp only[gU,cW,zx4,zv5,List.contains_cons,Nat.reduceBEq,Bool.or_true,Bool.true_or,BEq.rfl,zz8,zx1,dE,U,Nat.reduceEqDiff,reduceIte]
   have R:=v6 @eO dE
   repeat' ((first |(with_reducible refine .guard (fun hb =>?_) (fun hb =>?_) <;>try simp only[hb])|refine J.aL (by decide +kernel) rfl fun K hK =>?_|(refine .aG [0,1,2,3,4,5,6,7,8] hK ?_;clear hK K)|(with_reducible refine .done (hK _ ?_);clear hK K)|refine J.of rfl ?_|(with_reducible refine ak.aK (fun h =>?_) (fun h =>?_) <;>try simp only[h])) <;>try simp only[aM,R,Nat.reduceEqDiff,reduceIte,Nat.reduceBEq])
   all_goals clear R
 have hC:=Qs [av,bs] (by simp) (by rw[hfl,zz3];omega) (by rw[hfl];exact hne);rw[hfl] at hC;refine .bS [(906,906)] [enc [av,bs]] (Dl (av++bs)) hC fT.nil ⟨.inl ⟨(j4 _ _).symm,bh _ _,dN _⟩,trivial⟩ ?_ ?_
 ·rintro x os' ⟨k,rfl,rfl⟩;exact eh.qe (fun p=>fZ p _) (fun h=>by cases h) rfl (fun h=>by cases h) rfl (by decide)
 rintro x os' ⟨k,rfl,rfl⟩;have hxl:(av++bs).length≤120:=by rw[zz3];omega
 have hxp:0<(av++bs).length:=List.length_pos_iff.2 hne
 try simp only[bJ,gK,fB,zy0,zy3,U,Nat.reduceEqDiff,reduceIte]
 refine .done (hK _ ?_);clear hK K;generalize av++bs=xs at hxl hxp ⊢;refine .ao (by decide +kernel) fun K hK =>?_;simp only[Fe,U,Nat.reduceEqDiff,reduceIte]
 try simp only[U,Nat.reduceEqDiff,reduceIte,Int.reduceBNe,Int.reduceBEq]
 refine .bS false [(1000000,906)] (bJ 1000000 (xs++List.replicate k 0)) [.view 1000000 [] 1 0 xs.length] _ rfl (uZ xs _ (by omega)) ?_ ?_ ?_ ?_
 ·refine ⟨fun m y hy =>?_,fun m m' h h' _=>by rw[cE.1 h,cE.1 h']⟩;simp only[bJ,aj] at hy;split at hy
  ·rename_i hm;cases hy;subst hm;exact ⟨by simp only[bA,if_true,aj,ah.aN,I.aN,fB],fZ _ _,rfl⟩
  ·cases hy
 ·exact ⟨.inl ⟨by simp[I.aN,bA],cE.2 rfl,rfl⟩,trivial⟩
 ·rintro eH os2 ⟨rfl,rfl⟩;refine ⟨fun m y hy =>?_,fun m m' h h' _=>by rw[cE.1 h,cE.1 h'],fun m hm=>by rw[cE.1 hm];exact cE.2 rfl,fun m a b=>by rw[cE.1 a] at b;simp[bJ,al,aj] at b,rfl,fun _=>rfl⟩;simp only[bJ,aj] at hy;split at hy
  ·cases hy;exact ⟨fZ _ _,rfl,fun h=>by cases h⟩
  ·cases hy
 rintro eH os2 ⟨rfl,rfl⟩
 try simp only[bJ,dI,zz8,zx1,ah.aN,I.aN,fB,bA,reduceIte,zy0,zy3,I.cQ,U,reduceIte]
 refine .done (hK _ ?_);clear hK K;have hsl:(c4 xs).length=xs.length:=(mC xs).length_eq;rw[←hsl] at hxl hxp ⊢;generalize c4 xs=ys at hxl hxp ⊢;have hLl:=Dw ys ys.length;obtain ⟨az,hL⟩:∃ az,az=dg ys ys.length:=⟨_,rfl⟩
 rw[←hL] at hLl ⊢;refine .ao (by decide +kernel) fun K hK =>?_;simp only[Ff,U,Nat.reduceEqDiff,reduceIte]
 try simp only[U,Nat.reduceEqDiff,reduceIte,Int.reduceBNe,Int.reduceBEq]
 refine .bS false [(1000000,906)] (bJ 1000000 (ys++List.replicate k 0)) [.view 1000000 [] 1 0 ys.length] _ rfl (P9 ys _ (by omega)) ?_ ?_ ?_ ?_
 ·refine ⟨fun m y hy =>?_,fun m m' h h' _=>by rw[cE.1 h,cE.1 h']⟩;simp only[bJ,aj] at hy;split at hy
  ·rename_i hm;cases hy;subst hm;exact ⟨by simp only[bA,if_true,aj,ah.aN,I.aN,fB],fZ _ _,rfl⟩
  ·cases hy
 ·exact ⟨.inl ⟨by simp[I.aN,bA],cE.2 rfl,rfl⟩,trivial⟩
 ·rintro eH os2 ⟨ws,rfl,rfl,w1,w2⟩;exact eh.mg (fun p=>fZ p _) (fun h=>by cases h) rfl (fun h=>by cases h)
 rintro eH os2 ⟨ws,rfl,rfl,w1,w2⟩;rw[←hL] at w1 ⊢;obtain ⟨q,rfl⟩:∃ q,ws=az++q:=⟨ws.drop az.length,by conv=>lhs;rw[←zx0 az.length ws,w1]⟩
 clear w1;have hp:0<(az++q).length:=by rw[w2,zz3];omega
 try simp only[bJ,dI,zz8,zx1,ah.aN,I.aN,fB,bA,reduceIte,zy0,zy3,I.cm,List.all_cons,List.all_nil,zw5,U,Nat.reduceEqDiff,reduceIte]
 refine .bS true [(1000000,906)] (bJ 1000000 (az++q)) [.view 1000000 [] 1 0 az.length,.func 152 [.ref (enc m),.ref (eU a),.ref (eU b)]] (DR az (fun no=>jb m (cw a no) (cw b no)) (az++q).length) rfl
  (Qu az q (by omega) hp 152 [.ref (enc m),.ref (eU a),.ref (eU b)] hd (fun no=>jb m (cw a no) (cw b no)) (fun x _=>Qw m x a b)) ⟨?_,?_⟩ ⟨.inl ⟨?_,?_,rfl⟩,.inr ?_,trivial⟩ ?_ ?_
 ·intro n x h;simp only[bJ,aj] at h;split at h
  ·rename_i hn';subst hn';simp only[u8] at h;subst h;exact ⟨by simp only[gK,fB,U,Nat.reduceEqDiff,reduceIte],fZ _ _,rfl⟩
  ·cases h
 ·intro a b ha hb _;rw[cE.1 ha,cE.1 hb]
 ·try simp only[gK,reduceIte]
 ·exact cE.2 rfl
 ·try simp only[jM,bJ,bA,cW,zx4,zv5,zz8,zx1,List.contains_cons,List.contains_nil,Nat.reduceBEq,Bool.or_false,BEq.rfl,dG,dE,U,Nat.reduceEqDiff,reduceIte]
 ·rintro x os' ⟨us,rfl,rfl,u1,u2⟩;exact eh.one (fun p=>fZ p _) (fun _=>by simp only[I.c6];exact tB us) (cE.2 rfl) (fun _=>rfl)
 ·rintro x os' ⟨us,rfl,rfl,u1,u2⟩
  try simp only[bJ,gK,fB,zy0,zy3,U,Nat.reduceEqDiff,reduceIte]
  refine .done (hK _ ?_);clear hK K;refine J.ret ?_;simp only[U,Nat.reduceEqDiff,reduceIte]
  try simp only[rl (α:=Int) (sz:=1) rfl,u1,U]
  all_goals rfl
theorem Rc(m:bU)(l:List aq)(a:Item)(known:Int):ay Tryz.prog 48 [enc m,enc l,enc a,enc known] (.tuple [enc (kC m l a known).1,enc (kC m l a known).2]):=by
 have hM:=sv m;have hC:=ot l [] [known];refine ay.bn Tryz.func48 T8 V3 Yf (t7 rfl) (fun hwf W0 D0 E1 =>?_);simp only[CB,Of,bg,zz4,Nat.reduceAdd];clear hwf;rcases hm:eg m
 ·have hs:kC m l a known=([],13):=by simp[kC,hm]
  rw[hs];rw[hm,if_neg (by decide)] at hM;have R:=v6 @eO dE
  repeat' ((first |(with_reducible refine .guard (fun hb =>?_) (fun hb =>?_) <;>try simp only[hb])|refine J.aL (by decide +kernel) rfl fun K hK =>?_|refine .flat _ (hM) rfl ?_|(refine .aG [0,1,2,3,4,6,8,9,10,11,12,13,17,24,33] hK ?_;clear hK K)|(with_reducible refine .done (hK _ ?_);clear hK K)|refine J.of rfl ?_|(with_reducible refine ak.aK (fun h =>?_) (fun h =>?_) <;>try simp only[h])) <;>try simp only[aM,R,simprocAttr])
  all_goals clear R
  all_goals rfl
 rw[hm,if_pos rfl] at hM;generalize hc:eK l [] [known]=e at hC;by_cases he:e=0
 case neg =>
  have hs:kC m l a known=([],e):=by simp[kC,hm,hc,he]
  rw[hs];have hn:=n8 he;have R:=v6 @hn (v6 @he (v6 @mN (v6 @eO dE)))
  repeat' ((first |(with_reducible refine .guard (fun hb =>?_) (fun hb =>?_) <;>try simp only[hb])|refine J.aL (by decide +kernel) rfl fun K hK =>?_|refine .flat _ (hM) rfl ?_|refine .flat _ (hC) rfl ?_|(refine .aG [0,1,2,3,4,6,8,9,10,11,12,13,17,24,33] hK ?_;clear hK K)|(with_reducible refine .done (hK _ ?_);clear hK K)|refine J.of rfl ?_|(with_reducible refine ak.aK (fun h =>?_) (fun h =>?_) <;>try simp only[h])) <;>try simp only[aM,R,simprocAttr])
  all_goals clear R
  all_goals rfl
 have hn:=nZ he;subst he;have hok:=mP hc;have hll:=n9 hok;have hG:=zX l a (rM hok) (by omega);have hh:=xG (rM hok) a;rcases q2:l6 l a
 ·have hs:kC m l a known=([],3):=by simp[kC,hm,hc,q2]
  rw[hs];rw[q2] at hG;have R:=v6 @hn (v6 @mN (v6 @eO dE))
  repeat' ((first |(with_reducible refine .guard (fun hb =>?_) (fun hb =>?_) <;>try simp only[hb])|refine J.aL (by decide +kernel) rfl fun K hK =>?_|refine .flat _ (hM) rfl ?_|refine .flat _ (hC) rfl ?_|refine .lead _ (hG) ?_|(refine .aG [0,1,2,3,4,6,8,9,10,11,12,13,17,24,33] hK ?_;clear hK K)|(with_reducible refine .done (hK _ ?_);clear hK K)|refine J.of rfl ?_|(with_reducible refine ak.aK (fun h =>?_) (fun h =>?_) <;>try simp only[h])) <;>try simp only[aM,R,simprocAttr])
  all_goals clear R
  all_goals rfl
 ·have hs:kC m l a known=(mR m (cu l 100000 known) (cu (da l (gC l a)) 100000 known),0):=by simp[kC,hm,hc,q2]
  rw[hs];rw[q2] at hG hh;have hp:gC l a<l.length:=by
   by_cases h:gC l a<l.length
   ·exact h
   ·simp[h] at hh
  have hD:=vc l (gC l a) hp hll;have hokd:=ua hok (gC l a);have hF:=ou l known hok;have hF2:=ou (da l (gC l a)) known hokd;have hX:=Qb m (cu l 100000 known) (cu (da l (gC l a)) 100000 known) (nM hok _ _).2.1 (nM hokd _ _).2.1;have R:=v6 @hn (v6 @mN (v6 @eO dE))
  repeat' ((first |(with_reducible refine .guard (fun hb =>?_) (fun hb =>?_) <;>try simp only[hb])|refine J.aL (by decide +kernel) rfl fun K hK =>?_|refine .flat _ (hM) rfl ?_|refine .flat _ (hC) rfl ?_|refine .lead _ (hG) ?_|refine .lead _ (hF) ?_|refine .lead _ (hD) ?_|refine .lead _ (hF2) ?_|refine .lead _ (hX) ?_|(refine .aG [0,1,2,3,4,6,8,9,10,11,12,13,17,24,33] hK ?_;clear hK K)|(with_reducible refine .done (hK _ ?_);clear hK K)|refine J.of rfl ?_|(with_reducible refine ak.aK (fun h =>?_) (fun h =>?_) <;>try simp only[h])) <;>try simp only[aM,R,simprocAttr])
  all_goals clear R
theorem ZE(x:aq)(l:List aq):da (x::l) 0=l:=rfl
theorem DN(x:aq)(l:List aq)(i:Nat):da (x::l) (i+1)=x::da l i:=rfl
theorem PB(known:Int):∀ (l:List aq) (i:Nat),i<l.length→(ab l i).kind≠0→(gM known (da l i)).2=(gM known l).2∧(gM known (da l i)).1=(gM known l).1.eraseIdx i
 | [],i,h,_=>by simp at h
 |x::l,0,_,hk=>by
  have hk':x.kind≠0:=hk;rw[ZE];simp only[gM,decide_eq_false hk',Bool.and_false,zz6,if_false,List.eraseIdx_cons_zero];exact ⟨trivial,trivial⟩
 |x::l,i+1,h,hk=>by
  obtain ⟨h1,h2⟩:=PB known l i (by simpa using h) hk;rw[DN];simp only[gM,h1,h2,List.eraseIdx_cons_succ];exact ⟨trivial,trivial⟩
def mS(l:List aq)(ss:List Bool)(day:Int):List aq:=((l.zip ss).filter fun p=>p.2&&(decide (p.1.kind≠0)&&decide (p.1.day≤day))).map (·.1)
def e9(x:aq)(o:List aq):List aq:=(o.takeWhile fun a=>decide (a.day≤x.day))++x::o.dropWhile fun a=>decide (a.day≤x.day)
def qy(l:List aq):List aq:=l.foldl (fun o x=>e9 x o) []
theorem ajc(l:List aq)(i:Nat)(o:List Nat):(jn (fun i=>(ab l i).day) i o).map (ab l)=e9 (ab l i) (o.map (ab l)):=by
 simp only[jn,e9,zx5,zz8,List.takeWhile_map,List.dropWhile_map];rfl
theorem alD(l:List aq)(o:List Nat):(Ms (fun i=>(ab l i).day) o).map (ab l)=qy (o.map (ab l)):=by
 have:∀ (o a:List Nat),(o.foldl (fun o i=>jn (fun i=>(ab l i).day) i o) a).map (ab l)=(o.map (ab l)).foldl (fun o x=>e9 x o) (a.map (ab l)):=by
  intro o
  induction o with
  |nil=>intro a;rfl
  |cons i o ih=>intro a;rw[List.foldl_cons,ih,ajc];rfl
 exact this o []
theorem KU(x:aq):∀ o:List aq,o.Pairwise (fun a b=>a.day≤b.day)→(e9 x o).Pairwise (fun a b=>a.day≤b.day)
 | [],_=>by simp[e9]
 |a::o,h=>by
  obtain ⟨h1,h2⟩:=zw3.1 h;by_cases ha:a.day≤x.day
  ·have e:e9 x (a::o)=a::e9 x o:=by simp[e9,ha]
   rw[e];refine zw3.2 ⟨fun b hb =>?_,KU x o h2⟩;have hb2:b∈(o.takeWhile fun a=>decide (a.day≤x.day))++x::o.dropWhile fun a=>decide (a.day≤x.day):=hb;rcases zy4.1 hb2 with h3 | h3
   ·exact h1 b ((List.takeWhile_sublist _).subset h3)
   ·rcases zx6.1 h3 with rfl | h3
    ·exact ha
    ·exact h1 b ((List.dropWhile_sublist _).subset h3)
  ·have e:e9 x (a::o)=x::a::o:=by simp[e9,ha]
   rw[e];refine zw3.2 ⟨fun b hb =>?_,h⟩;rcases zx6.1 hb with rfl | hb
   ·omega
   ·have:=h1 b hb;omega
def qK(x:aq)(o o':List aq):Prop:=∃ C D,o=C++x::D∧o'=C++D∧∀ d∈D,x.day≤d.day
theorem ajb(x y:aq):∀ {o o':List aq},qK x o o'→qK x (e9 y o) (e9 y o'):=by
 rintro o o' ⟨C,D,rfl,rfl,hD⟩
 induction C with
 |nil =>
  by_cases hxy:x.day≤y.day
  ·refine ⟨[],e9 y D,by simp[e9,hxy],rfl,fun d hd =>?_⟩;have hd2:d∈(D.takeWhile fun a=>decide (a.day≤y.day))++y::D.dropWhile fun a=>decide (a.day≤y.day):=hd;rcases zy4.1 hd2 with h3 | h3
   ·exact hD d ((List.takeWhile_sublist _).subset h3)
   ·rcases zx6.1 h3 with rfl | h3
    ·exact hxy
    ·exact hD d ((List.dropWhile_sublist _).subset h3)
  ·refine ⟨[y],D,by simp[e9,hxy],?_,hD⟩;cases D with
   |nil=>rfl
   |cons d D =>
    have:=hD d (by simp);simp[e9,show ¬ d.day≤y.day by omega]
 |cons c C ih =>
  by_cases hc:c.day≤y.day
  ·obtain ⟨C2,D2,h1,h2,h3⟩:=ih;have e1:e9 y (c::C++x::D)=c::e9 y (C++x::D):=by simp[e9,hc]
   have e2:e9 y (c::C++D)=c::e9 y (C++D):=by simp[e9,hc]
   exact ⟨c::C2,D2,by rw[e1,h1];rfl,by rw[e2,h2];rfl,h3⟩
  ·exact ⟨y::c::C,D,by simp[e9,hc],by simp[e9,hc],hD⟩
theorem EE(x:aq):∀ (B:List aq) {o o':List aq},qK x o o'→qK x (B.foldl (fun o y=>e9 y o) o) (B.foldl (fun o y=>e9 y o) o')
 | [],_,_,h=>h
 |y::B,_,_,h=>EE x B (ajb x y h)
theorem EF:∀ (B o:List aq),o.Pairwise (fun a b=>a.day≤b.day)→(B.foldl (fun o y=>e9 y o) o).Pairwise (fun a b=>a.day≤b.day)
 | [],_,h=>h
 |y::B,o,h=>EF B _ (KU y o h)
theorem amM(A B:List aq)(x:aq):qK x (qy (A++x::B)) (qy (A++B)):=by
 have hs:=EF A [] List.Pairwise.nil;simp only[qy,List.foldl_append,List.foldl_cons];generalize A.foldl (fun o y=>e9 y o) []=o at hs;refine EE x B ?_;refine ⟨o.takeWhile fun a=>decide (a.day≤x.day),o.dropWhile fun a=>decide (a.day≤x.day),rfl,List.takeWhile_append_dropWhile.symm,fun d hd =>?_⟩
 induction o with
 |nil=>simp at hd
 |cons a o ih =>
  obtain ⟨h1,h2⟩:=zw3.1 hs;by_cases ha:a.day≤x.day
  ·simp only[List.dropWhile_cons,decide_eq_true ha,if_true] at hd;exact ih h2 hd
  ·simp only[List.dropWhile_cons,decide_eq_false ha,zz6,if_false] at hd;rcases zx6.1 hd with rfl | hd
   ·omega
   ·have:=h1 d hd;omega
def iz(add:List aD→aD→List aD)(bs:List aD)(es:List aq):List aD:=es.foldl (fun bs x=>(dK add bs x).getD bs) bs
theorem MB(add:List aD→aD→List aD)(l:List aq):∀ (o:List Nat) (s:List aD×List Nat),(o.foldl (lB add l) s).1=iz add s.1 (o.map (ab l))
 | [],_=>rfl
 |i::o,s=>by
  rw[List.foldl_cons,MB add l o];simp only[iz,zz8,List.foldl_cons,lB];cases dK add s.1 (ab l i) <;>rfl
theorem KQ(l:List aq)(day known:Int):cu l day known=iz c5 [] (qy ((jj l day known).map (ab l))):=by
 rw[←alD];exact MB c5 l (jQ l day known) ([],[])
theorem O0(q:aq→Bool):∀ (l:List aq) (ss:List Bool),ss.length=l.length→((List.range l.length).filter fun i=>ss.getD i false&&q (ab l i)).map (ab l)=((l.zip ss).filter fun p=>p.2&&q p.1).map (·.1)
 | [],ss,h=>by simp
 |x::l,[],h=>by simp at h
 |x::l,s::ss,h=>by
  have ih:=O0 q l ss (by simpa using h);have e:(List.map Nat.succ (List.range l.length)).filter (fun i=>(s::ss).getD i false&&q (ab (x::l) i))=((List.range l.length).filter (fun i=>ss.getD i false&&q (ab l i))).map Nat.succ:=by
   rw[List.filter_map];rfl
  have e2:∀ az:List Nat,(az.map Nat.succ).map (ab (x::l))=az.map (ab l):=fun az=>by rw[List.map_map];rfl
  have c:((s::ss).getD 0 false&&q (ab (x::l) 0))=(s&&q x):=rfl;rw[List.length_cons,List.range_succ_eq_map,zx4,List.zip_cons_cons,zx4,e,c];cases s&&q x
  ·simp only[zz6,if_false,e2,ih]
  ·simp only[if_true,zz8,e2,ih];rfl
theorem DW(l:List aq)(day known:Int):(jj l day known).map (ab l)=mS l (gp l known) day:=by
 have h:=O0 (fun x=>decide (x.kind≠0)&&decide (x.day≤day)) l (gp l known) (uO l known);simp only[jj,eQ,List.filter_filter];rw[mS,←h]
 congr 1
 refine List.filter_congr fun i _ =>?_;exact Bool.and_comm _ _
theorem DV(day:Int):∀ (l:List aq) (ss:List Bool) (i:Nat),ss.length=l.length→i<l.length→∃ A B,mS l ss day=A++(if ss.getD i false&&(decide ((ab l i).kind≠0)&&decide ((ab l i).day≤day)) then [ab l i] else [])++B∧mS (da l i) (ss.eraseIdx i) day=A++B
 | [],_,i,_,h=>by simp at h
 |x::l,[],_,h,_=>by simp at h
 |x::l,s::ss,0,h,_=>by
  refine ⟨[],mS l ss day,?_,rfl⟩;have c:((s::ss).getD 0 false&&(decide ((ab (x::l) 0).kind≠0)&&decide ((ab (x::l) 0).day≤day)))=(s&&(decide (x.kind≠0)&&decide (x.day≤day))):=rfl;rw[c];simp only[mS,List.zip_cons_cons,zx4];cases s&&(decide (x.kind≠0)&&decide (x.day≤day)) <;>rfl
 |x::l,s::ss,i+1,h,hi=>by
  obtain ⟨A,B,h1,h2⟩:=DV day l ss i (by simpa using h) (by simpa using hi);have d:∀ l' ss',mS (x::l') (s::ss') day=(if s&&(decide (x.kind≠0)&&decide (x.day≤day)) then [x] else [])++mS l' ss' day:=fun l' ss'=>by
   simp only[mS,List.zip_cons_cons,zx4];cases s&&(decide (x.kind≠0)&&decide (x.day≤day)) <;>rfl
  refine ⟨(if s&&(decide (x.kind≠0)&&decide (x.day≤day)) then [x] else [])++A,B,?_,?_⟩
  ·rw[d,h1];simp only[zz5];rfl
  ·rw[DN,List.eraseIdx_cons_succ,d,h2,zz5]
theorem ai6{l:List aq}{i:Nat}(hi:i<l.length)(hk:(ab l i).kind≠0)(day known:Int):∃ C D,cu (da l i) day known=iz c5 [] (C++D)∧(cu l day known=iz c5 [] (C++D)∨cu l day known=iz c5 [] (C++ab l i::D)):=by
 obtain ⟨A,B,h1,h2⟩:=DV day l (gp l known) i (uO l known) hi;have hS:gp (da l i) known=(gp l known).eraseIdx i:=(PB known l i hi hk).2;rw[KQ,KQ,DW,DW,hS,h2,h1];split
 ·obtain ⟨C,D,e1,e2,_⟩:=amM A B (ab l i);exact ⟨C,D,by rw[e2],.inr (by rw[←e1];simp)⟩
 ·exact ⟨qy (A++B),[],by simp,.inl (by simp)⟩
theorem PM{b c:aD}{y:aq}(h:eZ b y=some c):c.no=b.no:=by
 simp only[eZ] at h
 (repeat' split at h) <;>first | (cases h;done) | (cases h;rfl)
theorem pt(b:aD)(y:aq):((eZ b y).getD b).no=b.no:=by
 cases h:eZ b y with
 |none=>rfl
 |some c=>exact PM h
theorem qQ(add:List aD→aD→List aD){bs:List aD}(hd:(bs.map (·.no)).Nodup){y:aq}(hk:¬(y.kind=1∨y.kind=2)) :
  (dK add bs y).getD bs=bs.map fun c=>if c.no=y.cH then (eZ c y).getD c else c:=by
 simp only[dK,if_neg hk];cases hg:cw bs y.cH with
 |none =>
  have hn:=tp.1 hg;simp only[Option.getD_none]
  symm
  rw[List.map_congr_left (g:=id) fun c hc =>?_,List.map_id];rw[if_neg fun e=>hn (zx9.2 ⟨c,hc,e⟩)];rfl
 |some b =>
  obtain ⟨hb,hbn⟩:=pW hg;have huniq:∀ c∈bs,c.no=y.cH→c=b:=fun c hc e=>by
   have:=KF hd hc;rw[e,hg] at this;exact (Option.some.inj this).symm
  cases ht:eZ b y with
  |none =>
   simp only[zu3,Option.getD_none,ht]
   symm
   rw[List.map_congr_left (g:=id) fun c hc =>?_,List.map_id];by_cases e:c.no=y.cH
   ·rw[if_pos e,huniq c hc e,ht];rfl
   ·rw[if_neg e];rfl
  |some d =>
   have hdn:d.no=y.cH:=(PM ht).trans hbn;simp only[ht,zy5,Option.getD_some,lx,hdn];refine List.map_congr_left fun c hc =>?_;by_cases e:c.no=y.cH
   ·rw[if_pos e,if_pos e,huniq c hc e,ht];rfl
   ·rw[if_neg e,if_neg e]
def lF(no:Int)(P:aD→aD→Prop)(b c:aD):Prop:=b.no=c.no∧b.dq=c.dq∧b.cV=c.cV∧(b.no≠no→b=c)∧(b.no=no→P b c)
inductive fV (R:aD→aD→Prop):List aD→List aD→Prop
 |nil:fV R [] []
 |cons {b c:aD} {bs cs:List aD} : R b c→fV R bs cs→fV R (b::bs) (c::cs)
theorem fV.fG{no:Int}{P:aD→aD→Prop}{bs cs:List aD}(h:fV (lF no P) bs cs):bs.map (·.no)=cs.map (·.no):=by
 induction h with
 |nil=>rfl
 |cons h _ ih=>rw[zz8,zz8,ih,h.1]
theorem fV.map{R:aD→aD→Prop}{bs cs:List aD}(h:fV R bs cs){f g:aD→aD}(hf:∀ b c,R b c→R (f b) (g c)):fV R (bs.map f) (cs.map g):=by
 induction h with
 |nil=>exact .nil
 |cons h _ ih=>exact .cons (hf _ _ h) ih
theorem fV.dF{R:aD→aD→Prop}{bs cs:List aD}(h:fV R bs cs){x y:aD}(hx:R x y):fV R (bs++[x]) (cs++[y]):=by
 induction h with
 |nil=>exact .cons hx .nil
 |cons h _ ih=>exact .cons h ih
theorem fV.xu{no:Int}{P:aD→aD→Prop}{bs cs:List aD}(h:fV (lF no P) bs cs)(k:Int):(cw bs k=none∧cw cs k=none)∨∃ b c,cw bs k=some b∧cw cs k=some c∧lF no P b c:=by
 induction h with
 |nil=>exact .inl ⟨rfl,rfl⟩
 | @cons b c bs cs h _ ih =>
  by_cases e:b.no=k
  ·refine .inr ⟨b,c,?_,?_,h⟩
   ·simp[cw,e]
   ·simp[cw,←h.1,e]
  ·have e':¬ c.no=k:=by rw[←h.1];exact e
   have h1:cw (b::bs) k=cw bs k:=by simp[cw,e]
   have h2:cw (c::cs) k=cw cs k:=by simp[cw,e']
   rw[h1,h2];exact ih
theorem zO(b:aD)(y:aq):((eZ b y).getD b).dq=b.dq:=by
 simp only[eZ]
 (repeat' split) <;>rfl
theorem zN(b:aD)(y:aq):((eZ b y).getD b).cV=if y.kind=3∨y.kind=4∨y.kind=5 then b.cV else if b.cV≥0 then b.cV else y.day:=by
 simp only[eZ]
 (repeat' split) <;>first | rfl | (exfalso;omega)
theorem ZC{no:Int}{P:aD→aD→Prop}{bs cs:List aD}(h:fV (lF no P) bs cs)(x:aq):gQ bs x=gQ cs x:=by
 simp only[gQ];rcases h.xu x.e7 with ⟨h1,h2⟩ | ⟨b,c,h1,h2,h3⟩
 ·rw[h1,h2]
 ·rw[h1,h2];simp only[h3.2.1,h3.2.2.1]
theorem anh{no:Int}{P:aD→aD→Prop}(hP:∀ b c y,P b c→b.cV=c.cV→P ((eZ b y).getD b) ((eZ c y).getD c)){bs cs:List aD}(h:fV (lF no P) bs cs)(hd:(bs.map (·.no)).Nodup)(hn:no∈bs.map (·.no))(y:aq) :
  fV (lF no P) ((dK c5 bs y).getD bs) ((dK c5 cs y).getD cs):=by
 by_cases hk:y.kind=1∨y.kind=2
 ·simp only[dK,if_pos hk,ZC h];rcases h.xu y.cH with ⟨h1,h2⟩ | ⟨b,c,h1,h2,h3⟩
  ·simp only[h1,h2,true_and];split
   ·have hne:(fP y).no≠no:=fun e=>tp.1 h1 (by rw[show y.cH=no from e];exact hn);exact h.dF ⟨rfl,rfl,rfl,fun _=>rfl,fun e=>absurd e hne⟩
   ·exact h
  ·simp only[h1,h2,reduceCtorEq,false_and,if_false];exact h
 ·rw[qQ c5 hd hk,qQ c5 (by rw[←h.fG];exact hd) hk];refine h.map fun b c ⟨r1,dV,od,rT,Og⟩ =>?_;rw[←r1];by_cases e:b.no=y.cH
  ·rw[if_pos e,if_pos e];refine ⟨by rw[pt,pt,r1],by rw[zO,zO,dV],by rw[zN,zN,od],fun hne =>?_,fun he =>?_⟩
   ·rw[pt] at hne;rw[rT hne]
   ·rw[pt] at he;exact hP b c y (Og he) od
  ·rw[if_neg e,if_neg e];exact ⟨r1,dV,od,rT,Og⟩
theorem zD{bs:List aD}(hd:(bs.map (·.no)).Nodup)(y:aq):(((dK c5 bs y).getD bs).map (·.no)).Nodup:=by
 cases h:dK c5 bs y with
 |none=>exact hd
 |some cs=>exact AP AF hd h
theorem PE{no:Int}{bs:List aD}(hd:(bs.map (·.no)).Nodup)(hn:no∈bs.map (·.no))(y:aq):no∈((dK c5 bs y).getD bs).map (·.no):=by
 by_cases hk:y.kind=1∨y.kind=2
 ·simp only[dK,if_pos hk];split
  ·simp only[Option.getD_some,c5,zx5];exact List.mem_append_left _ hn
  ·exact hn
 ·rw[qQ c5 hd hk,List.map_map];obtain ⟨b,hb,rfl⟩:=zx9.1 hn;refine zx9.2 ⟨b,hb,?_⟩;simp only[Function.comp];split
  ·exact pt b y
  ·rfl
theorem PN{no:Int}{P:aD→aD→Prop}(hP:∀ b c y,P b c→b.cV=c.cV→P ((eZ b y).getD b) ((eZ c y).getD c)):∀ (D:List aq) {bs cs:List aD},fV (lF no P) bs cs→(bs.map (·.no)).Nodup→no∈bs.map (·.no)→fV (lF no P) (iz c5 bs D) (iz c5 cs D)
 | [],_,_,h,_,_=>h
 |y::D,_,_,h,hd,hn=>PN hP D (anh hP h hd hn y) (zD hd y) (PE hd hn y)
theorem O7:∀ (D:List aq) {bs:List aD},(bs.map (·.no)).Nodup→((iz c5 bs D).map (·.no)).Nodup
 | [],_,h=>h
 |y::D,_,h=>O7 D (zD h y)
theorem amW{A:ae}{n:Nat}{b:I}{m:bU}{rest:List aB} : dR A (some 7) n [] b (enc m) rest (some (.agg [.agg [.int .i64 0,.int .i64 0,.int .i64 0,.int .i64 0,.int .i64 0],.int .i64 0,.nils 7]))=aE rest (A.aS n (.box (enc m))):=by
 rw[ez (s:=some 7) (dN _) (by rw[fL];rfl) ((eL m).trans rfl),fI]
def mg(b c:aD):Prop:=b.bP=c.bP∧b.found=c.found∧b.b9.length=c.b9.length+1
theorem alx(b c:aD)(y:aq)(h:mg b c)(hd:b.cV=c.cV):mg ((eZ b y).getD b) ((eZ c y).getD c):=by
 obtain ⟨h1,h2,h3⟩:=h;simp only[eZ,h1,hd]
 (repeat' split) <;>simp_all[mg]
theorem fV.self{R:aD→aD→Prop}{f:aD→aD} : ∀ {bs:List aD},(∀ b∈bs,R (f b) b)→fV R (bs.map f) bs
 | [],_=>.nil
 |b::bs,h=>.cons (h b (List.mem_cons_self)) (fV.self fun c hc=>h c (List.mem_cons_of_mem _ hc))
theorem ai7{l:List aq}{i:Nat}(hi:i<l.length)(hk:(ab l i).kind=4∨(ab l i).kind=5)(day known:Int) :
  cu l day known=cu (da l i) day known∨fV (lF (ab l i).cH fun b c=>(ab l i).kind=4→mg b c) (cu l day known) (cu (da l i) day known):=by
 obtain ⟨C,D,h1,h2 | h2⟩:=ai6 hi (by omega) day known
 ·exact .inl (by rw[h1,h2])
 have hd:((iz c5 [] C).map (·.no)).Nodup:=O7 C List.nodup_nil;have e1:cu (da l i) day known=iz c5 (iz c5 [] C) D:=by rw[h1];simp only[iz,List.foldl_append]
 have e2:cu l day known=iz c5 ((dK c5 (iz c5 [] C) (ab l i)).getD (iz c5 [] C)) D:=by rw[h2];simp only[iz,List.foldl_append,List.foldl_cons]
 rw[e1,e2];generalize iz c5 [] C=bs at hd;have hk2:¬((ab l i).kind=1∨(ab l i).kind=2):=by omega
 by_cases hn:(ab l i).cH∈bs.map (·.no)
 ·refine .inr (PN (fun b c y hP hdd h4=>alx b c y (hP h4) hdd) D ?_ (zD hd _) (PE hd hn _));rw[qQ c5 hd hk2];refine fV.self fun b _ =>?_;by_cases e:b.no=(ab l i).cH
  ·rw[if_pos e];refine ⟨pt _ _,zO _ _,by rw[zN,if_pos (by omega)],fun hne=>absurd ((pt _ _).trans e) hne,fun _ h4 =>?_⟩;simp[eZ,h4,mg]
  ·rw[if_neg e];exact ⟨rfl,rfl,rfl,fun _=>rfl,fun h=>absurd h e⟩
 ·refine .inl ?_;rw[qQ c5 hd hk2]
  congr 1
  rw[List.map_congr_left (g:=id) fun c hc =>?_,List.map_id];rw[if_neg fun e=>hn (zx9.2 ⟨c,hc,e⟩)];rfl
theorem amp{D:List Int}{no:Int}(hr:gf D)(h:∀ y∈D,y=no):D=[]∨D=[no]:=by
 match D,hr,h with
 | [],_,_=>exact .inl rfl
 | [a],_,h=>rw[h a (by simp)];exact .inr rfl
 |a::b::D,hr,h =>
  have h1:=h a (by simp);have h2:=h b (by simp);have:=(zw3.1 hr).1 b (by simp);omega
theorem Pe(m:bU)(x:Option aD):jb m x x=true:=by cases x <;>simp[jb]
theorem MD{l:List aq}(hs:oy l){i:Nat}(hi:i<l.length):gC l (ab l i).bF=i:=yT (by omega) (fun _ hj=>uJ hs hj hi) (fun _=>AW _)
theorem aj7{l:List aq}(m:bU)(hok:dQ l=true)(hev:∀ i,lf (ab l i)){known:Int}(hd:cj 0 100000 known=true){i:Nat}(hi:i<l.length)(hk:(ab l i).kind=4∨(ab l i).kind=5) :
  ∃ D,D=mR m (cu l 100000 known) (cu (da l i) 100000 known)∧(D=[]∨D=[(ab l i).cH]∧((ab l i).kind=4→∃ p q:aD,oE l (ab l i).cH known=(p,0)∧oE (da l i) (ab l i).cH known=(q,0)∧p.cV=q.cV∧mg p q∧q.b9.length≤60)):=by
 refine ⟨_,rfl,?_⟩;have hql:=(nM (ua hok i) 100000 known).2.2;have hr:gf (mR m (cu l 100000 known) (cu (da l i) 100000 known)):=(uI _).filter _;have hmem:∀ y∈mR m (cu l 100000 known) (cu (da l i) 100000 known),jb m (cw (cu l 100000 known) y) (cw (cu (da l i) 100000 known) y)=false:=fun y hy=>by
  simpa using (zu0.1 hy).2
 have hb:=yi hev 100000 known;rcases ai7 hi hk 100000 known with h | h
 ·refine .inl (List.eq_nil_iff_forall_not_mem.2 fun y hy =>?_);have:=hmem y hy;rw[h,Pe] at this;cases this
 generalize hA:cu l 100000 known=A at h hr hmem hb ⊢;generalize hB:cu (da l i) 100000 known=B at h hr hmem hql ⊢;have hon:∀ y∈mR m A B,y=(ab l i).cH∧∃ b c,cw A y=some b∧cw B y=some c∧lF (ab l i).cH (fun b c=>(ab l i).kind=4→mg b c) b c:=fun y hy=>by
  have h1:=hmem y hy;rcases h.xu y with ⟨g1,g2⟩ | ⟨b,c,g1,g2,g3⟩
  ·rw[g1,g2] at h1;cases h1
  ·refine ⟨Decidable.byContradiction fun hne =>?_,b,c,g1,g2,g3⟩;have:=g3.2.2.2.1 (by rw[(pW g1).2];exact hne);rw[g1,g2,this,Pe] at h1;cases h1
 rcases amp hr fun y hy=>(hon y hy).1 with e | e
 ·exact .inl e
 ·refine .inr ⟨e,fun h4 =>?_⟩;obtain ⟨-,b,c,g1,g2,g3⟩:=hon _ (by rw[e];exact List.mem_singleton_self _);obtain ⟨gm,gn⟩:=pW g1;have hbb:=hb b gm;have hokd:=ua hok i;have hck:∀ l',dQ l'=true→eK l' [ee (ab l i).cH 9999] [known]=0:=fun l' h'=>by
   have e1:(ee (ab l i).cH 9999).g 0=(ab l i).cH:=rfl;have e2:(ee (ab l i).cH 9999).g 1=9999:=rfl;have e3:cj 1 9999 (ab l i).cH=true:=by
    rw[←gn];simp[cj,lb] at hbb ⊢;omega
   simp only[eK,h',List.all_cons,List.all_nil,e1,e2,e3,List.any_cons,List.any_nil,hd,Bool.not_true,Bool.or_false,zw5,zz6,if_false,if_true]
  refine ⟨b,c,?_,?_,g3.2.2.1,g3.2.2.2.2 gn h4,hql c (pW g2).1⟩
  ·simp only[oE,hck l hok,if_true,hA,g1]
  ·simp only[oE,hck _ hokd,if_true,hB,g2]
theorem P5(c:List Int)(ls:List fJ)(n:Int)(hc:c.length*8≤140737488355328):ay Tryz.prog 10 [enc c,enc ls,enc n] (enc true):=by
 obtain ⟨m,hm⟩:∃ m,m=m0 c:=⟨_,rfl⟩
 have hokm:eg m=true:=by rw[hm];exact L5 c
 have h24:=Ao c (by omega);rw[←hm] at h24;have h23:=An m ls c hokm hc;have hok:=L0 hokm ls c;have hev:=Lz hokm ls c;generalize oT m ls c=l at h23 hok hev;obtain ⟨dz,hKn⟩:∃ dz,dz=n%45:=⟨_,rfl⟩
 have hKb:0≤dz∧dz<45:=by rw[hKn];exact ⟨zw8 _ (by decide),zv7 _ (by decide)⟩
 have hk:cj 0 100000 dz=true:=by simp[cj];omega
 have hl:=n9 hok;have hs:=rM hok;have hck:eK l [] [dz]=0:=by simp only[eK,hok,if_true,List.all_nil,List.any_cons,List.any_nil,hk,Bool.not_true,Bool.or_false,zz6,if_false]
 refine ay.bn Tryz.func10 SF UA WK (t7 rfl) (fun hwf W0 D0 E1 =>?_);simp only[A7,MI,bg,zz4,Nat.reduceAdd];clear hwf;have R:=v6 @amW (v6 @eO (v6 @bd (v6 @aU @U)))
 repeat' ((first |(with_reducible refine .guard (fun hb =>?_) (fun hb =>?_) <;>try simp only[hb])|refine J.aL (by decide +kernel) rfl fun K hK =>?_|refine .lead _ (h24) ?_|refine .lead _ (h23) ?_|refine .flat _ (gN _ _ (by decide) (by decide)) rfl ?_|(refine .aG [0,1,2,6,7,8,9,10,11,12,13,14,15,16,17,29,45,88,99,168] hK ?_;clear hK K)|(with_reducible refine .done (hK _ ?_);clear hK K)|refine J.of rfl ?_|(with_reducible refine ak.aK (fun h =>?_) (fun h =>?_) <;>try simp only[h])) <;>try simp only[aM,R,←hKn,simprocAttr])
 all_goals clear R
 refine J.loop (fun i:Nat=>au [(2,.int .i64 dz),(7,.ptr 7 []),(8,enc l),(9,.int .i64 i)] [(7,.box (enc m))]) (fun i=>i≤l.length) (fun i=>l.length-i) 0 (zw7 _) ?_ (fun i hi =>?_)
 ·refine aC.bI ?_ ?_ ?_ ?_ <;>simp[aT,bC,bB,a6,al,aV,cg,I.only,ah.only,bh]
 by_cases hlt:i<l.length
 case neg =>
  have hc1:=gi hlt;have R:=v6 @hc1 (v6 @eO (v6 @bd (v6 @aU @U)))
  repeat' ((first |(with_reducible refine .guard (fun hb =>?_) (fun hb =>?_) <;>try simp only[hb])|refine J.aL (by decide +kernel) rfl fun K hK =>?_|refine .flat _ (Am) rfl ?_|(refine .aG [0,1,2,6,7,8,9,10,11,12,13,14,15,16,17,29,45,88,99,168] hK ?_;clear hK K)|(with_reducible refine .done (hK _ ?_);clear hK K)|refine J.of rfl ?_|(with_reducible refine ak.aK (fun h =>?_) (fun h =>?_) <;>try simp only[h])) <;>try simp only[aM,R,simprocAttr])
  all_goals clear R
 have hc1:=fO hlt;have he:=fun A=>kZ (A:=A) hlt;have hw:=eB (i:=i) (by omega);by_cases hk45:(ab l i).kind=4∨(ab l i).kind=5
 case neg =>
  have k4:((ab l i).kind != 4)=true:=by simp;omega
  have k5:((ab l i).kind != 5)=true:=by simp;omega
  have R:=v6 @hc1 (v6 @he (v6 @hw (v6 @k4 (v6 @k5 (v6 @eO (v6 @bd (v6 @aU @U)))))))
  repeat' ((first |(with_reducible refine .guard (fun hb =>?_) (fun hb =>?_) <;>try simp only[hb])|refine J.aL (by decide +kernel) rfl fun K hK =>?_|(refine .aG [0,1,2,6,7,8,9,10,11,12,13,14,15,16,17,29,45,88,99,168] hK ?_;clear hK K)|(with_reducible refine .done (hK _ ?_);clear hK K)|refine J.of rfl ?_|(with_reducible refine ak.aK (fun h =>?_) (fun h =>?_) <;>try simp only[h])) <;>try simp only[aM,R,simprocAttr])
  all_goals clear R
  refine ⟨i+1,by omega,by omega,?_⟩;refine aC.bI ?_ ?_ ?_ ?_ <;>simp[aT,bC,bB,a6,al,aV,cg,I.only,ah.only,bh]
 obtain ⟨D,hD,hD2⟩:=aj7 m hok hev hk hlt hk45;have h48:=Rc m l (ab l i).bF dz;have hmv:kC m l (ab l i).bF dz=(D,0):=by
  simp only[kC,hokm,if_true,hck,xF hlt rfl,MD hs hlt,←hD]
 rw[hmv] at h48;have n0:((0:Int) != 0)=false:=rfl;have q1:∀ b:Int,decide ((1:Int)<(([b]:List Int).length:Int))=false:=fun b=>rfl;have q2:∀ b:Int,((([b]:List Int).length:Int)==1)=true:=fun b=>rfl;have q3:∀ b:Int,((([b]:List Int).length:Int)==0)=false:=fun b=>rfl;have q4:decide ((1:Int)<(([]:List Int).length:Int))=false:=rfl;have q5:((([]:List Int).length:Int)==1)=false:=rfl;have q6:((([]:List Int).length:Int)==0)=true:=rfl;have he0:∀ (A:ae) (b:Int),iF A 1 (0:Int) (enc [b])=some (.ref (enc b)):=fun A b=>ft (A:=A) (l:=[b]) 1 (k:=0) (by simp) rfl;by_cases hk4:(ab l i).kind=4
 ·have k4:((ab l i).kind != 4)=false:=by simp[hk4]
  have k5:((ab l i).kind != 5)=true:=by simp[hk4]
  have k4':((ab l i).kind==4)=true:=by simp[hk4]
  have k5':((ab l i).kind==5)=false:=by simp[hk4]
  rcases hD2 with rfl | ⟨rfl,hp⟩
  ·have R:=v6 @hc1 (v6 @he (v6 @hw (v6 @k4 (v6 @k5 (v6 @k4' (v6 @k5' (v6 @n0 (v6 @q4 (v6 @q5 (v6 @q6 (v6 @eO (v6 @bd (v6 @aU @U)))))))))))))
   repeat' ((first |(with_reducible refine .guard (fun hb =>?_) (fun hb =>?_) <;>try simp only[hb])|refine J.aL (by decide +kernel) rfl fun K hK =>?_|refine .lead _ (h48) ?_|(refine .aG [0,1,2,6,7,8,9,10,11,12,13,14,15,16,17,29,45,88,99,168] hK ?_;clear hK K)|(with_reducible refine .done (hK _ ?_);clear hK K)|refine J.of rfl ?_|(with_reducible refine ak.aK (fun h =>?_) (fun h =>?_) <;>try simp only[h])) <;>try simp only[aM,R,simprocAttr])
   all_goals clear R
   refine ⟨i+1,by omega,by omega,?_⟩;refine aC.bI ?_ ?_ ?_ ?_ <;>simp[aT,bC,bB,a6,al,aV,cg,I.only,ah.only,bh]
  obtain ⟨p,q,hp1,hp2,hdd,⟨ho,hf,hsl⟩,hql⟩:=hp hk4;have h38:=Ra l (ab l i).bF;have hwo:sg l (ab l i).bF=(da l i,0):=by
   simp only[sg,hok,if_true,xF hlt rfl,MD hs hlt]
  rw[hwo] at h38;have h39:=As l (ab l i).cH dz;rw[hp1] at h39;have h39b:=As (da l i) (ab l i).cH dz;rw[hp2] at h39b;have c1:(p.bP != q.bP)=false:=by simp[ho]
  have c2:(p.cV != q.cV)=false:=by simp[hdd]
  have c3:cv .b (.bool p.found) (.bool q.found)=some true:=by rw[hf];simp[cv]
  have SD:(!true)=false:=rfl;have hw1:=eB (i:=q.b9.length) (by omega);have fK:((p.b9.length:Int) != ((q.b9.length+1:Nat):Int))=false:=by simp[hsl]
  have iD:((ab l i).cH != (ab l i).cH)=false:=by simp
  have R:=v6 @hc1 (v6 @he (v6 @hw (v6 @k4 (v6 @k5 (v6 @k4' (v6 @k5' (v6 @n0 (v6 @q1 (v6 @q2 (v6 @q3 (v6 @he0 (v6 @c1 (v6 @c2 (v6 @c3 (v6 @SD (v6 @hw1 (v6 @fK (v6 @iD (v6 @sZ (v6 @uU (v6 @yC (v6 @eO (v6 @eG (v6 @bd (v6 @aU @U)))))))))))))))))))))))))
  repeat' ((first |(with_reducible refine .guard (fun hb =>?_) (fun hb =>?_) <;>try simp only[hb])|refine J.aL (by decide +kernel) rfl fun K hK =>?_|refine .lead _ (h48) ?_|refine .lead _ (h38) ?_|refine .lead _ (h39) ?_|refine .lead _ (h39b) ?_|(refine .aG [0,1,2,6,7,8,9,10,11,12,13,14,15,16,17,29,45,88,99,168] hK ?_;clear hK K)|(with_reducible refine .done (hK _ ?_);clear hK K)|refine J.of rfl ?_|(with_reducible refine ak.aK (fun h =>?_) (fun h =>?_) <;>try simp only[h])) <;>try simp only[aM,R,simprocAttr])
  all_goals clear R
  refine ⟨i+1,by omega,by omega,?_⟩;refine aC.bI ?_ ?_ ?_ ?_ <;>simp[aT,bC,bB,a6,al,aV,cg,I.only,ah.only,bh]
 ·have k4:((ab l i).kind != 4)=true:=by simp[hk4]
  have k5:((ab l i).kind != 5)=false:=by simp;omega
  have k4':((ab l i).kind==4)=false:=by simp[hk4]
  have k5':((ab l i).kind==5)=true:=by simp;omega
  rcases hD2 with rfl | ⟨rfl,-⟩
  all_goals
   have R:=v6 @hc1 (v6 @he (v6 @hw (v6 @k4 (v6 @k5 (v6 @k4' (v6 @k5' (v6 @n0 (v6 @q1 (v6 @q2 (v6 @q3 (v6 @q4 (v6 @q5 (v6 @q6 (v6 @eO (v6 @bd (v6 @aU @U))))))))))))))))
   repeat' ((first |(with_reducible refine .guard (fun hb =>?_) (fun hb =>?_) <;>try simp only[hb])|refine J.aL (by decide +kernel) rfl fun K hK =>?_|refine .lead _ (h48) ?_|(refine .aG [0,1,2,6,7,8,9,10,11,12,13,14,15,16,17,29,45,88,99,168] hK ?_;clear hK K)|(with_reducible refine .done (hK _ ?_);clear hK K)|refine J.of rfl ?_|(with_reducible refine ak.aK (fun h =>?_) (fun h =>?_) <;>try simp only[h])) <;>try simp only[aM,R,simprocAttr])
   all_goals clear R
   refine ⟨i+1,by omega,by omega,?_⟩;refine aC.bI ?_ ?_ ?_ ?_ <;>simp[aT,bC,bB,a6,al,aV,cg,I.only,ah.only,bh]
end Go.Proofs.YtcldiigclhgafaaGreat
