/-
  A part of the proof that the law HerdMoves returns true for every input; conditions: none beyond the statement's own. (part 6 of 7)
-/
import Derived.Test.YtcldiigclhgafaaGreatRows
import Derived.Shelf.Spec.SlicesGrow
import Derived.Test.YtcldiigclhgafaaGreatNfe
set_option linter.unusedSimpArgs false
set_option linter.unusedVariables false
set_option maxHeartbeats 16000000
set_option maxRecDepth 100000
namespace Go.Proofs.YtcldiigclhgafaaGreat
open Go Go.Abs
open Go.Abs.Enc (enc)
def fb{α:Type}(f:α→Int)(l:List α)(x:α):List α:=(l.takeWhile fun a=>decide (f a≤f x))++x::l.dropWhile fun a=>decide (f a≤f x)
def fx{α:Type}(f:α→Int)(l:List α)(x:α):Bool:=l.any fun a=>decide (f x<f a)
def gV{α:Type}(f:α→Int)(l:List α)(x:α):List α:=if fx f l x then fb f l x else l
section
variable {α:Type} {f:α→Int}
theorem KE{x:α} : ∀ {l:List α},fx f l x=false→fb f l x=l++[x]
 | [],_=>by simp[fb]
 |a::l,h=>by
  simp only[fx,List.any_cons,Bool.or_eq_false_iff,decide_eq_false_iff_not] at h;have ha:f a≤f x:=by omega
  have e:fb f (a::l) x=a::fb f l x:=by simp[fb,ha]
  rw[e,KE (l:=l) (by simpa[fx] using h.2)];rfl
theorem KG{x:α}(y:α):∀ {l:List α},fx f l x=true→fb f (l++[y]) x=fb f l x++[y]
 | [],h=>by simp[fx] at h
 |a::l,h=>by
  by_cases ha:f a≤f x
  ·have h2:fx f l x=true:=by
    simp only[fx,List.any_cons,Bool.or_eq_true,decide_eq_true_eq] at h;rcases h with h | h
    ·omega
    ·exact h
   have e:∀ m:List α,fb f (a::m) x=a::fb f m x:=fun m=>by simp[fb,ha]
   rw[zy0,e,e,KG y h2];rfl
  ·simp[fb,ha]
theorem KD{x y:α}(hy:f x<f y):∀ {l:List α},fx f l x=false→fb f (l++[y]) x=l++[x,y]
 | [],_=>by simp[fb,show ¬ f y≤f x by omega]
 |a::l,h=>by
  simp only[fx,List.any_cons,Bool.or_eq_false_iff,decide_eq_false_iff_not] at h;have ha:f a≤f x:=by omega
  have e:∀ m:List α,fb f (a::m) x=a::fb f m x:=fun m=>by simp[fb,ha]
  rw[zy0,e,KD hy (by simpa[fx] using h.2)];rfl
theorem vn{l:List α}{x:α}{i:Nat}(h:i<l.length):fx f (l.take (i+1)) x=(fx f (l.take i) x||decide (f x<f l[i])):=by
 simp only[fx,zz7 h,List.any_append,List.any_cons,List.any_nil,Bool.or_false]
theorem DJ{l:List α}{x:α}{i:Nat}(h:i<l.length):gV f (l.take (i+1)) x=(if (!fx f (l.take i) x&&decide (f x<f l[i]))=true then gV f (l.take i) x++[x] else gV f (l.take i) x)++[l[i]]:=by
 have e:=zz7 h;simp only[gV,vn h];cases ha:fx f (l.take i) x
 ·by_cases hx:f x<f l[i]
  ·simp only[hx,decide_true,Bool.or_true,if_true,Bool.not_false,Bool.and_true,zz8,if_false];rw[e,KD hx ha];simp
  ·simp only[hx,decide_false,Bool.or_false,Bool.and_false,if_false,zz8];exact e
 ·simp only[Bool.true_or,if_true,zu5,Bool.false_and,zz8,if_false];rw[e,KG _ ha]
theorem DH(l:List α)(x:α):(if fx f l x then gV f l x else gV f l x++[x])=fb f l x:=by
 simp only[gV];cases h:fx f l x
 ·simp only[zz8,if_false];exact (KE h).symm
 ·simp only[if_true]
theorem KC(l:List α)(x:α):(fb f l x).length=l.length+1:=by
 have h:(l.takeWhile fun a=>decide (f a≤f x))++(l.dropWhile fun a=>decide (f a≤f x))=l:=List.takeWhile_append_dropWhile;have h2:=congrArg List.length h;simp only[fb,zz5,List.length_cons] at h2 ⊢;omega
theorem DI(l:List α)(x:α):(gV f l x).length≤l.length+1:=by
 simp only[gV];split
 ·rw[KC];omega
 ·omega
end
theorem Rc(bs:List aH)(b:aH):fw bs b=fb (·.no) bs b:=rfl
def pR(bs:List aH)(no:Int):Int:=match bs.findIdx? fun b=>decide (b.no=no) with
 |some i=>i
 |none=>-1
theorem mB(bs:List aH)(no:Int):aw Tryz.prog 93 [enc bs,enc no] (enc (pR bs no)):=by
 refine aw.bj Tryz.func93 Uh Wl YG (zz0 rfl) (fun hwf W0 D0 E1 =>?_);simp only[C4,N3,bg,zz3];have hlen:bs.length≤maxLen:=((kL bs).1 hwf.1).1;simp only[maxLen] at hlen;clear hwf;have R:=u8 @aX (u8 @aJ @U)
 repeat' ((first |(with_reducible refine .guard (fun hb =>?_) (fun hb =>?_) <;>try simp only[hb])|refine J.aE (by decide +kernel) rfl fun K hK =>?_|(refine .ay [0,1,4,5,9,18] hK ?_;clear hK K)|(with_reducible refine .done (hK _ ?_);clear hK K)|refine J.of rfl ?_|(with_reducible refine ai.aB (fun h =>?_) (fun h =>?_) <;>try simp only[h])) <;>try simp only[aF,R,simprocAttr])
 all_goals clear R
 refine J.loop (fun i:Nat=>ar [(0,enc bs),(1,.int .i64 no),(5,.int .i64 i)] []) (fun i=>i≤bs.length∧∀ x∈bs.take i,decide (x.no=no)=false) (fun i=>bs.length-i) 0 ⟨zw8 _,by simp⟩ ?_ (fun i hi =>?_)
 ·refine az.bL ?_ ?_ ?_ ?_ <;>simp[aO,bC,bx,aZ,aP,I.only,bh]
 obtain ⟨hi1,hi2⟩:=hi;by_cases hlt:i<bs.length
 ·have hc:=eR hlt;have he:=fun A=>eh (A:=A) 9 hlt rfl;have hw:=dX (i:=i) (by omega);rcases hp:((bs[i]).no==no)
  ·have R:=u8 @hc (u8 @he (u8 @hp (u8 @hw (u8 @aX (u8 @aJ (u8 @fU @U))))))
   repeat' ((first |(with_reducible refine .guard (fun hb =>?_) (fun hb =>?_) <;>try simp only[hb])|refine J.aE (by decide +kernel) rfl fun K hK =>?_|(refine .ay [0,1,4,5,9,18] hK ?_;clear hK K)|(with_reducible refine .done (hK _ ?_);clear hK K)|refine J.of rfl ?_|(with_reducible refine ai.aB (fun h =>?_) (fun h =>?_) <;>try simp only[h])) <;>try simp only[aF,R,simprocAttr])
   all_goals clear R
   refine ⟨i+1,⟨by omega,fun x hm =>?_⟩,by omega,?_⟩
   ·rw[zz7 hlt] at hm;rcases zx1.1 hm with hm | hm
    ·exact hi2 x hm
    ·simp at hm;rw[hm];simpa using hp
   ·refine az.bL ?_ ?_ ?_ ?_ <;>simp[aO,bC,bx,aZ,aP,I.only,bh]
  ·have R:=u8 @hc (u8 @he (u8 @hp (u8 @aX (u8 @aJ (u8 @fU @U)))))
   repeat' ((first |(with_reducible refine .guard (fun hb =>?_) (fun hb =>?_) <;>try simp only[hb])|refine J.aE (by decide +kernel) rfl fun K hK =>?_|(refine .ay [0,1,4,5,9,18] hK ?_;clear hK K)|(with_reducible refine .done (hK _ ?_);clear hK K)|refine J.of rfl ?_|(with_reducible refine ai.aB (fun h =>?_) (fun h =>?_) <;>try simp only[h])) <;>try simp only[aF,R,simprocAttr])
   all_goals clear R
   have:bs.findIdx? (fun b=>decide (b.no=no))=some i:=s7 hlt hi2 (by simpa using hp);simp[pR,this]
 ·have hc:=eT hlt;have hge:i=bs.length:=by omega
  subst hge;have R:=u8 @hc (u8 @aX (u8 @aJ @U))
  repeat' ((first |(with_reducible refine .guard (fun hb =>?_) (fun hb =>?_) <;>try simp only[hb])|refine J.aE (by decide +kernel) rfl fun K hK =>?_|(refine .ay [0,1,4,5,9,18] hK ?_;clear hK K)|(with_reducible refine .done (hK _ ?_);clear hK K)|refine J.of rfl ?_|(with_reducible refine ai.aB (fun h =>?_) (fun h =>?_) <;>try simp only[h])) <;>try simp only[aF,R,simprocAttr])
  all_goals clear R
  rw[zv1] at hi2;simp[pR,sZ hi2]
theorem Qg(bs:List aH)(b:aH)(hn:bs.length≤100):aw Tryz.prog 170 [enc bs,enc b] (enc (fw bs b)):=by
 refine aw.bj Tryz.func170 Ti Vn XI (zz0 rfl) (fun hwf W0 D0 E1 =>?_);simp only[B6,M0,bg,zz3];clear hwf;rw[Rc];have R:=u8 @aX (u8 @aJ @U)
 repeat' ((first |(with_reducible refine .guard (fun hb =>?_) (fun hb =>?_) <;>try simp only[hb])|refine J.aE (by decide +kernel) rfl fun K hK =>?_|(refine .ay [0,1,3,4,5,6,7,11,25,38] hK ?_;clear hK K)|(with_reducible refine .done (hK _ ?_);clear hK K)|refine J.of rfl ?_|(with_reducible refine ai.aB (fun h =>?_) (fun h =>?_) <;>try simp only[h])) <;>try simp only[aF,R,simprocAttr])
 all_goals clear R
 refine J.loop (fun i:Nat=>ar [(0,enc bs),(3,.ptr 3 []),(5,.own 905 (gV (·.no) (bs.take i) b).length),(6,.bool (fx (·.no) (bs.take i) b)),(7,.int .i64 i)] [(3,.box (enc b)),(905,.b5 78 9 ((gV (·.no) (bs.take i) b).map enc))]) (fun i=>i≤bs.length) (fun i=>bs.length-i) 0 (zw8 _) ?_ (fun i hi =>?_)
 ·refine az.lD 5 905 78 9 9 rfl rfl ?_;simp only[List.take_zero,gV,fx,List.any_nil,zz8,if_false,zx2,zv7];refine az.bL ?_ ?_ ?_ ?_ <;>simp[aO,bC,bx,aZ,al,aP,b8,I.only,I.bW,ah.only,bh]
 have hcl:=DI (f:=(·.no)) (bs.take i) b;have htl:(bs.take i).length≤100:=by rw[zy4];omega
 by_cases hlt:i<bs.length
 ·have hc:=eR hlt;have he:=fun A=>eh (A:=A) 9 hlt rfl;have hw:=dX (i:=i) (by omega);have hs:=DJ (f:=(·.no)) (x:=b) hlt;have ha:=vn (f:=(·.no)) (x:=b) hlt;generalize gV (·.no) (bs.take i) b=xs at hcl hs ⊢;generalize fx (·.no) (bs.take i) b=ay at hs ha ⊢;have happ:=fun (A:ae) d rest (es:List aH) (hes:es.length≤102) (y:aH)=>jE (α:=aH) (A:=A) (d:=d) 78 9 88 905 (l:=es.length) (es:=es) (ys:=[y]) (rest:=rest) rfl rfl (by simp) (by simp[maxLen];omega) (by simp;omega);have hap1:=fun (A:ae) d rest=>happ A d rest xs (by omega) b;have hap2:=fun (A:ae) d rest=>happ A d rest (xs++[b]) (by simp;omega) (bs[i]);have hap3:=fun (A:ae) d rest=>happ A d rest xs (by omega) (bs[i]);have hbs:=fun y:aH=>oC 9 y rfl;rcases hp:decide (b.no<(bs[i]).no) <;>cases ay
  all_goals
   have R:=u8 @hc (u8 @he (u8 @hp (u8 @hw (u8 @hap1 (u8 @hap2 (u8 @hap3 (u8 @hbs (u8 @aX (u8 @aJ (u8 @fU @U))))))))))
   repeat' ((first |(with_reducible refine .guard (fun hb =>?_) (fun hb =>?_) <;>try simp only[hb])|refine J.aE (by decide +kernel) rfl fun K hK =>?_|(refine .ay [0,1,3,4,5,6,7,11,25,38] hK ?_;clear hK K)|(with_reducible refine .done (hK _ ?_);clear hK K)|refine J.of rfl ?_|(with_reducible refine ai.aB (fun h =>?_) (fun h =>?_) <;>try simp only[h])) <;>try simp only[aF,R,simprocAttr])
   all_goals clear R
   simp only[hp,zu5,Bool.not_false,Bool.and_true,Bool.and_false,if_true,zz8,if_false,Bool.or_true,Bool.or_false] at hs ha;refine ⟨i+1,by omega,by omega,?_⟩;simp only[hs,ha];refine az.bL ?_ ?_ ?_ ?_ <;>simp[aO,bC,bx,aZ,al,aP,b8,I.only,I.bW,ah.only,dn,gm,bh]
 ·have hc:=eT hlt;have hge:i=bs.length:=by omega
  subst hge;rw[←DH];rw[zv1] at hcl ⊢;generalize gV (·.no) bs b=xs at hcl ⊢;have hap1:=fun (A:ae) d rest=>jE (α:=aH) (A:=A) (d:=d) 78 9 88 905 (l:=xs.length) (es:=xs) (ys:=[b]) (rest:=rest) rfl rfl (by simp) (by simp[maxLen];omega) (by simp;omega);have hbs:=fun y:aH=>oC 9 y rfl;have hfo:=fun xs:List aH=>nH (k:=xs.length) (T:=78) (es:=xs) 9 rfl rfl;cases fx (·.no) bs b
  all_goals
   have R:=u8 @hc (u8 @hap1 (u8 @hbs (u8 @hfo (u8 @aX (u8 @aJ @U)))))
   repeat' ((first |(with_reducible refine .guard (fun hb =>?_) (fun hb =>?_) <;>try simp only[hb])|refine J.aE (by decide +kernel) rfl fun K hK =>?_|(refine .ay [0,1,3,4,5,6,7,11,25,38] hK ?_;clear hK K)|(with_reducible refine .done (hK _ ?_);clear hK K)|refine J.of rfl ?_|(with_reducible refine ai.aB (fun h =>?_) (fun h =>?_) <;>try simp only[h])) <;>try simp only[aF,R,simprocAttr])
   all_goals clear R
def jb(l:List Int)(x:Int):List Int:=if x∈l then l else fb id l x
theorem PU(l:List Int)(x:Int)(hn:l.length≤200):aw Tryz.prog 140 [enc l,enc x] (enc (jb l x)):=by
 refine aw.bj Tryz.func140 SU UY Xj (zz0 rfl) (fun hwf W0 D0 E1 =>?_);simp only[BF,MA,bg,zz3];clear hwf;have R:=u8 @aX (u8 @aJ @U)
 repeat' ((first |(with_reducible refine .guard (fun hb =>?_) (fun hb =>?_) <;>try simp only[hb])|refine J.aE (by decide +kernel) rfl fun K hK =>?_|(refine .ay [0,1,4,5,6,7,11,19,30,43] hK ?_;clear hK K)|(with_reducible refine .done (hK _ ?_);clear hK K)|refine J.of rfl ?_|(with_reducible refine ai.aB (fun h =>?_) (fun h =>?_) <;>try simp only[h])) <;>try simp only[aF,R,simprocAttr])
 all_goals clear R
 refine J.loop (fun i:Nat=>ar [(0,enc l),(1,.int .i64 x),(5,.own 905 (gV id (l.take i) x).length),(6,.bool (fx id (l.take i) x)),(7,.int .i64 i)] [(905,.b5 3 1 ((gV id (l.take i) x).map enc))]) (fun i=>i≤l.length∧x∉l.take i) (fun i=>l.length-i) 0 ⟨zw8 _,by simp⟩ ?_ (fun i hi =>?_)
 ·refine az.lD 5 905 3 1 1 rfl rfl ?_;simp only[List.take_zero,gV,fx,List.any_nil,zz8,if_false,zx2,zv7];refine az.bL ?_ ?_ ?_ ?_ <;>simp[aO,bC,bx,aZ,al,aP,b8,I.only,I.bW,ah.only,bh]
 obtain ⟨hi,hx⟩:=hi;have hcl:=DI (f:=id) (l.take i) x;have htl:(l.take i).length≤200:=by rw[zy4];omega
 by_cases hlt:i<l.length
 ·have hc:=eR hlt;have he:=fun A=>eh (A:=A) 1 hlt rfl;have hw:=dX (i:=i) (by omega);rcases heq:(l[i]==x)
  case true =>
   have hm:x∈l:=by
    have:l[i]=x:=by simpa using heq
    rw[←this];exact zx8 hlt
   have R:=u8 @hc (u8 @he (u8 @heq (u8 @aX (u8 @aJ @U))))
   repeat' ((first |(with_reducible refine .guard (fun hb =>?_) (fun hb =>?_) <;>try simp only[hb])|refine J.aE (by decide +kernel) rfl fun K hK =>?_|(refine .ay [0,1,4,5,6,7,11,19,30,43] hK ?_;clear hK K)|(with_reducible refine .done (hK _ ?_);clear hK K)|refine J.of rfl ?_|(with_reducible refine ai.aB (fun h =>?_) (fun h =>?_) <;>try simp only[h])) <;>try simp only[aF,R,simprocAttr])
   all_goals clear R
   simp[jb,hm]
  have hs:=DJ (f:=id) (x:=x) hlt;have ha:=vn (f:=id) (x:=x) hlt;generalize gV id (l.take i) x=xs at hcl hs ⊢;generalize fx id (l.take i) x=ay at hs ha ⊢;have happ:=fun (A:ae) d rest (es:List Int) (hes:es.length≤202) (y:Int)=>jE (α:=Int) (A:=A) (d:=d) 3 1 8 905 (l:=es.length) (es:=es) (ys:=[y]) (rest:=rest) rfl rfl (by simp) (by simp[maxLen];omega) (by simp;omega);have hap1:=fun (A:ae) d rest=>happ A d rest xs (by omega) x;have hap2:=fun (A:ae) d rest=>happ A d rest (xs++[x]) (by simp;omega) (l[i]);have hap3:=fun (A:ae) d rest=>happ A d rest xs (by omega) (l[i]);have hx2:x∉l.take (i+1):=by
   rw[zz7 hlt,zx1,not_or];refine ⟨hx,?_⟩;have:¬ l[i]=x:=by simpa using heq
   simpa using fun e=>this e.symm
  rcases hp:decide (x<l[i]) <;>cases ay
  all_goals
   have R:=u8 @hc (u8 @he (u8 @heq (u8 @hp (u8 @hw (u8 @hap1 (u8 @hap2 (u8 @hap3 (u8 @kT (u8 @aX (u8 @aJ @U))))))))))
   repeat' ((first |(with_reducible refine .guard (fun hb =>?_) (fun hb =>?_) <;>try simp only[hb])|refine J.aE (by decide +kernel) rfl fun K hK =>?_|(refine .ay [0,1,4,5,6,7,11,19,30,43] hK ?_;clear hK K)|(with_reducible refine .done (hK _ ?_);clear hK K)|refine J.of rfl ?_|(with_reducible refine ai.aB (fun h =>?_) (fun h =>?_) <;>try simp only[h])) <;>try simp only[aF,R,simprocAttr])
   all_goals clear R
   simp only[id,hp,zu5,Bool.not_false,Bool.and_true,Bool.and_false,if_true,zz8,if_false,Bool.or_true,Bool.or_false] at hs ha;refine ⟨i+1,⟨by omega,hx2⟩,by omega,?_⟩;simp only[hs,ha];refine az.bL ?_ ?_ ?_ ?_ <;>simp[aO,bC,bx,aZ,al,aP,b8,I.only,I.bW,ah.only,dn,gm,bh,ga]
 ·have hc:=eT hlt;have hge:i=l.length:=by omega
  subst hge;rw[zv1] at hcl hx ⊢;rw[jb,if_neg hx,←DH];generalize gV id l x=xs at hcl ⊢;have hap1:=fun (A:ae) d rest=>jE (α:=Int) (A:=A) (d:=d) 3 1 8 905 (l:=xs.length) (es:=xs) (ys:=[x]) (rest:=rest) rfl rfl (by simp) (by simp[maxLen];omega) (by simp;omega);have hfo:=fun xs:List Int=>nH (k:=xs.length) (T:=3) (es:=xs) 1 rfl rfl;cases fx id l x
  all_goals
   have R:=u8 @hc (u8 @hap1 (u8 @hfo (u8 @kT (u8 @aX (u8 @aJ @U)))))
   repeat' ((first |(with_reducible refine .guard (fun hb =>?_) (fun hb =>?_) <;>try simp only[hb])|refine J.aE (by decide +kernel) rfl fun K hK =>?_|(refine .ay [0,1,4,5,6,7,11,19,30,43] hK ?_;clear hK K)|(with_reducible refine .done (hK _ ?_);clear hK K)|refine J.of rfl ?_|(with_reducible refine ai.aB (fun h =>?_) (fun h =>?_) <;>try simp only[h])) <;>try simp only[aF,R,simprocAttr])
   all_goals clear R
def fN(l:List Int):List Int:=l.foldl jb []
theorem Re(l:List Int)(x:Int):(jb l x).length≤l.length+1:=by
 simp only[jb];split
 ·omega
 ·rw[KC];omega
theorem wE:∀ (l o:List Int),(l.foldl jb o).length≤o.length+l.length
 | [],o=>by simp
 |x::l,o=>by
  have h1:=wE l (jb o x);have h2:=Re o x;simp only[List.foldl_cons,List.length_cons];omega
theorem Aw(l:List Int)(hn:l.length≤150):aw Tryz.prog 97 [enc l] (enc (fN l)):=by
 refine aw.bj Tryz.func97 Uj Wn YI (zz0 rfl) (fun hwf W0 D0 E1 =>?_);simp only[C6,N5,bg];clear hwf;have R:=u8 @aX (u8 @aJ @U)
 repeat' ((first |(with_reducible refine .guard (fun hb =>?_) (fun hb =>?_) <;>try simp only[hb])|refine J.aE (by decide +kernel) rfl fun K hK =>?_|(refine .ay [0,2,3,4,8] hK ?_;clear hK K)|(with_reducible refine .done (hK _ ?_);clear hK K)|refine J.of rfl ?_|(with_reducible refine ai.aB (fun h =>?_) (fun h =>?_) <;>try simp only[h])) <;>try simp only[aF,R,simprocAttr])
 all_goals clear R
 refine J.loop (fun i:Nat=>ar [(0,enc l),(3,enc (fN (l.take i))),(4,.int .i64 i)] []) (fun i=>i≤l.length) (fun i=>l.length-i) 0 (zw8 _) ?_ (fun i hi =>?_)
 ·refine az.oH [] 3 (x:=.nils 1) (y:=enc ([]:List Int)) rfl (by rfl) ?_ ?_ ?_ ?_ ?_ <;>simp[cJ,aZ,aO,bC,bx,fK,aP,I.only,bh,fN]
 by_cases hlt:i<l.length
 ·have hc:=eR hlt;have he:=fun A=>eh (A:=A) 1 hlt rfl;have hw:=dX (i:=i) (by omega);have hs:fN (l.take (i+1))=jb (fN (l.take i)) l[i]:=by
   simp only[fN];rw[zz7 hlt,List.foldl_append];rfl
  have hl:=wE (l.take i) [];have hF:=PU (fN (l.take i)) l[i] (by rw[zy4] at hl;simp only[fN,zv7] at hl ⊢;omega);have R:=u8 @hc (u8 @he (u8 @hw (u8 @aX (u8 @aJ @U))))
  repeat' ((first |(with_reducible refine .guard (fun hb =>?_) (fun hb =>?_) <;>try simp only[hb])|refine J.aE (by decide +kernel) rfl fun K hK =>?_|refine .lead _ (hF) ?_|(refine .ay [0,2,3,4,8] hK ?_;clear hK K)|(with_reducible refine .done (hK _ ?_);clear hK K)|refine J.of rfl ?_|(with_reducible refine ai.aB (fun h =>?_) (fun h =>?_) <;>try simp only[h])) <;>try simp only[aF,R,simprocAttr])
  all_goals clear R
  refine ⟨i+1,by omega,by omega,?_⟩;rw[hs];refine az.bL ?_ ?_ ?_ ?_ <;>simp[aO,bC,bx,aZ,aP,I.only,bh]
 ·have hc:=eT hlt;have hge:i=l.length:=by omega
  subst hge;rw[zv1];have R:=u8 @hc (u8 @aX (u8 @aJ @U))
  repeat' ((first |(with_reducible refine .guard (fun hb =>?_) (fun hb =>?_) <;>try simp only[hb])|refine J.aE (by decide +kernel) rfl fun K hK =>?_|(refine .ay [0,2,3,4,8] hK ?_;clear hK K)|(with_reducible refine .done (hK _ ?_);clear hK K)|refine J.of rfl ?_|(with_reducible refine ai.aB (fun h =>?_) (fun h =>?_) <;>try simp only[h])) <;>try simp only[aF,R,simprocAttr])
  all_goals clear R
theorem mP(bs:List aH)(no:Int):(bY bs no=none∧pR bs no=-1)∨∃ i,∃ h:i<bs.length,bY bs no=some bs[i]∧(bs[i]).no=no∧pR bs no=(i:Int):=by
 have e:(fun b:aH=>decide (no=b.no))=fun b:aH=>decide (b.no=no):=by
  funext b;rw[Bool.eq_iff_iff];simp[eq_comm]
 have h1:=tp (bs:=bs) (no:=no);rw[List.findIdx?_map] at h1;have e2:(((fun x=>decide (no=x))∘fun b:aH=>b.no))=fun b:aH=>decide (b.no=no):=e;rw[e2] at h1;simp only[pR];cases h:bs.findIdx? fun b=>decide (b.no=no) with
 |none=>rw[h] at h1;exact .inl ⟨h1,rfl⟩
 |some i =>
  rw[h] at h1;obtain ⟨hi,g1,g2⟩:=h1;exact .inr ⟨i,hi,g1,g2,rfl⟩
def ef(bs:List aH)(x:ao):List aH×Bool:=match dz fw bs x with
 |some bs'=>(bs',true)
 |none=>(bs,false)
theorem vz(a b c d e f g:Int):eP [.int .i64 0,.int .i64 0,.int .i64 0,.int .i64 0,.int .i64 0,.int .i64 0,.int .i64 0,.bool false,.nils 6] [(0,.int .i64 a),(1,.int .i64 b),(2,.int .i64 c),(3,.int .i64 d),(4,.int .i64 e),(5,.int .i64 f),(6,.int .i64 g)] =
  some [.int .i64 a,.int .i64 b,.int .i64 c,.int .i64 d,.int .i64 e,.int .i64 f,.int .i64 g,.bool false,.nils 6]:=by simp[eP,I.cu,I.size]
theorem aaR(aD:Bool)(A:ae)(x:ao):bl aD A (.agg [.int .i64 x.db,.int .i64 x.eJ,.int .i64 x.dY,.int .i64 x.bX,.int .i64 x.bX,.int .i64 x.day,.int .i64 (-1),.bool false,.nils 6])=some (enc (fu x)):=by
 simp[bl,b7];rfl
theorem sW{a b:Int}(h:a=b):(a==b)=true:=by simp[h]
theorem ib{a b:Int}(h:¬ a=b):(a==b)=false:=by simp[h]
theorem PJ(bs:List aH)(x:ao)(hn:bs.length≤99)(hk:x.kind=1∨x.kind=2)(hd:0≤x.dY):aw Tryz.prog 132 [enc bs,enc x] (.tuple [enc (ef bs x).1,enc (ef bs x).2]):=by
 have hk3:∀ n:Int,n≠1→n≠2→(x.kind==n)=false:=fun n h1 h2=>ib (by omega);have hk0:=hk;refine aw.bj Tryz.func132 pD pF pI (zz0 rfl) (fun hwf W0 D0 E1 =>?_);simp only[oD,oS,bg,zz3];clear hwf;have hF1:=mB bs x.db;have hF2:=mB bs x.dY;have hF3:=Qg bs (fu x) (by omega);have hfn:=fun (aD:Bool) A=>aaR aD A x;have hg1:decide ((0:Int)≤-1)=false:=rfl;have hg2:decide ((-1:Int)<0)=true:=rfl;rcases h1:(x.kind==1) <;>rcases h2:(x.kind==2)
 ·exfalso;simp at h1 h2;omega
 case true.true=>exfalso;simp at h1 h2;omega
 all_goals
  rcases mP bs x.db with ⟨g1,e1⟩ | ⟨i,hi,g1,-,e1⟩
  case inr =>
   rw[e1] at hF1;have ht:ef bs x=(bs,false):=by simp[ef,dz,hk,g1]
   rw[ht];have R:=u8 @h1 (u8 @h2 (u8 @aJ (u8 @aX (u8 @cD @U))))
   repeat' ((first |(with_reducible refine .guard (fun hb =>?_) (fun hb =>?_) <;>try simp only[hb])|refine J.aE (by decide +kernel) rfl fun K hK =>?_|refine .flat _ (hF1) rfl ?_|(refine .ay [0,1,3,4,5,6,7,8,9,10,22,24,28,62,81,88,89,105,110,121,127,131] hK ?_;clear hK K)|(with_reducible refine .done (hK _ ?_);clear hK K)|refine J.of rfl ?_|(with_reducible refine ai.aB (fun h =>?_) (fun h =>?_) <;>try simp only[h])) <;>try simp only[aF,R,decide_true,Nat.reduceEqDiff,reduceIte,Nat.reduceBEq])
   all_goals clear R
  rw[e1] at hF1;by_cases hd0:x.dY=0
  ·have hq:(x.dY != 0)=false:=by simp[hd0]
   have ht:ef bs x=(fw bs (fu x),true):=by simp[ef,dz,hk,g1,fy,hd0]
   rw[ht];have R:=u8 @h1 (u8 @h2 (u8 @hg1 (u8 @hq (u8 @hfn (u8 @vz (u8 @aJ (u8 @aX (u8 @cD @U))))))))
   repeat' ((first |(with_reducible refine .guard (fun hb =>?_) (fun hb =>?_) <;>try simp only[hb])|refine J.aE (by decide +kernel) rfl fun K hK =>?_|refine .flat _ (hF1) rfl ?_|refine .lead _ (hF3) ?_|(refine .ay [0,1,3,4,5,6,7,8,9,10,22,24,28,62,81,88,89,105,110,121,127,131] hK ?_;clear hK K)|(with_reducible refine .done (hK _ ?_);clear hK K)|refine J.of rfl ?_|(with_reducible refine ai.aB (fun h =>?_) (fun h =>?_) <;>try simp only[h])) <;>try simp only[aF,R,Nat.reduceEqDiff,reduceIte,Nat.reduceBEq])
   all_goals clear R
  ·have hq:(x.dY != 0)=true:=by simpa using hd0
   have hq2:¬ x.dY≤0:=by omega
   rcases mP bs x.dY with ⟨g2,e2⟩ | ⟨k,hk2,g2,-,e2⟩
   ·rw[e2] at hF2;have ht:ef bs x=(bs,false):=by simp[ef,dz,hk,g1,fy,g2,hq2]
    rw[ht];have R:=u8 @h1 (u8 @h2 (u8 @hg1 (u8 @hg2 (u8 @hq (u8 @aJ (u8 @aX (u8 @cD @U)))))))
    repeat' ((first |(with_reducible refine .guard (fun hb =>?_) (fun hb =>?_) <;>try simp only[hb])|refine J.aE (by decide +kernel) rfl fun K hK =>?_|refine .flat _ (hF1) rfl ?_|refine .flat _ (hF2) rfl ?_|(refine .ay [0,1,3,4,5,6,7,8,9,10,22,24,28,62,81,88,89,105,110,121,127,131] hK ?_;clear hK K)|(with_reducible refine .done (hK _ ?_);clear hK K)|refine J.of rfl ?_|(with_reducible refine ai.aB (fun h =>?_) (fun h =>?_) <;>try simp only[h])) <;>try simp only[aF,R,Nat.reduceEqDiff,reduceIte,Nat.reduceBEq])
    all_goals clear R
   ·rw[e2] at hF2;have hg3:decide ((k:Int)<0)=false:=by simp
    have he:=fun A=>eh (A:=A) 9 hk2 rfl;rcases q1:((bs[k]).eJ != x.eJ)
    case true =>
     have ht:ef bs x=(bs,false):=by
      have q1':¬ (bs[k]).eJ=x.eJ:=by simpa using q1
      simp[ef,dz,hk,g1,fy,g2,hq2,q1']
     rw[ht];have R:=u8 @h1 (u8 @h2 (u8 @hg1 (u8 @hg3 (u8 @hq (u8 @he (u8 @q1 (u8 @aJ (u8 @fU (u8 @aX (u8 @cD @U))))))))))
     repeat' ((first |(with_reducible refine .guard (fun hb =>?_) (fun hb =>?_) <;>try simp only[hb])|refine J.aE (by decide +kernel) rfl fun K hK =>?_|refine .flat _ (hF1) rfl ?_|refine .flat _ (hF2) rfl ?_|(refine .ay [0,1,3,4,5,6,7,8,9,10,22,24,28,62,81,88,89,105,110,121,127,131] hK ?_;clear hK K)|(with_reducible refine .done (hK _ ?_);clear hK K)|refine J.of rfl ?_|(with_reducible refine ai.aB (fun h =>?_) (fun h =>?_) <;>try simp only[h])) <;>try simp only[aF,R,Nat.reduceEqDiff,reduceIte,Nat.reduceBEq])
     all_goals clear R
    have q1':(bs[k]).eJ=x.eJ:=by simpa using q1
    rcases q2:decide (0≤(bs[k]).dH)
    case false =>
     have ht:ef bs x=(fw bs (fu x),true):=by
      have q2':¬ 0≤(bs[k]).dH:=by simpa using q2
      simp[ef,dz,hk,g1,fy,g2,hq2,q1',q2']
     rw[ht];have R:=u8 @h1 (u8 @h2 (u8 @hg1 (u8 @hg3 (u8 @hq (u8 @he (u8 @q1 (u8 @q2 (u8 @hfn (u8 @vz (u8 @aJ (u8 @fU (u8 @aX (u8 @cD @U)))))))))))))
     repeat' ((first |(with_reducible refine .guard (fun hb =>?_) (fun hb =>?_) <;>try simp only[hb])|refine J.aE (by decide +kernel) rfl fun K hK =>?_|refine .flat _ (hF1) rfl ?_|refine .flat _ (hF2) rfl ?_|refine .lead _ (hF3) ?_|(refine .ay [0,1,3,4,5,6,7,8,9,10,22,24,28,62,81,88,89,105,110,121,127,131] hK ?_;clear hK K)|(with_reducible refine .done (hK _ ?_);clear hK K)|refine J.of rfl ?_|(with_reducible refine ai.aB (fun h =>?_) (fun h =>?_) <;>try simp only[h])) <;>try simp only[aF,R,Nat.reduceEqDiff,reduceIte,Nat.reduceBEq])
     all_goals clear R
    have q2':0≤(bs[k]).dH:=by simpa using q2
    rcases q3:decide ((bs[k]).dH<x.day)
    ·have ht:ef bs x=(fw bs (fu x),true):=by
      have q3':¬ (bs[k]).dH<x.day:=by simpa using q3
      simp[ef,dz,hk,g1,fy,g2,hq2,q1',q2',q3']
     rw[ht];have R:=u8 @h1 (u8 @h2 (u8 @hg1 (u8 @hg3 (u8 @hq (u8 @he (u8 @q1 (u8 @q2 (u8 @q3 (u8 @hfn (u8 @vz (u8 @aJ (u8 @fU (u8 @aX (u8 @cD @U))))))))))))))
     repeat' ((first |(with_reducible refine .guard (fun hb =>?_) (fun hb =>?_) <;>try simp only[hb])|refine J.aE (by decide +kernel) rfl fun K hK =>?_|refine .flat _ (hF1) rfl ?_|refine .flat _ (hF2) rfl ?_|refine .lead _ (hF3) ?_|(refine .ay [0,1,3,4,5,6,7,8,9,10,22,24,28,62,81,88,89,105,110,121,127,131] hK ?_;clear hK K)|(with_reducible refine .done (hK _ ?_);clear hK K)|refine J.of rfl ?_|(with_reducible refine ai.aB (fun h =>?_) (fun h =>?_) <;>try simp only[h])) <;>try simp only[aF,R,Nat.reduceEqDiff,reduceIte,Nat.reduceBEq])
     all_goals clear R
    ·have ht:ef bs x=(bs,false):=by
      have q3':(bs[k]).dH<x.day:=by simpa using q3
      simp[ef,dz,hk,g1,fy,g2,hq2,q1',q2',q3']
     rw[ht];have R:=u8 @h1 (u8 @h2 (u8 @hg1 (u8 @hg3 (u8 @hq (u8 @he (u8 @q1 (u8 @q2 (u8 @q3 (u8 @aJ (u8 @fU (u8 @aX (u8 @cD @U))))))))))))
     repeat' ((first |(with_reducible refine .guard (fun hb =>?_) (fun hb =>?_) <;>try simp only[hb])|refine J.aE (by decide +kernel) rfl fun K hK =>?_|refine .flat _ (hF1) rfl ?_|refine .flat _ (hF2) rfl ?_|(refine .ay [0,1,3,4,5,6,7,8,9,10,22,24,28,62,81,88,89,105,110,121,127,131] hK ?_;clear hK K)|(with_reducible refine .done (hK _ ?_);clear hK K)|refine J.of rfl ?_|(with_reducible refine ai.aB (fun h =>?_) (fun h =>?_) <;>try simp only[h])) <;>try simp only[aF,R,Nat.reduceEqDiff,reduceIte,Nat.reduceBEq])
     all_goals clear R
section
variable {α:Type} [Enc α] {P:Program} {hs:List FuncId} {Y:Value→List I→List (Nat×ah)→cR→Prop} {K:ae→Prop} {A:ae} {rest:List aG} {d:Nat} {e esz bytes:Nat} {q:Nat}
theorem AK(z:I){l:List α}(hsz:Enc.sz α=esz)(hl:l≠[])(hf:A.o d=none)(hb:l.length*bytes≤140737488355328)(hml:l.length≤maxLen) :
  ∃ p:Nat→Prop,fR A (some d) e esz bytes z (enc l) rest (.c0 q)=.any p fun m=>aC rest ((A.aR d (.box (.agg (l.map enc++List.replicate m z)))).aS (some d) (.view d [] esz 0 l.length)):=by
 have hne:l.map (enc (α:=α))≠[]:=by simpa using hl
 have h1:eE A esz (.c0 q)=some []:=rfl;refine ⟨fun m=>l.length+m≤maxLen,?_⟩;simp only[fR,h1,qu A esz l hsz,fj,if_neg hne,gL,hf,zv7,zz3,zy3,if_pos (u8 hb hml),zy5]
theorem br.sB(z:I){l:List α}(hsz:Enc.sz α=esz)(hl:l≠[])(hf:A.o d=none)(hb:l.length*bytes≤140737488355328)(hml:l.length≤maxLen)
  (h:∀ m,br P Y false K (aC rest ((A.aR d (.box (.agg (l.map enc++List.replicate m z)))).aS (some d) (.view d [] esz 0 l.length)))):br P Y false K (fR A (some d) e esz bytes z (enc l) rest (.c0 q)):=by
 obtain ⟨p,h1⟩:=AK (rest:=rest) (e:=e) (q:=q) z hsz hl hf hb hml;rw[h1];exact .any rfl fun m _=>h m
theorem cj.oz(z:α){l:List α}(hsz:Enc.sz α=esz)(hl:l≠[])(hf:A.o d=none)(hb:l.length*bytes≤140737488355328)(hml:l.length≤maxLen)
  (h:∀ m,cj P hs K (aC rest ((A.aR d (.box (.agg ((l++List.replicate m z).map enc)))).aS (some d) (.view d [] esz 0 l.length)))):cj P hs K (fR A (some d) e esz bytes (enc z) (enc l) rest (.c0 q)):=by
 obtain ⟨p,h1⟩:=AK (rest:=rest) (e:=e) (q:=q) (enc z) hsz hl hf hb hml;rw[h1];refine .any fun m _ =>?_;have:=h m;simp only[zx4,List.map_replicate] at this;exact this
theorem cj.vp(z:α)(hsz:Enc.sz α=esz){n l:Nat}{xs ys:List α}(hy:ys≠[])(ho:A.o n=some (.box (.agg (xs.map enc))))(hl:l≤xs.length)(hr:xs.length<l+ys.length)(hf:A.o d=none)(hb:(l+ys.length)*bytes≤140737488355328)(hml:l+ys.length≤maxLen)
  (h:∀ q,cj P hs K (aC rest ((A.aR d (.box (.agg ((xs.take l++(ys++List.replicate q z)).map enc)))).aS (some d) (.view d [] esz 0 (l+ys.length))))):cj P hs K (fR A (some d) e esz bytes (enc z) (enc ys) rest (.view n [] esz 0 l)):=by
 have h1:=qv (A:=A) (esz:=esz) (lo:=0) (k:=l) ho (by omega);have h2:(I.agg (xs.map (enc (α:=α)))).at []=some (.agg (xs.map enc)):=rfl;have h4:(xs.take l).length=l:=by rw[zy4];omega
 simp only[fR,h1,List.drop_zero,qu A esz ys hsz,fj];rw[if_neg (by simpa using hy)];simp only[ho,h2,zy3,zz3];rw[if_neg (by omega)];simp only[gL,hf,zy3,h4];rw[if_pos ⟨hb,hml⟩];refine .any fun q _ =>?_;have:=h q;simp only[zx4,List.map_replicate] at this;exact this
theorem aaJ{A:ae}{m n k:Nat}{ys q:List α}(ho:A.o n=some (.box (.agg ((ys++q).map enc))))(hsz:Enc.sz α=esz)(hk:k=ys.length):dD A (m+1) (.view n [] esz 0 k)=some (enc ys):=by
 subst hk hsz;have h1:cC A (.ptr n [])=some (.agg ((ys++q).map enc)):=by simp only[cC,ho];rfl
 simp only[dD,I.bu,zz8,if_false,h1];have h2:(((ys++q).map (enc (α:=α))).drop 0).take ys.length=ys.map enc:=by
  rw[List.drop_zero,zx4,zx3 (by simp),zw1 (by simp)]
 rw[h2,if_pos (jZ ys),gB]
end
theorem o9{A:ae}{n:Nat}{w:I}{b:aH}{rest:List aG} : dx A (some 9) n [] w (enc b) rest (some (.agg [.int .i64 0,.int .i64 0,.int .i64 0,.int .i64 0,.int .i64 0,.int .i64 0,.int .i64 0,.bool false,.nils 6]))=aC rest (A.aR n (.box (enc b))):=by
 refine (eF (s:=some 9) (dO _) (by rw[gq];rfl) (eL b)).trans ?_;rw[iw]
theorem rX :
  (∀ (A:ae) n (b:aH) (v u:Int) rest,dx A none n [3] (enc b) (.int .i64 v) rest (some (.int .i64 u))=aC rest (A.aR n (.box (enc { b with bX:=v })))) ∧
  (∀ (A:ae) n (b:aH) (v u:Int) rest,dx A none n [6] (enc b) (.int .i64 v) rest (some (.int .i64 u))=aC rest (A.aR n (.box (enc { b with dH:=v })))) ∧
  (∀ (A:ae) n (b:aH) (v u:Bool) rest,dx A none n [7] (enc b) (.bool v) rest (some (.bool u))=aC rest (A.aR n (.box (enc { b with found:=v })))) :=
 ⟨fun _ _ _ v u _=>by rw[eF (s:=none) (v:=.int .i64 v) (old:=.int .i64 u) rfl rfl rfl];rfl,fun _ _ _ v u _=>by rw[eF (s:=none) (v:=.int .i64 v) (old:=.int .i64 u) rfl rfl rfl];rfl,
  fun _ _ _ v u _=>by rw[eF (s:=none) (v:=.bool v) (old:=.bool u) rfl rfl rfl];rfl⟩
theorem qX{α:Type}[Enc α]{xs:List α}{R:List I}{sz k:Nat}(hsz:Enc.sz α=sz)(hk:k=xs.length):j6 sz 0 k (some (xs.map enc++R))=some (enc xs):=by
 subst hk hsz;have h:((xs.map (enc (α:=α))++R).drop 0).take xs.length=xs.map enc:=by
  rw[List.drop_zero,zx3 (by simp),zw1 (by simp)]
 simp only[j6,h];rw[if_pos (jZ xs),gB]
theorem sF{α:Type}[Enc α]{xs:List α}{R:List I}{i:Nat}(hi:i<xs.length):jG i [] (some (xs.map enc++R))=some (enc xs[i]):=by
 simp[jG,oA,hi,zx0,I.at]
theorem uQ{A:ae}{n i:Nat}{xs:List aH}{R:List I}{v u:aH}{rest:List aG}(hi:i<xs.length):dx A (some 9) n [i] (.agg (xs.map enc++R)) (enc v) rest (some (enc u))=aC rest (A.aR n (.box (.agg ((xs.set i v).map enc++R)))):=by
 rw[eF (s:=some 9) (dO v) (by rw[gq];rfl) ((eL v).trans (eL u).symm)];have h2:(xs.map (enc (α:=aH))++R)[i]?=some (enc xs[i]):=by simp[hi,zx0]
 simp only[I.dQ,h2];rw[List.set_append_left _ _ (by simpa using hi),List.map_set]
theorem ap5(p:Nat→Bool)(l:List (bG 6 Int)):(I.agg (l.map enc)).only p=true:=by simp only[I.only];exact dn p l
def ny(b:aH)(s:I):I:=.agg [.int .i64 b.no,.int .i64 b.eJ,.int .i64 b.dY,.int .i64 b.bX,.int .i64 b.jH,.int .i64 b.born,.int .i64 b.dH,.bool b.found,s]
theorem zK{A:ae}{n m p z lo k:_}{b:aH}{rest:List aG} : dx A none n [8] (enc b) (.view m p z lo k) rest (some (enc b.bH))=aC rest (A.aR n (.box (ny b (.view m p z lo k)))):=by
 rw[eF (s:=none) (v:=.view m p z lo k) (old:=enc b.bH) rfl rfl (eL b.bH).symm];rfl
theorem aaI{A:ae}{m N k:Nat}{b:aH}{xs q:List (bG 6 Int)}(ho:A.o N=some (.box (.agg ((xs++q).map enc))))(hk:k=xs.length):dD A (m+2) (ny b (.view N [] 6 0 k))=some (enc ({ b with bH:=xs } : aH)):=by
 have h1:=aaJ (m:=m) (esz:=6) ho rfl hk;have hi:∀ (k:IntKind) (v:Int),dD A (m+1) (.int k v)=some (.int k v):=fun _ _=>by simp[dD,I.bu]
 have hb:∀ v:Bool,dD A (m+1) (.bool v)=some (.bool v):=fun _=>by simp[dD,I.bu]
 rw[ny,dD];simp only[I.bu,I.b6,Bool.and_false,Bool.and_true,zz8,if_false,fT,hi,hb,h1,zy7];rfl
theorem wH{ts:List (Nat×I)}{os:List (Nat×ah)}{N k:Nat}{b:aH}{xs q:List (bG 6 Int)}{bs:List aH}{i:Nat}(h9:Abs.bQ ts 9=.ptr 9 [])(ho9:ak os 9=some (.box (ny b (.view N [] 6 0 k))))(hoN:ak os N=some (.box (.agg ((xs++q).map enc))))(hk:k=xs.length)
  (h0:Abs.bQ ts 0=enc bs) (h6:Abs.bQ ts 6=.int .i64 i) (hN:N≠9) (ho:aZ (fun n => ![9,N].contains n) (cJ [9,N] os)):az (ar ts os) (ar [(0,enc bs),(6,.int .i64 i),(9,.ref (enc ({ b with bH:=xs } : aH)))] []):=by
 have hk9:ak (gh [9,N] os) 9=some (.box (ny b (.view N [] 6 0 k))):=by rw[l7];simpa using ho9
 have hkN:ak (gh [9,N] os) N=some (.box (.agg ((xs++q).map enc))):=by rw[l7];simpa using hoN
 have hf:bl true (ar ts (gh [9,N] os)) (.ptr 9 [])=some (.ref (enc ({ b with bH:=xs } : aH))):=by
  have h1:=aaI (A:=ar ts (gh [9,N] os)) (m:=7) (b:=b) hkN hk;have hd:cC (ar ts (gh [9,N] os)) (.ptr 9 [])=some (ny b (.view N [] 6 0 k)):=by
   simp only[cC,ar,hk9];exact nv _
  have hc:(ny b (.view N [] 6 0 k)).bu=false:=by simp[ny,I.bu,I.b6]
  simp only[bl,if_true,hd,hc,zz8,if_false,h1,zy7]
 refine (az.gY [9,N] 9 h9 hf ho).trans (az.bL ?_ trivial ?_ trivial)
 ·have hfg:∀ t,Abs.bQ (fK [9,N] ts) t=if (Abs.bQ ts t).only (fun j => ![9,N].contains j)=true then Abs.bQ ts t else .dg:=Ev _ ts
  simp[aO,aP,hfg,h0,h6,bh,I.only]
 ·simp[bx,bh,I.only]
theorem sE{bs:List aH}{x:ao}(hd:(bs.map (·.no)).Nodup)(hk:¬ (x.kind=1∨x.kind=2)){i:Nat}(hi:i<bs.length)(hg:bY bs x.db=some bs[i]){b:aH}(ht:fP bs[i] x=some b)(hno:b.no=(bs[i]).no):ef bs x=(bs.set i b,true):=by
 simp only[ef,dz,if_neg hk,hg,ht,zy7,OF hd hi hno]
theorem RG{bs:List aH}{x:ao}(hk:¬ (x.kind=1∨x.kind=2))(hg:bY bs x.db=none):ef bs x=(bs,false):=by
 simp only[ef,dz,if_neg hk,hg]
theorem AO{bs:List aH}{x:ao}(hk:¬ (x.kind=1∨x.kind=2)){b:aH}(hg:bY bs x.db=some b)(ht:fP b x=none):ef bs x=(bs,false):=by
 simp only[ef,dz,if_neg hk,hg,ht,zu4]
theorem sa(bs:List aH)(x:ao)(hk:3≤x.kind)(hg:bY bs x.db=none):aw Tryz.prog 132 [enc bs,enc x] (.tuple [enc (ef bs x).1,enc (ef bs x).2]):=by
 refine aw.bj Tryz.func132 pD pF pI (zz0 rfl) (fun hwf W0 D0 E1 =>?_);simp only[oD,oS,bg,zz3];clear hwf;have hk12:¬ (x.kind=1∨x.kind=2):=by omega
 have hk1:(x.kind==1)=false:=ib (by omega);have hk2:(x.kind==2)=false:=ib (by omega);have hF1:=mB bs x.db;have hg2:decide ((-1:Int)<0)=true:=rfl;rcases mP bs x.db with ⟨g1,e1⟩ | ⟨i,hi,g1,-,e1⟩
 ·rw[e1] at hF1;rw[RG hk12 g1];have R:=u8 @hk1 (u8 @hk2 (u8 @hg2 (u8 @aJ (u8 @aX (u8 @cD @U)))))
  repeat' ((first |(with_reducible refine .guard (fun hb =>?_) (fun hb =>?_) <;>try simp only[hb])|refine J.aE (by decide +kernel) rfl fun K hK =>?_|refine .flat _ (hF1) rfl ?_|(refine .ay [0,1,3,4,5,6,7,8,9,10,22,24,28,62,81,88,89,105,110,121,127,131] hK ?_;clear hK K)|(with_reducible refine .done (hK _ ?_);clear hK K)|refine J.of rfl ?_|(with_reducible refine ai.aB (fun h =>?_) (fun h =>?_) <;>try simp only[h])) <;>try simp only[aF,R,Nat.reduceEqDiff,reduceIte,Nat.reduceBEq])
  all_goals clear R
 ·rw[g1] at hg;cases hg
theorem PK(bs:List aH)(x:ao)(hn:bs.length≤99)(hd:(bs.map (·.no)).Nodup)(hk:x.kind=3):aw Tryz.prog 132 [enc bs,enc x] (.tuple [enc (ef bs x).1,enc (ef bs x).2]):=by
 cases hg0:bY bs x.db with
 |none=>exact sa bs x (by omega) hg0
 |some b0 =>
 refine aw.bj Tryz.func132 pD pF pI (zz0 rfl) (fun hwf W0 D0 E1 =>?_);simp only[oD,oS,bg,zz3];clear hwf;have hk12:¬ (x.kind=1∨x.kind=2):=by omega
 have hk1:(x.kind==1)=false:=ib (by omega);have hk2:(x.kind==2)=false:=ib (by omega);have hF1:=mB bs x.db;have hg2:decide ((-1:Int)<0)=true:=rfl;have hk3:(x.kind==3)=true:=sW hk;rcases mP bs x.db with ⟨g1,e1⟩ | ⟨i,hi,g1,gno,e1⟩
 ·rw[g1] at hg0;cases hg0
 rw[e1] at hF1;have hg3:decide ((i:Int)<0)=false:=by simp
 have he:=fun A=>eh (A:=A) 9 hi rfl;obtain ⟨b,hb0⟩:∃ b,b=bs[i]:=⟨_,rfl⟩
 have hne:bs≠[]:=fun e=>by rw[e] at hi;simp at hi
 rw[←hb0] at he g1 gno;by_cases hv:fP b x=none
 ·rw[AO hk12 g1 hv];have hv2:0≤b.dH∨b.bX=0∨b.bX=x.bX:=by
   simp only[fP,hk,if_true] at hv;split at hv
   ·assumption
   ·cases hv
  rcases q1:decide (0≤b.dH) <;>rcases q2:(b.bX==0) <;>rcases q3:(b.bX==x.bX)
  ·simp at q1 q2 q3;omega
  all_goals
   have R:=u8 @hk1 (u8 @hk2 (u8 @hk3 (u8 @hg3 (u8 @he (u8 @q1 (u8 @q2 (u8 @q3 (u8 @o9 (u8 @aJ (u8 @fU (u8 @aX (u8 @cK (u8 @cD @U)))))))))))))
   repeat' ((first |(with_reducible refine .guard (fun hb =>?_) (fun hb =>?_) <;>try simp only[hb])|refine J.aE (by decide +kernel) rfl fun K hK =>?_|refine .flat _ (hF1) rfl ?_|(refine .ay [0,1,3,4,5,6,7,8,9,10,22,24,28,62,81,88,89,105,110,121,127,131] hK ?_;clear hK K)|(with_reducible refine .done (hK _ ?_);clear hK K)|refine J.of rfl ?_|(with_reducible refine ai.aB (fun h =>?_) (fun h =>?_) <;>try simp only[h])) <;>try simp only[aF,R,Nat.reduceEqDiff,reduceIte,Nat.reduceBEq])
   all_goals clear R
 ·have hv2:¬ (0≤b.dH∨b.bX=0∨b.bX=x.bX):=by
   simp only[fP,hk,if_true] at hv;split at hv
   ·exact absurd rfl hv
   ·assumption
  have ht:fP b x=some { b with bX:=x.bX } :=by
   simp only[fP,hk,if_true];rw[if_neg hv2]
  rw[sE hd hk12 hi (by rw[g1,hb0]) (b := { b with bX:=x.bX }) (by rw[←hb0];exact ht) (by rw[←hb0])];have q1:decide (0≤b.dH)=false:=by simp;omega
  have q2:(b.bX==0)=false:=ib (by omega);have q3:(b.bX==x.bX)=false:=ib (by omega);have R:=u8 @hk1 (u8 @hk2 (u8 @hk3 (u8 @hg3 (u8 @he (u8 @q1 (u8 @q2 (u8 @q3 (u8 @o9 (u8 @rX (u8 @aJ (u8 @fU (u8 @aX (u8 @cK (u8 @cD @U))))))))))))))
  repeat' ((first |(with_reducible refine .guard (fun hb =>?_) (fun hb =>?_) <;>try simp only[hb])|refine J.aE (by decide +kernel) rfl fun K hK =>?_|refine .flat _ (hF1) rfl ?_|(refine .ay [0,1,3,4,5,6,7,8,9,10,22,24,28,62,81,88,89,105,110,121,127,131] hK ?_;clear hK K)|(with_reducible refine .done (hK _ ?_);clear hK K)|refine J.of rfl ?_|(with_reducible refine ai.aB (fun h =>?_) (fun h =>?_) <;>try simp only[h])) <;>try simp only[aF,R,Nat.reduceEqDiff,reduceIte,Nat.reduceBEq])
  all_goals clear R
  refine br.sB _ rfl hne rfl (by omega) (by simp only[maxLen];omega) fun mm =>?_;obtain ⟨R,hR⟩:∃ R,R=List.replicate mm (I.agg [.int .i64 0,.int .i64 0,.int .i64 0,.int .i64 0,.int .i64 0,.int .i64 0,.int .i64 0,.bool false,.nils 6]):=⟨_,rfl⟩
  rw[←hR];have hv:∀ fs,jn 138 [] 9 0 bs.length 9 (i:Int) (some fs)=some (.ptr 138 [i]):=fun fs=>by
   have:=nT (m:=138) (sz:=9) (lo:=0) (l:=bs.length) (i:=i) (fs:=fs) hi
   rwa [zz3] at this
  have hat:=sF (R:=R) hi;have hst:=fun (A:ae) v u rest=>uQ (A:=A) (n:=138) (R:=R) (v:=v) (u:=u) (rest:=rest) hi;have hfv:=fun v:aH=>qX (xs:=bs.set i v) (R:=R) (k:=bs.length) (sz:=9) rfl (by simp)
  try simp only[U,Nat.reduceEqDiff,reduceIte]
  have R:=u8 @hv (u8 @hat (u8 @hst (u8 @hfv (u8 @cK (u8 @aJ (u8 @aX (u8 @cD @U)))))))
  repeat' ((first |(with_reducible refine .guard (fun hb =>?_) (fun hb =>?_) <;>try simp only[hb])|refine J.aE (by decide +kernel) rfl fun K hK =>?_|(refine .ay [0,1,3,4,5,6,7,8,9,10,22,24,28,62,81,88,89,105,110,121,127,131] hK ?_;clear hK K)|(with_reducible refine .done (hK _ ?_);clear hK K)|refine J.of rfl ?_|(with_reducible refine ai.aB (fun h =>?_) (fun h =>?_) <;>try simp only[h])) <;>try simp only[aF,R,Nat.reduceEqDiff,reduceIte,Nat.reduceBEq])
  all_goals clear R
theorem PM(bs:List aH)(x:ao)(hn:bs.length≤99)(hd:(bs.map (·.no)).Nodup)(hk:x.kind=5):aw Tryz.prog 132 [enc bs,enc x] (.tuple [enc (ef bs x).1,enc (ef bs x).2]):=by
 cases hg0:bY bs x.db with
 |none=>exact sa bs x (by omega) hg0
 |some b0 =>
 refine aw.bj Tryz.func132 pD pF pI (zz0 rfl) (fun hwf W0 D0 E1 =>?_);simp only[oD,oS,bg,zz3];clear hwf;have hk12:¬ (x.kind=1∨x.kind=2):=by omega
 have hk1:(x.kind==1)=false:=ib (by omega);have hk2:(x.kind==2)=false:=ib (by omega);have hF1:=mB bs x.db;have hg2:decide ((-1:Int)<0)=true:=rfl;have hk3:(x.kind==3)=false:=ib (by omega);have hk4:(x.kind==4)=false:=ib (by omega);have hk5:(x.kind==5)=true:=sW hk;rcases mP bs x.db with ⟨g1,e1⟩ | ⟨i,hi,g1,gno,e1⟩
 ·rw[g1] at hg0;cases hg0
 rw[e1] at hF1;have hg3:decide ((i:Int)<0)=false:=by simp
 have he:=fun A=>eh (A:=A) 9 hi rfl;obtain ⟨b,hb0⟩:∃ b,b=bs[i]:=⟨_,rfl⟩
 have hne:bs≠[]:=fun e=>by rw[e] at hi;simp at hi
 rw[←hb0] at he g1 gno;have ht:fP b x=some { b with bX:=x.bX,found:=true } :=by simp[fP,hk]
 rw[sE hd hk12 hi (by rw[g1,hb0]) (b := { b with bX:=x.bX,found:=true }) (by rw[←hb0];exact ht) (by rw[←hb0])];have R:=u8 @hk1 (u8 @hk2 (u8 @hk3 (u8 @hk4 (u8 @hk5 (u8 @hg3 (u8 @he (u8 @o9 (u8 @rX (u8 @aJ (u8 @fU (u8 @aX (u8 @cK (u8 @cD @U)))))))))))))
 repeat' ((first |(with_reducible refine .guard (fun hb =>?_) (fun hb =>?_) <;>try simp only[hb])|refine J.aE (by decide +kernel) rfl fun K hK =>?_|refine .flat _ (hF1) rfl ?_|(refine .ay [0,1,3,4,5,6,7,8,9,10,22,24,28,62,81,88,89,105,110,121,127,131] hK ?_;clear hK K)|(with_reducible refine .done (hK _ ?_);clear hK K)|refine J.of rfl ?_|(with_reducible refine ai.aB (fun h =>?_) (fun h =>?_) <;>try simp only[h])) <;>try simp only[aF,R,Nat.reduceEqDiff,reduceIte,Nat.reduceBEq])
 all_goals clear R
 refine br.sB _ rfl hne rfl (by omega) (by simp only[maxLen];omega) fun mm =>?_;obtain ⟨R,hR⟩:∃ R,R=List.replicate mm (I.agg [.int .i64 0,.int .i64 0,.int .i64 0,.int .i64 0,.int .i64 0,.int .i64 0,.int .i64 0,.bool false,.nils 6]):=⟨_,rfl⟩
 rw[←hR];have hv:∀ fs,jn 138 [] 9 0 bs.length 9 (i:Int) (some fs)=some (.ptr 138 [i]):=fun fs=>by
  have:=nT (m:=138) (sz:=9) (lo:=0) (l:=bs.length) (i:=i) (fs:=fs) hi
  rwa [zz3] at this
 have hat:=sF (R:=R) hi;have hst:=fun (A:ae) v u rest=>uQ (A:=A) (n:=138) (R:=R) (v:=v) (u:=u) (rest:=rest) hi;have hfv:=fun v:aH=>qX (xs:=bs.set i v) (R:=R) (k:=bs.length) (sz:=9) rfl (by simp)
 try simp only[U,Nat.reduceEqDiff,reduceIte]
 have R:=u8 @hv (u8 @hat (u8 @hst (u8 @hfv (u8 @cK (u8 @aJ (u8 @aX (u8 @cD @U)))))))
 repeat' ((first |(with_reducible refine .guard (fun hb =>?_) (fun hb =>?_) <;>try simp only[hb])|refine J.aE (by decide +kernel) rfl fun K hK =>?_|(refine .ay [0,1,3,4,5,6,7,8,9,10,22,24,28,62,81,88,89,105,110,121,127,131] hK ?_;clear hK K)|(with_reducible refine .done (hK _ ?_);clear hK K)|refine J.of rfl ?_|(with_reducible refine ai.aB (fun h =>?_) (fun h =>?_) <;>try simp only[h])) <;>try simp only[aF,R,Nat.reduceEqDiff,reduceIte,Nat.reduceBEq])
 all_goals clear R
theorem PN(bs:List aH)(x:ao)(hn:bs.length≤99)(hd:(bs.map (·.no)).Nodup)(hk:x.kind=6):aw Tryz.prog 132 [enc bs,enc x] (.tuple [enc (ef bs x).1,enc (ef bs x).2]):=by
 cases hg0:bY bs x.db with
 |none=>exact sa bs x (by omega) hg0
 |some b0 =>
 refine aw.bj Tryz.func132 pD pF pI (zz0 rfl) (fun hwf W0 D0 E1 =>?_);simp only[oD,oS,bg,zz3];clear hwf;have hk12:¬ (x.kind=1∨x.kind=2):=by omega
 have hk1:(x.kind==1)=false:=ib (by omega);have hk2:(x.kind==2)=false:=ib (by omega);have hF1:=mB bs x.db;have hg2:decide ((-1:Int)<0)=true:=rfl;have hk3:(x.kind==3)=false:=ib (by omega);have hk4:(x.kind==4)=false:=ib (by omega);have hk5:(x.kind==5)=false:=ib (by omega);have hk6:(x.kind==6)=true:=sW hk;rcases mP bs x.db with ⟨g1,e1⟩ | ⟨i,hi,g1,gno,e1⟩
 ·rw[g1] at hg0;cases hg0
 rw[e1] at hF1;have hg3:decide ((i:Int)<0)=false:=by simp
 have he:=fun A=>eh (A:=A) 9 hi rfl;obtain ⟨b,hb0⟩:∃ b,b=bs[i]:=⟨_,rfl⟩
 have hne:bs≠[]:=fun e=>by rw[e] at hi;simp at hi
 rw[←hb0] at he g1 gno;by_cases q:0≤b.dH
 ·have q1:decide (0≤b.dH)=true:=by simp[q]
  rw[AO hk12 g1 (by simp[fP,hk,q])];have R:=u8 @hk1 (u8 @hk2 (u8 @hk3 (u8 @hk4 (u8 @hk5 (u8 @hk6 (u8 @hg3 (u8 @he (u8 @q1 (u8 @o9 (u8 @rX (u8 @aJ (u8 @fU (u8 @aX (u8 @cK (u8 @cD @U)))))))))))))))
  repeat' ((first |(with_reducible refine .guard (fun hb =>?_) (fun hb =>?_) <;>try simp only[hb])|refine J.aE (by decide +kernel) rfl fun K hK =>?_|refine .flat _ (hF1) rfl ?_|(refine .ay [0,1,3,4,5,6,7,8,9,10,22,24,28,62,81,88,89,105,110,121,127,131] hK ?_;clear hK K)|(with_reducible refine .done (hK _ ?_);clear hK K)|refine J.of rfl ?_|(with_reducible refine ai.aB (fun h =>?_) (fun h =>?_) <;>try simp only[h])) <;>try simp only[aF,R,Nat.reduceEqDiff,reduceIte,Nat.reduceBEq])
  all_goals clear R
 ·have q1:decide (0≤b.dH)=false:=by simp[q]
  have ht:fP b x=some { b with dH:=x.day } :=by simp[fP,hk,q]
  rw[sE hd hk12 hi (by rw[g1,hb0]) (b := { b with dH:=x.day }) (by rw[←hb0];exact ht) (by rw[←hb0])];have R:=u8 @hk1 (u8 @hk2 (u8 @hk3 (u8 @hk4 (u8 @hk5 (u8 @hk6 (u8 @hg3 (u8 @he (u8 @q1 (u8 @o9 (u8 @rX (u8 @aJ (u8 @fU (u8 @aX (u8 @cK (u8 @cD @U)))))))))))))))
  repeat' ((first |(with_reducible refine .guard (fun hb =>?_) (fun hb =>?_) <;>try simp only[hb])|refine J.aE (by decide +kernel) rfl fun K hK =>?_|refine .flat _ (hF1) rfl ?_|(refine .ay [0,1,3,4,5,6,7,8,9,10,22,24,28,62,81,88,89,105,110,121,127,131] hK ?_;clear hK K)|(with_reducible refine .done (hK _ ?_);clear hK K)|refine J.of rfl ?_|(with_reducible refine ai.aB (fun h =>?_) (fun h =>?_) <;>try simp only[h])) <;>try simp only[aF,R,Nat.reduceEqDiff,reduceIte,Nat.reduceBEq])
  all_goals clear R
  refine br.sB _ rfl hne rfl (by omega) (by simp only[maxLen];omega) fun mm =>?_;obtain ⟨R,hR⟩:∃ R,R=List.replicate mm (I.agg [.int .i64 0,.int .i64 0,.int .i64 0,.int .i64 0,.int .i64 0,.int .i64 0,.int .i64 0,.bool false,.nils 6]):=⟨_,rfl⟩
  rw[←hR];have hv:∀ fs,jn 138 [] 9 0 bs.length 9 (i:Int) (some fs)=some (.ptr 138 [i]):=fun fs=>by
   have:=nT (m:=138) (sz:=9) (lo:=0) (l:=bs.length) (i:=i) (fs:=fs) hi
   rwa [zz3] at this
  have hat:=sF (R:=R) hi;have hst:=fun (A:ae) v u rest=>uQ (A:=A) (n:=138) (R:=R) (v:=v) (u:=u) (rest:=rest) hi;have hfv:=fun v:aH=>qX (xs:=bs.set i v) (R:=R) (k:=bs.length) (sz:=9) rfl (by simp)
  try simp only[U,Nat.reduceEqDiff,reduceIte]
  have R:=u8 @hv (u8 @hat (u8 @hst (u8 @hfv (u8 @cK (u8 @aJ (u8 @aX (u8 @cD @U)))))))
  repeat' ((first |(with_reducible refine .guard (fun hb =>?_) (fun hb =>?_) <;>try simp only[hb])|refine J.aE (by decide +kernel) rfl fun K hK =>?_|(refine .ay [0,1,3,4,5,6,7,8,9,10,22,24,28,62,81,88,89,105,110,121,127,131] hK ?_;clear hK K)|(with_reducible refine .done (hK _ ?_);clear hK K)|refine J.of rfl ?_|(with_reducible refine ai.aB (fun h =>?_) (fun h =>?_) <;>try simp only[h])) <;>try simp only[aF,R,Nat.reduceEqDiff,reduceIte,Nat.reduceBEq])
  all_goals clear R
theorem PL(bs:List aH)(x:ao)(hn:bs.length≤99)(hd:(bs.map (·.no)).Nodup)(hk:x.kind=4)(hsn:∀ b∈bs,b.bH.length≤1000):aw Tryz.prog 132 [enc bs,enc x] (.tuple [enc (ef bs x).1,enc (ef bs x).2]):=by
 cases hg0:bY bs x.db with
 |none=>exact sa bs x (by omega) hg0
 |some b0 =>
 refine aw.bj Tryz.func132 pD pF pI (zz0 rfl) (fun hwf W0 D0 E1 =>?_);simp only[oD,oS,bg,zz3];clear hwf;have hk12:¬ (x.kind=1∨x.kind=2):=by omega
 have hk1:(x.kind==1)=false:=ib (by omega);have hk2:(x.kind==2)=false:=ib (by omega);have hF1:=mB bs x.db;have hg2:decide ((-1:Int)<0)=true:=rfl;have hk3:(x.kind==3)=false:=ib (by omega);have hk4:(x.kind==4)=true:=sW hk;rcases mP bs x.db with ⟨g1,e1⟩ | ⟨i,hi,g1,gno,e1⟩
 ·rw[g1] at hg0;cases hg0
 rw[e1] at hF1;have hg3:decide ((i:Int)<0)=false:=by simp
 have he:=fun A=>eh (A:=A) 9 hi rfl;obtain ⟨b,hb0⟩:∃ b,b=bs[i]:=⟨_,rfl⟩
 have hne:bs≠[]:=fun e=>by rw[e] at hi;simp at hi
 rw[←hb0] at he g1 gno;have ht:fP b x=some { b with bH:=b.bH++[x.bH] } :=by simp[fP,hk]
 rw[sE hd hk12 hi (by rw[g1,hb0]) (b := { b with bH:=b.bH++[x.bH] }) (by rw[←hb0];exact ht) (by rw[←hb0])];have hbl:b.bH.length≤1000:=hsn b (hb0▸zx8 hi);have R:=u8 @hk1 (u8 @hk2 (u8 @hk3 (u8 @hk4 (u8 @hg3 (u8 @he (u8 @o9 (u8 @rX (u8 @aJ (u8 @fU (u8 @aX (u8 @cK (u8 @cD @U))))))))))))
 repeat' ((first |(with_reducible refine .guard (fun hb =>?_) (fun hb =>?_) <;>try simp only[hb])|refine J.aE (by decide +kernel) rfl fun K hK =>?_|refine .flat _ (hF1) rfl ?_|(refine .ay [0,1,3,4,5,6,7,8,9,10,22,24,28,62,81,88,89,105,110,121,127,131] hK ?_;clear hK K)|(with_reducible refine .done (hK _ ?_);clear hK K)|refine J.of rfl ?_|(with_reducible refine ai.aB (fun h =>?_) (fun h =>?_) <;>try simp only[h])) <;>try simp only[aF,R,Nat.reduceEqDiff,reduceIte,Nat.reduceBEq])
 all_goals clear R
 refine J.oq (ar [(0,enc bs),(6,.int .i64 i),(9,.ref (enc ({ b with bH:=b.bH++[x.bH] } : aH)))] []) ?_ (fun B hsub =>?_)
 ·refine J.qm (gs:=wY) [] [(112,[])] [0,1,2,4,5,6,3,7,8,9] (by decide +kernel) (eA.of (by simp[mQ,aP,tL,I.only])) fun K hK =>?_;have hbs6:=oC 6 x.bH rfl
  try simp only[lj,wY,List.getD_cons_zero,List.getD_cons_succ,hbs6,aJ,fU,cK,cD,U,Nat.reduceEqDiff,reduceIte]
  by_cases hs0:b.bH=[]
  ·rw[hs0];rw[AL (α:=bG 6 Int) (esz:=6) _ rfl]
   try simp only[U,Nat.reduceEqDiff,reduceIte]
   refine cj.oz iJ (l:=[x.bH]) rfl (by simp) rfl (by simp) (by simp[maxLen]) fun m =>?_
   try simp only[zK,aJ,fU,U,Nat.reduceEqDiff,reduceIte]
   refine .done (hK _ ?_);clear hK K;exact wH (N:=119) (xs:=b.bH++[x.bH]) (q:=List.replicate m iJ) rfl rfl (by rw[hs0];rfl) (by simp[hs0]) rfl rfl (by decide) (by simp[aZ,cJ,ah.only,bh])
  ·refine cj.oz iJ (l:=b.bH) rfl hs0 rfl (by omega) (by simp only[maxLen];omega) fun m =>?_
   try simp only[U,Nat.reduceEqDiff,reduceIte]
   cases m with
   |zero =>
    refine cj.vp iJ (xs:=b.bH++List.replicate 0 iJ) (ys:=[x.bH]) rfl (by simp) rfl (by simp) (by simp) rfl (by simp;omega) (by simp[maxLen];omega) fun q =>?_;have e1:(b.bH++List.replicate 0 iJ).take b.bH.length++([x.bH]++List.replicate q iJ)=(b.bH++[x.bH])++List.replicate q iJ:=by simp
    rw[e1]
    try simp only[zK,aJ,fU,U,Nat.reduceEqDiff,reduceIte]
    refine .done (hK _ ?_);clear hK K;exact wH (N:=119) (xs:=b.bH++[x.bH]) (q:=List.replicate q iJ) rfl rfl rfl (by simp) rfl rfl (by decide) (by simp only[cJ,zx7,zw9];simp[aZ,ah.only,I.only,bh,dn])
   |succ m =>
    have e1:(b.bH++List.replicate (m+1) iJ).take b.bH.length++([x.bH]++(b.bH++List.replicate (m+1) iJ).drop (b.bH.length+[x.bH].length))=(b.bH++[x.bH])++List.replicate m iJ:=by
     simp[List.drop_append]
    rw[sC (esz:=6) (xs:=b.bH++List.replicate (m+1) iJ) (ys:=[x.bH]) _ rfl (by simp) rfl (by simp)];rw[e1]
    try simp only[zK,aJ,fU,U,Nat.reduceEqDiff,reduceIte]
    refine .done (hK _ ?_);clear hK K;exact wH (N:=115) (xs:=b.bH++[x.bH]) (q:=List.replicate m iJ) rfl rfl rfl (by simp) rfl rfl (by decide) (by simp only[cJ,zx7,zw9];simp[aZ,ah.only,bh])
 ·simp only[au,bS];refine J.sub hsub ?_;have R:=u8 @aJ (u8 @fU (u8 @aX (u8 @cK (u8 @cD @U))))
  repeat' ((first |(with_reducible refine .guard (fun hb =>?_) (fun hb =>?_) <;>try simp only[hb])|refine J.aE (by decide +kernel) rfl fun K hK =>?_|(refine .ay [0,1,3,4,5,6,7,8,9,10,22,24,28,62,81,88,89,105,110,121,127,131] hK ?_;clear hK K)|(with_reducible refine .done (hK _ ?_);clear hK K)|refine J.of rfl ?_|(with_reducible refine ai.aB (fun h =>?_) (fun h =>?_) <;>try simp only[h])) <;>try simp only[aF,R,Nat.reduceEqDiff,reduceIte])
  all_goals clear R
  refine br.sB _ rfl hne rfl (by omega) (by simp only[maxLen];omega) fun mm =>?_;obtain ⟨R,hR⟩:∃ R,R=List.replicate mm (I.agg [.int .i64 0,.int .i64 0,.int .i64 0,.int .i64 0,.int .i64 0,.int .i64 0,.int .i64 0,.bool false,.nils 6]):=⟨_,rfl⟩
  rw[←hR];have hv:∀ fs,jn 138 [] 9 0 bs.length 9 (i:Int) (some fs)=some (.ptr 138 [i]):=fun fs=>by
   have:=nT (m:=138) (sz:=9) (lo:=0) (l:=bs.length) (i:=i) (fs:=fs) hi
   rwa [zz3] at this
  have hat:=sF (R:=R) hi;have hst:=fun (A:ae) v u rest=>uQ (A:=A) (n:=138) (R:=R) (v:=v) (u:=u) (rest:=rest) hi;have hfv:=fun v:aH=>qX (xs:=bs.set i v) (R:=R) (k:=bs.length) (sz:=9) rfl (by simp)
  try simp only[U,Nat.reduceEqDiff,reduceIte]
  have R:=u8 @hv (u8 @hat (u8 @hst (u8 @hfv (u8 @cK (u8 @aJ (u8 @aX (u8 @cD @U)))))))
  repeat' ((first |(with_reducible refine .guard (fun hb =>?_) (fun hb =>?_) <;>try simp only[hb])|refine J.aE (by decide +kernel) rfl fun K hK =>?_|(refine .ay [0,1,3,4,5,6,7,8,9,10,22,24,28,62,81,88,89,105,110,121,127,131] hK ?_;clear hK K)|(with_reducible refine .done (hK _ ?_);clear hK K)|refine J.of rfl ?_|(with_reducible refine ai.aB (fun h =>?_) (fun h =>?_) <;>try simp only[h])) <;>try simp only[aF,R,Nat.reduceEqDiff,reduceIte,Nat.reduceBEq])
  all_goals clear R
theorem PI(bs:List aH)(x:ao)(hn:bs.length≤99)(hd:(bs.map (·.no)).Nodup)(hsn:∀ b∈bs,b.bH.length≤1000)(hok:iv x=true)(hk:x.kind≠0):aw Tryz.prog 132 [enc bs,enc x] (.tuple [enc (ef bs x).1,enc (ef bs x).2]):=by
 obtain ⟨h1,h2,h3⟩:=KU hok;have hdam:0≤x.dY:=by
  simp only[iv,zz4,decide_eq_true_eq] at hok;obtain ⟨q1,q2,_⟩:=hok;by_cases e:x.kind=1
  ·simp only[ky,e,b9] at q1;simp at q1;omega
  ·have:x.dY=(mE x).dY:=by rw[←q2]
   rw[this];simp[mE,e]
 by_cases e12:x.kind=1∨x.kind=2
 ·exact PJ bs x hn e12 hdam
 by_cases e3:x.kind=3
 ·exact PK bs x hn hd e3
 by_cases e4:x.kind=4
 ·exact PL bs x hn hd e4 hsn
 by_cases e5:x.kind=5
 ·exact PM bs x hn hd e5
 ·exact PN bs x hn hd (by omega)
def my(known:Int)(m:List ao)(a:Item)(j:Nat):Bool:=(eV known m).1.getD j false&&(decide ((ab m j).kind=0)&&decide ((ab m j).iu=a))
theorem Kr(known:Int)(a:Item):∀ m:List ao,(eV known m).2.contains a=(List.range m.length).any (my known m a)
 | []=>rfl
 |x::m=>by
  have ih:=Kr known a m;have e:∀ j,my known (x::m) a (j+1)=my known m a j:=fun j=>by simp[my,eV,ab]
  have e0:my known (x::m) a 0=((decide (x.known≤known) && !(eV known m).2.contains x.cm)&&(decide (x.kind=0)&&decide (x.iu=a))):=by simp[my,eV,ab]
  rw[List.length_cons,List.range_succ_eq_map,List.any_cons,List.any_map];have e2:(my known (x::m) a∘Nat.succ)=my known m a:=funext e;rw[e2,←ih,e0];simp only[eV];generalize (decide (x.known≤known) && !(eV known m).2.contains x.cm)=b;cases b <;>by_cases hk:x.kind=0
  ·simp
  ·simp
  ·simp only[hk,decide_true,Bool.and_true,if_true,List.contains_cons,Bool.true_and]
   congr 1
   by_cases h:x.iu=a
   ·simp[h]
   ·have h2:¬ a=x.iu:=fun e=>h e.symm;simp[h,h2]
  ·simp[hk]
def nx(known:Int)(l:List ao)(n t:Nat):Bool:=decide ((ab l (n-1)).known≤known) && !(List.range t).any (my known (l.drop n) (ab l (n-1)).cm)
def jx(known:Int)(l:List ao)(n:Nat)(b:Bool):List Bool:=List.replicate (n-1) false++b::(eV known (l.drop n)).1
theorem zn{known:Int}{l:List ao}{n:Nat}{b:Bool}(h:n≤l.length)(h0:0<n):(jx known l n b).length=l.length:=by
 simp only[jx,zz5,zv3,List.length_cons,rY,zy9];omega
theorem aoT{known:Int}{l:List ao}{n:Nat}{b v:Bool} : (jx known l n b).set (n-1) v=jx known l n v:=by
 simp only[jx];rw[List.set_append_right _ _ (by simp)];simp
theorem aoS{known:Int}{l:List ao}{n t:Nat}{b:Bool}(h0:0<n):(jx known l n b).getD (n+t) false=(eV known (l.drop n)).1.getD t false:=by
 simp only[jx,zz2];rw[zw0 (by simp;omega)];simp only[zv3];rw[show n+t-(n-1)=t+1 by omega,List.getElem?_cons_succ]
theorem apq{known:Int}{l:List ao}{n:Nat}(h:n≤l.length)(h0:0<n):jx known l n (nx known l n (l.length-n))=List.replicate (n-1) false++(eV known (l.drop (n-1))).1:=by
 have hil:n-1<l.length:=by omega
 have hd:l.drop (n-1)=ab l (n-1)::l.drop n:=by
  rw[zv4 hil,gC hil,show n-1+1=n by omega]
 rw[hd];simp only[jx,eV,nx,Kr,zy9]
theorem aat(l:List ao)(n t:Nat):ab (l.drop n) t=ab l (n+t):=by simp[ab,zz2]
theorem R7(known:Int)(l:List ao)(n t:Nat):nx known l n (t+1)=(nx known l n t && !((eV known (l.drop n)).1.getD t false&&(decide ((ab l (n+t)).kind=0)&&decide ((ab l (n+t)).iu=(ab l (n-1)).cm)))):=by
 simp only[nx,List.range_succ,List.any_append,List.any_cons,List.any_nil,Bool.or_false,my,aat,Bool.not_or,Bool.and_assoc]
theorem KQ{m l:Nat}{fs:List I}{i:Nat}(h:i<l):jn m [] 1 0 l 1 (i:Int) (some fs)=some (.ptr m [i]):=by
 have:=nT (m:=m) (sz:=1) (lo:=0) (l:=l) (i:=i) (fs:=fs) h
 rwa [zz3] at this
theorem Px(l:List ao)(known:Int)(hl:l.length≤60):aw Tryz.prog 106 [enc l,enc known] (enc (gR l known)):=by
 refine aw.bj Tryz.func106 Sp Uu WN (zz0 rfl) (fun hwf W0 D0 E1 =>?_);simp only[Bb,L7,bg,zz3];clear hwf;refine .aq (by decide +kernel) fun K hK =>?_;simp only[Fl,U];refine .done (hK _ ?_);clear hK K;refine .aq (by decide +kernel) fun K hK =>?_;simp only[Fm,U,Nat.reduceEqDiff,reduceIte]
 try simp only[eM,aX,U,Nat.reduceEqDiff,reduceIte]
 rw[Lf (by omega) (by simp[maxLen];omega)]
 try simp only[U,Nat.reduceEqDiff,reduceIte]
 refine .done (hK _ ?_);clear hK K;have hw0:IntKind.i64.wrap ((l.length:Int)-1)=(l.length:Int)-1:=cL _ (by omega) (by omega);refine J.seq (J.seq ?_);refine .bK (by decide +kernel) fun K hK =>?_;simp only[Fo,U,Nat.reduceEqDiff,reduceIte]
 try simp only[aX,hw0,U,Nat.reduceEqDiff,reduceIte]
 refine .done (hK _ ?_);clear hK K;try simp only[au]
 refine J.block (J.loop (fun n:Nat=>ar [(0,enc l),(1,.int .i64 known),(5,.view 10 [] 1 0 l.length),(6,.int .i64 ((n:Int)-1))] [(10,.box (.agg ((List.replicate n false++(eV known (l.drop n)).1).map enc)))]) (fun n=>n≤l.length) (fun n=>n) l.length (zz9 _) ?_ (fun n hn =>?_))
 ·simp only[List.drop_length,eV,zx5,List.map_replicate];refine az.bL ?_ ?_ ?_ ?_ <;>simp[aO,bC,bx,aZ,al,aP,ak,I.only,bh,ah.only,uj,we]
 by_cases h0:n=0
 ·subst h0;have hc:decide ((0:Int)≤((0:Nat):Int)-1)=false:=by decide
  have hf:∀ R:List Bool,R.length=l.length→j6 1 0 l.length (some (R.map enc))=some (enc R):=fun R hR=>by
   have:=qX (xs:=R) (R:=[]) (sz:=1) (k:=l.length) rfl hR.symm
   rwa [zx5] at this
  have hf2:=hf (eV known l).1 (rY known l);simp only[List.replicate_zero,zy5,List.drop_zero];have R:=u8 @hc (u8 @hf2 (u8 @cK (u8 @aX (u8 @aJ @U))))
  repeat' ((first |(with_reducible refine .guard (fun hb =>?_) (fun hb =>?_) <;>try simp only[hb])|refine J.aE (by decide +kernel) rfl fun K hK =>?_|(refine .ay [0,1,4,5,6,7,15,33,60] hK ?_;clear hK K)|(with_reducible refine .done (hK _ ?_);clear hK K)|refine J.of rfl ?_|(with_reducible refine ai.aB (fun h =>?_) (fun h =>?_) <;>try simp only[h])) <;>try simp only[aF,R,Nat.reduceEqDiff,reduceIte,Nat.reduceBEq])
  all_goals clear R
  rfl
 obtain ⟨i,hi⟩:∃ i,i=n-1:=⟨_,rfl⟩
 have hni:(n:Int)-1=(i:Int):=by omega
 have hil:i<l.length:=by omega
 have hc:decide ((0:Int)≤(i:Int))=true:=by simp
 have he:=fun A=>hE (A:=A) hil;have hv:=fun fs=>KQ (m:=10) (fs:=fs) hil;have hRn:List.replicate n false++(eV known (l.drop n)).1=jx known l n false:=by
  simp only[jx];rw[show n=(n-1)+1 by omega,List.replicate_succ'];simp
 have hset:=fun b (A:ae) v u rest=>OZ (A:=A) (n:=10) (i:=i) (xs:=jx known l n b) (by rw[zn hn (by omega)];exact hil) v u rest;have hat:=fun b=>sG (xs:=jx known l n b) (i:=i) (by rw[zn hn (by omega)];exact hil);have hs2:=fun b v=>aoT (known:=known) (l:=l) (n:=n) (b:=b) (v:=v);rw[←hi] at hs2;have hw1:=dX (i:=i) (by omega);have hi1:i+1=n:=by omega
 rw[hi1] at hw1;simp only[hRn,hni];have R:=u8 @hc (u8 @he (u8 @hv (u8 @hset (u8 @hat (u8 @hs2 (u8 @hw1 (u8 @cK (u8 @aX (u8 @aJ (u8 @n8 @U))))))))))
 repeat' ((first |(with_reducible refine .guard (fun hb =>?_) (fun hb =>?_) <;>try simp only[hb])|refine J.aE (by decide +kernel) rfl fun K hK =>?_|(refine .ay [0,1,4,5,6,7,15,33,60] hK ?_;clear hK K)|(with_reducible refine .done (hK _ ?_);clear hK K)|refine J.of rfl ?_|(with_reducible refine ai.aB (fun h =>?_) (fun h =>?_) <;>try simp only[h])) <;>try simp only[aF,R,decide_true,Nat.reduceEqDiff,reduceIte,Nat.reduceBEq])
 all_goals clear R
 refine J.loop (fun t:Nat=>ar [(0,enc l),(1,.int .i64 known),(5,.view 10 [] 1 0 l.length),(6,.int .i64 i),(7,.int .i64 ((n+t:Nat):Int))] [(10,.box (.agg ((jx known l n (nx known l n t)).map enc)))]) (fun t=>n+t≤l.length) (fun t=>l.length-n-t) 0 hn ?_ (fun t ht =>?_)
 ·have hb0:nx known l n 0=decide ((ab l i).known≤known):=by simp[nx,hi]
  rw[hb0];refine az.cN ?_ (fun m =>?_)
  ·simp[aO,aP]
  ·simp only[ak];split <;>rfl
 by_cases hlt:n+t<l.length
 ·have hc2:=eR hlt;have he2:=fun A=>hE (A:=A) hlt;have hv2:=fun fs=>KQ (m:=10) (fs:=fs) hlt;have hat2:=fun b=>sG (xs:=jx known l n b) (i:=n+t) (by rw[zn hn (by omega)];exact hlt);have hget:=fun b=>aoS (known:=known) (l:=l) (n:=n) (t:=t) (b:=b) (by omega);have hw2:=dX (i:=n+t) (by omega);have hbs:=R7 known l n t;rw[←hi] at hbs;rcases q1:(eV known (l.drop n)).1.getD t false <;>rcases q2:(ab l (n+t)).kind==0 <;>rcases q3:decide ((ab l (n+t)).iu=(ab l i).cm)
  all_goals
   have q2':=q2;rw[show ((ab l (n+t)).kind==0)=decide ((ab l (n+t)).kind=0) from rfl] at q2';simp only[q1,q2',q3,Bool.and_true,Bool.and_false,zu5,Bool.not_false] at hbs;have R:=u8 @hc2 (u8 @he (u8 @he2 (u8 @hv (u8 @hv2 (u8 @hset (u8 @hat (u8 @hat2 (u8 @hget (u8 @hs2 (u8 @hw2 (u8 @q1 (u8 @q2 (u8 @q3 (u8 @cK (u8 @aX (u8 @aJ (u8 @n8 @U)))))))))))))))))
   repeat' ((first |(with_reducible refine .guard (fun hb =>?_) (fun hb =>?_) <;>try simp only[hb])|refine J.aE (by decide +kernel) rfl fun K hK =>?_|(refine .ay [0,1,4,5,6,7,15,33,60] hK ?_;clear hK K)|(with_reducible refine .done (hK _ ?_);clear hK K)|refine J.of rfl ?_|(with_reducible refine ai.aB (fun h =>?_) (fun h =>?_) <;>try simp only[h])) <;>try simp only[aF,R,Nat.reduceEqDiff,reduceIte,Nat.reduceBEq])
   all_goals clear R
   refine ⟨t+1,by omega,by omega,?_⟩;rw[hbs];refine az.cN ?_ (fun m =>?_)
   ·simp[aO,aP] <;>omega
   ·first | rfl | (simp only[ak];split <;>rfl)
 ·have hc2:=eT hlt;have hw3:IntKind.i64.wrap ((i:Int)-1)=(i:Int)-1:=cL _ (by omega) (by omega);have htn:t=l.length-n:=by omega
  have hsn:=apq (known:=known) hn (by omega);rw[←htn,←hi] at hsn;rw[hsn];have R:=u8 @hc2 (u8 @hw3 (u8 @cK (u8 @aX (u8 @aJ @U))))
  repeat' ((first |(with_reducible refine .guard (fun hb =>?_) (fun hb =>?_) <;>try simp only[hb])|refine J.aE (by decide +kernel) rfl fun K hK =>?_|(refine .ay [0,1,4,5,6,7,15,33,60] hK ?_;clear hK K)|(with_reducible refine .done (hK _ ?_);clear hK K)|refine J.of rfl ?_|(with_reducible refine ai.aB (fun h =>?_) (fun h =>?_) <;>try simp only[h])) <;>try simp only[aF,R,Nat.reduceEqDiff,reduceIte,Nat.reduceBEq])
  all_goals clear R
  refine ⟨i,by omega,by omega,?_⟩;refine az.cN ?_ (fun m=>rfl);simp[aO,aP]
theorem ao4{α:Type}[Enc α]{A:ae}(esz:Nat){l:List α}{i:Nat}(h:i≤l.length)(hs:Enc.sz α=esz):nh A esz (some (.int .i64 i)) none none (enc l)=some (enc (l.drop i)):=by
 simp only[nh,gB,hs,if_true,jU,iB,zy3];rw[if_pos ⟨by omega,by omega,by omega,by omega⟩];simp[zw1]
def oE(l:List ao)(day known:Int)(i:Nat):Bool:=(gR l known).getD i false&&nR l day i
def kg(l:List ao)(day known:Int)(n:Nat):List Nat:=rI (fun i=>(ab l i).day) ((List.range n).filter (oE l day known))
theorem anT(l:List ao)(day known:Int):kg l day known l.length=fV l day known:=by
 simp only[kg,fV,j4,ij,List.filter_filter]
 congr 1
 refine List.filter_congr fun i _ =>?_;simp only[oE,nR,Bool.and_comm]
theorem anV(l:List ao)(day known:Int)(n:Nat):kg l day known (n+1)=if oE l day known n then gF (fun i=>(ab l i).day) n (kg l day known n) else kg l day known n:=by
 simp only[kg,rI,List.range_succ,zu3,List.foldl_append,zx7,zw9];split <;>rfl
theorem anU(l:List ao)(day known:Int)(n:Nat):(kg l day known n).Pairwise (lb fun i=>(ab l i).day)∧(∀ x∈kg l day known n,x<n)∧(kg l day known n).length≤n:=by
 have h:=rJ (fun i=>(ab l i).day) ((List.range n).filter (oE l day known)) [] (by simp) (List.Pairwise.filter _ List.pairwise_lt_range) (by simp);refine ⟨h.2,fun x hx =>?_,?_⟩
 ·have:=h.1.mem_iff.1 hx;simp only[zy5,zv6,zv2] at this;exact this.1
 ·have:=h.1.length_eq;simp only[kg,rI];rw[this];have:=zu2 (oE l day known) (List.range n);simpa using this
theorem alz{key:Nat→Int}{i k:Nat}{o:List Nat}(h1:∀ x∈o.take k,key x≤key i)(h2:∀ x∈o.drop k,key i<key x):gF key i o=o.take k++i::o.drop k:=by
 have key':∀ (a b:List Nat),(∀ x∈a,key x≤key i)→(∀ x∈b,key i<key x)→gF key i (a++b)=a++i::b:=by
  intro a b ha hb
  induction a with
  |nil =>
   cases b with
   |nil=>simp[gF]
   |cons y b =>
    have:=hb y (by simp);simp[gF,show ¬ key y≤key i by omega]
  |cons y a ih =>
   have hy:=ha y (by simp);have e:∀ m:List Nat,gF key i (y::m)=y::gF key i m:=fun m=>by simp[gF,hy]
   rw[zy0,e,ih fun x hx=>ha x (by simp[hx])];rfl
 have:=key' (o.take k) (o.drop k) h1 h2
 rwa [zy8] at this
theorem wG{ts:List (Nat×I)}{os:List (Nat×ah)}{N k:Nat}{xs q:List Int}{l:List ao}{day:Int}{bA:List Bool}{i:Nat}{Z:I}(h8:Abs.bQ ts 8=.view N [] 1 0 k)(hoN:ak os N=some (.box (.agg ((xs++q).map enc))))(hk:k=xs.length)(hN:N=74∨N=77∨N=81)
  (h0:Abs.bQ ts 0=enc l) (h2:Abs.bQ ts 2=.int .i64 day) (h6:Abs.bQ ts 6=.ptr 6 []) (h7:Abs.bQ ts 7=enc bA) (h9:Abs.bQ ts 9=.int .i64 i) (ho6:ak os 6=some (.box Z)) (hZ:Z.bu=true∨Z=.agg [.nils 9,.nils 1])
  (ho:aZ (fun n => ![74,77,81].contains n) (cJ [74,77,81] os)):az (ar ts os) (ar [(0,enc l),(2,.int .i64 day),(6,.ptr 6 []),(7,enc bA),(8,enc xs),(9,.int .i64 i)] [(6,.box Z)]):=by
 have hkN:ak (gh [74,77,81] os) N=some (.box (.agg ((xs++q).map enc))):=by rw[l7];rcases hN with rfl | rfl | rfl <;>simpa using hoN
 have hf:bl true (ar ts (gh [74,77,81] os)) (.view N [] 1 0 k)=some (enc xs):=by
  rw[EE];simp only[ar,hkN,eY,fA,nv,I.du];exact sY hk.symm
 refine (az.gY [74,77,81] 8 h8 hf ho).trans (az.bL ?_ ?_ ?_ ?_)
 ·have hfg:∀ t,Abs.bQ (fK [74,77,81] ts) t=if (Abs.bQ ts t).only (fun j => ![74,77,81].contains j)=true then Abs.bQ ts t else .dg:=Ev _ ts
  simp[aO,aP,hfg,h0,h2,h6,h7,h9,bh,I.only]
 ·simp[bC,l6,ho6]
 ·simp[bx,bh,I.only,al,ak]
 ·rcases hZ with hZ | rfl
  ·exact ⟨kd _ _ hZ,trivial⟩
  ·exact ⟨rfl,trivial⟩
abbrev qH(l:List ao)(day:Int)(bA:List Bool)(xs:List Int)(i:Nat)(Z:I):ae:=ar [(0,enc l),(2,.int .i64 day),(6,.ptr 6 []),(7,enc bA),(8,enc xs),(9,.int .i64 i)] [(6,.box Z)]
theorem zR{K:ae→Prop}{ts:List (Nat×I)}{os:List (Nat×ah)}{N k:Nat}{xs q A2:List Int}{l:List ao}{day:Int}{bA:List Bool}{i:Nat}{Z:I}(h77:Abs.bQ ts 77=.view N [] 1 0 k)(hk:k=xs.length)(hoN:ak os N=some (.box (.agg ((xs++q).map enc))))(h80:Abs.bQ ts 80=enc A2)(h81:ak os 81=none)(hN:N=74∨N=77)(hb:xs.length+A2.length≤100)
  (h0:Abs.bQ ts 0=enc l) (h2:Abs.bQ ts 2=.int .i64 day) (h6:Abs.bQ ts 6=.ptr 6 []) (h7:Abs.bQ ts 7=enc bA) (h9:Abs.bQ ts 9=.int .i64 i) (ho6:ak os 6=some (.box Z)) (hZ:Z.bu=true∨Z=.agg [.nils 9,.nils 1])
  (ho:aZ (fun n => ![74,77,81].contains n) (cJ [74,77,81] os)) (hK:∀ B,Abs.az B (qH l day bA (xs++A2) i Z)→K B) :
  cj Tryz.prog [] K (aC [⟨some 81,.cV 3 1 8 (.int .i64 0) (.t 77) (.t 80),none⟩,⟨some 8,.mv (.t 81),none⟩] (ar ts os)):=by
 subst hk;have hdr:∀ (m:Nat) (y:ah),[74,77,81].contains m=true→cJ [74,77,81] ((m,y)::os)=cJ [74,77,81] os:=fun m y hm=>by
  simp only[cJ,zx7,hm,zu5,zz8,if_false]
 have hNc:[74,77,81].contains N=true:=by rcases hN with rfl | rfl <;>rfl
 try simp only[h77,h80,U]
 by_cases hA:A2=[]
 ·subst hA;rw[vr (esz:=1) (xs:=xs++q) _ _ (qu _ 1 ([]:List Int) rfl) hoN (by simp)]
  try simp only[U,reduceIte]
  refine .done (hK _ ?_);rw[zx5];exact wG (N:=N) (q:=q) rfl hoN rfl (by omega) h0 h2 h6 h7 h9 ho6 hZ ho
 ·by_cases hr:A2.length≤q.length
  ·have e1:(xs++q).take xs.length++(A2++(xs++q).drop (xs.length+A2.length))=(xs++A2)++q.drop A2.length:=by
    simp[List.drop_append]
   rw[sC (esz:=1) (xs:=xs++q) (ys:=A2) _ rfl hA hoN (by simp;omega)];rw[e1]
   try simp only[U,reduceIte]
   refine .done (hK _ ?_);refine wG (N:=N) (xs:=xs++A2) (q:=q.drop A2.length) rfl (by simp[ak]) (by simp) (by omega) h0 h2 h6 h7 h9 ?_ hZ (by rw[hdr _ _ hNc];exact ho);simp only[ak];rw[if_neg (by omega)];exact ho6
  ·refine cj.vp (0:Int) (xs:=xs++q) (ys:=A2) rfl hA hoN (by simp) (by simp;omega) h81 (by omega) (by simp[maxLen];omega) fun qq =>?_;have e1:(xs++q).take xs.length++(A2++List.replicate qq 0)=(xs++A2)++List.replicate qq 0:=by simp
   rw[e1]
   try simp only[U,reduceIte]
   refine .done (hK _ ?_);refine wG (N:=81) (xs:=xs++A2) (q:=List.replicate qq 0) rfl (by simp[ak]) (by simp) (by omega) h0 h2 h6 h7 h9 ?_ hZ (by rw[hdr _ _ rfl];exact ho);simp only[ak];rw[if_neg (by omega)];exact ho6
theorem Oc{c:cT}(hP:c.P=Tryz.prog){l:List ao}{day:Int}{bA:List Bool}{xs:List Int}{i k:Nat}{Z:I}(hk:k≤xs.length)(hb:xs.length≤60)(hZ:Z.bu=true∨Z=.agg [.nils 9,.nils 1]) :
  J c (.bT DV tk) (au (fun B=>Abs.az B (qH l day bA (xs.take k++(i:Int)::xs.drop k) i Z)) fun _ _=>False) (ar [(0,enc l),(2,.int .i64 day),(6,.ptr 6 []),(7,enc bA),(8,enc xs),(9,.int .i64 i),(10,.int .i64 k)] [(6,.box Z)]):=by
 refine J.aou (gs:=tk) [] [(70,[]),(8,[]),(78,[])] [0,1,2,3,5,6,8,9,10,4,7,11,12] (by decide +kernel) (eA.of (by simp[mQ,aP,tL,I.only,bh])) fun K hK =>?_;rw[hP];have htl:(xs.take k).length=k:=by rw[zy4];omega
 have hdl:(xs.drop k).length=xs.length-k:=zy9
 try simp only[lj,tk,List.getD_cons_zero,List.getD_cons_succ,zD 1 hk rfl,ao4 1 hk rfl,zu4,zy7,kT,cK,U,Nat.reduceEqDiff,reduceIte]
 have hK':∀ B,Abs.az B (qH l day bA ((xs.take k++[(i:Int)])++xs.drop k) i Z)→K B:=fun B h=>hK B (by simp only[au];simpa using h);by_cases hA:xs.take k=[]
 ·rw[hA];rw[AL (α:=Int) (esz:=1) _ rfl]
  try simp only[U,Nat.reduceEqDiff,reduceIte]
  refine cj.oz (0:Int) (l:=[(i:Int)]) rfl (by simp) rfl (by simp) (by simp[maxLen]) fun m =>?_;simp only[l8,tR];refine zR (N:=77) (xs:=xs.take k++[(i:Int)]) (q:=List.replicate m 0) (A2:=xs.drop k) rfl (by simp[hA]) (by rw[hA];rfl) rfl rfl (.inr rfl) (by simp;omega) rfl rfl rfl rfl rfl rfl hZ ?_ hK';rcases hZ with hZ | rfl
  ·exact ⟨kd _ _ hZ,trivial⟩
  ·exact ⟨rfl,trivial⟩
 ·refine cj.oz (0:Int) (l:=xs.take k) rfl hA rfl (by omega) (by simp only[maxLen];omega) fun m =>?_
  try simp only[U,Nat.reduceEqDiff,reduceIte]
  cases m with
  |zero =>
   refine cj.vp (0:Int) (xs:=xs.take k++List.replicate 0 0) (ys:=[(i:Int)]) rfl (by simp) rfl (by simp) (by simp) rfl (by simp;omega) (by simp[maxLen];omega) fun q =>?_;have e1:∀ A1:List Int,(A1++List.replicate 0 0).take A1.length++([(i:Int)]++List.replicate q 0)=(A1++[(i:Int)])++List.replicate q 0:=fun A1=>by simp
   rw[e1];simp only[l8,tR];refine zR (N:=77) (xs:=xs.take k++[(i:Int)]) (q:=List.replicate q 0) (A2:=xs.drop k) rfl (by simp) rfl rfl rfl (.inr rfl) (by simp;omega) rfl rfl rfl rfl rfl rfl hZ ?_ hK';rcases hZ with hZ | rfl
   ·exact ⟨kd _ _ hZ,trivial⟩
   ·exact ⟨rfl,trivial⟩
  |succ m =>
   have e1:∀ A1:List Int,(A1++List.replicate (m+1) 0).take A1.length++([(i:Int)]++(A1++List.replicate (m+1) 0).drop (A1.length+[(i:Int)].length))=(A1++[(i:Int)])++List.replicate m 0:=fun A1=>by
    simp[List.drop_append]
   rw[sC (esz:=1) (xs:=xs.take k++List.replicate (m+1) 0) (ys:=[(i:Int)]) _ rfl (by simp) rfl (by simp)];rw[e1];simp only[l8,tR];refine zR (N:=74) (xs:=xs.take k++[(i:Int)]) (q:=List.replicate m 0) (A2:=xs.drop k) rfl (by simp) rfl rfl rfl (.inl rfl) (by simp;omega) rfl rfl rfl rfl rfl rfl hZ ?_ hK';rcases hZ with hZ | rfl
   ·exact ⟨kd _ _ hZ,trivial⟩
   ·exact ⟨rfl,trivial⟩
structure nq where
 cI:List aH
 Pg:List Int
instance:Enc nq where
 enc x:=.agg [enc x.cI,enc x.Pg]
 sz:=2
 aU:=.ej [.one,.one]
 gb:=true
 done x:=by simp only[I.done,I.eI,Enc.done,zw4]
 size x:=by simp only[I.size,I.sizes,iD,qS]
 jT x:=by simp only[I.aU,I.cX,eL];rfl
 agg _:=rfl
def ln(l:List ao)(day known:Int):nq:=⟨(jv fw l (fV l day known)).1,fN (cz (jv fw l (fV l day known)).2)⟩
theorem az.amB{ts:List (Nat×I)}{os:List (Nat×ah)}(m z:Nat)(p:List Nat)(b:I)(hm:ak os m=some (.box b))(hp:b.at p=some (.nils z)):az (ar ts os) (ar ts ((m,.box (b.dQ p (.slice z [])))::os)):=by
 rintro c a w ⟨D,E,h⟩;refine ⟨D,E,h.sz,h.eW,h.en,h.dW,h.dc,h.dm,fun k =>?_,h.c4,h.dZ,h.ff,h.cQ,h.fh,h.fO⟩;have ho:=h.bV k;simp only[ar,ak] at ho ⊢;split
 ·rename_i hk;subst hk;rw[hm] at ho;obtain ⟨b',cs,T',h1,h2,h3,h4,h5⟩:=ho;obtain ⟨q1,q2⟩:=zd (y:=.slice z []) h4 hp (fun ds hd=>by
   simp only[af] at hd;subst hd;refine ⟨none,0,rfl,zz9 _,zw8 _,.inl rfl,by simp⟩) rfl
  exact ⟨b',cs,T',by rw[q2];exact h1,h2,h3,q1,h5⟩
 ·exact ho
def ju(l:List ao)(o:List Nat)(i:Nat):List aH×List Nat:=(o.take i).foldl (jB fw l) ([],[])
theorem an9{l:List ao}{o:List Nat}{i:Nat}(h:i<o.length):ju l o (i+1)=jB fw l (ju l o i) o[i]:=by
 simp only[ju];rw[zz7 h,List.foldl_append];rfl
theorem an7(l:List ao)(o:List Nat):ju l o o.length=jv fw l o:=by simp only[ju,zv1];rfl
theorem an8(l:List ao)(o:List Nat)(i:Nat)(hi:i≤o.length):((ju l o i).1.map (·.no)).Nodup∧(ju l o i).1.length≤i∧(∀ b∈(ju l o i).1,b.bH.length≤i)∧(ju l o i).2.length≤i:=by
 obtain ⟨h1,h2,h3,h4⟩:=uo l o i hi;have hr:pk (fE l o i) (ju l o i):=wF sw sx l (o.take i) ⟨.nil,.nil,rfl⟩;obtain ⟨k1,k2,k3⟩:=hr;refine ⟨(k1.map _).nodup_iff.1 k2,by rw[←k1.length_eq];exact h2,fun b hb=>h3 b (k1.mem_iff.2 hb),by rw[←k3];exact h4⟩
theorem apu(l:List ao)(s:List aH×List Nat)(i:Nat):jB fw l s i=((ef s.1 (ab l i)).1,if (ef s.1 (ab l i)).2 then s.2 else s.2++[i]):=by
 have key:∀ (b:List aH) (v:List Nat) (r:Option (List aH)),(match r with | some bs=>(bs,v) | none=>(b,v++[i]))=((match r with | some bs'=>(bs',true) | none=>(b,false)).1,if (match r with | some bs'=>(bs',true) | none=>(b,false)).2=true then v else v++[i]):=fun b v r=>by cases r <;>rfl
 exact key s.1 s.2 (dz fw s.1 (ab l i))
theorem aoa(l:List ao)(day known:Int):ln l day known=⟨(jv fw l (fV l day known)).1,fN (cz (jv fw l (fV l day known)).2)⟩:=rfl
theorem api{A:ae}{n:Nat}{w:I}{rest:List aG} : dx A (some 2) n [] w (.agg [.nils 9,.nils 1]) rest (some (.agg [.nils 9,.nils 1]))=aC rest (A.aR n (.box (.agg [.nils 9,.nils 1]))):=by
 refine (eF (s:=some 2) (by rfl) (by rfl) (by rfl)).trans ?_;rw[iw]
theorem Sa:eP [.nils 9,.nils 1] []=some [.nils 9,.nils 1]:=rfl
def oM(bs:List aH):I:=.agg [enc bs,.nils 1]
theorem KT(bs:List aH):(oM bs).du=some [enc bs,.nils 1]:=rfl
theorem l9(a b:I)(v:I):dM [a,b] 0 0 v=some v:=by simp[dM,I.sizes]
theorem yE(bs:List aH)(b v:I):dM [enc bs,b] 1 1 v=some v:=by simp[dM,I.sizes,iD,qS]
theorem apg{A:ae}{n:Nat}{bs bs':List aH}{rest:List aG} : dx A none n [0] (oM bs) (enc bs') rest (some (enc bs))=aC rest (A.aR n (.box (oM bs'))):=by
 rw[eF (s:=none) (v:=enc bs') (old:=enc bs) (dO _) (by rw[kW];rfl) ((eL bs').trans (eL bs).symm)];rfl
theorem aph{A:ae}{n:Nat}{bs:List aH}{v:List Int}{rest:List aG} : dx A none n [1] (oM bs) (enc v) rest (some (.nils 1))=aC rest (A.aR n (.box (enc (⟨bs,v⟩:nq)))):=by
 rw[eF (s:=none) (v:=enc v) (old:=.nils 1) (dO _) (by rw[kW];rfl) (eL v)];rfl
theorem OU{A:ae}{n:Nat}{w:I}{x:nq}{rest:List aG} : dx A (some 2) n [] w (enc x) rest (some (.agg [.nils 9,.nils 1]))=aC rest (A.aR n (.box (enc x))):=by
 refine (eF (s:=some 2) (dO x) (by rw[gq];rfl) (by rw[eL];rfl)).trans ?_;rw[iw]
theorem mY(x:nq):ca (some 2) (enc x)=true:=by rw[gq];rfl
theorem nG(x:nq):(enc x:I).du=some [enc x.cI,enc x.Pg]:=rfl
theorem O9{o:List Nat}{k:Nat}(h:k<o.length)(A:ae):jl A 1 (k:Int) (enc (cz o))=some (.ref (.int .i64 (o[k]:Nat))):=by
 have h2:k<(cz o).length:=by simpa[cz] using h
 rw[eh 1 h2 rfl];simp[cz,ga]
theorem apB{key:Nat→Int}{o:List Nat}(hp:o.Pairwise (lb key)){k:Nat}(hk:k<o.length){v:Int}(h:key o[k]≤v):∀ x∈o.take (k+1),key x≤v:=by
 intro x hx;obtain ⟨j,hj,rfl⟩:=List.getElem_of_mem hx;rw[zy4] at hj;rw[List.getElem_take];by_cases e:j=k
 ·subst e;exact h
 ·have:=List.pairwise_iff_getElem.1 hp j k (by omega) hk (by omega);simp only[lb] at this;omega
theorem sj(l:List ao)(known day:Int)(hok:dF l=true):aw Tryz.prog 76 [enc l,enc known,enc day] (enc (ln l day known)):=by
 have hl:=n9 hok;refine aw.bj Tryz.func76 T4 V8 Yt (zz0 rfl) (fun hwf W0 D0 E1 =>?_);simp only[CR,NQ,bg,zz3,Nat.reduceAdd];clear hwf;have hS:=Px l known hl;have R:=u8 @aX (u8 @aJ @U)
 repeat' ((first |(with_reducible refine .guard (fun hb =>?_) (fun hb =>?_) <;>try simp only[hb])|refine J.aE (by decide +kernel) rfl fun K hK =>?_|refine .lead _ (hS) ?_|(refine .ay [0,1,2,6,7,8,9,10,11,12,13,14,15,22,46,67,86,105] hK ?_;clear hK K)|(with_reducible refine .done (hK _ ?_);clear hK K)|refine J.of rfl ?_|(with_reducible refine ai.aB (fun h =>?_) (fun h =>?_) <;>try simp only[h])) <;>try simp only[aF,R,Nat.reduceEqDiff,reduceIte,Nat.reduceBEq])
 all_goals clear R
 refine J.loop (fun i:Nat=>ar [(0,enc l),(2,.int .i64 day),(6,.ptr 6 []),(7,enc (gR l known)),(8,enc (cz (kg l day known i))),(9,.int .i64 i)] [(6,.box (.agg [.nils 9,.nils 1]))]) (fun i=>i≤l.length) (fun i=>l.length-i) 0 (zw8 _) ?_ (fun i hi =>?_)
 ·refine az.oH [] 8 (x:=.nils 1) (y:=enc ([]:List Int)) rfl (by rfl) ?_ ?_ ?_ ?_ ?_ <;>simp[cJ,aZ,aO,bC,bx,fK,aP,I.only,I.bW,ah.only,bh,ak,al,kg,rI,cz]
 by_cases hlt:i<l.length
 ·have hc:=eR hlt;have he:=fun A=>hE (A:=A) hlt;have hw:=dX (i:=i) (by omega);have hst:i<(gR l known).length:=by rw[O1];exact hlt
  have heS:=fun A=>eh (A:=A) 1 hst rfl;have hsu:=anV l day known i;obtain ⟨hp1,hp2,hp3⟩:=anU l day known i;have hdue:oE l day known i=((gR l known)[i]&&(((ab l i).kind != 0)&&decide ((ab l i).day≤day))):=by
   simp only[oE,nR,zz2,zy1 hst,Option.getD_some,bne,ne_eq,decide_not];rfl
  have hgt:decide (day<(ab l i).day) = !decide ((ab l i).day≤day):=by
   by_cases h:(ab l i).day≤day
   ·simp[h]
   ·simp[h];omega
  rcases q1:(gR l known)[i] <;>rcases q2:((ab l i).kind==0) <;>rcases q3:decide ((ab l i).day≤day)
  all_goals
   rw[q3] at hgt;have q2':((ab l i).kind != 0) = !((ab l i).kind==0):=rfl;rw[q1,q2',q2,q3] at hdue;simp only[zu5,Bool.not_false,Bool.and_true,Bool.and_false] at hdue hgt;rw[hdue] at hsu
  case true.false.true =>
   simp only[if_true] at hsu;generalize kg l day known i=o at *;have htl:(cz o).length=o.length:=by simp[cz]
   have R:=u8 @hc (u8 @he (u8 @heS (u8 @hw (u8 @q1 (u8 @q2 (u8 @hgt (u8 @htl (u8 @aX (u8 @aJ (u8 @n8 @U))))))))))
   repeat' ((first |(with_reducible refine .guard (fun hb =>?_) (fun hb =>?_) <;>try simp only[hb])|refine J.aE (by decide +kernel) rfl fun K hK =>?_|(refine .ay [0,1,2,6,7,8,9,10,11,12,13,14,15,22,46,67,86,105] hK ?_;clear hK K)|(with_reducible refine .done (hK _ ?_);clear hK K)|refine J.of rfl ?_|(with_reducible refine ai.aB (fun h =>?_) (fun h =>?_) <;>try simp only[h])) <;>try simp only[aF,R,Nat.reduceEqDiff,reduceIte,Nat.reduceBEq])
   all_goals clear R
   refine J.loop (fun k:Nat=>ar [(0,enc l),(2,.int .i64 day),(6,.ptr 6 []),(7,enc (gR l known)),(8,enc (cz o)),(9,.int .i64 i),(10,.int .i64 k)] [(6,.box (.agg [.nils 9,.nils 1]))]) (fun k=>k≤o.length∧∀ x∈o.drop k,(ab l i).day<(ab l x).day) (fun k=>k) o.length ⟨zz9 _,by simp⟩ ?_ (fun k hk =>?_)
   ·refine az.cN ?_ (fun m=>rfl);simp[aO,aP]
   obtain ⟨hk1,hk2⟩:=hk;have bl:(∀ x∈o.take k,(ab l x).day≤(ab l i).day)→gF (fun i=>(ab l i).day) i o=o.take k++i::o.drop k:=fun h=>alz h hk2;have hT:cz (o.take k++i::o.drop k)=(cz o).take k++(i:Int)::(cz o).drop k:=by simp[cz,List.map_take,List.map_drop]
   by_cases hk0:k=0
   ·subst hk0;have hg0:decide ((0:Int)<((0:Nat):Int))=false:=by decide
    rw[bl (by simp)] at hsu;have R:=u8 @hg0 (u8 @aX (u8 @aJ @U))
    repeat' ((first |(with_reducible refine .guard (fun hb =>?_) (fun hb =>?_) <;>try simp only[hb])|refine J.aE (by decide +kernel) rfl fun K hK =>?_|(refine .ay [0,1,2,6,7,8,9,10,11,12,13,14,15,22,46,67,86,105] hK ?_;clear hK K)|(with_reducible refine .done (hK _ ?_);clear hK K)|refine J.of rfl ?_|(with_reducible refine ai.aB (fun h =>?_) (fun h =>?_) <;>try simp only[h])) <;>try simp only[aF,R,Nat.reduceEqDiff,reduceIte,Nat.reduceBEq])
    all_goals clear R
    refine J.oq (qH l day (gR l known) ((cz o).take 0++(i:Int)::(cz o).drop 0) i (.agg [.nils 9,.nils 1])) (J.sub ?_ (Oc rfl (by omega) (by omega) (.inr rfl))) (fun B hsub =>?_)
    ·refine az.cN ?_ (fun m=>rfl);simp[aO,aP]
    simp only[au,bS];refine J.sub hsub ?_;have R:=u8 @hw (u8 @aX (u8 @aJ @U))
    repeat' ((first |(with_reducible refine .guard (fun hb =>?_) (fun hb =>?_) <;>try simp only[hb])|refine J.aE (by decide +kernel) rfl fun K hK =>?_|(refine .ay [0,1,2,6,7,8,9,10,11,12,13,14,15,22,46,67,86,105] hK ?_;clear hK K)|(with_reducible refine .done (hK _ ?_);clear hK K)|refine J.of rfl ?_|(with_reducible refine ai.aB (fun h =>?_) (fun h =>?_) <;>try simp only[h])) <;>try simp only[aF,R,Nat.reduceEqDiff,reduceIte])
    all_goals clear R
    refine ⟨i+1,by omega,by omega,?_⟩;rw[hsu,hT];refine az.cN ?_ (fun m=>rfl);simp[aO,aP]
   obtain ⟨k',rfl⟩:∃ k',k=k'+1:=⟨k-1,by omega⟩
   have hkl:k'<o.length:=by omega
   have hg1:decide ((0:Int)<((k'+1:Nat):Int))=true:=decide_eq_true (by omega);have hwk:IntKind.i64.wrap (((k'+1:Nat):Int)-1)=(k':Int):=by rw[cL _ (by omega) (by omega)];omega
   have hek:=fun A=>O9 (A:=A) hkl;have hol:o[k']<l.length:=by have:=hp2 _ (zx8 hkl);omega
   have heo:=fun A=>hE (A:=A) hol;rcases q4:decide ((ab l i).day<(ab l o[k']).day)
   ·have q4':(ab l o[k']).day≤(ab l i).day:=by simp at q4;omega
    rw[bl (apB hp1 hkl q4')] at hsu;have R:=u8 @hg1 (u8 @hwk (u8 @hek (u8 @heo (u8 @he (u8 @q4 (u8 @aX (u8 @aJ (u8 @n8 @U))))))))
    repeat' ((first |(with_reducible refine .guard (fun hb =>?_) (fun hb =>?_) <;>try simp only[hb])|refine J.aE (by decide +kernel) rfl fun K hK =>?_|(refine .ay [0,1,2,6,7,8,9,10,11,12,13,14,15,22,46,67,86,105] hK ?_;clear hK K)|(with_reducible refine .done (hK _ ?_);clear hK K)|refine J.of rfl ?_|(with_reducible refine ai.aB (fun h =>?_) (fun h =>?_) <;>try simp only[h])) <;>try simp only[aF,R,Nat.reduceEqDiff,reduceIte,Nat.reduceBEq])
    all_goals clear R
    refine J.oq (qH l day (gR l known) ((cz o).take (k'+1)++(i:Int)::(cz o).drop (k'+1)) i (.agg [.nils 9,.nils 1])) (J.sub ?_ (Oc rfl (by omega) (by omega) (.inr rfl))) (fun B hsub =>?_)
    ·refine az.cN ?_ (fun m=>rfl);simp[aO,aP]
    simp only[au,bS];refine J.sub hsub ?_;have R:=u8 @hw (u8 @aX (u8 @aJ @U))
    repeat' ((first |(with_reducible refine .guard (fun hb =>?_) (fun hb =>?_) <;>try simp only[hb])|refine J.aE (by decide +kernel) rfl fun K hK =>?_|(refine .ay [0,1,2,6,7,8,9,10,11,12,13,14,15,22,46,67,86,105] hK ?_;clear hK K)|(with_reducible refine .done (hK _ ?_);clear hK K)|refine J.of rfl ?_|(with_reducible refine ai.aB (fun h =>?_) (fun h =>?_) <;>try simp only[h])) <;>try simp only[aF,R,Nat.reduceEqDiff,reduceIte])
    all_goals clear R
    refine ⟨i+1,by omega,by omega,?_⟩;rw[hsu,hT];refine az.cN ?_ (fun m=>rfl);simp[aO,aP]
   ·have q4':(ab l i).day<(ab l o[k']).day:=by simpa using q4
    have R:=u8 @hg1 (u8 @hwk (u8 @hek (u8 @heo (u8 @he (u8 @q4 (u8 @aX (u8 @aJ (u8 @n8 @U))))))))
    repeat' ((first |(with_reducible refine .guard (fun hb =>?_) (fun hb =>?_) <;>try simp only[hb])|refine J.aE (by decide +kernel) rfl fun K hK =>?_|(refine .ay [0,1,2,6,7,8,9,10,11,12,13,14,15,22,46,67,86,105] hK ?_;clear hK K)|(with_reducible refine .done (hK _ ?_);clear hK K)|refine J.of rfl ?_|(with_reducible refine ai.aB (fun h =>?_) (fun h =>?_) <;>try simp only[h])) <;>try simp only[aF,R,Nat.reduceEqDiff,reduceIte,Nat.reduceBEq])
    all_goals clear R
    refine ⟨k',⟨by omega,fun x hx =>?_⟩,by omega,?_⟩
    ·rw[zv4 hkl] at hx;rcases zw2.1 hx with rfl | hx
     ·exact q4'
     ·exact hk2 x hx
    ·refine az.cN ?_ (fun m=>rfl);simp[aO,aP]
  all_goals
   simp only[zz8,if_false] at hsu;have R:=u8 @hc (u8 @he (u8 @heS (u8 @hw (u8 @q1 (u8 @q2 (u8 @hgt (u8 @aX (u8 @aJ (u8 @n8 @U)))))))))
   repeat' ((first |(with_reducible refine .guard (fun hb =>?_) (fun hb =>?_) <;>try simp only[hb])|refine J.aE (by decide +kernel) rfl fun K hK =>?_|(refine .ay [0,1,2,6,7,8,9,10,11,12,13,14,15,22,46,67,86,105] hK ?_;clear hK K)|(with_reducible refine .done (hK _ ?_);clear hK K)|refine J.of rfl ?_|(with_reducible refine ai.aB (fun h =>?_) (fun h =>?_) <;>try simp only[h])) <;>try simp only[aF,R,Nat.reduceEqDiff,reduceIte,Nat.reduceBEq])
   all_goals clear R
   refine ⟨i+1,by omega,by omega,?_⟩;rw[hsu];refine az.cN ?_ (fun m=>rfl);simp[aO,aP]
 ·have hc:=eT hlt;have hge:i=l.length:=by omega
  subst hge;rw[anT];have R:=u8 @hc (u8 @api (u8 @Sa (u8 @aX (u8 @aJ @U))))
  repeat' ((first |(with_reducible refine .guard (fun hb =>?_) (fun hb =>?_) <;>try simp only[hb])|refine J.aE (by decide +kernel) rfl fun K hK =>?_|(refine .ay [0,1,2,6,7,8,9,10,11,12,13,14,15,22,46,67,86,105] hK ?_;clear hK K)|(with_reducible refine .done (hK _ ?_);clear hK K)|refine J.of rfl ?_|(with_reducible refine ai.aB (fun h =>?_) (fun h =>?_) <;>try simp only[h])) <;>try simp only[aF,R,Nat.reduceEqDiff,reduceIte,Nat.reduceBEq])
  all_goals clear R
  have hpl:=aoa l day known;have hmem:∀ i∈fV l day known,i<l.length∧(ab l i).kind≠0:=fun i hi=>by
   have h1:=LM hi;refine ⟨wb h1,?_⟩;have:=(zv6.1 h1).2;simp only[zz4,decide_eq_true_eq] at this;exact this.1
  have hol:(fV l day known).length≤60:=by rw[yT];exact zu1 (sR l day known) hl
  rw[hpl];generalize fV l day known=o at *;have htl:(cz o).length=o.length:=by simp[cz]
  refine J.sub (az.amB 11 9 [0] (.agg [.nils 9,.nils 1]) rfl rfl) ?_;refine J.loop (fun i:Nat=>ar [(0,enc l),(6,.ptr 6 []),(8,enc (cz o)),(11,.ptr 11 []),(12,.own 912 (cz (ju l o i).2).length),(13,.int .i64 i)] [(6,.box (.agg [.nils 9,.nils 1])),(11,.box (oM (ju l o i).1)),(912,.b5 3 1 ((cz (ju l o i).2).map enc))]) (fun i=>i≤o.length) (fun i=>o.length-i) 0 (zw8 _) ?_ (fun i hi =>?_)
  ·refine az.lD 12 912 3 1 1 rfl rfl ?_;refine az.bL ?_ ?_ ?_ ?_ <;>simp[aO,bC,bx,aZ,al,aP,ak,I.only,I.bW,bh,ah.only,ju,cz,oM]
   rfl
  obtain ⟨hr1,hr2,hr3,hr4⟩:=an8 l o i hi;by_cases hlt:i<o.length
  ·have hc:=eR hlt;have he:=fun A=>O9 (A:=A) hlt;have hw:=dX (i:=i) (by omega);obtain ⟨hjl,hjk⟩:=hmem o[i] (zx8 hlt);have he2:=fun A=>hE (A:=A) hjl;have hs:=an9 (l:=l) hlt;rw[apu] at hs;generalize ju l o i=s at *;obtain ⟨bs,vd⟩:=s;simp only at hr1 hr2 hr3 hr4 hs ⊢;have hF:=PI bs (ab l o[i]) (by omega) hr1 (fun b hb=>by have:=hr3 b hb;omega) (uf hok hjl) hjk;have happ:=fun (A:ae) d rest=>jE (α:=Int) (A:=A) (d:=d) 3 1 8 912 (l:=(cz vd).length) (es:=cz vd) (ys:=[(o[i]:Int)]) (rest:=rest) rfl rfl (by simp) (by simp[maxLen,cz];omega) (by simp[cz];omega);generalize ef bs (ab l o[i])=r at hF hs;obtain ⟨bs',did⟩:=r;simp only at hF hs;cases did
   all_goals
    simp only[zz8,if_false,if_true] at hs;have R:=u8 @hc (u8 @htl (u8 @he (u8 @he2 (u8 @hw (u8 @happ (u8 @kT (u8 @KT (u8 @l9 (u8 @apg (u8 @cD (u8 @aX (u8 @aJ @U))))))))))))
    repeat' ((first |(with_reducible refine .guard (fun hb =>?_) (fun hb =>?_) <;>try simp only[hb])|refine J.aE (by decide +kernel) rfl fun K hK =>?_|refine .lead _ (hF) ?_|(refine .ay [0,1,2,6,7,8,9,10,11,12,13,14,15,22,46,67,86,105] hK ?_;clear hK K)|(with_reducible refine .done (hK _ ?_);clear hK K)|refine J.of rfl ?_|(with_reducible refine ai.aB (fun h =>?_) (fun h =>?_) <;>try simp only[h])) <;>try simp only[aF,R,Nat.reduceEqDiff,reduceIte,Nat.reduceBEq])
    all_goals clear R
    refine ⟨i+1,by omega,by omega,?_⟩;rw[hs];have ab:cz (vd++[o[i]])=cz vd++[(o[i]:Int)]:=by simp[cz]
    simp only[ab];refine az.bL ?_ ?_ ?_ ?_ <;>simp[aO,bC,bx,aZ,al,aP,ak,I.only,I.bW,bh,ah.only,dn,gm,oM]
  ·have hc:=eT hlt;have hge:i=o.length:=by omega
   subst hge;rw[an7] at hr4 ⊢;have hF:=Aw (cz (jv fw l o).2) (by simp[cz];omega);have hfo:=nH (k:=(cz (jv fw l o).2).length) (T:=3) (es:=cz (jv fw l o).2) 1 rfl rfl;have R:=u8 @hc (u8 @htl (u8 @hfo (u8 @KT (u8 @l9 (u8 @yE (u8 @aph (u8 @OU (u8 @mY (u8 @cD (u8 @aX (u8 @aJ @U)))))))))))
   repeat' ((first |(with_reducible refine .guard (fun hb =>?_) (fun hb =>?_) <;>try simp only[hb])|refine J.aE (by decide +kernel) rfl fun K hK =>?_|refine .lead _ (hF) ?_|(refine .ay [0,1,2,6,7,8,9,10,11,12,13,14,15,22,46,67,86,105] hK ?_;clear hK K)|(with_reducible refine .done (hK _ ?_);clear hK K)|refine J.of rfl ?_|(with_reducible refine ai.aB (fun h =>?_) (fun h =>?_) <;>try simp only[h])) <;>try simp only[aF,R,Nat.reduceEqDiff,reduceIte,Nat.reduceBEq])
   all_goals clear R
   trace_state
end Go.Proofs.YtcldiigclhgafaaGreat
namespace Go.Proofs.YtcldiigclhgafaaGreat
open Go Go.Abs Go.ChangeShapes Go.WideShapes Go.RowKit
open Go.Abs.Enc (enc)
theorem Tryz.own:ownKnob Tryz.prog.godebug=none:=by kernel_rfl
theorem Tryz.al0:laidOutB Tryz.prog=true:=by kernel_rfl
theorem iS:fI Tryz.prog 3 Int:=anQ (by kernel_rfl) (by kernel_rfl)
theorem amM:fI Tryz.prog 23 (bG 5 Int):=yS (x7 (by kernel_rfl)) iS (by kernel_rfl) (by decide)
theorem amL:fI Tryz.prog 66 (bG 6 Int):=yS (x7 (by kernel_rfl)) iS (by kernel_rfl) (by decide)
theorem amJ:fI Tryz.prog 61 (bG 6 Int):=yS (x7 (by kernel_rfl)) iS (by kernel_rfl) (by decide)
theorem amH:fI Tryz.prog 63 cE:=⟨by kernel_rfl,by decide,fun h=>by
 obtain ⟨a,b,hab⟩:=LH (α:=Int) (β:=bG 6 Int) (u0:=3) (u1:=61) (by kernel_rfl) iS amJ (by kernel_rfl) h;exact ⟨⟨a,b⟩,hab⟩⟩
theorem amI:fI Tryz.prog 24 (List cE):=LG (by kernel_rfl) amH (by kernel_rfl)
theorem amK:fI Tryz.prog 26 cq:=⟨by kernel_rfl,by decide,fun h=>by
 obtain ⟨a,b,c,hab⟩:=LI (α:=bG 5 Int) (β:=Int) (γ:=List cE) (u0:=23) (u1:=3) (u2:=24) (by kernel_rfl) amM iS amI (by kernel_rfl) h;exact ⟨⟨a,b,c⟩,hab⟩⟩
theorem yB:fI Tryz.prog 65 Item:=⟨by kernel_rfl,by decide,fun h=>by
 obtain ⟨a,b,hab⟩:=LH (α:=Int) (β:=Int) (u0:=3) (u1:=3) (by kernel_rfl) iS iS (by kernel_rfl) h;exact ⟨⟨a,b⟩,hab⟩⟩
theorem amF:fI Tryz.prog 68 ao:=⟨by kernel_rfl,by decide,fun h=>by
 obtain ⟨vs,hv,hr⟩:=anR [(65,0),(3,2),(3,3),(3,4),(3,5),(3,6),(3,7),(3,8),(66,9),(65,15)]
  [(2,fun v=>∃ a:Item,v=enc a),(1,fun v=>∃ a:Int,v=enc a),(1,fun v=>∃ a:Int,v=enc a),(1,fun v=>∃ a:Int,v=enc a),(1,fun v=>∃ a:Int,v=enc a),(1,fun v=>∃ a:Int,v=enc a),(1,fun v=>∃ a:Int,v=enc a),(1,fun v=>∃ a:Int,v=enc a),(6,fun v=>∃ a:bG 6 Int,v=enc a),(2,fun v=>∃ a:Item,v=enc a)]
  (by kernel_rfl) (by simp only[rF];exact ⟨trivial,yB.bI,trivial,iS.bI,trivial,iS.bI,trivial,iS.bI,trivial,iS.bI,trivial,iS.bI,trivial,iS.bI,trivial,iS.bI,trivial,amL.bI,trivial,yB.bI,trivial⟩) (by kernel_rfl) h
 obtain ⟨v0,vs0,e0,h0,hv0⟩:=lE hv;obtain ⟨a0,f0⟩:∃ a:Item,v0=enc a:=h0;obtain ⟨v1,vs1,e1,h1,hv1⟩:=lE hv0;obtain ⟨a1,f1⟩:∃ a:Int,v1=enc a:=h1;obtain ⟨v2,vs2,e2,h2,hv2⟩:=lE hv1;obtain ⟨a2,f2⟩:∃ a:Int,v2=enc a:=h2;obtain ⟨v3,vs3,e3,h3,hv3⟩:=lE hv2;obtain ⟨a3,f3⟩:∃ a:Int,v3=enc a:=h3;obtain ⟨v4,vs4,e4,h4,hv4⟩:=lE hv3;obtain ⟨a4,f4⟩:∃ a:Int,v4=enc a:=h4;obtain ⟨v5,vs5,e5,h5,hv5⟩:=lE hv4;obtain ⟨a5,f5⟩:∃ a:Int,v5=enc a:=h5;obtain ⟨v6,vs6,e6,h6,hv6⟩:=lE hv5;obtain ⟨vk,f6⟩:∃ a:Int,v6=enc a:=h6;obtain ⟨v7,vs7,e7,h7,hv7⟩:=lE hv6;obtain ⟨a7,f7⟩:∃ a:Int,v7=enc a:=h7;obtain ⟨v8,vs8,e8,h8,hv8⟩:=lE hv7;obtain ⟨a8,f8⟩:∃ a:bG 6 Int,v8=enc a:=h8;obtain ⟨v9,vs9,e9,h9,hv9⟩:=lE hv8;obtain ⟨a9,f9⟩:∃ a:Item,v9=enc a:=h9;have e10:=Ro hv9;rw[e0,e1,e2,e3,e4,e5,e6,e7,e8,e9,e10,f0,f1,f2,f3,f4,f5,f6,f7,f8,f9] at hr;exact ⟨⟨a0,a1,a2,a3,a4,a5,vk,a7,a8,a9⟩,hr⟩⟩
theorem amG:fI Tryz.prog 27 (List ao):=LG (by kernel_rfl) amF (by kernel_rfl)
theorem aoW{w:World}{D:aV}{E:a6}{x y z:I}{a b c:Value}(hx:∃ cs,bR x a cs∧af w D E x cs)(hy:∃ cs,bR y b cs∧af w D E y cs)(hz:∃ cs,bR z c cs∧af w D E z cs):aK w D E [x,y,z] [a,b,c]:=by
 obtain ⟨c1,h1,h2⟩:=hx;obtain ⟨c2,h3,h4⟩:=hy;obtain ⟨c3,h5,h6⟩:=hz;simp only[aK];exact ⟨a,[b,c],c1,rfl,h1,h2,b,[c],c2,rfl,h3,h4,c,[],c3,rfl,h5,h6,rfl⟩
end Go.Proofs.YtcldiigclhgafaaGreat
namespace Go.Proofs.YtcldiigclhgafaaGreat
open Go Go.Abs
open Go.Abs.Enc (enc)
theorem ee.Ly{aD:Bool}{ρ:List (Nat×Nat)}{k:Nat}{x:ah}{os0:List (Nat×ah)}{r c:I}(h1:∀ p,c.only p=true)(h2:aD=true→c.c7=true)(h3:r.only (al [(k,.box c)])=true)(h4:aD=true→r.c7=true):ee aD ρ [(k,x)] os0 r [(k,.box c)]:=by
 refine ⟨fun m x h =>?_,fun m m' h h' _ =>?_,fun m h =>?_,fun m h h' =>?_,h3,h4⟩
 ·simp only[ak] at h;split at h
  ·simp only[t7] at h;subst h;exact ⟨h1 _,rfl,h2⟩
  ·cases h
 ·rw[cH.1 h,cH.1 h']
 ·rw[cH.1 h];exact cH.2 rfl
 ·rw[cH.1 h] at h';have:al [(k,x)] k=true:=cH.2 rfl;rw[this] at h';cases h'
theorem yl(p:Nat→Bool)(l:List ao):(I.agg (l.map enc)).only p=true:=by simp only[I.only];exact dn p l
theorem As(l:List ao)(i:Nat)(hi:i<l.length)(hlen:l.length≤60):aw Tryz.prog 78 [enc l,enc (i:Int)] (enc (dq l i)):=by
 have hne:l≠[]:=fun e=>by rw[e] at hi;simp at hi
 have hdl:=D4 hi;refine aw.bj Tryz.func78 T5 V9 Yu (zz0 rfl) (fun hwf W0 D0 E1 =>?_);simp only[CS,NR,bg,zz3];clear hwf;refine .aq (by decide +kernel) fun K hK =>?_;simp only[J0,U,simprocAttr];refine .done (hK _ ?_);clear hK K;refine .aq (by decide +kernel) fun K hK =>?_;simp only[J1,U,simprocAttr];refine .bV false [(7,6)] [] [enc l] (DE l) rfl (PR l (by omega)) fX.nil ⟨.inl ⟨(j5 _ _).symm,bh _ _,dO _⟩,trivial⟩ ?_ ?_
 ·rintro x os' (⟨_,h | h,rfl⟩ | ⟨_,k,rfl,rfl⟩)
  ·subst h;exact ee.nil (fun _=>rfl) (fun h=>by cases h)
  ·subst h;exact ee.nil (fun _=>rfl) (fun h=>by cases h)
  ·exact ee.p8 (fun p=>yl p _) (fun h=>by cases h) rfl (fun h=>by cases h) rfl (by decide)
 ·rintro x os' (⟨hn,_,_⟩ | ⟨hn,k,rfl,rfl⟩)
  ·exact absurd hn hne
  try simp only[lu,gP,fM,zy0,zy5,U,simprocAttr]
  rw[cL _ (by omega) (by omega)];have hp1:(i:Int)+1=((i+1:Nat):Int):=by omega
  simp only[hp1];refine .bV false [(1000000,6)] (lu 1000000 l k) [.view 1000000 [] 17 0 l.length,enc (i:Int),enc ((i+1:Nat):Int)] (DX l i) rfl (PQ l i k hi (by omega)) ⟨?_,?_⟩ ⟨.inl ⟨?_,?_,rfl⟩,.inl ⟨rfl,rfl,rfl⟩,.inl ⟨rfl,rfl,rfl⟩,trivial⟩ ?_ ?_
  ·intro n x h;simp only[lu,ak] at h;split at h
   ·rename_i hn';subst hn';simp only[t7] at h;subst h;exact ⟨by simp only[gP,fM,U,simprocAttr],yl _ _,rfl⟩
   ·cases h
  ·intro a b ha hb _;rw[cH.1 ha,cH.1 hb]
  ·try simp only[gP,simprocAttr]
  ·exact cH.2 rfl
  ·rintro x os' ⟨q,rfl,rfl⟩;exact ee.Ly (fun p=>yl p _) (fun h=>by cases h) rfl (fun h=>by cases h)
  ·rintro x os' ⟨q,rfl,rfl⟩;rw[←hdl];generalize hL:dq l i=L at hdl ⊢
   try simp only[lu,gP,fM,zy0,zy5,U,simprocAttr]
   refine .done (hK _ ?_);clear hK K;refine J.ret ?_;simp only[U,simprocAttr]
   try simp only[qY (α:=ao) (sz:=17) rfl,U,simprocAttr]
   rw[hL];simp
theorem PO(a b:List Int):aw Tryz.prog 134 [enc a,enc b] (enc (decide (a=b))):=by
 refine aw.bj Tryz.func134 SN UR Xd (zz0 rfl) (fun hwf W0 D0 E1 =>?_);simp only[Bz,Mu,bg,zz3];have hlen:a.length≤maxLen:=((kL a).1 hwf.1).1;simp only[maxLen] at hlen;clear hwf;by_cases hl:a.length=b.length
 case neg =>
  have hn:((a.length:Int) != (b.length:Int))=true:=by simp;omega
  have R:=u8 @hn (u8 @aX (u8 @aJ @U))
  repeat' ((first |(with_reducible refine .guard (fun hb =>?_) (fun hb =>?_) <;>try simp only[hb])|refine J.aE (by decide +kernel) rfl fun K hK =>?_|(refine .ay [0,1,4,5,10,12,13,14,24] hK ?_;clear hK K)|(with_reducible refine .done (hK _ ?_);clear hK K)|refine J.of rfl ?_|(with_reducible refine ai.aB (fun h =>?_) (fun h =>?_) <;>try simp only[h])) <;>try simp only[aF,R,simprocAttr])
  all_goals clear R
  have:¬ a=b:=fun e=>hl (by rw[e]);simp[this]
 have hn:((a.length:Int) != (b.length:Int))=false:=by simp;omega
 have R:=u8 @hn (u8 @aX (u8 @aJ @U))
 repeat' ((first |(with_reducible refine .guard (fun hb =>?_) (fun hb =>?_) <;>try simp only[hb])|refine J.aE (by decide +kernel) rfl fun K hK =>?_|(refine .ay [0,1,4,5,10,12,13,14,24] hK ?_;clear hK K)|(with_reducible refine .done (hK _ ?_);clear hK K)|refine J.of rfl ?_|(with_reducible refine ai.aB (fun h =>?_) (fun h =>?_) <;>try simp only[h])) <;>try simp only[aF,R,simprocAttr])
 all_goals clear R
 refine J.loop (fun i:Nat=>ar [(0,enc a),(1,enc b),(12,.int .i64 a.length),(13,.int .i64 i)] []) (fun i=>i≤a.length∧∀ k,k<i→a[k]?=b[k]?) (fun i=>a.length-i) 0 ⟨zw8 _,fun k h=>by omega⟩ ?_ (fun i hi =>?_)
 ·refine az.bL ?_ ?_ ?_ ?_ <;>simp[aO,bC,bx,aZ,aP,I.only,bh]
 obtain ⟨hi1,hi2⟩:=hi;by_cases hlt:i<a.length
 ·have hc:=eR hlt;have he:=fun A=>eh (A:=A) 1 hlt rfl;have hlt2:i<b.length:=by omega
  have he2:=fun A=>eh (A:=A) 1 hlt2 rfl;have hw:=dX (i:=i) (by omega);rcases hp:(a[i] != b[i])
  ·have R:=u8 @hc (u8 @he (u8 @he2 (u8 @hp (u8 @hw (u8 @mb (u8 @aX @U))))))
   repeat' ((first |(with_reducible refine .guard (fun hb =>?_) (fun hb =>?_) <;>try simp only[hb])|refine J.aE (by decide +kernel) rfl fun K hK =>?_|(refine .ay [0,1,4,5,10,12,13,14,24] hK ?_;clear hK K)|(with_reducible refine .done (hK _ ?_);clear hK K)|refine J.of rfl ?_|(with_reducible refine ai.aB (fun h =>?_) (fun h =>?_) <;>try simp only[h])) <;>try simp only[aF,R,simprocAttr])
   all_goals clear R
   refine ⟨i+1,⟨by omega,fun k hk =>?_⟩,by omega,?_⟩
   ·by_cases e:k=i
    ·subst e;have:a[k]=b[k]:=by simpa using hp
     simp[hlt,hlt2,this]
    ·exact hi2 k (by omega)
   ·refine az.bL ?_ ?_ ?_ ?_ <;>simp[aO,bC,bx,aZ,aP,I.only,bh]
  ·have R:=u8 @hc (u8 @he (u8 @he2 (u8 @hp (u8 @mb (u8 @aX @U)))))
   repeat' ((first |(with_reducible refine .guard (fun hb =>?_) (fun hb =>?_) <;>try simp only[hb])|refine J.aE (by decide +kernel) rfl fun K hK =>?_|(refine .ay [0,1,4,5,10,12,13,14,24] hK ?_;clear hK K)|(with_reducible refine .done (hK _ ?_);clear hK K)|refine J.of rfl ?_|(with_reducible refine ai.aB (fun h =>?_) (fun h =>?_) <;>try simp only[h])) <;>try simp only[aF,R,simprocAttr])
   all_goals clear R
   have:¬ a=b:=fun e=>by subst e;simp at hp
   simp[this]
 ·have hc:=eT hlt;have R:=u8 @hc (u8 @aX @U)
  repeat' ((first |(with_reducible refine .guard (fun hb =>?_) (fun hb =>?_) <;>try simp only[hb])|refine J.aE (by decide +kernel) rfl fun K hK =>?_|(refine .ay [0,1,4,5,10,12,13,14,24] hK ?_;clear hK K)|(with_reducible refine .done (hK _ ?_);clear hK K)|refine J.of rfl ?_|(with_reducible refine ai.aB (fun h =>?_) (fun h =>?_) <;>try simp only[h])) <;>try simp only[aF,R,simprocAttr])
  all_goals clear R
  have:a=b:=List.ext_getElem? fun k=>by
   by_cases hk:k<i
   ·exact hi2 k hk
   ·rw[List.getElem?_eq_none (by omega),List.getElem?_eq_none (by omega)]
  simp[this]
def pz(b:aH):bG 8 Int:=⟨[b.no,b.eJ,b.dY,b.bX,b.jH,b.born,b.dH,if b.found then 1 else 0],rfl⟩
theorem R8(a b c d e f g h:Int):(eP [.int .i64 0,.int .i64 0,.int .i64 0,.int .i64 0,.int .i64 0,.int .i64 0,.int .i64 0,.int .i64 0] [(0,.int .i64 a),(1,.int .i64 b),(2,.int .i64 c),(3,.int .i64 d),(4,.int .i64 e),(5,.int .i64 f),(6,.int .i64 g),(7,.int .i64 h)])=some [.int .i64 a,.int .i64 b,.int .i64 c,.int .i64 d,.int .i64 e,.int .i64 f,.int .i64 g,.int .i64 h]:=by simp[eP,I.cu,I.size]
theorem apd{A:ae}{n:Nat}{w:I}{a b c d e f g h a' b' c' d' e' f' g' h':Int}{rest:List aG} : dx A (some 8) n [] w (.agg [.int .i64 a,.int .i64 b,.int .i64 c,.int .i64 d,.int .i64 e,.int .i64 f,.int .i64 g,.int .i64 h]) rest (some (.agg [.int .i64 a',.int .i64 b',.int .i64 c',.int .i64 d',.int .i64 e',.int .i64 f',.int .i64 g',.int .i64 h'])) =
  aC rest (A.aR n (.box (.agg [.int .i64 a,.int .i64 b,.int .i64 c,.int .i64 d,.int .i64 e,.int .i64 f,.int .i64 g,.int .i64 h]))):=by
 refine (eF (s:=some 8) (by rfl) (by rfl) (by rfl)).trans ?_;rw[iw]
theorem anK{a b c d e f g h:Int} : ca (some 8) (.agg [.int .i64 a,.int .i64 b,.int .i64 c,.int .i64 d,.int .i64 e,.int .i64 f,.int .i64 g,.int .i64 h])=true:=rfl
theorem Ac(b:aH):aw Tryz.prog 133 [.ref (enc (⟨b⟩:eK))] (enc (pz b)):=by
 refine aw.bj Tryz.func133 SM UQ Xc (zz0 rfl) (fun hwf W0 D0 E1 =>?_);simp only[By,Mt,bg];clear hwf;rcases hf:b.found
 all_goals
  have R:=u8 @hf (u8 @R8 (u8 @apd (u8 @anK dC)))
  repeat' ((first |(with_reducible refine .guard (fun hb =>?_) (fun hb =>?_) <;>try simp only[hb])|refine J.aE (by decide +kernel) rfl fun K hK =>?_|(refine .ay [0,2,3,8] hK ?_;clear hK K)|(with_reducible refine .done (hK _ ?_);clear hK K)|refine J.of rfl ?_|(with_reducible refine ai.aB (fun h =>?_) (fun h =>?_) <;>try simp only[h])) <;>try simp only[aF,R,simprocAttr])
  all_goals clear R
  simp[pz,hf];rfl
def iG:Option aH→I
 |none=>.nilp
 |some b=>.ref (enc (⟨b⟩:eK))
def fp(m:cq):Option aH→Option aH→Bool
 |some a,some b=>decide ((pz a).l=(pz b).l)&&decide ((gv m a.bH).1=(gv m b.bH).1)
 |none,none=>true
 |_,_=>false
theorem yX:m3 false (some true) (some false)=some (.bool false):=rfl
theorem Ar(m:cq)(x y:Option aH):aw Tryz.prog 77 [enc m,iG x,iG y] (enc (fp m x y)):=by
 rcases x with _ | a
 ·rcases y with _ | b
  all_goals
   simp only[iG,fp];refine aw.bj Tryz.func77 vL vO vX (zz0 rfl) (fun hwf W0 D0 E1 =>?_);simp only[sL,uw,bg,zz3,Nat.reduceAdd];clear hwf;have R:=u8 @yX (u8 @sU (u8 @dS dC))
   repeat' ((first |(with_reducible refine .guard (fun hb =>?_) (fun hb =>?_) <;>try simp only[hb])|refine J.aE (by decide +kernel) rfl fun K hK =>?_|(refine .ay [0,1,2,3,6,7,13] hK ?_;clear hK K)|(with_reducible refine .done (hK _ ?_);clear hK K)|refine J.of rfl ?_|(with_reducible refine ai.aB (fun h =>?_) (fun h =>?_) <;>try simp only[h])) <;>try simp only[aF,R,simprocAttr])
   all_goals clear R
 rcases y with _ | b
 ·simp only[iG,fp];refine aw.bj Tryz.func77 vL vO vX (zz0 rfl) (fun hwf W0 D0 E1 =>?_);simp only[sL,uw,bg,zz3,Nat.reduceAdd];clear hwf;have R:=u8 @yX (u8 @sU (u8 @dS dC))
  repeat' ((first |(with_reducible refine .guard (fun hb =>?_) (fun hb =>?_) <;>try simp only[hb])|refine J.aE (by decide +kernel) rfl fun K hK =>?_|(refine .ay [0,1,2,3,6,7,13] hK ?_;clear hK K)|(with_reducible refine .done (hK _ ?_);clear hK K)|refine J.of rfl ?_|(with_reducible refine ai.aB (fun h =>?_) (fun h =>?_) <;>try simp only[h])) <;>try simp only[aF,R,simprocAttr])
  all_goals clear R
 simp only[iG,fp];refine aw.bj Tryz.func77 vL vO vX (zz0 rfl) (fun hwf W0 D0 E1 =>?_);simp only[sL,uw,bg,zz3,Nat.reduceAdd];clear hwf;have ha:=sg m a;have hyB:=sg m b;have h3:=Ac a;have h4:=Ac b;have R:=u8 @yX (u8 @sU (u8 @dS dC))
 repeat' ((first |(with_reducible refine .guard (fun hb =>?_) (fun hb =>?_) <;>try simp only[hb])|refine J.aE (by decide +kernel) rfl fun K hK =>?_|refine .flat _ (h3) rfl ?_|refine .flat _ (h4) rfl ?_|refine .lead _ (ha) ?_|refine .lead _ (hyB) ?_|refine .flat _ (PO _ _) rfl ?_|(refine .ay [0,1,2,3,6,7,13] hK ?_;clear hK K)|(with_reducible refine .done (hK _ ?_);clear hK K)|refine J.of rfl ?_|(with_reducible refine ai.aB (fun h =>?_) (fun h =>?_) <;>try simp only[h])) <;>try simp only[aF,R,zy0,simprocAttr])
 all_goals clear R
 all_goals simp_all
def uG(m:cq)(l:List ao)(no known:Int)(i:Nat):Bool := !fp m (bY (cM l 100000 known) no) (bY (cM (dq l i) 100000 known) no)
def jQ(m:cq)(l:List ao)(no known:Int)(n:Nat):List Item:=((List.range n).filter (uG m l no known)).map fun i=>(ab l i).cm
theorem aoH(m:cq)(l:List ao)(no known:Int)(n:Nat):jQ m l no known (n+1)=jQ m l no known n++if uG m l no known n then [(ab l n).cm] else []:=by
 simp only[jQ,List.range_succ,zu3,zx4,zx7,zw9]
 congr 1
 split <;>rfl
theorem aoG(m:cq)(l:List ao)(no known:Int)(n:Nat):(jQ m l no known n).length≤n:=by
 simp only[jQ,zy3];have:=zu2 (uG m l no known) (List.range n);simpa using this
def uH(m:cq)(l:List ao)(no known:Int):List Item×Int:=if (lI m l no known).2=0 then (jQ m l no known l.length,0) else ([],(lI m l no known).2)
theorem RL{m:cq}{l:List ao}{no known:Int}(h:(lI m l no known).2=0):dF l=true:=by
 simp only[lI] at h
 repeat' split at h
 all_goals first | (exact mH (by assumption)) | (simp_all;done) | exact mH h
theorem LC(p:Nat→Bool)(x:Option aH):(iG x).only p=true:=by cases x <;>simp[iG,I.only,bh]
theorem yK{l:List ao} : dF l=true↔l.length≤60∧(∀ x∈l,iv x=true)∧l.Pairwise fun a b=>before a.cm b.cm=true:=by
 constructor
 ·intro h;refine ⟨n9 h,fun x hx =>?_,List.pairwise_iff_getElem.2 fun i j hi hj hij =>?_⟩
  ·obtain ⟨i,hi,rfl⟩:=List.getElem_of_mem hx;have:=uf h hi
   rwa [←gC hi] at this
  ·have:=Lp h hij hj
   rwa [←gC hi,←gC hj] at this
 ·rintro ⟨h1,h2,h3⟩;refine yJ h1 fun i hi =>?_;simp only[iE,zz4,Bool.or_eq_true,decide_eq_true_eq];refine ⟨by rw[←gC hi];exact h2 _ (zx8 hi),?_⟩;by_cases h0:i=0
  ·exact .inl h0
  ·right
   have:=List.pairwise_iff_getElem.1 h3 (i-1) i (by omega) hi (by omega)
   rwa [gC,gC] at this
theorem anD{l l':List ao}(hs:l'.Sublist l)(h:dF l=true):dF l'=true:=by
 obtain ⟨h1,h2,h3⟩:=yK.1 h;exact yK.2 ⟨zu1 hs.length_le h1,fun x hx=>h2 x (hs.subset hx),h3.sublist hs⟩
theorem DZ(l:List ao)(i:Nat):(dq l i).Sublist l:=by
 have:=(zy8 i l)
 simp only[dq]
 conv=>rhs;rw[←this]
 refine List.Sublist.append_left ?_ _;rw[←List.drop_drop];exact List.drop_sublist _ _
theorem yI{l:List ao}(hok:dF l=true)(i:Nat):dF (dq l i)=true:=anD (DZ l i) hok
theorem Qp(m:cq)(l:List ao)(no known:Int):aw Tryz.prog 18 [enc m,enc l,enc no,enc known] (.tuple [enc (uH m l no known).1,enc (uH m l no known).2]):=by
 refine aw.bj Tryz.func18 Tq Vv XQ (zz0 rfl) (fun hwf W0 D0 E1 =>?_);simp only[Ce,M9,bg,zz3,Nat.reduceAdd];clear hwf;have hC:=u7 m l no known;simp only[uH];have hok0:=RL (m:=m) (l:=l) (no:=no) (known:=known);generalize lI m l no known=e at hC hok0 ⊢;obtain ⟨e1,e2⟩:=e;simp only at hC hok0 ⊢;by_cases he:e2=0
 case neg =>
  have hn:=nZ he;have R:=u8 @hn (u8 @he (u8 @dS dC))
  repeat' ((first |(with_reducible refine .guard (fun hb =>?_) (fun hb =>?_) <;>try simp only[hb])|refine J.aE (by decide +kernel) rfl fun K hK =>?_|refine .lead _ (hC) ?_|(refine .ay [0,1,2,3,4,8,9,11,12,13,14,15,25,35,36,37,38,55] hK ?_;clear hK K)|(with_reducible refine .done (hK _ ?_);clear hK K)|refine J.of rfl ?_|(with_reducible refine ai.aB (fun h =>?_) (fun h =>?_) <;>try simp only[h])) <;>try simp only[aF,R,simprocAttr])
  all_goals clear R
  all_goals rfl
 have hn:=nY he;have hok:=hok0 he;subst he;have hF:=np l known hok;have hk:=rv (cM l 100000 known) no;have hx:gG (.i .i64) .nilp (.int .i64 no) (dw (cM l 100000 known)) ((cM l 100000 known).map fun b=>.ref (enc (⟨b⟩:eK)))=some (iG (bY (cM l 100000 known) no),(bY (cM l 100000 known) no).isSome):=by
  rw[hk];cases bY (cM l 100000 known) no <;>rfl
 have hlen:=n9 hok;have R:=u8 @hn (u8 @hx (u8 @dS dC))
 repeat' ((first |(with_reducible refine .guard (fun hb =>?_) (fun hb =>?_) <;>try simp only[hb])|refine J.aE (by decide +kernel) rfl fun K hK =>?_|refine .lead _ (hC) ?_|refine .lead _ (hF) ?_|(refine .ay [0,1,2,3,4,8,9,11,12,13,14,15,25,35,36,37,38,55] hK ?_;clear hK K)|(with_reducible refine .done (hK _ ?_);clear hK K)|refine J.of rfl ?_|(with_reducible refine ai.aB (fun h =>?_) (fun h =>?_) <;>try simp only[h])) <;>try simp only[aF,R,simprocAttr])
 all_goals clear R
 refine J.loop (fun i:Nat=>ar [(1,enc l),(2,.int .i64 no),(3,.int .i64 known),(4,.ptr 4 []),(12,iG (bY (cM l 100000 known) no)),(13,.own 913 (jQ m l no known i).length),(35,enc l),(36,.int .i64 l.length),(37,.int .i64 i)] [(4,.box (enc m)),(913,.b5 65 2 ((jQ m l no known i).map enc))]) (fun i=>i≤l.length) (fun i=>l.length-i) 0 (zw8 _) ?_ (fun i hi =>?_)
 ·refine az.lD 13 913 65 2 2 rfl rfl ?_;simp only[jQ,List.range_zero,zw9,zx2,zv7];refine az.bL ?_ ?_ ?_ ?_ <;>simp[*,aO,bC,bx,aZ,al,aP,b8,I.only,I.bW,ah.only,bh,LC]
 have hRl:=aoG m l no known i;by_cases hlt:i<l.length
 ·have hc:=eR hlt;have he:=fun A=>hE (A:=A) hlt;have hw:=dX (i:=i) (by omega);have hD:=As l i hlt hlen;have hokd:=yI hok i;have hF2:=np (dq l i) known hokd;have hk2:=rv (cM (dq l i) 100000 known) no;have hx2:gG (.i .i64) .nilp (.int .i64 no) (dw (cM (dq l i) 100000 known)) ((cM (dq l i) 100000 known).map fun b=>.ref (enc (⟨b⟩:eK)))=some (iG (bY (cM (dq l i) 100000 known) no),(bY (cM (dq l i) 100000 known) no).isSome):=by
   rw[hk2];cases bY (cM (dq l i) 100000 known) no <;>rfl
  have hS:=Ar m (bY (cM l 100000 known) no) (bY (cM (dq l i) 100000 known) no);have hsu:=aoH m l no known i;have hp:uG m l no known i = !fp m (bY (cM l 100000 known) no) (bY (cM (dq l i) 100000 known) no):=rfl;rw[hp] at hsu;generalize fp m (bY (cM l 100000 known) no) (bY (cM (dq l i) 100000 known) no)=b at hS hsu;have happ:=fun (A:ae) d rest=>jE (α:=Item) (A:=A) (d:=d) 65 2 16 913 (l:=(jQ m l no known i).length) (es:=jQ m l no known i) (ys:=[(ab l i).cm]) (rest:=rest) rfl rfl (by simp) (by simp[maxLen];omega) (by simp;omega);have hbs:=oC 2 (ab l i).cm rfl;have hol:(∀ aD A x,bl aD A (iG x)=some (iG x)):=fun aD A x=>by cases x <;>simp[iG,bl,dL]
  cases b
  all_goals
   simp only[zu5,Bool.not_false,if_true,zz8,if_false,zx5] at hsu;have R:=u8 @hc (u8 @he (u8 @hw (u8 @hx2 (u8 @happ (u8 @hbs (u8 @hol (u8 @dS dC)))))))
   repeat' ((first |(with_reducible refine .guard (fun hb =>?_) (fun hb =>?_) <;>try simp only[hb])|refine J.aE (by decide +kernel) rfl fun K hK =>?_|refine .lead _ (hD) ?_|refine .lead _ (hF2) ?_|refine .flat _ (hS) rfl ?_|(refine .ay [0,1,2,3,4,8,9,11,12,13,14,15,25,35,36,37,38,55] hK ?_;clear hK K)|(with_reducible refine .done (hK _ ?_);clear hK K)|refine J.of rfl ?_|(with_reducible refine ai.aB (fun h =>?_) (fun h =>?_) <;>try simp only[h])) <;>try simp only[aF,R,simprocAttr])
   all_goals clear R
   refine ⟨i+1,by omega,by omega,?_⟩;simp only[hsu];refine az.bL ?_ ?_ ?_ ?_ <;>simp[*,aO,bC,bx,aZ,al,aP,b8,I.only,I.bW,ah.only,dn,gm,bh,LC]
 ·have hc:=eT hlt;have hie:i=l.length:=by omega
  subst hie;have hfo:oF (jQ m l no known l.length).length (some (.b5 65 2 ((jQ m l no known l.length).map enc)))=some (enc (jQ m l no known l.length)):=nH 2 rfl rfl;have R:=u8 @hc (u8 @hfo (u8 @aX (u8 @aJ @U)))
  repeat' ((first |(with_reducible refine .guard (fun hb =>?_) (fun hb =>?_) <;>try simp only[hb])|refine J.aE (by decide +kernel) rfl fun K hK =>?_|(refine .ay [0,1,2,3,4,8,9,11,12,13,14,15,25,35,36,37,38,55] hK ?_;clear hK K)|(with_reducible refine .done (hK _ ?_);clear hK K)|refine J.of rfl ?_|(with_reducible refine ai.aB (fun h =>?_) (fun h =>?_) <;>try simp only[h])) <;>try simp only[aF,R,simprocAttr])
  all_goals clear R
theorem QC(a b:List Item):aw Tryz.prog 21 [enc a,enc b] (enc (decide (a=b))):=by
 refine aw.bj Tryz.func21 TB VH X2 (zz0 rfl) (fun hwf W0 D0 E1 =>?_);simp only[Cq,Nn,bg,zz3];have hlen:a.length≤maxLen:=((kL a).1 hwf.1).1;simp only[maxLen] at hlen;clear hwf;by_cases hl:a.length=b.length
 case neg =>
  have hn:((a.length:Int) != (b.length:Int))=true:=by simp;omega
  have R:=u8 @hn (u8 @aX (u8 @aJ @U))
  repeat' ((first |(with_reducible refine .guard (fun hb =>?_) (fun hb =>?_) <;>try simp only[hb])|refine J.aE (by decide +kernel) rfl fun K hK =>?_|(refine .ay [0,1,4,5,10,14,25] hK ?_;clear hK K)|(with_reducible refine .done (hK _ ?_);clear hK K)|refine J.of rfl ?_|(with_reducible refine ai.aB (fun h =>?_) (fun h =>?_) <;>try simp only[h])) <;>try simp only[aF,R,simprocAttr])
  all_goals clear R
  have:¬ a=b:=fun e=>hl (by rw[e]);simp[this]
 have hn:((a.length:Int) != (b.length:Int))=false:=by simp;omega
 have R:=u8 @hn (u8 @aX (u8 @aJ @U))
 repeat' ((first |(with_reducible refine .guard (fun hb =>?_) (fun hb =>?_) <;>try simp only[hb])|refine J.aE (by decide +kernel) rfl fun K hK =>?_|(refine .ay [0,1,4,5,10,14,25] hK ?_;clear hK K)|(with_reducible refine .done (hK _ ?_);clear hK K)|refine J.of rfl ?_|(with_reducible refine ai.aB (fun h =>?_) (fun h =>?_) <;>try simp only[h])) <;>try simp only[aF,R,simprocAttr])
 all_goals clear R
 refine J.loop (fun i:Nat=>ar [(0,enc a),(1,enc b),(5,.int .i64 i)] []) (fun i=>i≤a.length∧∀ k,k<i→a[k]?=b[k]?) (fun i=>a.length-i) 0 ⟨zw8 _,fun k h=>by omega⟩ ?_ (fun i hi =>?_)
 ·refine az.bL ?_ ?_ ?_ ?_ <;>simp[aO,bC,bx,aZ,aP,I.only,bh]
 obtain ⟨hi1,hi2⟩:=hi;by_cases hlt:i<a.length
 ·have hc:=eR hlt;have he:=fun A=>eh (A:=A) 2 hlt rfl;have hlt2:i<b.length:=by omega
  have he2:=fun A=>eh (A:=A) 2 hlt2 rfl;have hw:=dX (i:=i) (by omega);rcases hp:decide (a[i]=b[i])
  ·have R:=u8 @hc (u8 @he (u8 @he2 (u8 @hp (u8 @mb (u8 @aX (u8 @aJ @U))))))
   repeat' ((first |(with_reducible refine .guard (fun hb =>?_) (fun hb =>?_) <;>try simp only[hb])|refine J.aE (by decide +kernel) rfl fun K hK =>?_|(refine .ay [0,1,4,5,10,14,25] hK ?_;clear hK K)|(with_reducible refine .done (hK _ ?_);clear hK K)|refine J.of rfl ?_|(with_reducible refine ai.aB (fun h =>?_) (fun h =>?_) <;>try simp only[h])) <;>try simp only[aF,R,simprocAttr])
   all_goals clear R
   have:¬ a=b:=fun e=>by subst e;simp at hp
   simp[this]
  ·have R:=u8 @hc (u8 @he (u8 @he2 (u8 @hp (u8 @hw (u8 @mb (u8 @aX (u8 @aJ @U)))))))
   repeat' ((first |(with_reducible refine .guard (fun hb =>?_) (fun hb =>?_) <;>try simp only[hb])|refine J.aE (by decide +kernel) rfl fun K hK =>?_|(refine .ay [0,1,4,5,10,14,25] hK ?_;clear hK K)|(with_reducible refine .done (hK _ ?_);clear hK K)|refine J.of rfl ?_|(with_reducible refine ai.aB (fun h =>?_) (fun h =>?_) <;>try simp only[h])) <;>try simp only[aF,R,simprocAttr])
   all_goals clear R
   refine ⟨i+1,⟨by omega,fun k hk =>?_⟩,by omega,?_⟩
   ·by_cases e:k=i
    ·subst e;have:a[k]=b[k]:=by simpa using hp
     simp[hlt,hlt2,this]
    ·exact hi2 k (by omega)
   ·refine az.bL ?_ ?_ ?_ ?_ <;>simp[aO,bC,bx,aZ,aP,I.only,bh]
 ·have hc:=eT hlt;have R:=u8 @hc (u8 @aX (u8 @aJ @U))
  repeat' ((first |(with_reducible refine .guard (fun hb =>?_) (fun hb =>?_) <;>try simp only[hb])|refine J.aE (by decide +kernel) rfl fun K hK =>?_|(refine .ay [0,1,4,5,10,14,25] hK ?_;clear hK K)|(with_reducible refine .done (hK _ ?_);clear hK K)|refine J.of rfl ?_|(with_reducible refine ai.aB (fun h =>?_) (fun h =>?_) <;>try simp only[h])) <;>try simp only[aF,R,simprocAttr])
  all_goals clear R
  have:a=b:=List.ext_getElem? fun k=>by
   by_cases hk:k<i
   ·exact hi2 k hk
   ·rw[List.getElem?_eq_none (by omega),List.getElem?_eq_none (by omega)]
  simp[this]
def jX(a b c d e f:Int):bG 6 Int:=⟨[a,b,c,d,e,f],rfl⟩
def RI(a b c d e:Int):bG 5 Int:=⟨[a,b,c,d,e],rfl⟩
def lR(n k d kn b dY s o:Int)(r:bG 6 Int)(f:Int):ao:=⟨⟨0,n⟩,k,d,kn,b,dY,s,o,r,⟨0,f⟩⟩
def jg:List ao:=[lR 0 1 1 1 10 0 3 2 (jX 0 0 0 0 0 0) 0,lR 1 1 5 5 11 10 3 2 (jX 0 0 0 0 0 0) 0,lR 2 2 6 6 20 0 3 0 (jX 0 0 0 0 0 0) 0,lR 3 4 6 6 20 0 0 0 (jX 31 1 1 1 1 31) 0,lR 4 3 7 7 10 0 0 1 (jX 0 0 0 0 0 0) 0,
 lR 5 4 6 9 20 0 0 0 (jX 24 1 1 1 1 31) 0,lR 6 5 10 10 20 0 0 3 (jX 0 0 0 0 0 0) 0,lR 7 4 8 11 11 0 0 0 (jX 1 1 1 1 1 1) 0,lR 8 6 12 12 10 0 0 0 (jX 0 0 0 0 0 0) 0,lR 9 0 0 14 0 0 0 0 (jX 0 0 0 0 0 0) 5]
def lS:cq:=⟨RI 1 3 4 24 24,0,[⟨1,jX 0 0 0 0 0 0⟩,⟨2,jX 2 0 0 0 0 0⟩,⟨3,jX 3 0 0 0 0 2⟩]⟩
theorem QU:aw Tryz.prog 81 [] (enc jg):=by
 refine aw.bj Tryz.func81 T8 Wc Yx (zz0 rfl) (fun hwf W0 D0 E1 =>?_);simp only[CV,NU,bg];clear hwf;refine .aq (by decide +kernel) fun K hK =>?_;simp only[J2,U,simprocAttr];refine .done (hK _ ?_);clear hK K;refine .aq (by decide +kernel) fun K hK =>?_;simp only[J3,U,simprocAttr]
 try simp only[eP,I.cu,I.size,I.sizes,List.set_cons_zero,List.set_cons_succ,List.getElem?_cons_zero,List.getElem?_cons_succ,and_self,U,simprocAttr]
 simp only[iC];rw[if_pos ⟨by rfl,by rfl⟩]
 try simp only[U,simprocAttr]
 refine .done (hK _ ?_);clear hK K;refine J.ret ?_;simp only[U,simprocAttr]
 try simp only[zw4,U,simprocAttr]
 rfl
theorem QV:aw Tryz.prog 82 [] (enc lS):=by
 refine aw.bj Tryz.func82 T9 Wd Yy (zz0 rfl) (fun hwf W0 D0 E1 =>?_);simp only[CW,NV,bg];clear hwf;refine .aq (by decide +kernel) fun K hK =>?_;simp only[J4,U,simprocAttr];refine .done (hK _ ?_);clear hK K;refine .aq (by decide +kernel) fun K hK =>?_;simp only[J5,U,simprocAttr]
 try simp only[eP,I.cu,I.size,I.sizes,List.set_cons_zero,List.set_cons_succ,List.getElem?_cons_zero,List.getElem?_cons_succ,and_self,U,simprocAttr]
 simp only[iC];rw[if_pos ⟨by rfl,by rfl⟩]
 try simp only[eP,I.cu,I.size,I.sizes,List.set_cons_zero,List.set_cons_succ,List.getElem?_cons_zero,List.getElem?_cons_succ,and_self,U,simprocAttr]
 rw[eF (by rfl) (by rfl) (by rfl)]
 try simp only[iw,U,simprocAttr]
 refine .done (hK _ ?_);clear hK K;refine J.ret ?_;simp only[U,simprocAttr];rw[if_pos (by rfl)]
 try simp only[zw4,U,simprocAttr]
 rfl
def oL(x:Int):List Int→List Int
 | []=>[x]
 |y::l=>if x≤y then x::y::l else y::oL x l
def lX:List Int→List Int
 | []=>[]
 |x::l=>oL x (lX l)
theorem x4(x:Int):∀ l,(oL x l).Perm (x::l)
 | []=>.refl _
 |y::l=>by
  simp only[oL];split
  ·exact .refl _
  ·exact ((x4 x l).cons y).trans (.swap x y l)
theorem KH(x:Int):∀ l:List Int,l.Pairwise (· ≤ ·)→(oL x l).Pairwise (· ≤ ·)
 | [],_=>by simp[oL]
 |y::l,h=>by
  obtain ⟨h1,h2⟩:=zv8.1 h;simp only[oL];split
  ·rename_i hxy;refine zv8.2 ⟨fun z hz =>?_,h⟩;rcases zw2.1 hz with rfl | hz
   ·exact hxy
   ·have:=h1 z hz;omega
  ·refine zv8.2 ⟨fun z hz =>?_,KH x l h2⟩;rcases zw2.1 ((x4 x l).mem_iff.1 hz) with rfl | hz
   ·omega
   ·exact h1 z hz
theorem KN:∀ l,(lX l).Perm l
 | []=>.refl _
 |x::l=>(x4 x _).trans ((KN l).cons x)
theorem KO:∀ l,(lX l).Pairwise (· ≤ ·)
 | []=>.nil
 |x::l=>KH x _ (KO l)
theorem apc{a b:List Int}(ha:a.Pairwise (· ≤ ·))(hb:b.Pairwise (· ≤ ·))(h:a.Perm b):a=b :=
 List.Perm.eq_of_pairwise (fun x y _ _ h k=>Int.le_antisymm h k) ha hb h
theorem OO(l:List Int):(di l).Pairwise (· ≤ ·):=by
 have hx:=List.pairwise_mergeSort (le:=fun x y:Int=>decide (x≤y)) (by intro a b c;simp;omega) (by intro a b;simp;omega) l;exact hx.imp fun {a b} h=>by simpa using h
theorem o8(l:List Int):(di l).Perm l:=List.mergeSort_perm _ _
theorem ON(l:List Int):di l=lX l:=apc (OO l) (KO l) ((o8 l).trans (KN l).symm)
theorem aav:tx jg 10 6 7=(2,0):=by decide +kernel
theorem aaw:lI lS jg 20 9=([3],0):=by decide +kernel
theorem aax:lI lS jg 20 14=([1,2,3],0):=by decide +kernel
theorem aay:r6 lS jg 11=([11],0):=by
 simp only[r6,ON];decide +kernel
theorem aaz:sN jg 2 3 7 7=(1,0):=by decide +kernel
theorem aaA:qJ jg 12 12=([11,20],0):=by
 simp only[qJ,ON];decide +kernel
theorem aaB:uH lS jg 20 9=([⟨0,2⟩,⟨0,5⟩],0):=by decide +kernel
theorem R9(b:Int):eP [.int .i64 0,.int .i64 0] [(1,.int .i64 b)]=some [.int .i64 0,.int .i64 b]:=by simp[eP,I.cu,I.size]
theorem Sg(a b c d:Int):iC 2 (some [.agg [.int .i64 a,.int .i64 b],.agg [.int .i64 c,.int .i64 d]])=some (enc ([⟨a,b⟩,⟨c,d⟩]:List Item)):=mF (ys:=([⟨a,b⟩,⟨c,d⟩]:List Item)) 2 rfl
theorem Sf(a b c:Int):iC 1 (some [.int .i64 a,.int .i64 b,.int .i64 c])=some (enc [a,b,c]):=mF (ys:=[a,b,c]) 1 rfl
theorem apj{A:ae}{n:Nat}{b:I}(m:cq)(x y z:I){rest:List aG}(h:I.aU (.agg [x,y,z])=Enc.aU cq):dx A (some 7) n [] b (enc m) rest (some (.agg [x,y,z]))=aC rest (A.aR n (.box (enc m))):=by
 refine (eF (s:=some 7) (dO _) (by rw[gq];rfl) ((eL m).trans h.symm)).trans ?_;rw[iw]
theorem QG:aw Tryz.prog 22 [] (enc true):=by
 have h1:=QI jg 10 6 7;have h2:=u7 lS jg 20 9;have h3:=u7 lS jg 20 14;have h4:=P8 lS jg 11;have h5:=QJ jg 2 3 7 7;have h6:=QH jg 12 12;have h7:=Qp lS jg 20 9;rw[aav] at h1;rw[aaw] at h2;rw[aax] at h3;rw[aay] at h4;rw[aaz] at h5;rw[aaA] at h6;rw[aaB] at h7;simp only at h1 h2 h3 h4 h5 h6 h7;have h8:=fun a b=>sf a b;refine aw.bj Tryz.func22 TG VM X7 (zz0 rfl) (fun hwf W0 D0 E1 =>?_);simp only[Cv,Nt,bg];clear hwf;have hst:=fun (A:ae) (rest:List aG)=>apj (A:=A) (n:=2) (b:=.agg [.agg [.int .i64 0,.int .i64 0,.int .i64 0,.int .i64 0,.int .i64 0],.int .i64 0,.nils 7]) lS (.agg [.int .i64 0,.int .i64 0,.int .i64 0,.int .i64 0,.int .i64 0]) (.int .i64 0) (.nils 7) (rest:=rest) rfl;have q1:((2:Int)==2)=true:=rfl;have q2:((1:Int)==1)=true:=rfl;have q3:((0:Int)==0)=true:=rfl;have R:=u8 @hst (u8 @q1 (u8 @q2 (u8 @q3 (u8 @dS (u8 @R9 (u8 @Sg (u8 @kT (u8 @qM (u8 @Sf (u8 @aJ @U))))))))))
 repeat' ((first |(with_reducible refine .guard (fun hb =>?_) (fun hb =>?_) <;>try simp only[hb])|refine J.aE (by decide +kernel) rfl fun K hK =>?_|refine .lead _ (QU) ?_|refine .lead _ (QV) ?_|refine .flat _ (h1) rfl ?_|refine .lead _ (h2) ?_|refine .lead _ (h3) ?_|refine .lead _ (h4) ?_|refine .flat _ (h5) rfl ?_|refine .lead _ (h6) ?_|refine .lead _ (h7) ?_|refine .flat _ (sf _ _) rfl ?_|refine .flat _ (QC _ _) rfl ?_|(refine .ay [0,1,2,3,4,5,6,7,8,9,10,11,12,13,14,15,16,17] hK ?_;clear hK K)|(with_reducible refine .done (hK _ ?_);clear hK K)|refine J.of rfl ?_|(with_reducible refine ai.aB (fun h =>?_) (fun h =>?_) <;>try simp only[h])) <;>try simp only[aF,R,decide_true,simprocAttr])
 all_goals clear R
 all_goals trace_state
def qQ(m:cq)(rs:List (bG 6 Int))(g:cE):Bool:=(List.range rs.length).all (nE m rs g)
def kh(m:cq)(rs:List (bG 6 Int))(n:Nat):List Int:=((m.given.take n).filter (qQ m rs)).map (·.bX)
theorem an2(m:cq)(rs:List (bG 6 Int)):kh m rs 0=[]:=by simp[kh]
theorem an1{m:cq}(rs:List (bG 6 Int)){n:Nat}(h:n<m.given.length):kh m rs (n+1)=kh m rs n++if qQ m rs (ct m n) then [(ct m n).bX] else []:=by
 simp only[kh];rw[zz7 h,zu3,zx4,j8 h]
 congr 1
 simp only[zx7,zw9];cases qQ m rs (ct m n) <;>rfl
theorem an0(m:cq)(rs:List (bG 6 Int))(n:Nat):(kh m rs n).length≤m.given.length:=by
 simp only[kh,zy3];exact zu1 (zu2 _ _) (by rw[zy4];omega)
theorem anZ(m:cq)(rs:List (bG 6 Int)):kh m rs m.given.length=(jr m rs rs.length).map (·.bX):=by
 simp only[kh,zv1];rfl
theorem Rp(p:Nat→Bool)(n:Nat):(List.range (n+1)).all p=((List.range n).all p&&p n):=by
 rw[List.range_succ,List.all_append];simp
theorem PG(m:cq)(rs:List (bG 6 Int)):aw Tryz.prog 130 [enc m,enc rs] (.tuple [enc (gv m rs).1,enc (gv m rs).2]):=by
 refine aw.bj Tryz.func130 SK UO Xa (zz0 rfl) (fun hwf W0 D0 E1 =>?_);simp only[Bw,Mr,bg,zz3];refine .aq (by decide +kernel) fun K hK =>?_;simp only[Gk,U,simprocAttr]
 try simp only[dO,U,simprocAttr]
 refine .done (hK _ ?_);clear hK K;refine J.seq ?_;refine J.seq ?_;refine .bK (by decide +kernel) fun K hK =>?_;simp only[Gl,U,simprocAttr]
 try simp only[da,ev,U,simprocAttr]
 refine .flat _ (vg m) rfl ?_;generalize hm:eO m=bm;cases bm
 ·try simp only[U,simprocAttr]
  refine .done (hK _ ?_);clear hK K;try simp only[au]
  refine J.bP ?_;simp only[ai,U,simprocAttr];refine ⟨fun h =>?_,fun h =>?_⟩
  ·refine .aq (by decide +kernel) fun K hK =>?_;simp only[Gw,U,simprocAttr];refine .done (hK _ ?_);clear hK K;refine J.ret ?_;simp only[au,U,simprocAttr];simp[gv,hm,qa]
  ·cases h
 try simp only[U,simprocAttr]
 refine .done (hK _ ?_);clear hK K;refine J.bP ?_;simp only[ai,U,simprocAttr];refine ⟨fun h =>?_,fun h =>?_⟩
 ·cases h
 refine J.skip ?_;try simp only[au,simprocAttr]
 refine J.seq ?_;refine .aq (by decide +kernel) fun K hK =>?_;simp only[Gy,U,simprocAttr]
 try simp only[aX,U,simprocAttr]
 refine .done (hK _ ?_);clear hK K;refine J.bP ?_;simp only[ai,U,simprocAttr];refine ⟨fun h =>?_,fun h =>?_⟩
 ·refine .aq (by decide +kernel) fun K hK =>?_;simp only[Gz,U,simprocAttr];refine .done (hK _ ?_);clear hK K;refine J.ret ?_;simp only[au,U,simprocAttr];have:¬ rs.length≤60:=by simp at h;omega
  simp[gv,hm,this,qa]
 have hrl:rs.length≤60:=by simp at h;omega
 have hlen:=Lr hm;refine J.skip ?_;try simp only[au,simprocAttr]
 refine J.seq ?_;refine .aq (by decide +kernel) fun K hK =>?_;simp only[GA,U,simprocAttr];refine .done (hK _ ?_);clear hK K;refine J.block (J.loop (fun i:Nat=>ar [(1,enc rs),(2,.ptr 2 []),(6,.int .i64 i)] [(2,.box (enc m))]) (fun i=>i≤rs.length∧∀ j,j<i→kF (eb rs j)=true) (fun i=>rs.length-i) 0 ⟨by omega,fun j h=>by omega⟩ ?_ (fun i hi =>?_))
 ·refine az.bL ?_ ?_ ?_ ?_ <;>simp[aO,bC,bx,aZ,al,aP,b8,I.only,ah.only,bh]
 refine J.seq (J.seq ?_);refine .bK (by decide +kernel) fun K hK =>?_;simp only[GB,U,simprocAttr]
 try simp only[aX,U,simprocAttr]
 refine .done (hK _ ?_);clear hK K;try simp only[au]
 refine J.bP ?_;simp only[ai,U,simprocAttr];refine ⟨fun h =>?_,fun h =>?_⟩
 ·have hlt:i<rs.length:=by simp at h;omega
  refine J.skip ?_;try simp only[au,simprocAttr]
  refine J.seq (J.block ?_);refine .aq (by decide +kernel) fun K hK =>?_;simp only[GC,U,simprocAttr]
  try simp only[da,ev,x8 hlt,U,simprocAttr]
  refine .flat _ (zX (eb rs i)) rfl ?_;generalize hr:kF (eb rs i)=aB;cases aB
  ·try simp only[U,simprocAttr]
   refine .done (hK _ ?_);clear hK K;refine J.bP ?_;simp only[ai,U,simprocAttr];refine ⟨fun h =>?_,fun h =>?_⟩
   ·refine .aq (by decide +kernel) fun K hK =>?_;simp only[GD,U,simprocAttr];refine .done (hK _ ?_);clear hK K;refine J.ret ?_;simp only[bS,au,U,simprocAttr];have hok:rG rs=false:=kp i hlt hr;simp[gv,hm,hrl,hok,qa]
   ·cases h
  try simp only[U,simprocAttr]
  refine .done (hK _ ?_);clear hK K;refine J.bP ?_;simp only[ai,U,simprocAttr];refine ⟨fun h =>?_,fun h =>?_⟩
  ·cases h
  refine J.skip ?_;try simp only[au,bS,simprocAttr]
  refine .bK (by decide +kernel) fun K hK =>?_;simp only[GF,U,simprocAttr];refine .done (hK _ ?_);clear hK K;try simp only[au]
  refine ⟨i+1,⟨by omega,fun j hj =>?_⟩,by omega,?_⟩
  ·rcases Nat.lt_or_ge j i with h1 | h1
   ·exact hi.2 j h1
   ·have:j=i:=by omega
    subst this;exact hr
  ·rw[cL _ (by omega) (by omega)];refine az.bL ?_ ?_ ?_ ?_ <;>simp[aO,bC,bx,aZ,al,aP,b8,I.only,ah.only,bh]
 have hge:i=rs.length:=by simp at h;omega
 subst hge;have hok:rG rs=true:=lF hi.2;refine J.exit ?_;try simp only[au,bS,simprocAttr]
 refine .aq (by decide +kernel) fun K hK =>?_;simp only[Gm,U,simprocAttr];refine .done (hK _ ?_);clear hK K;refine J.seq ?_;refine .aq (by decide +kernel) fun K hK =>?_;simp only[Gn,U,simprocAttr];refine .done (hK _ ?_);clear hK K;refine J.block (J.loop (fun n:Nat=>ar [(1,enc rs),(2,.ptr 2 []),(7,.own 7 (kh m rs n).length),(8,.int .i64 n)] [(7,.b5 3 1 ((kh m rs n).map enc)),(2,.box (enc m))]) (fun n=>n≤m.given.length) (fun n=>m.given.length-n) 0 (by omega) ?_ (fun n hn =>?_))
 ·refine az.lD 7 7 3 1 1 ?_ ?_ ?_
  ·try simp only[U,simprocAttr]
  ·try simp only[U,simprocAttr]
  ·simp only[an2,zx2,zv7];refine az.bL ?_ ?_ ?_ ?_ <;>simp[aO,bC,bx,aZ,al,aP,b8,I.only,I.bW,ah.only,bh]
 refine J.seq (J.seq ?_);refine .bK (by decide +kernel) fun K hK =>?_;simp only[Gp,U,simprocAttr]
 try simp only[da,aX,U,simprocAttr]
 refine .done (hK _ ?_);clear hK K;try simp only[au]
 refine J.bP ?_;simp only[ai,U,simprocAttr];refine ⟨fun h =>?_,fun h =>?_⟩
 ·have hlt:n<m.given.length:=by simp at h;omega
  refine J.skip ?_;try simp only[au,simprocAttr]
  refine J.seq (J.block ?_);refine .aq (by decide +kernel) fun K hK =>?_;simp only[Gq,U,simprocAttr];refine .done (hK _ ?_);clear hK K;refine J.seq ?_;refine .aq (by decide +kernel) fun K hK =>?_;simp only[Gr,U,simprocAttr];refine .done (hK _ ?_);clear hK K;refine J.block (J.loop (fun j:Nat=>ar [(1,enc rs),(2,.ptr 2 []),(7,.own 7 (kh m rs n).length),(8,.int .i64 n),(9,.bool ((List.range j).all (nE m rs (ct m n)))),(10,.int .i64 j)] [(7,.b5 3 1 ((kh m rs n).map enc)),(2,.box (enc m))]) (fun j=>j≤rs.length) (fun j=>rs.length-j) 0 (by omega) ?_ (fun j hj =>?_))
  ·refine az.bL ?_ ?_ ?_ ?_ <;>simp[aO,bC,bx,aZ,al,aP,b8,I.only,ah.only,dn,bh]
  refine J.seq (J.seq ?_);refine .bK (by decide +kernel) fun K hK =>?_;simp only[Gs,U,simprocAttr]
  try simp only[aX,U,simprocAttr]
  refine .done (hK _ ?_);clear hK K;try simp only[au]
  refine J.bP ?_;simp only[ai,U,simprocAttr];refine ⟨fun h =>?_,fun h =>?_⟩
  ·have hjl:j<rs.length:=by simp at h;omega
   refine J.skip ?_;try simp only[au,simprocAttr]
   refine J.seq (J.block ?_);have hsucc:=Rp (nE m rs (ct m n)) j;generalize hb:(List.range j).all (nE m rs (ct m n))=b at hsucc;refine .bK (by decide +kernel) fun K hK =>?_;simp only[Gt,U,simprocAttr];cases b
   ·try simp only[U,simprocAttr]
    refine .done (hK _ ?_);clear hK K;try simp only[au,bS]
    refine .bK (by decide +kernel) fun K hK =>?_;simp only[wW,U,simprocAttr];refine .done (hK _ ?_);clear hK K;try simp only[au]
    refine ⟨j+1,by omega,by omega,?_⟩;rw[hsucc,cL _ (by omega) (by omega),Bool.false_and];refine az.bL ?_ ?_ ?_ ?_ <;>simp[aO,bC,bx,aZ,al,aP,b8,I.only,ah.only,dn,bh]
   ·try simp only[da,nS hlt,x8 hjl,ev,U,simprocAttr]
    refine .flat _ (Pu m.fG (ct m n).mark (eb rs j) (by rw[←j8 hlt];exact Ls hm _ (zx8 hlt))) rfl ?_
    try simp only[da,U,simprocAttr]
    refine .done (hK _ ?_);clear hK K;try simp only[au,bS]
    refine .bK (by decide +kernel) fun K hK =>?_;simp only[wW,U,simprocAttr];refine .done (hK _ ?_);clear hK K;try simp only[au]
    refine ⟨j+1,by omega,by omega,?_⟩;have hd:decide (kU m.fG (ct m n).mark (eb rs j)≤m.gD)=nE m rs (ct m n) j:=rfl;rw[hsucc,cL _ (by omega) (by omega),Bool.true_and,hd];refine az.bL ?_ ?_ ?_ ?_ <;>simp[aO,bC,bx,aZ,al,aP,b8,I.only,ah.only,dn,bh]
  have hje:j=rs.length:=by simp at h;omega
  subst hje;refine J.exit ?_;try simp only[au,bS,simprocAttr]
  have hdue:(List.range rs.length).all (nE m rs (ct m n))=qQ m rs (ct m n):=rfl;have hol:=an0 m rs n;have hsucc:=an1 rs hlt;rw[hdue];generalize hb:qQ m rs (ct m n)=b at hsucc;refine .aq (by decide +kernel) fun K hK =>?_;simp only[Gu,U,simprocAttr];refine .done (hK _ ?_);clear hK K;cases b
  ·refine J.bP ?_;simp only[ai,U,simprocAttr];refine ⟨fun h =>?_,fun h =>?_⟩
   ·cases h
   refine J.skip ?_;try simp only[au,bS,simprocAttr]
   refine .bK (by decide +kernel) fun K hK =>?_;simp only[wX,U,simprocAttr];refine .done (hK _ ?_);clear hK K;try simp only[au]
   refine ⟨n+1,by omega,by omega,?_⟩;rw[hsucc,cL _ (by omega) (by omega)];simp only[zz8,if_false,zx5];refine az.bL ?_ ?_ ?_ ?_ <;>simp[aO,bC,bx,aZ,al,aP,b8,I.only,ah.only,dn,bh]
  ·refine J.bP ?_;simp only[ai,U,simprocAttr];refine ⟨fun h =>?_,fun h =>?_⟩
   ·refine .bK (by decide +kernel) fun K hK =>?_;simp only[Gv,U,simprocAttr]
    try simp only[da,nS hlt,U,simprocAttr]
    rw[jE 3 1 8 7 rfl rfl (by simp) (by simp[maxLen];omega) (by simp;omega)]
    try simp only[U,simprocAttr]
    refine .done (hK _ ?_);clear hK K;try simp only[au,bS]
    refine .bK (by decide +kernel) fun K hK =>?_;simp only[wX,U,simprocAttr];refine .done (hK _ ?_);clear hK K;try simp only[au]
    refine ⟨n+1,by omega,by omega,?_⟩;rw[hsucc,cL _ (by omega) (by omega)];simp only[if_true];refine az.bL ?_ ?_ ?_ ?_ <;>simp[aO,bC,bx,aZ,al,aP,b8,I.only,I.bW,ah.only,dn,gm,bh,ga]
   ·cases h
 have hge:n=m.given.length:=by simp at h;omega
 subst hge;refine J.exit ?_;try simp only[au,bS,simprocAttr]
 refine .aq (by decide +kernel) fun K hK =>?_;simp only[Gx,U,simprocAttr];refine .done (hK _ ?_);clear hK K;refine J.ret ?_;simp only[U,simprocAttr]
 try simp only[ev,U,simprocAttr]
 simp[gv,hm,hrl,hok,anZ]
theorem akS(l:List ao)(day known:Int)(no:Int):bY (ln l day known).cI no=bY (cM l day known) no:=by
 obtain ⟨k1,k2,k3⟩:=LV sw sx l (fV l day known);exact (xN k1 k2 no).symm
theorem yV(l:List ao)(day known:Int):(cM l day known).Perm (ln l day known).cI:=(LV sw sx l (fV l day known)).1
theorem ap0(l:List ao)(no known:Int):aw Tryz.prog 92 [enc l,enc no,enc known] (enc (er l [fc no 9999] [known])):=by
 have hF:=vf l;refine aw.bj Tryz.func92 Ug Wk YF (zz0 rfl) (fun hwf W0 D0 E1 =>?_);simp only[C3,N2,bg,zz3,Nat.reduceAdd];clear hwf;simp only[er];rcases q1:dF l
 ·rw[q1,if_neg (by decide)] at hF;have R:=u8 @aJ @U
  repeat' ((first |(with_reducible refine .guard (fun hb =>?_) (fun hb =>?_) <;>try simp only[hb])|refine J.aE (by decide +kernel) rfl fun K hK =>?_|refine .flat _ (hF) rfl ?_|(refine .ay [0,1,2,6,9,12,15] hK ?_;clear hK K)|(with_reducible refine .done (hK _ ?_);clear hK K)|refine J.of rfl ?_|(with_reducible refine ai.aB (fun h =>?_) (fun h =>?_) <;>try simp only[h])) <;>try simp only[aF,R,Nat.reduceEqDiff,reduceIte,Int.reduceBNe,Nat.reduceBEq])
  all_goals clear R
 ·rw[q1,if_pos rfl] at hF;have e1:([fc no 9999].all fun n=>b9 1 (n.g 1) (n.g 0))=b9 1 9999 no:=by simp[fc,bG.g]
  have e2:([known].any fun d => !b9 0 100000 d) = !b9 0 100000 known:=by simp
  rw[e1,e2];rcases q2:b9 1 9999 no <;>rcases q3:b9 0 100000 known
  all_goals
   have R:=u8 @q2 (u8 @q3 (u8 @aJ @U))
   repeat' ((first |(with_reducible refine .guard (fun hb =>?_) (fun hb =>?_) <;>try simp only[hb])|refine J.aE (by decide +kernel) rfl fun K hK =>?_|refine .flat _ (hF) rfl ?_|refine .flat _ (ou _ _ _) rfl ?_|refine .flat _ (ph _) rfl ?_|(refine .ay [0,1,2,6,9,12,15] hK ?_;clear hK K)|(with_reducible refine .done (hK _ ?_);clear hK K)|refine J.of rfl ?_|(with_reducible refine ai.aB (fun h =>?_) (fun h =>?_) <;>try simp only[h])) <;>try simp only[aF,R,Nat.reduceEqDiff,reduceIte,Int.reduceBNe,Nat.reduceBEq])
   all_goals clear R
def Sh:aH:=⟨0,0,0,0,0,0,0,false,[]⟩
def kO:I:=.agg [.int .i64 0,.int .i64 0,.int .i64 0,.int .i64 0,.int .i64 0,.int .i64 0,.int .i64 0,.bool false,.nils 6]
theorem aan:I.agg [.int .i64 0,.int .i64 0,.int .i64 0,.int .i64 0,.int .i64 0,.int .i64 0,.int .i64 0,.bool false,.nils 6]=kO:=rfl
theorem apT:(∀ (A:ae) n w rest,dx A (some 9) n [] w kO rest (some kO)=aC rest (A.aR n (.box kO)))∧(∀ (A:ae) n w (b:aH) rest,dx A (some 9) n [] w (enc b) rest (some kO)=aC rest (A.aR n (.box (enc b)))) ∧
  (∀ aD A,bl aD A kO=some (enc Sh))∧ca (some 9) kO=true∧((eP [.int .i64 0,.int .i64 0,.int .i64 0,.int .i64 0,.int .i64 0,.int .i64 0,.int .i64 0,.bool false,.nils 6] []).map .agg=some kO)∧(kO.cu=true) :=
 ⟨fun A n w rest=>by rw[eF (s:=some 9) (v:=kO) (old:=kO) rfl rfl rfl,iw],fun A n w b rest=>o9,fun aD A=>by simp[kO,bl,b7];rfl,rfl,rfl,rfl⟩
theorem Ap(m:cq)(b:aH):aw Tryz.prog 71 [enc m,enc b] (enc (gv m b.bH).1):=by
 refine aw.bj Tryz.func71 TX V3 Yo (zz0 rfl) (fun hwf W0 D0 E1 =>?_);simp only[CM,NL,bg,zz3];clear hwf;have hC:=PG m b.bH;have R:=u8 @dS (u8 @fU (u8 @cD (u8 @aJ @U)))
 repeat' ((first |(with_reducible refine .guard (fun hb =>?_) (fun hb =>?_) <;>try simp only[hb])|refine J.aE (by decide +kernel) rfl fun K hK =>?_|refine .lead _ (hC) ?_|(refine .ay [0,1,2,3,4,5] hK ?_;clear hK K)|(with_reducible refine .done (hK _ ?_);clear hK K)|refine J.of rfl ?_|(with_reducible refine ai.aB (fun h =>?_) (fun h =>?_) <;>try simp only[h])) <;>try simp only[aF,R,Nat.reduceEqDiff,reduceIte,Nat.reduceBEq])
 all_goals clear R
theorem QT(l:List ao)(k:Nat)(hl:l.length≤60):aw Tryz.prog 80 [enc l,enc (k:Int)] (enc (dq l k)):=by
 refine aw.bj Tryz.func80 T7 Wb Yw (zz0 rfl) (fun hwf W0 D0 E1 =>?_);simp only[CU,NT,bg,zz3];clear hwf;have R:=u8 @aX (u8 @aJ @U)
 repeat' ((first |(with_reducible refine .guard (fun hb =>?_) (fun hb =>?_) <;>try simp only[hb])|refine J.aE (by decide +kernel) rfl fun K hK =>?_|(refine .ay [0,1,4,5,6,10,15] hK ?_;clear hK K)|(with_reducible refine .done (hK _ ?_);clear hK K)|refine J.of rfl ?_|(with_reducible refine ai.aB (fun h =>?_) (fun h =>?_) <;>try simp only[h])) <;>try simp only[aF,R,reduceIte,Nat.reduceBEq])
 all_goals clear R
 refine J.loop (fun i:Nat=>ar [(0,enc l),(1,.int .i64 k),(5,.own 905 (dq (l.take i) k).length),(6,.int .i64 i)] [(905,.b5 68 17 ((dq (l.take i) k).map enc))]) (fun i=>i≤l.length) (fun i=>l.length-i) 0 (zw8 _) ?_ (fun i hi =>?_)
 ·refine az.lD 5 905 68 17 17 rfl rfl ?_;simp only[List.take_zero,dq,List.take_nil,List.drop_nil,zx5,zx2,zv7];refine az.bL ?_ ?_ ?_ ?_ <;>simp[aO,bC,bx,aZ,al,aP,b8,I.only,I.bW,ah.only,bh]
 have hdl:(dq (l.take i) k).length≤60:=zu1 (DZ _ _).length_le (by rw[zy4];omega);by_cases hlt:i<l.length
 ·have hc:=eR hlt;have he:=fun A=>hE (A:=A) hlt;have hw:=dX (i:=i) (by omega);have hs:dq (l.take (i+1)) k=if i=k then dq (l.take i) k else dq (l.take i) k++[ab l i]:=by
   have e:l.take (i+1)=l.take i++[ab l i]:=by rw[zz7 hlt,gC hlt]
   have htl:(l.take i).length=i:=by rw[zy4];omega
   rw[e];simp only[dq];by_cases h1:i=k
   ·subst h1;rw[if_pos rfl,zx3 (by omega),zw3 (by simp;omega),zw3 (by omega)]
   ·rw[if_neg h1];by_cases h2:i<k
    ·have a1:(l.take i++[ab l i]).take k=l.take i++[ab l i]:=zw1 (by simp;omega);have a2:(l.take i++[ab l i]).drop (k+1)=[]:=zw3 (by simp;omega);have a3:(l.take i).take k=l.take i:=zw1 (by omega);have a4:(l.take i).drop (k+1)=[]:=zw3 (by omega);rw[a1,a2,a3,a4];simp
    ·rw[zx3 (by omega),List.drop_append_of_le_length (by omega),zz6]
  generalize dq (l.take i) k=xs at hdl hs ⊢;have happ:=fun (A:ae) d rest=>jE (α:=ao) (A:=A) (d:=d) 68 17 136 905 (l:=xs.length) (es:=xs) (ys:=[ab l i]) (rest:=rest) rfl rfl (by simp) (by simp[maxLen];omega) (by simp;omega);have hbs:=oC 17 (ab l i) rfl;by_cases h1:i=k
  ·have hn:((i:Int) != (k:Int))=false:=by simp[h1]
   rw[if_pos h1] at hs;have R:=u8 @hc (u8 @he (u8 @hw (u8 @hn (u8 @aX (u8 @aJ @U)))))
   repeat' ((first |(with_reducible refine .guard (fun hb =>?_) (fun hb =>?_) <;>try simp only[hb])|refine J.aE (by decide +kernel) rfl fun K hK =>?_|(refine .ay [0,1,4,5,6,10,15] hK ?_;clear hK K)|(with_reducible refine .done (hK _ ?_);clear hK K)|refine J.of rfl ?_|(with_reducible refine ai.aB (fun h =>?_) (fun h =>?_) <;>try simp only[h])) <;>try simp only[aF,R,Nat.reduceEqDiff,reduceIte,Nat.reduceBEq])
   all_goals clear R
   refine ⟨i+1,by omega,by omega,?_⟩;simp only[hs];refine az.bL ?_ ?_ ?_ ?_ <;>simp[aO,bC,bx,aZ,al,aP,b8,I.only,ah.only,dn,bh]
  ·have hn:((i:Int) != (k:Int))=true:=by simp;omega
   rw[if_neg h1] at hs;have R:=u8 @hc (u8 @he (u8 @hw (u8 @hn (u8 @happ (u8 @hbs (u8 @aX (u8 @aJ @U)))))))
   repeat' ((first |(with_reducible refine .guard (fun hb =>?_) (fun hb =>?_) <;>try simp only[hb])|refine J.aE (by decide +kernel) rfl fun K hK =>?_|(refine .ay [0,1,4,5,6,10,15] hK ?_;clear hK K)|(with_reducible refine .done (hK _ ?_);clear hK K)|refine J.of rfl ?_|(with_reducible refine ai.aB (fun h =>?_) (fun h =>?_) <;>try simp only[h])) <;>try simp only[aF,R,Nat.reduceEqDiff,reduceIte,Nat.reduceBEq])
   all_goals clear R
   refine ⟨i+1,by omega,by omega,?_⟩;simp only[hs];refine az.bL ?_ ?_ ?_ ?_ <;>simp[aO,bC,bx,aZ,al,aP,b8,I.only,I.bW,ah.only,dn,gm,bh]
 ·have hc:=eT hlt;have hge:i=l.length:=by omega
  subst hge;rw[zv1];have hfo:=nH (k:=(dq l k).length) (T:=68) (es:=dq l k) 17 rfl rfl;have R:=u8 @hc (u8 @hfo (u8 @aX (u8 @aJ @U)))
  repeat' ((first |(with_reducible refine .guard (fun hb =>?_) (fun hb =>?_) <;>try simp only[hb])|refine J.aE (by decide +kernel) rfl fun K hK =>?_|(refine .ay [0,1,4,5,6,10,15] hK ?_;clear hK K)|(with_reducible refine .done (hK _ ?_);clear hK K)|refine J.of rfl ?_|(with_reducible refine ai.aB (fun h =>?_) (fun h =>?_) <;>try simp only[h])) <;>try simp only[aF,R,Nat.reduceEqDiff,reduceIte,Nat.reduceBEq])
  all_goals clear R
abbrev pn(l:List ao):Prop:=l.Pairwise fun a b=>before a.cm b.cm=true
theorem zH{l:List ao}(h:pn l){i j:Nat}(hij:i<j)(hj:j<l.length):before (ab l i).cm (ab l j).cm=true:=by
 rw[←gC hj,←gC (show i<l.length by omega)];exact List.pairwise_iff_getElem.1 h i j (by omega) hj hij
theorem yL{l:List ao}(h:dF l=true):pn l:=(yK.1 h).2.2
theorem aoc(l:List ao)(a:Item):fL l a≤l.length:=List.findIdx_le_length
theorem LX{l:List ao}{a:Item}{i:Nat}(hi:i≤l.length)(h1:∀ k,k<i→before (ab l k).cm a=true)(h2:i<l.length→before (ab l i).cm a=false):fL l a=i:=by
 simp only[fL];by_cases hlt:i<l.length
 ·refine (List.findIdx_eq hlt).2 ⟨by rw[gC hlt,h2 hlt];rfl,fun j hj =>?_⟩;rw[gC (by omega),h1 j hj];rfl
 ·have e:i=l.length:=by omega
  rw[e];refine List.findIdx_eq_length.2 fun x hx =>?_;obtain ⟨k,hk,rfl⟩:=List.getElem_of_mem hx;rw[gC hk,h1 k (by omega)];rfl
theorem aob{l:List ao}{a:Item}{k:Nat}(h:k<fL l a):before (ab l k).cm a=true:=by
 have hk:k<l.length:=Nat.lt_of_lt_of_le h (aoc l a);have:=List.not_of_lt_findIdx (p:=fun x:ao => !before x.cm a) (xs:=l) (i:=k) h;rw[gC hk] at this;simpa using this
theorem xW{l:List ao}(hs:pn l)(a:Item):jh l a=(decide (fL l a<l.length)&&decide ((ab l (fL l a)).cm=a)):=by
 rw[Bool.eq_iff_iff,zz4,decide_eq_true_eq,decide_eq_true_eq];constructor
 ·intro h;simp only[jh,List.any_eq_true,decide_eq_true_eq] at h;obtain ⟨x,hx,rfl⟩:=h;obtain ⟨k,hk,rfl⟩:=List.getElem_of_mem hx;rw[gC hk];have h1:fL l (ab l k).cm=k:=LX (by omega) (fun j hj=>zH hs hj hk) (fun _=>AU _);rw[h1];exact ⟨hk,rfl⟩
 ·rintro ⟨h1,h2⟩;exact Kt h1 h2
theorem Ae(x:ao)(a:Item):aw Tryz.prog 143 [enc x,enc a] (enc (lL x.cm a)):=by
 refine aw.bj Tryz.func143 SX U1 Xm (zz0 rfl) (fun hwf W0 D0 E1 =>?_);simp only[BI,MD,bg,zz3];have R:=u8 @aJ @U
 repeat' ((first |(with_reducible refine .guard (fun hb =>?_) (fun hb =>?_) <;>try simp only[hb])|refine J.aE (by decide +kernel) rfl fun K hK =>?_|refine .flat _ (u4 _ _) rfl ?_|(refine .ay [0,1,2,3,4] hK ?_;clear hK K)|(with_reducible refine .done (hK _ ?_);clear hK K)|refine J.of rfl ?_|(with_reducible refine ai.aB (fun h =>?_) (fun h =>?_) <;>try simp only[h])) <;>try simp only[aF,R,Nat.reduceEqDiff,reduceIte,Nat.reduceBEq])
 all_goals clear R
theorem PV(l:List ao)(a:Item)(hs:pn l)(hl:l.length≤1000):aw Tryz.prog 142 [enc l,enc a,.func 143 []] (.tuple [enc (fL l a:Int),enc (jh l a)]):=by
 refine aw.bj Tryz.func142 SW U0 Xl (zz0 rfl) (fun hwf W0 D0 E1 =>?_);simp only[BH,MC,bg,zz3,Nat.reduceAdd];clear hwf;have R:=u8 @gA (u8 @aX (u8 @aJ @U))
 repeat' ((first |(with_reducible refine .guard (fun hb =>?_) (fun hb =>?_) <;>try simp only[hb])|refine J.aE (by decide +kernel) rfl fun K hK =>?_|(refine .ay [0,1,2,4,6,7,8,9,10,11,17,31] hK ?_;clear hK K)|(with_reducible refine .done (hK _ ?_);clear hK K)|refine J.of rfl ?_|(with_reducible refine ai.aB (fun h =>?_) (fun h =>?_) <;>try simp only[h])) <;>try simp only[aF,R,Nat.reduceEqDiff,reduceIte,Nat.reduceBEq])
 all_goals clear R
 refine J.loop (fun s:Nat×Nat=>ar [(0,enc l),(2,.func 143 []),(4,.ptr 4 []),(8,.int .i64 l.length),(9,.int .i64 s.1),(10,.int .i64 s.2)] [(4,.box (enc a))]) (fun s=>s.1≤s.2∧s.2≤l.length∧(∀ k,k<s.1→before (ab l k).cm a=true)∧∀ k,s.2≤k→k<l.length→before (ab l k).cm a=false) (fun s=>s.2-s.1) (0,l.length) ⟨zw8 _,zz9 _,fun k hk=>by omega,fun k h1 h2=>by omega⟩ ?_ ?_
 ·refine az.bL ?_ ?_ ?_ ?_ <;>simp[aO,bC,bx,aZ,al,aP,b8,I.only,I.bW,ah.only,bh]
 rintro ⟨i,j⟩ ⟨h1,h2,h3,h4⟩;simp only at h1 h2 h3 h4 ⊢;by_cases hlt:i<j
 ·have hc:=eR hlt;have w1:=kM i j (by omega);have w2:=mU (x:=i+j) (by omega);obtain ⟨h,hh⟩:∃ h,h=(i+j) / 2:=⟨_,rfl⟩
  have w5:=r5 (n:=h) (by omega);have hhl:h<l.length:=by omega
  have he:=fun A=>hE (A:=A) hhl;have hn:=DF (ab l h).cm a;have hw:=dX (i:=h) (by omega);rcases hb:before (ab l h).cm a
  all_goals
   rw[hb] at hn;have R:=u8 @hc (u8 @w1 (u8 @w2 (u8 @w5 (u8 @he (u8 @hn (u8 @hw (u8 @nX (u8 @nW (u8 @gA (u8 @dL (u8 @aX (u8 @aJ @U))))))))))))
   repeat' ((first |(with_reducible refine .guard (fun hb =>?_) (fun hb =>?_) <;>try simp only[hb])|refine J.aE (by decide +kernel) rfl fun K hK =>?_|refine .flat _ (Ae _ _) rfl ?_|(refine .ay [0,1,2,4,6,7,8,9,10,11,17,31] hK ?_;clear hK K)|(with_reducible refine .done (hK _ ?_);clear hK K)|refine J.of rfl ?_|(with_reducible refine ai.aB (fun h =>?_) (fun h =>?_) <;>try simp only[h])) <;>try simp only[aF,R,←hh,zy0,Nat.reduceEqDiff,reduceIte,Nat.reduceBEq])
   all_goals clear R
  ·refine ⟨(i,h),⟨by simp only;omega,by simp only;omega,h3,fun k hk hkl =>?_⟩,by simp only;omega,?_⟩
   ·simp only at hk;cases hbk:before (ab l k).cm a with
    |false=>rfl
    |true =>
     by_cases e:k=h
     ·rw[e,hb] at hbk;cases hbk
     ·have:=vy (zH hs (show h<k by omega) hkl) hbk;rw[this] at hb;cases hb
   ·refine az.bL ?_ ?_ ?_ ?_ <;>simp[aO,bC,bx,aZ,al,aP,b8,I.only,I.bW,ah.only,bh]
  ·refine ⟨(h+1,j),⟨by simp only;omega,h2,fun k hk =>?_,h4⟩,by simp only;omega,?_⟩
   ·simp only at hk;by_cases e:k=h
    ·rw[e];exact hb
    ·cases hbk:before (ab l k).cm a with
     |true=>rfl
     |false =>
      have:=vy (zH hs (show k<h by omega) hhl) hb;rw[this] at hbk;cases hbk
   ·refine az.bL ?_ ?_ ?_ ?_ <;>simp[aO,bC,bx,aZ,al,aP,b8,I.only,I.bW,ah.only,bh]
 ·have hij:i=j:=by omega
  subst hij;have hc:=eT hlt;have hp:fL l a=i:=LX h2 h3 fun h=>h4 i (zz9 _) h;have hh:=xW hs a;rw[hp] at hh;rw[hp,hh];by_cases hil:i<l.length
  ·have hc2:=eR hil;have he:=fun A=>hE (A:=A) hil;have hz:=WG (ab l i).cm a;have hd:decide (i<l.length)=true:=decide_eq_true hil;have R:=u8 @hc (u8 @hc2 (u8 @he (u8 @hz (u8 @hd (u8 @gA (u8 @dL (u8 @aX (u8 @aJ @U))))))))
   repeat' ((first |(with_reducible refine .guard (fun hb =>?_) (fun hb =>?_) <;>try simp only[hb])|refine J.aE (by decide +kernel) rfl fun K hK =>?_|refine .flat _ (Ae _ _) rfl ?_|(refine .ay [0,1,2,4,6,7,8,9,10,11,17,31] hK ?_;clear hK K)|(with_reducible refine .done (hK _ ?_);clear hK K)|refine J.of rfl ?_|(with_reducible refine ai.aB (fun h =>?_) (fun h =>?_) <;>try simp only[h])) <;>try simp only[aF,R,zy0,Nat.reduceEqDiff,reduceIte,Nat.reduceBEq])
   all_goals clear R
   all_goals simp
  ·have hc2:=eT hil;have hd:decide (i<l.length)=false:=decide_eq_false hil;have R:=u8 @hc (u8 @hc2 (u8 @hd (u8 @gA (u8 @aX (u8 @aJ @U)))))
   repeat' ((first |(with_reducible refine .guard (fun hb =>?_) (fun hb =>?_) <;>try simp only[hb])|refine J.aE (by decide +kernel) rfl fun K hK =>?_|(refine .ay [0,1,2,4,6,7,8,9,10,11,17,31] hK ?_;clear hK K)|(with_reducible refine .done (hK _ ?_);clear hK K)|refine J.of rfl ?_|(with_reducible refine ai.aB (fun h =>?_) (fun h =>?_) <;>try simp only[h])) <;>try simp only[aF,R,Nat.reduceEqDiff,reduceIte,Nat.reduceBEq])
   all_goals clear R
   all_goals rfl
theorem Pv(l:List ao)(a:Item)(hs:pn l)(hl:l.length≤1000):aw Tryz.prog 103 [enc l,enc a] (.tuple [enc (fL l a:Int),enc (jh l a)]):=by
 have hF:=PV l a hs hl;refine aw.bj Tryz.func103 Sm Us WL (zz0 rfl) (fun hwf W0 D0 E1 =>?_);simp only[A9,L5,bg,zz3];clear hwf;have R:=u8 @gA (u8 @aX (u8 @aJ @U))
 repeat' ((first |(with_reducible refine .guard (fun hb =>?_) (fun hb =>?_) <;>try simp only[hb])|refine J.aE (by decide +kernel) rfl fun K hK =>?_|refine .lead _ (hF) ?_|(refine .ay [0,1,3,4,5] hK ?_;clear hK K)|(with_reducible refine .done (hK _ ?_);clear hK K)|refine J.of rfl ?_|(with_reducible refine ai.aB (fun h =>?_) (fun h =>?_) <;>try simp only[h])) <;>try simp only[aF,R,Nat.reduceEqDiff,reduceIte,Nat.reduceBEq])
 all_goals clear R
theorem alw{l:List ao}(hs:pn l)(a:Item):oK l a=if jh l a then (fL l a:Int) else -1:=by
 simp only[oK];cases h:jh l a
 ·rfl
 ·have hh:=xW hs a;rw[h] at hh;simp only[Bool.true_eq,zz4,decide_eq_true_eq] at hh;simp only[if_true]
  congr 1
  refine Ky hh.1 hh.2 fun j hj e =>?_;have:=aob hj;rw[e,AU] at this;cases this
theorem aao(a b:Bool):cn .b (.bool a) (.bool b)=some (a==b):=by simp[cn]
theorem QS(m:cq)(a b:nq)(no:Int):aw Tryz.prog 79 [enc m,enc a,enc b,enc no] (enc (fp m (bY a.cI no) (bY b.cI no))):=by
 have hA:=mB a.cI no;have hyB:=mB b.cI no;have hm1:decide ((-1:Int)<0)=true:=rfl;refine aw.bj Tryz.func79 T6 Wa Yv (zz0 rfl) (fun hwf W0 D0 E1 =>?_);simp only[CT,NS,bg,zz3,Nat.reduceAdd];clear hwf;rcases mP a.cI no with ⟨g1,e1⟩ | ⟨i,hi,g1,n1,e1⟩ <;>rcases mP b.cI no with ⟨g2,e2⟩ | ⟨k,hk,g2,n2,e2⟩
 all_goals
  rw[e1] at hA;rw[e2] at hyB;rw[g1,g2]
 ·simp only[fp];have R:=u8 @hm1 (u8 @nG (u8 @l9 (u8 @cD (u8 @aJ @U))))
  repeat' ((first |(with_reducible refine .guard (fun hb =>?_) (fun hb =>?_) <;>try simp only[hb])|refine J.aE (by decide +kernel) rfl fun K hK =>?_|refine .flat _ (hA) rfl ?_|refine .flat _ (hyB) rfl ?_|(refine .ay [0,1,2,3,4,5,6,8,9,10,11,12,13,14,28] hK ?_;clear hK K)|(with_reducible refine .done (hK _ ?_);clear hK K)|refine J.of rfl ?_|(with_reducible refine ai.aB (fun h =>?_) (fun h =>?_) <;>try simp only[h])) <;>try simp only[aF,R,Nat.reduceEqDiff,reduceIte,Nat.reduceBEq])
  all_goals clear R
 ·have h2:decide ((k:Int)<0)=false:=by simp
  simp only[fp];have R:=u8 @hm1 (u8 @h2 (u8 @nG (u8 @l9 (u8 @cD (u8 @aJ @U)))))
  repeat' ((first |(with_reducible refine .guard (fun hb =>?_) (fun hb =>?_) <;>try simp only[hb])|refine J.aE (by decide +kernel) rfl fun K hK =>?_|refine .flat _ (hA) rfl ?_|refine .flat _ (hyB) rfl ?_|(refine .ay [0,1,2,3,4,5,6,8,9,10,11,12,13,14,28] hK ?_;clear hK K)|(with_reducible refine .done (hK _ ?_);clear hK K)|refine J.of rfl ?_|(with_reducible refine ai.aB (fun h =>?_) (fun h =>?_) <;>try simp only[h])) <;>try simp only[aF,R,Nat.reduceEqDiff,reduceIte,Nat.reduceBEq])
  all_goals clear R
 ·have h2:decide ((i:Int)<0)=false:=by simp
  simp only[fp];have R:=u8 @hm1 (u8 @h2 (u8 @nG (u8 @l9 (u8 @cD (u8 @aJ @U)))))
  repeat' ((first |(with_reducible refine .guard (fun hb =>?_) (fun hb =>?_) <;>try simp only[hb])|refine J.aE (by decide +kernel) rfl fun K hK =>?_|refine .flat _ (hA) rfl ?_|refine .flat _ (hyB) rfl ?_|(refine .ay [0,1,2,3,4,5,6,8,9,10,11,12,13,14,28] hK ?_;clear hK K)|(with_reducible refine .done (hK _ ?_);clear hK K)|refine J.of rfl ?_|(with_reducible refine ai.aB (fun h =>?_) (fun h =>?_) <;>try simp only[h])) <;>try simp only[aF,R,Nat.reduceEqDiff,reduceIte,Nat.reduceBEq])
  all_goals clear R
 have h2:decide ((i:Int)<0)=false:=by simp
 have h3:decide ((k:Int)<0)=false:=by simp
 have he:=fun A=>eh (A:=A) 9 hi rfl;have he2:=fun A=>eh (A:=A) 9 hk rfl;generalize (a.cI)[i]=x at he n1 ⊢;generalize (b.cI)[k]=y at he2 n2 ⊢;have hX:=Ap m x;have hY:=Ap m y;have hno:x.no=y.no:=by rw[n1,n2]
 have R:=u8 @h2 (u8 @h3 (u8 @he (u8 @he2 (u8 @aan (u8 @apT (u8 @nG (u8 @l9 (u8 @fU (u8 @aao (u8 @dS (u8 @cD (u8 @aJ @U))))))))))))
 repeat' ((first |(with_reducible refine .guard (fun hb =>?_) (fun hb =>?_) <;>try simp only[hb])|refine J.aE (by decide +kernel) rfl fun K hK =>?_|refine .flat _ (hA) rfl ?_|refine .flat _ (hyB) rfl ?_|refine .lead _ (hX) ?_|refine .lead _ (hY) ?_|refine .flat _ (sf _ _) rfl ?_|(refine .ay [0,1,2,3,4,5,6,8,9,10,11,12,13,14,28] hK ?_;clear hK K)|(with_reducible refine .done (hK _ ?_);clear hK K)|refine J.of rfl ?_|(with_reducible refine ai.aB (fun h =>?_) (fun h =>?_) <;>try simp only[h])) <;>try simp only[aF,R,Nat.reduceEqDiff,reduceIte,Nat.reduceBEq])
 all_goals clear R
 all_goals first | (simp_all[fp,pz];done) | (rcases hx:x.found <;>rcases hy:y.found <;>simp_all[fp,pz])
theorem Wq{l:List ao}{known:Int}(h:dF l=false):er l [] [known]=41:=by simp[er,h]
theorem Wr{l:List ao}{known:Int}(h:dF l=true)(h2:b9 0 100000 known=false):er l [] [known]=6:=by simp[er,h,h2]
theorem Dy{l:List ao}{known:Int}(h:dF l=true)(h2:b9 0 100000 known=true):er l [] [known]=0:=by simp[er,h,h2]
theorem KB{α:Type}(f:α→Int)(a x:α)(m:List α):fb f (a::m) x=if f a≤f x then a::fb f m x else x::a::m:=by
 by_cases h:f a≤f x <;>simp[fb,h]
theorem x3{α:Type}{f:α→Int}{x y:α} : ∀ {l:List α},y∈fb f l x↔y=x∨y∈l
 | []=>by simp[fb]
 |a::l=>by
  rw[KB];split
  ·simp only[zw2,x3 (l:=l)];constructor <;>(rintro (h | h | h) <;>simp[h])
  ·simp only[zw2]
theorem KF{x:Int} : ∀ {l:List Int},gJ l→x∉l→gJ (fb id l x)
 | [],_,_=>by simp[fb,gJ]
 |a::l,h,hx=>by
  simp only[gJ,zv8] at h;simp only[zw2,not_or] at hx;rw[KB];split
  ·rename_i hle;simp only[id] at hle;refine zv8.2 ⟨fun y hy =>?_,KF h.2 hx.2⟩;rcases x3.1 hy with rfl | hy
   ·omega
   ·exact h.1 y hy
  ·rename_i hle;simp only[id] at hle;refine zv8.2 ⟨fun y hy =>?_,zv8.2 h⟩;rcases zw2.1 hy with rfl | hy
   ·omega
   ·have:=h.1 y hy;omega
theorem Rg{l:List Int}{x:Int}(h:gJ l):gJ (jb l x):=by
 simp only[jb];split
 ·exact h
 ·rename_i hx;exact KF h hx
theorem Rf{l:List Int}{x y:Int} : y∈jb l x↔y=x∨y∈l:=by
 simp only[jb];split
 ·rename_i hx;constructor
  ·exact .inr
  ·rintro (rfl | h)
   ·exact hx
   ·exact h
 ·exact x3
theorem EM:∀ (l o:List Int),gJ o→gJ (l.foldl jb o)
 | [],_,h=>h
 |_::l,_,h=>EM l _ (Rg h)
theorem EL{y:Int} : ∀ (l o:List Int),y∈l.foldl jb o↔y∈o∨y∈l
 | [],o=>by simp
 |x::l,o=>by
  rw[List.foldl_cons,EL l,Rf,zw2];constructor
  ·rintro ((h | h) | h) <;>simp[h]
  ·rintro (h | h | h) <;>simp[h]
theorem zG(l:List Int):gJ (fN l):=EM l [] .nil
theorem zF{l:List Int}{y:Int} : y∈fN l↔y∈l:=by simp[fN,EL]
def jJ(m:cq)(a b:List aH):List Int:=(fN (a.map (·.no)++b.map (·.no))).filter fun no => !fp m (bY a no) (bY b no)
theorem OP{a b:List Int}(h:∀ y,y∈a↔y∈b):fN a=fN b:=zj (zG a) (zG b) fun y=>by rw[zF,zF,h]
theorem D8(m:cq)(l l':List ao)(d d' k k':Int):jJ m (ln l d k).cI (ln l' d' k').cI=jJ m (cM l d k) (cM l' d' k'):=by
 simp only[jJ,akS]
 congr 1
 refine OP fun y =>?_;rw[zx1,zx1,((yV l d k).map (·.no)).mem_iff,((yV l' d' k').map (·.no)).mem_iff]
theorem z1(m:cq)(a b:nq)(ha:a.cI.length≤60)(hb:b.cI.length≤60):aw Tryz.prog 111 [enc m,enc a,enc b] (enc (jJ m a.cI b.cI)):=by
 refine aw.bj Tryz.func111 St Ux WR (zz0 rfl) (fun hwf W0 D0 E1 =>?_);simp only[Be,Ma,bg,zz3,Nat.reduceAdd];clear hwf;have R:=u8 @dS (u8 @mY (u8 @cD (u8 @aX (u8 @aJ @U))))
 repeat' ((first |(with_reducible refine .guard (fun hb =>?_) (fun hb =>?_) <;>try simp only[hb])|refine J.aE (by decide +kernel) rfl fun K hK =>?_|(refine .ay [0,1,2,3,4,5,6,7,8,9,10,11,16,32,49,60] hK ?_;clear hK K)|(with_reducible refine .done (hK _ ?_);clear hK K)|refine J.of rfl ?_|(with_reducible refine ai.aB (fun h =>?_) (fun h =>?_) <;>try simp only[h])) <;>try simp only[aF,R,Nat.reduceEqDiff,reduceIte,Nat.reduceBEq])
 all_goals clear R
 refine J.loop (fun i:Nat=>ar [(3,.ptr 3 []),(4,.ptr 4 []),(5,.ptr 5 []),(7,.own 907 ((a.cI.take i).map (·.no)).length),(8,.int .i64 i)] [(3,.box (enc m)),(4,.box (enc a)),(5,.box (enc b)),(907,.b5 3 1 (((a.cI.take i).map (·.no)).map enc))]) (fun i=>i≤a.cI.length) (fun i=>a.cI.length-i) 0 (zw8 _) ?_ (fun i hi =>?_)
 ·refine az.lD 7 907 3 1 1 rfl rfl ?_;simp only[List.take_zero,zx2,zv7];refine az.bL ?_ ?_ ?_ ?_ <;>simp[aO,bC,bx,aZ,al,aP,b8,I.only,I.bW,ah.only,bh]
 by_cases hlt:i<a.cI.length
 ·have hc:=eR hlt;have hw:=dX (i:=i) (by omega);have he:=fun A=>eh (A:=A) 9 hlt rfl;have htl:((a.cI.take i).map (·.no)).length≤60:=by rw[zy3,zy4];omega
  have hsu:(a.cI.take (i+1)).map (·.no)=(a.cI.take i).map (·.no)++[(a.cI[i]).no]:=by
   rw[zz7 hlt,zx4];rfl
  generalize (a.cI.take i).map (·.no)=xs at htl hsu ⊢;generalize a.cI[i]=y at he hsu;have happ:=fun (A:ae) d rest=>jE (α:=Int) (A:=A) (d:=d) 3 1 8 907 (l:=xs.length) (es:=xs) (ys:=[y.no]) (rest:=rest) rfl rfl (by simp) (by simp[maxLen];omega) (by simp;omega);have R:=u8 @hc (u8 @hw (u8 @he (u8 @happ (u8 @kT (u8 @nG (u8 @l9 (u8 @yE (u8 @fU (u8 @mY (u8 @cD (u8 @aX (u8 @aJ @U))))))))))))
  repeat' ((first |(with_reducible refine .guard (fun hb =>?_) (fun hb =>?_) <;>try simp only[hb])|refine J.aE (by decide +kernel) rfl fun K hK =>?_|(refine .ay [0,1,2,3,4,5,6,7,8,9,10,11,16,32,49,60] hK ?_;clear hK K)|(with_reducible refine .done (hK _ ?_);clear hK K)|refine J.of rfl ?_|(with_reducible refine ai.aB (fun h =>?_) (fun h =>?_) <;>try simp only[h])) <;>try simp only[aF,R,Nat.reduceEqDiff,reduceIte,Nat.reduceBEq])
  all_goals clear R
  refine ⟨i+1,by omega,by omega,?_⟩;simp only[hsu];refine az.bL ?_ ?_ ?_ ?_ <;>simp[aO,bC,bx,aZ,al,aP,b8,I.only,I.bW,ah.only,dn,gm,bh,ga]
 have hc:=eT hlt;have hge:i=a.cI.length:=by omega
 subst hge;rw[zv1];obtain ⟨av,has⟩:∃ av,av=a.cI.map (·.no):=⟨_,rfl⟩
 have hal:av.length≤60:=by rw[has,zy3];exact ha
 rw[←has];have R:=u8 @hc (u8 @nG (u8 @l9 (u8 @mY (u8 @cD (u8 @aX (u8 @aJ @U))))))
 repeat' ((first |(with_reducible refine .guard (fun hb =>?_) (fun hb =>?_) <;>try simp only[hb])|refine J.aE (by decide +kernel) rfl fun K hK =>?_|(refine .ay [0,1,2,3,4,5,6,7,8,9,10,11,16,32,49,60] hK ?_;clear hK K)|(with_reducible refine .done (hK _ ?_);clear hK K)|refine J.of rfl ?_|(with_reducible refine ai.aB (fun h =>?_) (fun h =>?_) <;>try simp only[h])) <;>try simp only[aF,R,Nat.reduceEqDiff,reduceIte,Nat.reduceBEq])
 all_goals clear R
 refine J.loop (fun i:Nat=>ar [(3,.ptr 3 []),(4,.ptr 4 []),(5,.ptr 5 []),(7,.own 907 (av++(b.cI.take i).map (·.no)).length),(9,.int .i64 i)] [(3,.box (enc m)),(4,.box (enc a)),(5,.box (enc b)),(907,.b5 3 1 ((av++(b.cI.take i).map (·.no)).map enc))]) (fun i=>i≤b.cI.length) (fun i=>b.cI.length-i) 0 (zw8 _) ?_ (fun i hi =>?_)
 ·simp only[List.take_zero,zx2,zx5];refine az.bL ?_ ?_ ?_ ?_ <;>simp[aO,bC,bx,aZ,al,aP,b8,I.only,ah.only,dn,bh]
 by_cases hlt2:i<b.cI.length
 ·have hc:=eR hlt2;have hw:=dX (i:=i) (by omega);have he:=fun A=>eh (A:=A) 9 hlt2 rfl;have htl:((b.cI.take i).map (·.no)).length≤60:=by rw[zy3,zy4];omega
  have hsu:av++(b.cI.take (i+1)).map (·.no)=(av++(b.cI.take i).map (·.no))++[(b.cI[i]).no]:=by
   rw[zz7 hlt2,zx4,zz6];rfl
  have hxl:(av++(b.cI.take i).map (·.no)).length≤120:=by rw[zz5];omega
  generalize av++(b.cI.take i).map (·.no)=xs at hxl hsu ⊢;generalize b.cI[i]=y at he hsu;have happ:=fun (A:ae) d rest=>jE (α:=Int) (A:=A) (d:=d) 3 1 8 907 (l:=xs.length) (es:=xs) (ys:=[y.no]) (rest:=rest) rfl rfl (by simp) (by simp[maxLen];omega) (by simp;omega);have R:=u8 @hc (u8 @hw (u8 @he (u8 @happ (u8 @kT (u8 @nG (u8 @l9 (u8 @yE (u8 @fU (u8 @mY (u8 @cD (u8 @aX (u8 @aJ @U))))))))))))
  repeat' ((first |(with_reducible refine .guard (fun hb =>?_) (fun hb =>?_) <;>try simp only[hb])|refine J.aE (by decide +kernel) rfl fun K hK =>?_|(refine .ay [0,1,2,3,4,5,6,7,8,9,10,11,16,32,49,60] hK ?_;clear hK K)|(with_reducible refine .done (hK _ ?_);clear hK K)|refine J.of rfl ?_|(with_reducible refine ai.aB (fun h =>?_) (fun h =>?_) <;>try simp only[h])) <;>try simp only[aF,R,Nat.reduceEqDiff,reduceIte,Nat.reduceBEq])
  all_goals clear R
  refine ⟨i+1,by omega,by omega,?_⟩;simp only[hsu];refine az.bL ?_ ?_ ?_ ?_ <;>simp[aO,bC,bx,aZ,al,aP,b8,I.only,I.bW,ah.only,dn,gm,bh,ga]
 have hc:=eT hlt2;have hge:i=b.cI.length:=by omega
 subst hge;rw[zv1];obtain ⟨xs,hxs⟩:∃ xs,xs=av++b.cI.map (·.no):=⟨_,rfl⟩
 have hxl:xs.length≤120:=by rw[hxs,zz5,zy3];omega
 have hdf:jJ m a.cI b.cI=(fN xs).filter fun no => !fp m (bY a.cI no) (bY b.cI no):=by rw[hxs,has];rfl
 have hF:=Aw xs (by omega);have hsl:(fN xs).length≤120:=by
  have:=wE xs [];simp only[fN,zv7] at this ⊢;omega
 have hfo:=nH (k:=xs.length) (T:=3) (es:=xs) 1 rfl rfl;rw[←hxs,hdf];generalize fN xs=ys at hF hsl;have R:=u8 @hc (u8 @hfo (u8 @nG (u8 @l9 (u8 @mY (u8 @cD (u8 @aX (u8 @aJ @U)))))))
 repeat' ((first |(with_reducible refine .guard (fun hb =>?_) (fun hb =>?_) <;>try simp only[hb])|refine J.aE (by decide +kernel) rfl fun K hK =>?_|refine .lead _ (hF) ?_|(refine .ay [0,1,2,3,4,5,6,7,8,9,10,11,16,32,49,60] hK ?_;clear hK K)|(with_reducible refine .done (hK _ ?_);clear hK K)|refine J.of rfl ?_|(with_reducible refine ai.aB (fun h =>?_) (fun h =>?_) <;>try simp only[h])) <;>try simp only[aF,R,Nat.reduceEqDiff,reduceIte,Nat.reduceBEq])
 all_goals clear R
 refine J.loop (fun i:Nat=>ar [(3,.ptr 3 []),(4,.ptr 4 []),(5,.ptr 5 []),(7,enc ys),(10,.own 910 ((ys.take i).filter fun no => !fp m (bY a.cI no) (bY b.cI no)).length),(11,.int .i64 i)] [(3,.box (enc m)),(4,.box (enc a)),(5,.box (enc b)),(910,.b5 3 1 (((ys.take i).filter fun no => !fp m (bY a.cI no) (bY b.cI no)).map enc))]) (fun i=>i≤ys.length) (fun i=>ys.length-i) 0 (zw8 _) ?_ (fun i hi =>?_)
 ·refine az.lD 10 910 3 1 1 rfl rfl ?_;simp only[List.take_zero,zw9,zx2,zv7];refine az.bL ?_ ?_ ?_ ?_ <;>simp[aO,bC,bx,aZ,al,aP,b8,I.only,I.bW,ah.only,bh]
 by_cases hlt3:i<ys.length
 ·have hc:=eR hlt3;have hw:=dX (i:=i) (by omega);have he:=fun A=>eh (A:=A) 1 hlt3 rfl;have hT:=QS m a b ys[i];have hsu:((ys.take (i+1)).filter fun no => !fp m (bY a.cI no) (bY b.cI no))=((ys.take i).filter fun no => !fp m (bY a.cI no) (bY b.cI no))++if (!fp m (bY a.cI ys[i]) (bY b.cI ys[i])) then [ys[i]] else []:=by
   rw[zz7 hlt3,zu3,zx7,zw9]
  have hfl:((ys.take i).filter fun no => !fp m (bY a.cI no) (bY b.cI no)).length≤120:=zu1 (zu2 _ _) (by rw[zy4];omega);generalize (ys.take i).filter (fun no => !fp m (bY a.cI no) (bY b.cI no))=zs at hsu hfl ⊢;generalize ys[i]=y at he hT hsu;have happ:=fun (A:ae) d rest=>jE (α:=Int) (A:=A) (d:=d) 3 1 8 910 (l:=zs.length) (es:=zs) (ys:=[y]) (rest:=rest) rfl rfl (by simp) (by simp[maxLen];omega) (by simp;omega);rcases q:fp m (bY a.cI y) (bY b.cI y)
  all_goals
   rw[q] at hT hsu;simp only[zu5,Bool.not_false,if_true,zz8,if_false,zx5] at hsu;have R:=u8 @hc (u8 @hw (u8 @he (u8 @happ (u8 @kT (u8 @dS (u8 @OU (u8 @mY (u8 @cD (u8 @aX (u8 @aJ @U))))))))))
   repeat' ((first |(with_reducible refine .guard (fun hb =>?_) (fun hb =>?_) <;>try simp only[hb])|refine J.aE (by decide +kernel) rfl fun K hK =>?_|refine .flat _ (hT) rfl ?_|(refine .ay [0,1,2,3,4,5,6,7,8,9,10,11,16,32,49,60] hK ?_;clear hK K)|(with_reducible refine .done (hK _ ?_);clear hK K)|refine J.of rfl ?_|(with_reducible refine ai.aB (fun h =>?_) (fun h =>?_) <;>try simp only[h])) <;>try simp only[aF,R,Nat.reduceEqDiff,reduceIte,Nat.reduceBEq])
   all_goals clear R
   refine ⟨i+1,by omega,by omega,?_⟩;simp only[hsu];refine az.bL ?_ ?_ ?_ ?_ <;>simp[aO,bC,bx,aZ,al,aP,b8,I.only,I.bW,ah.only,dn,gm,bh,ga]
 have hc:=eT hlt3;have hge:i=ys.length:=by omega
 subst hge;rw[zv1];have hfo:=fun zs:List Int=>nH (k:=zs.length) (T:=3) (es:=zs) 1 rfl rfl;have R:=u8 @hc (u8 @hfo (u8 @aX (u8 @aJ @U)))
 repeat' ((first |(with_reducible refine .guard (fun hb =>?_) (fun hb =>?_) <;>try simp only[hb])|refine J.aE (by decide +kernel) rfl fun K hK =>?_|(refine .ay [0,1,2,3,4,5,6,7,8,9,10,11,16,32,49,60] hK ?_;clear hK K)|(with_reducible refine .done (hK _ ?_);clear hK K)|refine J.of rfl ?_|(with_reducible refine ai.aB (fun h =>?_) (fun h =>?_) <;>try simp only[h])) <;>try simp only[aF,R,Nat.reduceEqDiff,reduceIte,Nat.reduceBEq])
 all_goals clear R
theorem uq{l:List ao}(hok:dF l=true)(day known:Int):(ln l day known).cI.length≤60:=by
 rw[←(yV l day known).length_eq];exact (nJ hok day known).2.1
def gl(m:cq)(l:List ao)(a:Item)(known:Int):List Int×Int:=if eO m then (if er l [] [known]=0 then (if jh l a then (jJ m (cM l 100000 known) (cM (dq l (fL l a)) 100000 known),0) else ([],3)) else ([],er l [] [known])) else ([],13)
theorem QL(m:cq)(l:List ao)(a:Item)(known:Int):aw Tryz.prog 49 [enc m,enc l,enc a,enc known] (.tuple [enc (gl m l a known).1,enc (gl m l a known).2]):=by
 have hM:=vg m;have hF:=vf l;have hI:=PA l a;refine aw.bj Tryz.func49 TL VR Yc (zz0 rfl) (fun hwf W0 D0 E1 =>?_);simp only[CA,Ny,bg,zz3,Nat.reduceAdd];clear hwf;rcases q0:eO m
 ·have hs:gl m l a known=([],13):=by simp[gl,q0]
  rw[hs];rw[q0,if_neg (by decide)] at hM;have R:=u8 @dS (u8 @cD (u8 @aJ @U))
  repeat' ((first |(with_reducible refine .guard (fun hb =>?_) (fun hb =>?_) <;>try simp only[hb])|refine J.aE (by decide +kernel) rfl fun K hK =>?_|refine .flat _ (hM) rfl ?_|(refine .ay [0,1,2,3,4,6,8,9,10,11,14,17,20,25] hK ?_;clear hK K)|(with_reducible refine .done (hK _ ?_);clear hK K)|refine J.of rfl ?_|(with_reducible refine ai.aB (fun h =>?_) (fun h =>?_) <;>try simp only[h])) <;>try simp only[aF,R,Nat.reduceEqDiff,reduceIte,Int.reduceBNe,Nat.reduceBEq])
  all_goals clear R
  all_goals rfl
 rw[q0,if_pos rfl] at hM;rcases q1:dF l
 ·have hs:gl m l a known=([],41):=by simp[gl,q0,Wq q1]
  rw[hs];rw[q1,if_neg (by decide)] at hF;have R:=u8 @dS (u8 @cD (u8 @aJ @U))
  repeat' ((first |(with_reducible refine .guard (fun hb =>?_) (fun hb =>?_) <;>try simp only[hb])|refine J.aE (by decide +kernel) rfl fun K hK =>?_|refine .flat _ (hM) rfl ?_|refine .flat _ (hF) rfl ?_|(refine .ay [0,1,2,3,4,6,8,9,10,11,14,17,20,25] hK ?_;clear hK K)|(with_reducible refine .done (hK _ ?_);clear hK K)|refine J.of rfl ?_|(with_reducible refine ai.aB (fun h =>?_) (fun h =>?_) <;>try simp only[h])) <;>try simp only[aF,R,Nat.reduceEqDiff,reduceIte,Int.reduceBNe,Nat.reduceBEq])
  all_goals clear R
  all_goals rfl
 rw[q1,if_pos rfl] at hF;rcases q3:b9 0 100000 known
 ·have hs:gl m l a known=([],6):=by simp[gl,q0,Wr q1 q3]
  rw[hs];have R:=u8 @q3 (u8 @dS (u8 @cD (u8 @aJ @U)))
  repeat' ((first |(with_reducible refine .guard (fun hb =>?_) (fun hb =>?_) <;>try simp only[hb])|refine J.aE (by decide +kernel) rfl fun K hK =>?_|refine .flat _ (hM) rfl ?_|refine .flat _ (hF) rfl ?_|refine .flat _ (ph _) rfl ?_|(refine .ay [0,1,2,3,4,6,8,9,10,11,14,17,20,25] hK ?_;clear hK K)|(with_reducible refine .done (hK _ ?_);clear hK K)|refine J.of rfl ?_|(with_reducible refine ai.aB (fun h =>?_) (fun h =>?_) <;>try simp only[h])) <;>try simp only[aF,R,Nat.reduceEqDiff,reduceIte,Int.reduceBNe,Nat.reduceBEq])
  all_goals clear R
  all_goals rfl
 rw[alw (yL q1)] at hI;rcases q2:jh l a
 ·have hs:gl m l a known=([],3):=by simp[gl,q0,Dy q1 q3,q2]
  rw[hs];rw[q2,if_neg (by decide)] at hI;have hm1:decide ((-1:Int)<0)=true:=rfl;have R:=u8 @q3 (u8 @hm1 (u8 @dS (u8 @cD (u8 @aJ @U))))
  repeat' ((first |(with_reducible refine .guard (fun hb =>?_) (fun hb =>?_) <;>try simp only[hb])|refine J.aE (by decide +kernel) rfl fun K hK =>?_|refine .flat _ (hM) rfl ?_|refine .flat _ (hF) rfl ?_|refine .flat _ (ph _) rfl ?_|refine .flat _ (hI) rfl ?_|(refine .ay [0,1,2,3,4,6,8,9,10,11,14,17,20,25] hK ?_;clear hK K)|(with_reducible refine .done (hK _ ?_);clear hK K)|refine J.of rfl ?_|(with_reducible refine ai.aB (fun h =>?_) (fun h =>?_) <;>try simp only[h])) <;>try simp only[aF,R,Nat.reduceEqDiff,reduceIte,Int.reduceBNe,Nat.reduceBEq])
  all_goals clear R
  all_goals rfl
 have hs:gl m l a known=(jJ m (cM l 100000 known) (cM (dq l (fL l a)) 100000 known),0):=by simp[gl,q0,Dy q1 q3,q2]
 rw[hs,←D8];rw[q2,if_pos rfl] at hI;have h2:decide ((fL l a:Int)<0)=false:=by simp
 have hll:=n9 q1;have hokd:=yI q1 (fL l a);have hD:=QT l (fL l a) hll;have hP:=sj l known 100000 q1;have hP2:=sj (dq l (fL l a)) known 100000 hokd;have hX:=z1 m (ln l 100000 known) (ln (dq l (fL l a)) 100000 known) (uq q1 _ _) (uq hokd _ _);have R:=u8 @q3 (u8 @h2 (u8 @dS (u8 @mY (u8 @cD (u8 @aJ @U)))))
 repeat' ((first |(with_reducible refine .guard (fun hb =>?_) (fun hb =>?_) <;>try simp only[hb])|refine J.aE (by decide +kernel) rfl fun K hK =>?_|refine .flat _ (hM) rfl ?_|refine .flat _ (hF) rfl ?_|refine .flat _ (ph _) rfl ?_|refine .flat _ (hI) rfl ?_|refine .lead _ (hP) ?_|refine .lead _ (hP2) ?_|refine .lead _ (hD) ?_|refine .lead _ (hX) ?_|(refine .ay [0,1,2,3,4,6,8,9,10,11,14,17,20,25] hK ?_;clear hK K)|(with_reducible refine .done (hK _ ?_);clear hK K)|refine J.of rfl ?_|(with_reducible refine ai.aB (fun h =>?_) (fun h =>?_) <;>try simp only[h])) <;>try simp only[aF,R,Nat.reduceEqDiff,reduceIte,Int.reduceBNe,Nat.reduceBEq])
 all_goals clear R
def gz(m:cq)(l:List ao)(k1 k2:Int):List Int×Int:=if eO m then (if er l [] [k1,k2]=0 then (jJ m (cM l 100000 k1) (cM l 100000 k2),0) else ([],er l [] [k1,k2])) else ([],13)
theorem QN(m:cq)(l:List ao)(x:km):aw Tryz.prog 51 [enc m,enc l,enc x] (.tuple [enc (gz m l (x.g 0) (x.g 1)).1,enc (gz m l (x.g 0) (x.g 1)).2]):=by
 have hM:=vg m;have hF:=vf l;refine aw.bj Tryz.func51 TN VT Ye (zz0 rfl) (fun hwf W0 D0 E1 =>?_);simp only[CC,NA,bg,zz3,Nat.reduceAdd];clear hwf;rcases q0:eO m
 ·have hs:gz m l (x.g 0) (x.g 1)=([],13):=by simp[gz,q0]
  rw[hs];rw[q0,if_neg (by decide)] at hM;have R:=u8 @dS (u8 @pW (u8 @cD (u8 @aJ @U)))
  repeat' ((first |(with_reducible refine .guard (fun hb =>?_) (fun hb =>?_) <;>try simp only[hb])|refine J.aE (by decide +kernel) rfl fun K hK =>?_|refine .flat _ (hM) rfl ?_|(refine .ay [0,1,2,3,5,6,7,8,11,14,24] hK ?_;clear hK K)|(with_reducible refine .done (hK _ ?_);clear hK K)|refine J.of rfl ?_|(with_reducible refine ai.aB (fun h =>?_) (fun h =>?_) <;>try simp only[h])) <;>try simp only[aF,R,Nat.reduceEqDiff,reduceIte,Int.reduceBNe,Nat.reduceBEq])
  all_goals clear R
  all_goals rfl
 rw[q0,if_pos rfl] at hM;rcases q1:dF l
 ·have hs:gz m l (x.g 0) (x.g 1)=([],41):=by simp[gz,q0,er,q1]
  rw[hs];rw[q1,if_neg (by decide)] at hF;have R:=u8 @dS (u8 @pW (u8 @cD (u8 @aJ @U)))
  repeat' ((first |(with_reducible refine .guard (fun hb =>?_) (fun hb =>?_) <;>try simp only[hb])|refine J.aE (by decide +kernel) rfl fun K hK =>?_|refine .flat _ (hM) rfl ?_|refine .flat _ (hF) rfl ?_|(refine .ay [0,1,2,3,5,6,7,8,11,14,24] hK ?_;clear hK K)|(with_reducible refine .done (hK _ ?_);clear hK K)|refine J.of rfl ?_|(with_reducible refine ai.aB (fun h =>?_) (fun h =>?_) <;>try simp only[h])) <;>try simp only[aF,R,Nat.reduceEqDiff,reduceIte,Int.reduceBNe,Nat.reduceBEq])
  all_goals clear R
  all_goals rfl
 rw[q1,if_pos rfl] at hF;rcases q3:b9 0 100000 (x.g 0) <;>rcases q4:b9 0 100000 (x.g 1)
 iterate 3
  ·have hs:gz m l (x.g 0) (x.g 1)=([],6):=by simp[gz,q0,er,q1,q3,q4]
   rw[hs];have R:=u8 @q3 (u8 @q4 (u8 @dS (u8 @pW (u8 @cD (u8 @aJ @U)))))
   repeat' ((first |(with_reducible refine .guard (fun hb =>?_) (fun hb =>?_) <;>try simp only[hb])|refine J.aE (by decide +kernel) rfl fun K hK =>?_|refine .flat _ (hM) rfl ?_|refine .flat _ (hF) rfl ?_|refine .flat _ (ph _) rfl ?_|(refine .ay [0,1,2,3,5,6,7,8,11,14,24] hK ?_;clear hK K)|(with_reducible refine .done (hK _ ?_);clear hK K)|refine J.of rfl ?_|(with_reducible refine ai.aB (fun h =>?_) (fun h =>?_) <;>try simp only[h])) <;>try simp only[aF,R,Nat.reduceEqDiff,reduceIte,Int.reduceBNe,Nat.reduceBEq])
   all_goals clear R
   all_goals rfl
 have hs:gz m l (x.g 0) (x.g 1)=(jJ m (cM l 100000 (x.g 0)) (cM l 100000 (x.g 1)),0):=by simp[gz,q0,er,q1,q3,q4]
 rw[hs,←D8];have hP:=sj l (x.g 0) 100000 q1;have hP2:=sj l (x.g 1) 100000 q1;have hX:=z1 m (ln l 100000 (x.g 0)) (ln l 100000 (x.g 1)) (uq q1 _ _) (uq q1 _ _);have R:=u8 @q3 (u8 @q4 (u8 @dS (u8 @pW (u8 @mY (u8 @cD (u8 @aJ @U))))))
 repeat' ((first |(with_reducible refine .guard (fun hb =>?_) (fun hb =>?_) <;>try simp only[hb])|refine J.aE (by decide +kernel) rfl fun K hK =>?_|refine .flat _ (hM) rfl ?_|refine .flat _ (hF) rfl ?_|refine .flat _ (ph _) rfl ?_|refine .lead _ (hP) ?_|refine .lead _ (hP2) ?_|refine .lead _ (hX) ?_|(refine .ay [0,1,2,3,5,6,7,8,11,14,24] hK ?_;clear hK K)|(with_reducible refine .done (hK _ ?_);clear hK K)|refine J.of rfl ?_|(with_reducible refine ai.aB (fun h =>?_) (fun h =>?_) <;>try simp only[h])) <;>try simp only[aF,R,Nat.reduceEqDiff,reduceIte,Int.reduceBNe,Nat.reduceBEq])
 all_goals clear R
theorem J.ap7{W0:World}{D0:aV}{nn:Nat}{ow:Nat→Prop}{E1:a6}{Y:Value→List I→List (Nat×ah)→cR→Prop}{kI:Option Nat}{y:aN}{Q:Exit→ae→Prop}{ts:List (Nat×I)}{os:List (Nat×ah)}{a b d n:Nat}{xs:List Int}(hx:xs≠[])
  (hd:Abs.bQ ts d=.own n xs.length) (hn:ak os n=some (.c5 3 xs)) (hlt:n<1000000) (hl:xs.length≤60) (ht:∀ t,mZ n xs.length (Abs.bQ ts t)) (ho:aZ (fun j => ![n].contains j) (cJ [n] os))
  (ts':List (Nat×I)) (h1:∀ q∈ts',q.1≠a∧q.1≠b∧Abs.bQ ts q.1=q.2∧q.2.only (fun j=>j != n)=true)
  (hda:d≠a) (hdb:d≠b)
  (h:∀ q,J ⟨Tryz.prog,W0,D0,nn,ow,E1,Y,kI⟩ y Q (ar ((d,.view n [] 1 0 xs.length)::ts') ((n,.box (.agg ((di xs++List.replicate q 0).map enc)))::cJ [n] os))) :
  J ⟨Tryz.prog,W0,D0,nn,ow,E1,Y,kI⟩ (.seq (.bT none [⟨some a,.mv (.t d),none⟩,⟨some b,.call 107 [.t a],none⟩]) y) Q (ar ts os):=by
 have hdrop:∀ m,ak (cJ [n] os) m=if m=n then none else ak os m:=fun m=>by
  have:=l6 [n] os m;simpa using this
 have ho':∀ m y,ak os m=some y→m≠n→y.only (fun j=>j != n)=true:=fun m y hy hm=>by
  have:=uh ho m y (by rw[hdrop,if_neg hm];exact hy);exact qC (fun j hj=>by simpa using hj) this
 refine J.zU hn hx hlt ht (fun m y hy hm=>.inr (ho' m y hy hm)) fun q =>?_;refine J.seq (J.bT (cl:=[]) (by rfl) fun K hK =>?_);have hd':Abs.bQ (ts.map fun p=>(p.1,fq n xs.length p.2)) d=.view n [] 1 0 xs.length:=by
  rw[nU _ rfl,hd];simp[fq]
 simp only[U,simprocAttr,hd'];refine .bV false [(1000000,n)] (bN 1000000 (xs++List.replicate q 0)) [.view 1000000 [] 1 0 xs.length] _ rfl (uZ xs _ (by omega)) ?_ ?_ ?_ ?_
 ·refine ⟨fun m y hy =>?_,fun m m' h h' _=>by rw[cH.1 h,cH.1 h']⟩;simp only[bN,ak] at hy;split at hy
  ·rename_i hm;cases hy;subst hm;exact ⟨by simp only[bJ,if_true,ak,ah.aQ,I.aQ,fM],gj _ _,rfl⟩
  ·cases hy
 ·exact ⟨.inl ⟨by simp[I.aQ,bJ],cH.2 rfl,rfl⟩,trivial⟩
 ·rintro eb os2 ⟨rfl,rfl⟩;refine ⟨fun m y hy =>?_,fun m m' h h' _=>by rw[cH.1 h,cH.1 h'],fun m hm=>by rw[cH.1 hm];exact cH.2 rfl,fun m a b=>by rw[cH.1 a] at b;simp[bN,al,ak] at b,rfl,fun _=>rfl⟩;simp only[bN,ak] at hy;split at hy
  ·cases hy;exact ⟨gj _ _,rfl,fun h=>by cases h⟩
  ·cases hy
 ·rintro eb os2 ⟨rfl,rfl⟩
  try simp only[bN,dN,zy2,zx2,ah.aQ,I.aQ,fM,bJ,reduceIte,zy0,zy5,I.cZ,U,simprocAttr]
  refine .done (hK _ ?_);clear hK K;refine J.sub (az.cN (ts':=(d,I.view n [] 1 0 xs.length)::ts') ⟨?_,zN fun p hp =>?_⟩ (fun m =>?_)) (h q)
  ·simp only[Abs.bQ,hda,hdb,if_false];exact hd'
  ·obtain ⟨k1,k2,k3,k4⟩:=h1 p hp;have h5:Abs.bQ (ts.map fun p=>(p.1,fq n xs.length p.2)) p.1=p.2:=by
    rw[nU _ rfl,k3,qA k4]
   simp only[Abs.bQ,k1,k2,if_false,h5]
  ·by_cases hm:m=n
   ·simp[ak,hm]
   ·simp only[ak,if_neg hm,rz,hdrop];cases h6:ak os m with
    |none=>rfl
    |some y =>
     have h7:iI (fq n xs.length) y=y:=zQ _ (qC (fun j hj=>by simpa using hj) (ho' _ _ h6 hm));simp[h7]
def dh(xs:List Int):Nat→List Int
 |0=>[]
 |r+1=>if r=0∨xs.getD r 0≠xs.getD (r-1) 0 then dh xs r++[xs.getD r 0] else dh xs r
theorem DK(xs:List Int):∀ r,(dh xs r).length≤r
 |0=>zz9 _
 |r+1=>by
  have:=DK xs r;simp only[dh];split <;>simp <;>omega
theorem tr{xs:List Int}{i:Nat}(h:i<xs.length):xs.getD i 0=xs[i]:=by
 rw[zz2,zy1 h];rfl
theorem DL{xs:List Int}(hs:xs.Pairwise (· ≤ ·)):∀ r,r≤xs.length→gJ (dh xs r)∧∀ y,y∈dh xs r↔y∈xs.take r
 |0,_=>⟨.nil,by simp[dh]⟩
 |r+1,h=>by
  obtain ⟨h1,h2⟩:=DL hs r (by omega);have hx:=tr (xs:=xs) (i:=r) (by omega);rw[zz7 (by omega),←hx];simp only[dh];by_cases h0:r=0
  ·subst h0;simp[dh,gJ]
  have hp:=tr (xs:=xs) (i:=r-1) (by omega);have hle:∀ y∈xs.take r,y≤xs.getD (r-1) 0:=fun y hy=>by
   obtain ⟨i,hi,rfl⟩:=List.mem_take_iff_getElem.1 hy;rw[hp];by_cases e:i=r-1
   ·simp only[e];omega
   ·exact List.pairwise_iff_getElem.1 hs i (r-1) (by omega) (by omega) (by omega)
  have hpr:xs.getD (r-1) 0≤xs.getD r 0:=by
   rw[hp,hx];exact List.pairwise_iff_getElem.1 hs (r-1) r (by omega) (by omega) (by omega)
  have hpm:xs.getD (r-1) 0∈xs.take r:=by
   rw[hp,List.mem_take_iff_getElem];exact ⟨r-1,by omega,rfl⟩
  by_cases he:xs.getD r 0=xs.getD (r-1) 0
  ·rw[if_neg (fun h=>h.elim h0 (fun h=>h he))];refine ⟨h1,fun y =>?_⟩;rw[h2,zx1,List.mem_singleton];constructor
   ·exact .inl
   ·rintro (h | rfl)
    ·exact h
    ·rw[he];exact hpm
  ·rw[if_pos (.inr he)];refine ⟨List.pairwise_append.2 ⟨h1,by simp,fun y hy z hz =>?_⟩,fun y=>by rw[zx1,zx1,h2]⟩;have:=hle y ((h2 y).1 hy);simp only[List.mem_singleton] at hz;subst hz;omega
theorem DM(xs:List Int):dh (di xs) (di xs).length=fN xs:=by
 obtain ⟨h1,h2⟩:=DL (OO xs) _ (zz9 _);refine zj h1 (zG xs) fun y =>?_;rw[h2,zv1,zF,(o8 xs).mem_iff]
def WH(xs:List Int)(N:Nat):cR:=fun r os'=>∃ ws:List Int,r=.view 1000000 [] 1 0 (dh xs xs.length).length∧os'=bN 1000000 ws∧ws.take (dh xs xs.length).length=dh xs xs.length∧ws.length=N
theorem KR{m lo l i:Nat}(h:i<l)(fs:List I):jn m [] 1 lo l 1 (i:Int) (some fs)=some (.ptr m [lo+i]):=nT h
theorem Py(xs q:List Int)(hn:xs.length≤200):cG Tryz.prog 108 [.view 1000000 [] 1 0 xs.length] (bN 1000000 (xs++q)) (WH xs (xs++q).length):=by
 refine cG.bj Tryz.func108 C9 Dn DN (zz0 rfl) (zz0 rfl) mn (fun hwf W0 D0 E1 =>?_);simp only[vB,y5,bg];clear hwf;have hcl:∀ k,k≤xs.length→dh xs k=xs.take k→(dh xs k).length=k:=fun k hk e=>by rw[e,zy4];omega
 by_cases h2:xs.length<2
 ·have hd2:decide ((xs.length:Int)<2)=true:=by simp;omega
  have e:dh xs xs.length=xs:=by
   have:xs.length=0∨xs.length=1:=by omega
   rcases this with e | e
   ·rw[e,List.eq_nil_of_length_eq_zero e];rfl
   ·obtain ⟨x,rfl⟩:=List.length_eq_one_iff.1 e;simp[dh]
  have R:=u8 @hd2 (u8 @cK (u8 @aX (u8 @aJ @U)))
  repeat' ((first |(with_reducible refine .guard (fun hb =>?_) (fun hb =>?_) <;>try simp only[hb])|refine J.aE (by decide +kernel) rfl fun K hK =>?_|(refine .ay [0,2,3,4,5,8,13,25,32,44] hK ?_;clear hK K)|(with_reducible refine .done (hK _ ?_);clear hK K)|refine J.of rfl ?_|(with_reducible refine ai.aB (fun h =>?_) (fun h =>?_) <;>try simp only[h])) <;>try simp only[aF,R,simprocAttr])
  all_goals clear R
  rw[eX];exact ⟨bN 1000000 (xs++q),[.view 1000000 [] 1 0 xs.length],jK rfl (fun p=>gj p _),⟨⟨_,rfl,.inl ⟨rfl,rfl,rfl⟩⟩,trivial⟩,xs++q,by rw[e];rfl,rfl,by rw[e,List.take_left],rfl⟩
 have hd2:decide ((xs.length:Int)<2)=false:=by simp;omega
 have hat:∀ i,i<xs.length→(xs++q).getD i 0=xs.getD i 0:=fun i hi=>by
  simp only[zz2];rw[zx0 hi]
 have R:=u8 @hd2 (u8 @cK (u8 @aX (u8 @aJ @U)))
 repeat' ((first |(with_reducible refine .guard (fun hb =>?_) (fun hb =>?_) <;>try simp only[hb])|refine J.aE (by decide +kernel) rfl fun K hK =>?_|(refine .ay [0,2,3,4,5,8,13,25,32,44] hK ?_;clear hK K)|(with_reducible refine .done (hK _ ?_);clear hK K)|refine J.of rfl ?_|(with_reducible refine ai.aB (fun h =>?_) (fun h =>?_) <;>try simp only[h])) <;>try simp only[aF,R,simprocAttr])
 all_goals clear R
 refine J.loop (fun k:Nat=>ar [(0,.view 1000000 [] 1 0 xs.length),(3,.int .i64 k)] (bN 1000000 (xs++q))) (fun k=>1≤k∧k≤xs.length∧dh xs k=xs.take k) (fun k=>xs.length-k) 1 ⟨zz9 _,by omega,?_⟩ ?_ (fun k hk =>?_)
 ·have e1:dh xs 1=[xs.getD 0 0]:=by simp[dh]
  rw[e1,zz7 (by omega),tr (by omega)];rfl
 ·try simp only[bN]
  refine az.bL ?_ ?_ ?_ ?_ <;>simp[aO,bC,bx,aZ,al,aP,b8,I.only,ah.only,dn,gm]
 obtain ⟨k1,k2,k3⟩:=hk;simp only[bN];by_cases hlt:k<xs.length
 case neg =>
  have hc:=eT hlt;have hge:k=xs.length:=by omega
  subst hge;rw[zv1] at k3;have R:=u8 @hc (u8 @cK (u8 @aX (u8 @aJ @U)))
  repeat' ((first |(with_reducible refine .guard (fun hb =>?_) (fun hb =>?_) <;>try simp only[hb])|refine J.aE (by decide +kernel) rfl fun K hK =>?_|(refine .ay [0,2,3,4,5,8,13,25,32,44] hK ?_;clear hK K)|(with_reducible refine .done (hK _ ?_);clear hK K)|refine J.of rfl ?_|(with_reducible refine ai.aB (fun h =>?_) (fun h =>?_) <;>try simp only[h])) <;>try simp only[aF,R,simprocAttr])
  all_goals clear R
  rw[eX];exact ⟨bN 1000000 (xs++q),[.view 1000000 [] 1 0 xs.length],jK rfl (fun p=>gj p _),⟨⟨_,rfl,.inl ⟨rfl,rfl,rfl⟩⟩,trivial⟩,xs++q,by rw[k3];rfl,rfl,by rw[k3,List.take_left],rfl⟩
 have hc:=eR hlt;have hw:=dX (i:=k) (by omega);have hw1:IntKind.i64.wrap ((k:Int)-1)=((k-1:Nat):Int):=by rw[cL _ (by omega) (by omega)];omega
 have v1:=hJ (n:=xs.length) (i:=k) hlt;have v2:=hJ (n:=xs.length) (i:=k-1) (by omega);have l1:=fJ (xs:=xs++q) (i:=k) (by simp;omega);have l2:=fJ (xs:=xs++q) (i:=k-1) (by simp;omega);rw[hat _ (by omega)] at l1 l2;have hsu:dh xs (k+1)=if xs.getD k 0≠xs.getD (k-1) 0 then dh xs k++[xs.getD k 0] else dh xs k:=by
  simp only[dh];simp[show k≠0 by omega]
 rcases hq:(xs.getD k 0==xs.getD (k-1) 0)
 ·have hne:xs.getD k 0≠xs.getD (k-1) 0:=by simpa using hq
  have R:=u8 @hc (u8 @hw (u8 @hw1 (u8 @v1 (u8 @v2 (u8 @l1 (u8 @l2 (u8 @hq (u8 @cK (u8 @aX (u8 @aJ @U))))))))))
  repeat' ((first |(with_reducible refine .guard (fun hb =>?_) (fun hb =>?_) <;>try simp only[hb])|refine J.aE (by decide +kernel) rfl fun K hK =>?_|(refine .ay [0,2,3,4,5,8,13,25,32,44] hK ?_;clear hK K)|(with_reducible refine .done (hK _ ?_);clear hK K)|refine J.of rfl ?_|(with_reducible refine ai.aB (fun h =>?_) (fun h =>?_) <;>try simp only[h])) <;>try simp only[aF,R,simprocAttr])
  all_goals clear R
  refine ⟨k+1,⟨by omega,by omega,?_⟩,by omega,?_⟩
  ·rw[hsu,if_pos hne,k3,zz7 hlt,tr hlt]
  ·try simp only[bN]
   refine az.bL ?_ ?_ ?_ ?_ <;>simp[aO,bC,bx,aZ,al,aP,b8,I.only,ah.only,dn,gm]
 have heq:xs.getD k 0=xs.getD (k-1) 0:=by simpa using hq
 rw[if_neg (fun h=>h heq)] at hsu;have hsl:=qt (n:=1000000) (p:=[]) (sz:=1) (k:=xs.length) (total:=(xs++q).length) (i:=k) (by omega) (by simp) (by simp;omega);have hml:((xs++q).map (enc (α:=Int))).length=(xs++q).length:=by simp
 have R:=u8 @hc (u8 @hw1 (u8 @v1 (u8 @v2 (u8 @l1 (u8 @l2 (u8 @hq (u8 @hml (u8 @hsl (u8 @cK (u8 @aX (u8 @aJ @U)))))))))))
 repeat' ((first |(with_reducible refine .guard (fun hb =>?_) (fun hb =>?_) <;>try simp only[hb])|refine J.aE (by decide +kernel) rfl fun K hK =>?_|(refine .ay [0,2,3,4,5,8,13,25,32,44] hK ?_;clear hK K)|(with_reducible refine .done (hK _ ?_);clear hK K)|refine J.of rfl ?_|(with_reducible refine ai.aB (fun h =>?_) (fun h =>?_) <;>try simp only[h])) <;>try simp only[aF,R,zu4,simprocAttr])
 all_goals clear R
 refine J.loop (fun s:Nat×List Int=>ar [(0,.view 1000000 [] 1 0 xs.length),(3,.int .i64 (dh xs (k+s.1)).length),(4,.view 1000000 [] 1 k (xs.length-k)),(5,.int .i64 s.1)] (bN 1000000 s.2)) (fun s=>1≤s.1∧k+s.1≤xs.length∧s.2.length=(xs++q).length∧s.2.take (dh xs (k+s.1)).length=dh xs (k+s.1)∧(dh xs (k+s.1)).length+1≤k+s.1∧∀ j,k+s.1≤j+1→s.2[j]?=(xs++q)[j]?) (fun s=>xs.length-k-s.1) (1,xs++q) ⟨zz9 _,by simp only;omega,rfl,?_,?_,fun j _=>rfl⟩ ?_ ?_
 ·simp only[hsu,k3,zy4];rw[Nat.min_eq_left (by omega),zx3 (by omega)]
 ·simp only[hsu,hcl k k2 k3];omega
 ·simp only[hsu,hcl k k2 k3,bN];refine az.bL ?_ ?_ ?_ ?_ <;>simp[aO,bC,bx,aZ,al,aP,b8,I.only,ah.only,dn,gm]
 rintro ⟨t,ws⟩ ⟨t1,t2,t3,t4,t5,t6⟩;simp only at t1 t2 t3 t4 t5 t6 ⊢;simp only[bN];have htl:(xs++q).length=xs.length+q.length:=zz5;have hgt:∀ j,k+t≤j+1→j<xs.length→ws.getD j 0=xs.getD j 0:=fun j h1 h2=>by
  rw[zz2,t6 j h1,←zz2,hat j h2]
 by_cases hlt2:t<xs.length-k
 ·have hc2:decide ((t:Int)<((xs.length-k:Nat):Int))=true:=by simp;omega
  have hw2:=dX (i:=t) (by omega);have hw3:IntKind.i64.wrap ((t:Int)-1)=((t-1:Nat):Int):=by rw[cL _ (by omega) (by omega)];omega
  have hw4:=dX (i:=(dh xs (k+t)).length) (by omega);have v3:=KR (m:=1000000) (lo:=k) (l:=xs.length-k) (i:=t) hlt2;have v4:=KR (m:=1000000) (lo:=k) (l:=xs.length-k) (i:=t-1) (by omega);have v5:=hJ (n:=xs.length) (i:=(dh xs (k+t)).length) (by omega);have l3:=fJ (xs:=ws) (i:=k+t) (by omega);have l4:=fJ (xs:=ws) (i:=k+(t-1)) (by omega);rw[hgt _ (by omega) (by omega)] at l3 l4;have s1:=fun (A:ae) v u rest=>mw (A:=A) (n:=1000000) (xs:=ws) (i:=(dh xs (k+t)).length) (by omega) v u rest;have l5:=fJ (xs:=ws) (i:=(dh xs (k+t)).length) (by omega);have hsu2:dh xs (k+(t+1))=if xs.getD (k+t) 0≠xs.getD (k+(t-1)) 0 then dh xs (k+t)++[xs.getD (k+t) 0] else dh xs (k+t):=by
   rw[show k+(t+1)=(k+t)+1 by omega];simp only[dh];rw[show k+t-1=k+(t-1) by omega];have h0:(k+t=0)=False:=by simp;omega
   simp only[h0,false_or]
  generalize hL:dh xs (k+t)=L at *;rcases hq2:(xs.getD (k+t) 0 != xs.getD (k+(t-1)) 0)
  ·have heq2:xs.getD (k+t) 0=xs.getD (k+(t-1)) 0:=by simpa using hq2
   rw[if_neg (fun h=>h heq2)] at hsu2;have R:=u8 @hc2 (u8 @hw2 (u8 @hw3 (u8 @v3 (u8 @v4 (u8 @l3 (u8 @l4 (u8 @hq2 (u8 @cK (u8 @aX (u8 @aJ @U))))))))))
   repeat' ((first |(with_reducible refine .guard (fun hb =>?_) (fun hb =>?_) <;>try simp only[hb])|refine J.aE (by decide +kernel) rfl fun K hK =>?_|(refine .ay [0,2,3,4,5,8,13,25,32,44] hK ?_;clear hK K)|(with_reducible refine .done (hK _ ?_);clear hK K)|refine J.of rfl ?_|(with_reducible refine ai.aB (fun h =>?_) (fun h =>?_) <;>try simp only[h])) <;>try simp only[aF,R,simprocAttr])
   all_goals clear R
   refine ⟨(t+1,ws),⟨by simp only;omega,by simp only;omega,t3,?_,?_,fun j hj=>t6 j (by simp only at hj;omega)⟩,by simp only;omega,?_⟩
   ·simp only[hsu2];exact t4
   ·simp only[hsu2];omega
   ·simp only[hsu2];refine az.bL ?_ ?_ ?_ ?_ <;>simp[aO,bC,bx,aZ,al,aP,b8,I.only,ah.only,dn]
  ·have hne2:xs.getD (k+t) 0≠xs.getD (k+(t-1)) 0:=by simpa using hq2
   rw[if_pos hne2] at hsu2;have R:=u8 @hc2 (u8 @hw2 (u8 @hw3 (u8 @hw4 (u8 @v3 (u8 @v4 (u8 @v5 (u8 @l3 (u8 @l4 (u8 @l5 (u8 @s1 (u8 @hq2 (u8 @cK (u8 @aX (u8 @aJ @U))))))))))))))
   repeat' ((first |(with_reducible refine .guard (fun hb =>?_) (fun hb =>?_) <;>try simp only[hb])|refine J.aE (by decide +kernel) rfl fun K hK =>?_|(refine .ay [0,2,3,4,5,8,13,25,32,44] hK ?_;clear hK K)|(with_reducible refine .done (hK _ ?_);clear hK K)|refine J.of rfl ?_|(with_reducible refine ai.aB (fun h =>?_) (fun h =>?_) <;>try simp only[h])) <;>try simp only[aF,R,simprocAttr])
   all_goals clear R
   refine ⟨(t+1,ws.set L.length (xs.getD (k+t) 0)),⟨by simp only;omega,by simp only;omega,by simpa using t3,?_,?_,fun j hj =>?_⟩,by simp only;omega,?_⟩
   ·simp only[hsu2,zz5,List.length_singleton];rw[zz7 (by simp;omega),List.take_set_of_le (zz9 _),t4];simp
   ·simp only[hsu2,zz5,List.length_singleton];omega
   ·simp only at hj;rw[List.getElem?_set_ne (by omega)];exact t6 j (by omega)
   ·simp only[hsu2,zz5,List.length_singleton];generalize ws.set _ _=ws2;refine az.bL ?_ ?_ ?_ ?_ <;>simp[aO,bC,bx,aZ,al,aP,b8,I.only,ah.only,dn]
 ·have hc2:decide ((t:Int)<((xs.length-k:Nat):Int))=false:=by simp;omega
  have hkt:k+t=xs.length:=by omega
  rw[hkt] at t4 t5 ⊢;have hsl2:=qt (n:=1000000) (p:=[]) (sz:=1) (k:=xs.length) (total:=ws.length) (i:=(dh xs xs.length).length) (by omega) (by omega) (by omega);have hsl3:=fun us:List Int=>fun (hu:us.length=ws.length)=>rW (n:=1000000) (p:=[]) (sz:=1) (k:=xs.length) (total:=us.length) (i:=(dh xs xs.length).length) (by omega) (by omega);have hml2:∀ us:List Int,(us.map (enc (α:=Int))).length=us.length:=fun us=>by simp
  have hclr:=fun (A:ae) rest ho=>qO (A:=A) (rest:=rest) (esz:=1) (α:=Int) 0 (n:=1000000) (lo:=(dh xs xs.length).length) (k:=xs.length-(dh xs xs.length).length) (xs:=ws) ho (by omega);simp only[ga] at hclr;obtain ⟨us,hus⟩:∃ us,us=ws.take (dh xs xs.length).length++(List.replicate (xs.length-(dh xs xs.length).length) 0++ws.drop ((dh xs xs.length).length+(xs.length-(dh xs xs.length).length))):=⟨_,rfl⟩
  have hul:us.length=ws.length:=by
   rw[hus];simp only[zz5,zy4,zv3,zy9];omega
  have hut:us.take (dh xs xs.length).length=dh xs xs.length:=by
   rw[hus,zx3 (by rw[zy4];omega),List.take_take,Nat.min_self,t4]
  have hsl3:=hsl3 us hul;simp only[←hus] at hclr;generalize hL:dh xs xs.length=L at *;refine J.seq (J.seq ?_);refine .bK (by decide +kernel) fun K hK =>?_;simp only[Fs,U,simprocAttr]
  try simp only[hc2,cK,U,simprocAttr]
  refine .done (hK _ ?_);clear hK K;try simp only[au]
  refine J.bP ?_;simp only[ai,U,simprocAttr];refine ⟨fun h =>?_,fun h =>?_⟩
  ·cases h
  refine J.exit ?_;try simp only[au,bS,simprocAttr]
  refine .aq (by decide +kernel) fun K hK =>?_;simp only[Fp,U,simprocAttr]
  try simp only[hml2,hsl2,zu4,cK,U,simprocAttr]
  rw[hclr _ _ rfl]
  try simp only[U,simprocAttr]
  refine .done (hK _ ?_);clear hK K;refine .aq (by decide +kernel) fun K hK =>?_;simp only[Fq,U,simprocAttr]
  try simp only[hml2,hsl3,zu4,cK,U,simprocAttr]
  refine .done (hK _ ?_);clear hK K;refine J.ret ?_;simp only[bS,au,eX];exact ⟨bN 1000000 us,[.view 1000000 [] 1 0 L.length],jK rfl (fun p=>gj p _),⟨⟨_,rfl,.inl ⟨rfl,rfl,rfl⟩⟩,trivial⟩,us,by rw[hL];rfl,rfl,by rw[hL];exact hut,by omega⟩
theorem Pz:aw Tryz.prog 108 [enc ([]:List Int)] (enc ([]:List Int)):=by
 refine aw.bj Tryz.func108 C9 Dn DN (zz0 rfl) (fun hwf W0 D0 E1 =>?_);simp only[vB,y5,bg];clear hwf;have h0:decide (((([]:List Int).length:Nat):Int)<2)=true:=rfl;have h1:decide ((0:Int)<2)=true:=rfl;have R:=u8 @h0 (u8 @h1 (u8 @aX (u8 @aJ @U)))
 repeat' ((first |(with_reducible refine .guard (fun hb =>?_) (fun hb =>?_) <;>try simp only[hb])|refine J.aE (by decide +kernel) rfl fun K hK =>?_|(refine .ay [0,2,3,4,5,8,13,25,32,44] hK ?_;clear hK K)|(with_reducible refine .done (hK _ ?_);clear hK K)|refine J.of rfl ?_|(with_reducible refine ai.aB (fun h =>?_) (fun h =>?_) <;>try simp only[h])) <;>try simp only[aF,R,simprocAttr])
 all_goals clear R
def D7(xs:List Int)(p:Int→Bool)(N:Nat):cR:=fun r os'=>∃ us:List Int,r=.view 1000000 [] 1 0 (xs.filter fun x => !p x).length∧os'=bN 1000000 us∧us.take (xs.filter fun x => !p x).length=(xs.filter fun x => !p x)∧us.length=N
theorem P1(xs q:List Int)(hn:xs.length≤200)(hq:0<(xs++q).length)(f:FuncId)(caps:List I)(hcaps:I.eI caps=true)(p:Int→Bool)(hf:∀ x∈xs,aw Tryz.prog f (enc x::caps) (enc (p x))) :
  cG Tryz.prog 151 [.view 1000000 [] 1 0 xs.length,.func f caps] (bN 1000000 (xs++q)) (D7 xs p (xs++q).length):=by
 refine cG.bj Tryz.func151 Dd Dr DQ (zz0 rfl) (zz0 rfl) mn (fun hwf W0 D0 E1 =>?_);simp only[vE,y8,bg,zz3];clear hwf;have hcl:I.b6 caps=true:=kv caps hcaps;have hfc:∀ aD A,b7 aD A caps=some caps:=fun aD A=>j7 aD A caps hcaps;have hon:∀ q,I.bW q caps=true:=fun q=>ke q caps hcl;have hF:=u9 xs f caps hcaps p hf;have hfp:j6 1 0 xs.length (some ((xs++q).map enc))=some (enc xs):=sY rfl;simp only[bN];cases hfi:xs.findIdx? p with
 |none =>
  have hi:ka p xs=-1:=by simp[ka,hfi]
  rw[hi] at hF;rw[List.findIdx?_eq_none_iff] at hfi;have hk:(xs.filter fun x => !p x)=xs:=by
   rw[List.filter_eq_self];intro x hx;simp[hfi x hx]
  have q1:((-1:Int)==-1)=true:=rfl;have R:=u8 @q1 (u8 @hfp (u8 @hfc (u8 @gA (u8 @cK (u8 @aX (u8 @aJ @U))))))
  repeat' ((first |(with_reducible refine .guard (fun hb =>?_) (fun hb =>?_) <;>try simp only[hb])|refine J.aE (by decide +kernel) rfl fun K hK =>?_|refine .flat _ (hF) rfl ?_|(refine .ay [0,1,4,5,6,7,12,19,29] hK ?_;clear hK K)|(with_reducible refine .done (hK _ ?_);clear hK K)|refine J.of rfl ?_|(with_reducible refine ai.aB (fun h =>?_) (fun h =>?_) <;>try simp only[h])) <;>try simp only[aF,R,Nat.reduceEqDiff,reduceIte,Nat.reduceBEq])
  all_goals clear R
  rw[eX];exact ⟨bN 1000000 (xs++q),[.view 1000000 [] 1 0 xs.length],jK rfl (fun p=>gj p _),⟨⟨_,rfl,.inl ⟨rfl,rfl,rfl⟩⟩,trivial⟩,xs++q,by rw[hk];rfl,rfl,by rw[hk,List.take_left],rfl⟩
 |some i0 =>
  obtain ⟨q1,q2,q3⟩:=zv9.1 hfi;have hi:ka p xs=(i0:Int):=by simp[ka,hfi]
  rw[hi] at hF;have hstart:xs.take i0=(xs.take (i0+1)).filter fun x => !p x:=by
   rw[zz7 q1,zu3,zx7,q2];simp only[zu5,zz8,if_false,zw9,zx5]
   symm
   rw[List.filter_eq_self];intro x hx;obtain ⟨j,hj,rfl⟩:=List.mem_take_iff_getElem.1 hx;have:=q3 j (by omega);simpa using this
  have n1:((i0:Int)==-1)=false:=beq_eq_false_iff_ne.2 (by omega);have hwi:=dX (i:=i0) (by omega);have R:=u8 @n1 (u8 @hwi (u8 @hfp (u8 @hfc (u8 @gA (u8 @cK (u8 @aX (u8 @aJ @U)))))))
  repeat' ((first |(with_reducible refine .guard (fun hb =>?_) (fun hb =>?_) <;>try simp only[hb])|refine J.aE (by decide +kernel) rfl fun K hK =>?_|refine .flat _ (hF) rfl ?_|(refine .ay [0,1,4,5,6,7,12,19,29] hK ?_;clear hK K)|(with_reducible refine .done (hK _ ?_);clear hK K)|refine J.of rfl ?_|(with_reducible refine ai.aB (fun h =>?_) (fun h =>?_) <;>try simp only[h])) <;>try simp only[aF,R,Nat.reduceEqDiff,reduceIte,Nat.reduceBEq])
  all_goals clear R
  refine J.loop (fun s:List Int×Nat×Nat=>ar [(0,.view 1000000 [] 1 0 xs.length),(1,.func f caps),(5,.int .i64 s.2.1),(6,.int .i64 s.2.2)] (bN 1000000 s.1)) (fun s=>s.1.length=(xs++q).length∧s.2.1<s.2.2∧s.2.2≤xs.length∧s.1.take s.2.1=(xs.take s.2.2).filter (fun x => !p x)∧s.1.drop s.2.2=(xs++q).drop s.2.2) (fun s=>xs.length-s.2.2) (xs++q,i0,i0+1) ⟨rfl,by simp only;omega,by simp only;omega,?_,rfl⟩ ?_ ?_
  ·simp only;rw[zx3 (by omega)];exact hstart
  ·simp only[bN];refine az.bL ?_ ?_ ?_ ?_ <;>simp[*,aO,bC,bx,aZ,al,aP,b8,I.only,ah.only,dn,gm]
  rintro ⟨ws,i,j⟩ ⟨c1,c2,c3,gT,jc⟩;simp only at c1 c2 c3 gT jc ⊢;simp only[bN];have hlen:(xs++q).length=xs.length+q.length:=zz5;by_cases hlt:j<xs.length
  ·have hc:=eR hlt;have hwj:=dX (i:=j) (by omega);have hwi2:=dX (i:=i) (by omega);have v1:=hJ (n:=xs.length) (i:=j) hlt;have v2:=hJ (n:=xs.length) (i:=i) (by omega);have l1:=fJ (xs:=ws) (i:=j) (by omega);have l2:=fJ (xs:=ws) (i:=i) (by omega);have hwj2:ws.getD j 0=xs[j]:=by
    have h1:(ws.drop j)[0]?=((xs++q).drop j)[0]?:=by rw[jc]
    simp only[List.getElem?_drop,Nat.add_zero] at h1;rw[zz2,h1,zx0 hlt,zy1 hlt];rfl
   rw[hwj2] at l1;have hP:=hf _ (zx8 hlt);have ht:(xs.take (j+1)).filter (fun x => !p x)=(xs.take j).filter (fun x => !p x)++if (!p xs[j]) then [xs[j]] else []:=by
    rw[zz7 hlt,zu3,zx7,zw9]
   have s1:=fun (A:ae) v u rest=>mw (A:=A) (n:=1000000) (xs:=ws) (i:=i) (by omega) v u rest;generalize xs[j]=y at l1 hP ht;rcases hp:p y
   ·rw[hp] at hP ht;simp only[Bool.not_false,if_true] at ht;have R:=u8 @hc (u8 @hwj (u8 @hwi2 (u8 @v1 (u8 @v2 (u8 @l1 (u8 @l2 (u8 @s1 (u8 @hfc (u8 @gA (u8 @cK (u8 @aX (u8 @aJ @U))))))))))))
    repeat' ((first |(with_reducible refine .guard (fun hb =>?_) (fun hb =>?_) <;>try simp only[hb])|refine J.aE (by decide +kernel) rfl fun K hK =>?_|refine .flat _ (hP) rfl ?_|(refine .ay [0,1,4,5,6,7,12,19,29] hK ?_;clear hK K)|(with_reducible refine .done (hK _ ?_);clear hK K)|refine J.of rfl ?_|(with_reducible refine ai.aB (fun h =>?_) (fun h =>?_) <;>try simp only[h])) <;>try simp only[aF,R,zy0,Nat.reduceEqDiff,reduceIte,Nat.reduceBEq])
    all_goals clear R
    refine ⟨(ws.set i y,i+1,j+1),⟨by simp[c1],by simp only;omega,by simp only;omega,?_,?_⟩,by simp only;omega,?_⟩
    ·simp only;rw[ht,←gT,zz7 (by simp;omega),List.take_set_of_le (zz9 _)];simp
    ·simp only;rw[List.drop_set_of_lt (by omega)];have:(ws.drop j).drop 1=((xs++q).drop j).drop 1:=by rw[jc]
     simpa[List.drop_drop] using this
    ·simp only[];generalize ws.set i y=us;refine az.bL ?_ ?_ ?_ ?_ <;>simp[*,aO,bC,bx,aZ,al,aP,b8,I.only,ah.only,dn]
   ·rw[hp] at hP ht;simp only[zu5,zz8,if_false,zx5] at ht;have R:=u8 @hc (u8 @hwj (u8 @v1 (u8 @l1 (u8 @hfc (u8 @gA (u8 @cK (u8 @aX (u8 @aJ @U))))))))
    repeat' ((first |(with_reducible refine .guard (fun hb =>?_) (fun hb =>?_) <;>try simp only[hb])|refine J.aE (by decide +kernel) rfl fun K hK =>?_|refine .flat _ (hP) rfl ?_|(refine .ay [0,1,4,5,6,7,12,19,29] hK ?_;clear hK K)|(with_reducible refine .done (hK _ ?_);clear hK K)|refine J.of rfl ?_|(with_reducible refine ai.aB (fun h =>?_) (fun h =>?_) <;>try simp only[h])) <;>try simp only[aF,R,zy0,Nat.reduceEqDiff,reduceIte,Nat.reduceBEq])
    all_goals clear R
    refine ⟨(ws,i,j+1),⟨c1,by simp only;omega,by simp only;omega,?_,?_⟩,by simp only;omega,?_⟩
    ·simp only;rw[ht];exact gT
    ·simp only;have:(ws.drop j).drop 1=((xs++q).drop j).drop 1:=by rw[jc]
     simpa[List.drop_drop] using this
    ·simp only[];refine az.bL ?_ ?_ ?_ ?_ <;>simp[*,aO,bC,bx,aZ,al,aP,b8,I.only,ah.only,dn]
  ·have hj:j=xs.length:=by omega
   subst hj;have hc:=eT hlt;rw[zv1] at gT;have hlk:(xs.filter fun x => !p x).length=i:=by rw[←gT,zy4];omega
   have hsl2:=qt (n:=1000000) (p:=[]) (sz:=1) (k:=xs.length) (total:=ws.length) (i:=i) (by omega) (by omega) (by omega);have hsl3:=fun us:List Int=>fun (hu:us.length=ws.length)=>rW (n:=1000000) (p:=[]) (sz:=1) (k:=xs.length) (total:=us.length) (i:=i) (by omega) (by omega);have hml2:∀ us:List Int,(us.map (enc (α:=Int))).length=us.length:=fun us=>by simp
   have hclr:=fun (A:ae) rest ho=>qO (A:=A) (rest:=rest) (esz:=1) (α:=Int) 0 (n:=1000000) (lo:=i) (k:=xs.length-i) (xs:=ws) ho (by omega);simp only[ga] at hclr;obtain ⟨us,hus⟩:∃ us,us=ws.take i++(List.replicate (xs.length-i) 0++ws.drop (i+(xs.length-i))):=⟨_,rfl⟩
   have hul:us.length=ws.length:=by
    rw[hus];simp only[zz5,zy4,zv3,zy9];omega
   have hut:us.take i=xs.filter fun x => !p x:=by
    rw[hus,zx3 (by rw[zy4];omega),List.take_take,Nat.min_self,gT]
   have hsl3:=hsl3 us hul;simp only[←hus] at hclr;refine J.seq (J.seq ?_);refine .bK (by decide +kernel) fun K hK =>?_;simp only[G2,U,Nat.reduceEqDiff,reduceIte]
   try simp only[hc,cK,U,Nat.reduceEqDiff,reduceIte]
   refine .done (hK _ ?_);clear hK K;try simp only[au]
   refine J.bP ?_;simp only[ai,U,Nat.reduceEqDiff,reduceIte];refine ⟨fun h =>?_,fun h =>?_⟩
   ·cases h
   refine J.exit ?_;try simp only[au,bS,reduceIte]
   refine .aq (by decide +kernel) fun K hK =>?_;simp only[G0,U,Nat.reduceEqDiff,reduceIte]
   try simp only[hml2,hsl2,zu4,cK,U,Nat.reduceEqDiff,reduceIte]
   rw[hclr _ _ rfl]
   try simp only[U]
   refine .done (hK _ ?_);clear hK K;refine .aq (by decide +kernel) fun K hK =>?_;simp only[G1,U,Nat.reduceEqDiff,reduceIte]
   try simp only[hml2,hsl3,zu4,cK,U,Nat.reduceEqDiff,reduceIte]
   refine .done (hK _ ?_);clear hK K;refine J.ret ?_;simp only[eX];exact ⟨bN 1000000 us,[.view 1000000 [] 1 0 i],jK rfl (fun p=>gj p _),⟨⟨_,rfl,.inl ⟨rfl,rfl,rfl⟩⟩,trivial⟩,us,by rw[hlk];rfl,rfl,by rw[hlk];exact hut,by omega⟩
end Go.Proofs.YtcldiigclhgafaaGreat
namespace Go.Proofs.YtcldiigclhgafaaGreat
open Go Go.Abs Go.Shelf
open Go.Abs.Enc (enc)
def rP:Go.Shelf.Ren:=⟨fun | 4=>190 | n=>n,fun | 22=>29 | 25=>3 | n=>n,fun n=>n⟩
theorem al2:Go.Proofs.Lays8.n4 Tryz.prog rP := {
 mixed:=by kernel_rfl
 f4:=⟨Tryz.f190.name,by kernel_rfl,Tryz.func190.trans (congrArg some (by kernel_rfl))⟩
 t0:=Tryz.underlying0
 a0:=Tryz.isAgg0
 z0:=Tryz.sizeOf0
 v0:=Tryz.zeroValue0
 t3:=Tryz.underlying3
 a3:=Tryz.isAgg3
 z3:=Tryz.sizeOf3
 v3:=Tryz.zeroValue3
 t4:=Tryz.underlying4
 a4:=Tryz.isAgg4
 z4:=Tryz.sizeOf4
 v4:=Tryz.zeroValue4
 t9:=Tryz.underlying9
 a9:=Tryz.isAgg9
 z9:=Tryz.sizeOf9
 v9:=Tryz.zeroValue9
 t20:=Tryz.underlying20
 a20:=Tryz.isAgg20
 z20:=Tryz.sizeOf20
 v20:=Tryz.zeroValue20
 t22:=Tryz.underlying29
 a22:=Tryz.isAgg29
 z22:=Tryz.sizeOf29
 v22:=Tryz.zeroValue29 }
theorem xX(w:World)(o:Obj):(w.drew.alloc o).heap=w.heap.push o:=rfl
theorem aly:∃ i,Tryz.prog.info? 3=some i∧i.zero=some (.int .i64 0)∧i.size=1∧i.bytes=8:=by
 have h:(Tryz.prog.info? 3).map (fun i=>(i.zero,i.size,i.bytes))=some (some (.int .i64 0),1,8):=by kernel_rfl
 cases h2:Tryz.prog.info? 3 with
 |none=>rw[h2] at h;cases h
 |some i =>
  rw[h2] at h;simp only[zy7,t7,Prod.mk.injEq] at h;exact ⟨i,rfl,h.1,h.2.1,h.2.2⟩
theorem apW(n:Nat):(Builtin.zeroCells (Value.int .i64 0).cells n).toList=(List.replicate n (0:Int)).map (Value.int .i64):=by
 have e:(Value.int .i64 0).cells = #[.int .i64 0]:=rfl;rw[e];refine List.ext_getElem (by simp[Builtin.zeroCells]) fun i h1 h2 =>?_;simp[Builtin.zeroCells,Nat.mod_one]
end Go.Proofs.YtcldiigclhgafaaGreat
namespace Go.Proofs.YtcldiigclhgafaaGreat
open Go Go.Abs Go.Shelf Go.RowKit
open Go.Abs.Enc (enc)
theorem Qq(n:Nat)(h0:0<n)(hn:n≤1000):cG Tryz.prog 190 [.nils 1,enc (n:Int)] [] (fun r os'=>∃ k,n≤k∧r=.view 9 [] 1 0 0∧os'=bN 9 (List.replicate k 0)):=by
 refine ⟨Dg,fun w D E vs _ hD hO hv =>?_⟩;have aA:∀ m,E m=none:=fun m=>by
  have:=hO.bV m;simpa only[ak,de] using this
 simp only[aK] at hv;obtain ⟨v,rest,cs,rfl,hp,hr,v2,rest2,cs2,rfl,hp2,hr2,rfl⟩:=hv;have e1:cs=[.slice none 0 0]:=hr;subst e1;have hv1:v=.slice none 0 0:=by
  have:[Value.slice none 0 0]=[v]:=hp;simpa using this.symm
 subst hv1;have e2:cs2=[.int .i64 n]∧_:=hr2;obtain ⟨e2,-⟩:=e2;subst e2;have hv2:v2=.int .i64 n:=by
  have:[Value.int .i64 (n:Int)]=[v2]:=hp2;simpa using this.symm
 subst hv2;obtain ⟨i0,q1,q2,q3,q4⟩:=aly;refine (Go.Proofs.Any8.slices_Grow_grow al2 i0 (.int .i64 0) q1 q2 (by omega) none 0 0 n [] w (zz9 _) (by omega) (by rw[q4];omega) (by omega) (by simp) (fun _=>rfl) (fun a h=>by cases h)).mono ?_;rintro e w' ⟨rfl,hw'⟩;obtain ⟨K,hK⟩:∃ K,K=grownCap w (0+n) 0 (rP.t 25):=⟨_,rfl⟩
 have hKn:n≤K:=by rw[hK];simpa using grownCap_ge w (0+n) 0 (rP.t 25)
 have hKm:K≤maxLen:=by rw[hK];exact grownCap_le_maxLen w _ _ _ (by simp only[maxLen];omega)
 rw[←hK] at hw' ⊢;obtain ⟨cells,hc⟩:∃ cells,cells=(([]:List Value).toArray++Builtin.zeroCells (Value.int .i64 0).cells (0+n-0)++Builtin.zeroCells (Value.int .i64 0).cells (K-(0+n))):=⟨_,rfl⟩
 rw[←hc] at hw';have hcl:cells.toList=(List.replicate K (0:Int)).map (Value.int .i64):=by
  rw[hc];simp only[Array.toList_append,apW,zy5,zz3,Nat.sub_zero];rw[←zx4,List.replicate_append_replicate,show n+(K-n)=K by omega]
 have hb:w'.heap[w.heap.size]?=some (.cells cells (rP.t 25) (0,0)):=by
  rw[hw',xX];simp
 have hother:∀ k,k<w.heap.size→w'.heap[k]?=w.heap[k]?:=fun k hk=>by
  rw[hw',xX];simp[Array.getElem?_push,Nat.ne_of_lt hk]
 have hsz:w.heap.size<w'.heap.size:=by rw[hw',xX];simp
 have o1:w'.os=w.os:=by rw[hw'];rfl
 have o2:w'.tape=w.tape:=by rw[hw'];rfl
 have o3:w'.output=w.output:=by rw[hw'];rfl
 have hsh:(I.agg ((List.replicate K (0:Int)).map enc)).aU=.ej (List.replicate K .one):=by rw[qp,zv3]
 refine ⟨_,D,fun m=>if m=9 then some (.aD w.heap.size (I.agg ((List.replicate K (0:Int)).map enc)).aU) else none,.view 9 [] 1 0 0,bN 9 (List.replicate K 0),rfl,⟨K,hKn,rfl,rfl⟩,?_,⟨fun m =>?_,fun a b e e' b' ha hb' _ _ =>?_⟩,⟨o1,o2,o3,Nat.le_of_lt hsz,fun k hk =>?_⟩,fun _ _ h=>h,fun b0 o h=>Nat.lt_trans (hD b0 o h) hsz,fun _ _ h _ _=>h,fun m e h _ =>?_,⟨fun b0 o u hd hc0 =>?_,fun b0 es ck hd hc0 =>?_⟩⟩
 ·refine ⟨[.slice (some ⟨w.heap.size,0,none⟩) 0 K],rfl,w.heap.size,_,0,List.replicate K .one,if_pos rfl,?_,?_,?_,by simpa using hKm,by simp,fun s hs =>?_⟩
  ·rw[hsh];rfl
  ·rw[hsh];rfl
  ·simp
  ·rw[List.eq_of_mem_replicate hs];rfl
 ·by_cases hm:m=9
  ·subst hm;simp only[bN,ak,if_true];refine ⟨w.heap.size,cells,rP.t 25,if_pos rfl,.inl (zz9 _),hb,?_,fun o h=>Nat.lt_irrefl _ (hD _ o h)⟩
   show aL w' D _ _ _
   rw[hcl];exact ql fun y hy=>by
    rw[List.eq_of_mem_replicate hy];simp[IntKind.min,IntKind.max,IntKind.bits,IntKind.signed]
  ·simp only[bN,ak,if_neg hm,de]
 ·split at ha
  ·split at hb'
   ·rename_i h1 h2;rw[h1,h2]
   ·cases hb'
  ·cases ha
 ·exact hother k (Nat.lt_of_not_le fun h=>hk (.inl h))
 ·rw[aA m] at h;cases h
 ·simp only[World.cell?,hother b0 (hD b0 o hd)] at hc0 ⊢;exact hc0
 ·rw[hother b0 (hD b0 0 hd)];exact hc0
end Go.Proofs.YtcldiigclhgafaaGreat
namespace Go.Proofs.YtcldiigclhgafaaGreat
open Go Go.Abs
open Go.Abs.Enc (enc)
theorem Lj:(∀ A z,vM A (.nils z)=some (.int .i64 ((0:Nat):Int)))∧(∀ A z,kD A (.nils z)=some (.int .i64 0))∧decide ((0:Int)<0)=false∧decide ((((0:Nat):Int))<0)=false∧((0:Nat):Int)=0∧IntKind.i64.wrap ((0:Int)-0)=0∧IntKind.i64.wrap ((0:Int)+0)=0 :=
 ⟨fun _ _=>rfl,fun _ _=>rfl,rfl,rfl,rfl,by decide,by decide⟩
theorem Qr:cG Tryz.prog 190 [.nils 1,enc (0:Int)] [] (fun r os'=>r=.nils 1∧os'=[]):=by
 refine cG.bj Tryz.func190 Dg Vw XR (zz0 rfl) (zz0 rfl) (fun m hm=>by simp[al,ak] at hm) (fun hwf W0 D0 E1 =>?_);simp only[Cf,Na,bg,zz3];clear hwf;have R:=u8 @Lj (u8 @amW (u8 @aX (u8 @aJ @U)))
 repeat' ((first |(with_reducible refine .guard (fun hb =>?_) (fun hb =>?_) <;>try simp only[hb])|refine J.aE (by decide +kernel) rfl fun K hK =>?_|(refine .ay [0,1,4,6,16] hK ?_;clear hK K)|(with_reducible refine .done (hK _ ?_);clear hK K)|refine J.of rfl ?_|(with_reducible refine ai.aB (fun h =>?_) (fun h =>?_) <;>try simp only[h])) <;>try simp only[aF,R,Nat.reduceEqDiff,reduceIte,Nat.reduceBEq])
 all_goals clear R
 rw[eX];exact ⟨[],[.nils 1],pQ,⟨⟨_,rfl,.inl ⟨rfl,rfl,rfl⟩⟩,trivial⟩,rfl,rfl⟩
theorem Rz(A:ae)(d:Option Nat)(e bytes:Nat)(z:I)(rest:List aG):fR A d e 1 bytes z (enc ([]:List Int)) rest (.nils 1)=aC rest (A.aS d (.nils 1)):=by
 show fR A d e 1 bytes z (.slice 1 []) rest (.nils 1)=_
 simp[fR,eE,fj]
theorem EK{xss:List (List Int)}(h:xss.flatten=[]){i:Nat}(hi:i<xss.length):xss[i]=[]:=List.flatten_eq_nil_iff.1 h _ (zx8 hi)
theorem P0(xss:List (List Int))(hl:xss.length≤60)(h0:xss.flatten=[]):aw Tryz.prog 150 [enc xss] (enc ([]:List Int)):=by
 refine aw.bj Tryz.func150 Dc Dq DP (zz0 rfl) (fun hwf W0 D0 E1 =>?_);simp only[vD,y7,bg];clear hwf;have R:=u8 @aX (u8 @aJ @U)
 repeat' ((first |(with_reducible refine .guard (fun hb =>?_) (fun hb =>?_) <;>try simp only[hb])|refine J.aE (by decide +kernel) rfl fun K hK =>?_|(refine .ay [0,2,3,5,6,8,9,10,11,12,20,25,26,27,28] hK ?_;clear hK K)|(with_reducible refine .done (hK _ ?_);clear hK K)|refine J.of rfl ?_|(with_reducible refine ai.aB (fun h =>?_) (fun h =>?_) <;>try simp only[h])) <;>try simp only[aF,R,Nat.reduceEqDiff,reduceIte,Nat.reduceBEq])
 all_goals clear R
 refine J.loop (fun i:Nat=>ar [(0,enc xss),(3,.int .i64 0),(9,enc xss),(10,.int .i64 xss.length),(11,.int .i64 i)] []) (fun i=>i≤xss.length) (fun i=>xss.length-i) 0 (zw8 _) ?_ (fun i hi =>?_)
 ·refine az.bL ?_ ?_ ?_ ?_ <;>simp[aO,bC,bx,aZ,aP,I.only,bh]
 by_cases hlt:i<xss.length
 ·have hc:=eR hlt;have hw:=dX (i:=i) (by omega);have he:=fun A=>eh (A:=A) 1 hlt rfl;rw[EK h0 hlt] at he;have hln:((([]:List Int).length:Nat):Int)=0:=rfl;have R:=u8 @hc (u8 @hw (u8 @he (u8 @Lj (u8 @hln (u8 @aX (u8 @aJ @U))))))
  repeat' ((first |(with_reducible refine .guard (fun hb =>?_) (fun hb =>?_) <;>try simp only[hb])|refine J.aE (by decide +kernel) rfl fun K hK =>?_|(refine .ay [0,2,3,5,6,8,9,10,11,12,20,25,26,27,28] hK ?_;clear hK K)|(with_reducible refine .done (hK _ ?_);clear hK K)|refine J.of rfl ?_|(with_reducible refine ai.aB (fun h =>?_) (fun h =>?_) <;>try simp only[h])) <;>try simp only[aF,R,Nat.reduceEqDiff,reduceIte,Nat.reduceBEq])
  all_goals clear R
  refine ⟨i+1,by omega,by omega,?_⟩;refine az.bL ?_ ?_ ?_ ?_ <;>simp[aO,bC,bx,aZ,aP,I.only,bh]
 have hc:=eT hlt;have R:=u8 @hc (u8 @aX (u8 @aJ @U))
 repeat' ((first |(with_reducible refine .guard (fun hb =>?_) (fun hb =>?_) <;>try simp only[hb])|refine J.aE (by decide +kernel) rfl fun K hK =>?_|(refine .ay [0,2,3,5,6,8,9,10,11,12,20,25,26,27,28] hK ?_;clear hK K)|(with_reducible refine .done (hK _ ?_);clear hK K)|refine J.of rfl ?_|(with_reducible refine ai.aB (fun h =>?_) (fun h =>?_) <;>try simp only[h])) <;>try simp only[aF,R,Nat.reduceEqDiff,reduceIte,Nat.reduceBEq])
 all_goals clear R
 refine .bV false [(9,906)] [] [.nils 1,enc (0:Int)] _ rfl Qr fX.nil ⟨.inl ⟨rfl,rfl,rfl⟩,.inl ⟨rfl,rfl,rfl⟩,trivial⟩ ?_ ?_
 ·rintro x os' ⟨rfl,rfl⟩;exact ee.nil (fun _=>rfl) (fun h=>by cases h)
 rintro x os' ⟨rfl,rfl⟩
 try simp only[gP,zy5,U,Nat.reduceEqDiff,reduceIte]
 refine .done (hK _ ?_);clear hK K;have R:=u8 @aX (u8 @aJ @U)
 repeat' ((first |(with_reducible refine .guard (fun hb =>?_) (fun hb =>?_) <;>try simp only[hb])|refine J.aE (by decide +kernel) rfl fun K hK =>?_|(refine .ay [0,2,3,5,6,8,9,10,11,12,20,25,26,27,28] hK ?_;clear hK K)|(with_reducible refine .done (hK _ ?_);clear hK K)|refine J.of rfl ?_|(with_reducible refine ai.aB (fun h =>?_) (fun h =>?_) <;>try simp only[h])) <;>try simp only[aF,R,Nat.reduceEqDiff,reduceIte,Nat.reduceBEq])
 all_goals clear R
 refine J.loop (fun i:Nat=>ar [(6,.nils 1),(25,enc xss),(26,.int .i64 xss.length),(27,.int .i64 i)] []) (fun i=>i≤xss.length) (fun i=>xss.length-i) 0 (zw8 _) ?_ (fun i hi =>?_)
 ·refine az.bL ?_ ?_ ?_ ?_ <;>simp[aO,bC,bx,aZ,aP,I.only,bh]
 by_cases hlt:i<xss.length
 ·have hc:=eR hlt;have hw:=dX (i:=i) (by omega);have he:=fun A=>eh (A:=A) 1 hlt rfl;rw[EK h0 hlt] at he;have R:=u8 @hc (u8 @hw (u8 @he (u8 @Rz (u8 @aX (u8 @aJ @U)))))
  repeat' ((first |(with_reducible refine .guard (fun hb =>?_) (fun hb =>?_) <;>try simp only[hb])|refine J.aE (by decide +kernel) rfl fun K hK =>?_|(refine .ay [0,2,3,5,6,8,9,10,11,12,20,25,26,27,28] hK ?_;clear hK K)|(with_reducible refine .done (hK _ ?_);clear hK K)|refine J.of rfl ?_|(with_reducible refine ai.aB (fun h =>?_) (fun h =>?_) <;>try simp only[h])) <;>try simp only[aF,R,Nat.reduceEqDiff,reduceIte,Nat.reduceBEq])
  all_goals clear R
  refine ⟨i+1,by omega,by omega,?_⟩;refine az.bL ?_ ?_ ?_ ?_ <;>simp[aO,bC,bx,aZ,aP,I.only,bh]
 have hc:=eT hlt;have R:=u8 @hc (u8 @aX (u8 @aJ @U))
 repeat' ((first |(with_reducible refine .guard (fun hb =>?_) (fun hb =>?_) <;>try simp only[hb])|refine J.aE (by decide +kernel) rfl fun K hK =>?_|(refine .ay [0,2,3,5,6,8,9,10,11,12,20,25,26,27,28] hK ?_;clear hK K)|(with_reducible refine .done (hK _ ?_);clear hK K)|refine J.of rfl ?_|(with_reducible refine ai.aB (fun h =>?_) (fun h =>?_) <;>try simp only[h])) <;>try simp only[aF,R,Nat.reduceEqDiff,reduceIte,Nat.reduceBEq])
 all_goals clear R
 all_goals rfl
theorem yR(p:Nat→Bool)(k:Nat):I.bW p (List.replicate k (.int .i64 0))=true:=by
 have:=dn p (List.replicate k (0:Int))
 rwa [List.map_replicate] at this
theorem RD{A:ae}{d:Option Nat}{e bytes:Nat}(z:I){n:Nat}{fs ys:List Int}{k:Nat}{rest:List aG}(hy:ys≠[])(ho:A.o n=some (.box (.agg ((fs++List.replicate (k-fs.length) 0).map enc))))(hk:(fs++ys).length≤k) :
  fR A d e 1 bytes z (enc ys) rest (.view n [] 1 0 fs.length)=aC rest ((A.aR n (.box (.agg (((fs++ys)++List.replicate (k-(fs++ys).length) 0).map enc)))).aS d (.view n [] 1 0 (fs++ys).length)):=by
 rw[zz5] at hk;have h3:fs.length+ys.length≤(fs++List.replicate (k-fs.length) (0:Int)).length:=by rw[zz5,zv3];omega
 rw[sC (esz:=1) z (show Enc.sz Int=1 from rfl) hy ho h3];have e1:(fs++List.replicate (k-fs.length) (0:Int)).take fs.length=fs:=List.take_left;have e2:(fs++List.replicate (k-fs.length) (0:Int)).drop (fs.length+ys.length)=List.replicate (k-(fs++ys).length) 0:=by
  rw[List.drop_append,List.drop_of_length_le (by omega),zy5,List.drop_replicate,zz5]
  congr 1;omega
 rw[e1,e2,zz5,zz6]
def Dv(fs:List Int):cR:=fun r os'=>∃ k,r=.view 906 [] 1 0 fs.length∧os'=bN 906 (fs++List.replicate k 0)
theorem PZ(xss:List (List Int))(hl:xss.length≤60)(hn:xss.flatten.length≤200)(h0:xss.flatten≠[]):cG Tryz.prog 150 [enc xss] [] (Dv xss.flatten):=by
 refine cG.bj Tryz.func150 Dc Dq DP (zz0 rfl) (zz0 rfl) (fun m hm=>by simp[al,ak] at hm) (fun hwf W0 D0 E1 =>?_);simp only[vD,y7,bg];clear hwf;have hpre:∀ i,(xss.take i).flatten.length≤xss.flatten.length:=fun i=>by
  have:xss.flatten=(xss.take i).flatten++(xss.drop i).flatten:=by rw[←List.flatten_append,zy8]
  rw[this,zz5];omega
 have hsucc:∀ i (h:i<xss.length),(xss.take (i+1)).flatten=(xss.take i).flatten++xss[i]:=fun i h=>by
  rw[zz7 h,List.flatten_append];simp
 have R:=u8 @aX (u8 @aJ @U)
 repeat' ((first |(with_reducible refine .guard (fun hb =>?_) (fun hb =>?_) <;>try simp only[hb])|refine J.aE (by decide +kernel) rfl fun K hK =>?_|(refine .ay [0,2,3,5,6,8,9,10,11,12,20,25,26,27,28] hK ?_;clear hK K)|(with_reducible refine .done (hK _ ?_);clear hK K)|refine J.of rfl ?_|(with_reducible refine ai.aB (fun h =>?_) (fun h =>?_) <;>try simp only[h])) <;>try simp only[aF,R,Nat.reduceEqDiff,reduceIte,Nat.reduceBEq])
 all_goals clear R
 refine J.loop (fun i:Nat=>ar [(0,enc xss),(3,.int .i64 (xss.take i).flatten.length),(9,enc xss),(10,.int .i64 xss.length),(11,.int .i64 i)] []) (fun i=>i≤xss.length) (fun i=>xss.length-i) 0 (zw8 _) ?_ (fun i hi =>?_)
 ·simp only[List.take_zero,List.flatten_nil,zv7];refine az.bL ?_ ?_ ?_ ?_ <;>simp[aO,bC,bx,aZ,aP,I.only,bh]
 by_cases hlt:i<xss.length
 ·have hc:=eR hlt;have hw:=dX (i:=i) (by omega);have he:=fun A=>eh (A:=A) 1 hlt rfl;have h1:=hpre (i+1);rw[hsucc i hlt,zz5] at h1;have hs:=hsucc i hlt;generalize xss[i]=y at he h1 hs;generalize (xss.take i).flatten=fs at h1 hs;have hadd:IntKind.i64.wrap ((fs.length:Int)+(y.length:Int))=(((fs++y).length:Nat):Int):=by
   rw[cL _ (by omega) (by omega),zz5];omega
  have hneg:decide ((((fs++y).length:Nat):Int)<0)=false:=by simp;omega
  have R:=u8 @hc (u8 @hw (u8 @he (u8 @hadd (u8 @hneg (u8 @aX (u8 @aJ @U))))))
  repeat' ((first |(with_reducible refine .guard (fun hb =>?_) (fun hb =>?_) <;>try simp only[hb])|refine J.aE (by decide +kernel) rfl fun K hK =>?_|(refine .ay [0,2,3,5,6,8,9,10,11,12,20,25,26,27,28] hK ?_;clear hK K)|(with_reducible refine .done (hK _ ?_);clear hK K)|refine J.of rfl ?_|(with_reducible refine ai.aB (fun h =>?_) (fun h =>?_) <;>try simp only[h])) <;>try simp only[aF,R,Nat.reduceEqDiff,reduceIte,Nat.reduceBEq])
  all_goals clear R
  refine ⟨i+1,by omega,by omega,?_⟩;rw[hs];refine az.bL ?_ ?_ ?_ ?_ <;>simp[aO,bC,bx,aZ,aP,I.only,bh]
 have hc:=eT hlt;have hge:i=xss.length:=by omega
 subst hge;rw[zv1];have hpos:0<xss.flatten.length:=List.length_pos_iff.2 h0;have R:=u8 @hc (u8 @aX (u8 @aJ @U))
 repeat' ((first |(with_reducible refine .guard (fun hb =>?_) (fun hb =>?_) <;>try simp only[hb])|refine J.aE (by decide +kernel) rfl fun K hK =>?_|(refine .ay [0,2,3,5,6,8,9,10,11,12,20,25,26,27,28] hK ?_;clear hK K)|(with_reducible refine .done (hK _ ?_);clear hK K)|refine J.of rfl ?_|(with_reducible refine ai.aB (fun h =>?_) (fun h =>?_) <;>try simp only[h])) <;>try simp only[aF,R,Nat.reduceEqDiff,reduceIte,Nat.reduceBEq])
 all_goals clear R
 refine .bV false [(9,906)] [] [.nils 1,enc ((xss.flatten.length:Nat):Int)] _ rfl (Qq xss.flatten.length hpos (by omega)) fX.nil ⟨.inl ⟨rfl,rfl,rfl⟩,.inl ⟨rfl,rfl,rfl⟩,trivial⟩ ?_ ?_
 ·rintro x os' ⟨k,_,rfl,rfl⟩;exact ee.p8 (fun p=>gj p _) (fun h=>by cases h) rfl (fun h=>by cases h) rfl (by decide)
 rintro x os' ⟨k,hk,rfl,rfl⟩
 try simp only[bN,gP,fM,zy0,zy5,reduceIte,U,Nat.reduceEqDiff,reduceIte]
 refine .done (hK _ ?_);clear hK K;have R:=u8 @aX (u8 @aJ @U)
 repeat' ((first |(with_reducible refine .guard (fun hb =>?_) (fun hb =>?_) <;>try simp only[hb])|refine J.aE (by decide +kernel) rfl fun K hK =>?_|(refine .ay [0,2,3,5,6,8,9,10,11,12,20,25,26,27,28] hK ?_;clear hK K)|(with_reducible refine .done (hK _ ?_);clear hK K)|refine J.of rfl ?_|(with_reducible refine ai.aB (fun h =>?_) (fun h =>?_) <;>try simp only[h])) <;>try simp only[aF,R,Nat.reduceEqDiff,reduceIte,Nat.reduceBEq])
 all_goals clear R
 refine J.loop (fun i:Nat=>ar [(6,.view 906 [] 1 0 (xss.take i).flatten.length),(25,enc xss),(26,.int .i64 xss.length),(27,.int .i64 i)] (bN 906 ((xss.take i).flatten++List.replicate (k-(xss.take i).flatten.length) 0))) (fun i=>i≤xss.length) (fun i=>xss.length-i) 0 (zw8 _) ?_ (fun i hi =>?_)
 ·simp only[List.take_zero,List.flatten_nil,zv7,zy5,Nat.sub_zero,bN];refine az.bL ?_ ?_ ?_ ?_ <;>simp[*,aO,bC,bx,aZ,al,aP,b8,I.only,ah.only,bh,ga,yR]
 by_cases hlt:i<xss.length
 ·have hc:=eR hlt;have hw:=dX (i:=i) (by omega);have he:=fun A=>eh (A:=A) 1 hlt rfl;have h1:=hpre (i+1);have hs:=hsucc i hlt;rw[hs] at h1;generalize xss[i]=y at he h1 hs;generalize (xss.take i).flatten=fs at h1 hs;simp only[bN];have R:=u8 @hc (u8 @hw (u8 @he (u8 @aX (u8 @aJ @U))))
  repeat' ((first |(with_reducible refine .guard (fun hb =>?_) (fun hb =>?_) <;>try simp only[hb])|refine J.aE (by decide +kernel) rfl fun K hK =>?_|(refine .ay [0,2,3,5,6,8,9,10,11,12,20,25,26,27,28] hK ?_;clear hK K)|(with_reducible refine .done (hK _ ?_);clear hK K)|refine J.of rfl ?_|(with_reducible refine ai.aB (fun h =>?_) (fun h =>?_) <;>try simp only[h])) <;>try simp only[aF,R,Nat.reduceEqDiff,reduceIte,Nat.reduceBEq])
  all_goals clear R
  by_cases hy:y=[]
  ·subst hy;have happ:=fun (A:ae) d e bytes (rest:List aG) ho=>vr (A:=A) (d:=d) (e:=e) (bytes:=bytes) (rest:=rest) (esz:=1) (n:=906) (l:=fs.length) (xs:=fs++List.replicate (k-fs.length) 0) (.int .i64 0) (enc ([]:List Int)) rfl ho (by simp);rw[happ _ _ _ _ _ rfl]
   try simp only[U,Nat.reduceEqDiff,reduceIte]
   have R:=u8 @hw (u8 @aX (u8 @aJ @U))
   repeat' ((first |(with_reducible refine .guard (fun hb =>?_) (fun hb =>?_) <;>try simp only[hb])|refine J.aE (by decide +kernel) rfl fun K hK =>?_|(refine .ay [0,2,3,5,6,8,9,10,11,12,20,25,26,27,28] hK ?_;clear hK K)|(with_reducible refine .done (hK _ ?_);clear hK K)|refine J.of rfl ?_|(with_reducible refine ai.aB (fun h =>?_) (fun h =>?_) <;>try simp only[h])) <;>try simp only[aF,R,Nat.reduceEqDiff,reduceIte,Nat.reduceBEq])
   all_goals clear R
   refine ⟨i+1,by omega,by omega,?_⟩;simp only[hs,zx5];refine az.bL ?_ ?_ ?_ ?_ <;>simp[*,aO,bC,bx,aZ,al,aP,b8,I.only,ah.only,dn,gm,bh,ga,yR]
  ·have happ:=fun (A:ae) d e bytes (rest:List aG) ho=>RD (A:=A) (d:=d) (e:=e) (bytes:=bytes) (rest:=rest) (n:=906) (fs:=fs) (ys:=y) (k:=k) (.int .i64 0) hy ho (by omega);rw[happ _ _ _ _ _ rfl]
   try simp only[U,Nat.reduceEqDiff,reduceIte]
   have R:=u8 @hw (u8 @aX (u8 @aJ @U))
   repeat' ((first |(with_reducible refine .guard (fun hb =>?_) (fun hb =>?_) <;>try simp only[hb])|refine J.aE (by decide +kernel) rfl fun K hK =>?_|(refine .ay [0,2,3,5,6,8,9,10,11,12,20,25,26,27,28] hK ?_;clear hK K)|(with_reducible refine .done (hK _ ?_);clear hK K)|refine J.of rfl ?_|(with_reducible refine ai.aB (fun h =>?_) (fun h =>?_) <;>try simp only[h])) <;>try simp only[aF,R,Nat.reduceEqDiff,reduceIte,Nat.reduceBEq])
   all_goals clear R
   refine ⟨i+1,by omega,by omega,?_⟩;simp only[hs];refine az.bL ?_ ?_ ?_ ?_ <;>simp[*,aO,bC,bx,aZ,al,aP,b8,I.only,ah.only,dn,gm,bh,ga,yR]
 have hc:=eT hlt;have hge:i=xss.length:=by omega
 subst hge;rw[zv1];simp only[bN];have R:=u8 @hc (u8 @aX (u8 @aJ @U))
 repeat' ((first |(with_reducible refine .guard (fun hb =>?_) (fun hb =>?_) <;>try simp only[hb])|refine J.aE (by decide +kernel) rfl fun K hK =>?_|(refine .ay [0,2,3,5,6,8,9,10,11,12,20,25,26,27,28] hK ?_;clear hK K)|(with_reducible refine .done (hK _ ?_);clear hK K)|refine J.of rfl ?_|(with_reducible refine ai.aB (fun h =>?_) (fun h =>?_) <;>try simp only[h])) <;>try simp only[aF,R,Nat.reduceEqDiff,reduceIte,Nat.reduceBEq])
 all_goals clear R
 rw[eX];exact ⟨bN 906 (xss.flatten++List.replicate (k-xss.flatten.length) 0),[.view 906 [] 1 0 xss.flatten.length],jK rfl (fun p=>gj p _),⟨⟨_,rfl,.inl ⟨rfl,rfl,rfl⟩⟩,trivial⟩,_,rfl,rfl⟩
theorem PY(b:aH):aw Tryz.prog 149 [.ref (enc (⟨b⟩:eK))] (enc true):=by
 refine aw.bj Tryz.func149 SZ U4 Xp (zz0 rfl) (fun hwf W0 D0 E1 =>?_);simp only[BL,MG,bg];clear hwf;have R:=u8 @cD (u8 @aJ @U)
 repeat' ((first |(with_reducible refine .guard (fun hb =>?_) (fun hb =>?_) <;>try simp only[hb])|refine J.aE (by decide +kernel) rfl fun K hK =>?_|(refine .ay [2] hK ?_;clear hK K)|(with_reducible refine .done (hK _ ?_);clear hK K)|refine J.of rfl ?_|(with_reducible refine ai.aB (fun h =>?_) (fun h =>?_) <;>try simp only[h])) <;>try simp only[aF,R,reduceIte,Nat.reduceBEq])
 all_goals clear R
theorem Aq(l:List aH)(h:l.length≤60):aw Tryz.prog 72 [eQ l,.func 149 []] (enc (di (l.map (·.no)))):=by
 have:=sh l h 149 [] rfl (fun _=>true) (fun b _=>PY b)
 rwa [List.filter_eq_self.2 (fun _ _=>rfl)] at this
theorem P3(m:cq)(no:Int)(a b:List aH):aw Tryz.prog 152 [enc no,.ref (enc m),.ref (eQ a),.ref (eQ b)] (enc (fp m (bY a no) (bY b no))):=by
 have hF:=Ar m (bY a no) (bY b no);have hx:∀ bs,gG (.i .i64) .nilp (.int .i64 no) (dw bs) (bs.map fun b=>.ref (enc (⟨b⟩:eK)))=some (iG (bY bs no),(bY bs no).isSome):=fun bs=>by
  rw[rv];cases bY bs no <;>rfl
 have hol:(∀ aD A x,bl aD A (iG x)=some (iG x)):=fun aD A x=>by cases x <;>simp[iG,bl,dL]
 refine aw.bj Tryz.func152 S0 U5 Xq (zz0 rfl) (fun hwf W0 D0 E1 =>?_);simp only[BM,MH,bg,zz3,Nat.reduceAdd];clear hwf;have R:=u8 @hx (u8 @hol (u8 @dS dC))
 repeat' ((first |(with_reducible refine .guard (fun hb =>?_) (fun hb =>?_) <;>try simp only[hb])|refine J.aE (by decide +kernel) rfl fun K hK =>?_|refine .lead _ (hF) ?_|(refine .ay [0,1,2,3,5] hK ?_;clear hK K)|(with_reducible refine .done (hK _ ?_);clear hK K)|refine J.of rfl ?_|(with_reducible refine ai.aB (fun h =>?_) (fun h =>?_) <;>try simp only[h])) <;>try simp only[aF,R,Nat.reduceEqDiff,reduceIte,Nat.reduceBEq])
 all_goals clear R
theorem P2(f:FuncId)(caps:List I)(hcaps:I.eI caps=true):aw Tryz.prog 151 [enc ([]:List Int),.func f caps] (enc ([]:List Int)):=by
 have hF:=u9 ([]:List Int) f caps hcaps (fun _=>true) (fun x h=>by cases h);have hi:ka (fun _=>true) []=-1:=rfl;rw[hi] at hF;have hfc:∀ aD A,b7 aD A caps=some caps:=fun aD A=>j7 aD A caps hcaps;have q1:((-1:Int)==-1)=true:=rfl;refine aw.bj Tryz.func151 Dd Dr DQ (zz0 rfl) (fun hwf W0 D0 E1 =>?_);simp only[vE,y8,bg,zz3];clear hwf;have R:=u8 @q1 (u8 @hfc (u8 @gA (u8 @aX (u8 @aJ @U))))
 repeat' ((first |(with_reducible refine .guard (fun hb =>?_) (fun hb =>?_) <;>try simp only[hb])|refine J.aE (by decide +kernel) rfl fun K hK =>?_|refine .flat _ (hF) rfl ?_|(refine .ay [0,1,4,5,6,7,12,19,29] hK ?_;clear hK K)|(with_reducible refine .done (hK _ ?_);clear hK K)|refine J.of rfl ?_|(with_reducible refine ai.aB (fun h =>?_) (fun h =>?_) <;>try simp only[h])) <;>try simp only[aF,R,Nat.reduceEqDiff,reduceIte,Nat.reduceBEq])
 all_goals clear R
theorem zZ(m:cq)(a b:List aH)(ha:a.length≤60)(hb:b.length≤60):aw Tryz.prog 109 [enc m,eQ a,eQ b] (enc (jJ m a b)):=by
 have hd:I.eI [.ref (enc m),.ref (eQ a),.ref (eQ b)]=true:=by simp only[I.eI,I.done,dL,nN,zw4]
 have h1:=Aq a ha;have h2:=Aq b hb;have hal:(di (a.map (·.no))).length≤60:=by rw[(o8 _).length_eq,zy3];exact ha
 have hbl:(di (b.map (·.no))).length≤60:=by rw[(o8 _).length_eq,zy3];exact hb
 have hdf:jJ m a b=(fN (di (a.map (·.no))++di (b.map (·.no)))).filter fun no => !fp m (bY a no) (bY b no):=by
  simp only[jJ]
  congr 1
  refine OP fun y =>?_;rw[zx1,zx1,(o8 _).mem_iff,(o8 _).mem_iff]
 rw[hdf,←DM];generalize di (a.map (·.no))=av at h1 hal;generalize di (b.map (·.no))=bs at h2 hbl;have hbe:iC 1 (some [enc av,enc bs])=some (enc [av,bs]):=mF (ys:=[av,bs]) 1 rfl;have hfl:[av,bs].flatten=av++bs:=by simp
 refine aw.bj Tryz.func109 Sq Uv WO (zz0 rfl) (fun hwf W0 D0 E1 =>?_);simp only[Bc,L8,bg,zz3,Nat.reduceAdd];clear hwf;refine .aq (by decide +kernel) fun K hK =>?_;simp only[Ft,U,Nat.reduceEqDiff,reduceIte]
 try simp only[dC,U,Nat.reduceEqDiff,reduceIte]
 refine .done (hK _ ?_);clear hK K;refine .aq (by decide +kernel) fun K hK =>?_;simp only[Fu,U]
 try simp only[dS,zy0,dC,U,Nat.reduceEqDiff,reduceIte,Int.reduceBNe,Int.reduceBEq]
 refine .done (hK _ ?_);clear hK K;refine J.seq (J.qm (gs:=wJ) [] [] [0,1,3,4,2,5,6,7,8] (by decide +kernel) (eA.of (by simp[mQ])) fun K hK =>?_)
 try simp only[lj,wJ,List.getD_cons_zero,List.getD_cons_succ,dC,U,Nat.reduceEqDiff,reduceIte]
 refine .lead _ h1 ?_
 try simp only[dC,U,Nat.reduceEqDiff,reduceIte]
 refine .lead _ h2 ?_
 try simp only[hbe,dC,U,Nat.reduceEqDiff,reduceIte]
 by_cases hne:av++bs=[]
 ·refine .lead _ (P0 [av,bs] (by simp) (by rw[hfl,hne])) ?_
  try simp only[U,Nat.reduceEqDiff,reduceIte]
  refine .done (hK _ ?_);clear hK K;rw[hne];have hs0:(dh (di ([]:List Int)) (di ([]:List Int)).length).filter (fun no => !fp m (bY a no) (bY b no))=[]:=by rw[DM];rfl
  rw[hs0];have hall:([I.ptr 3 [],I.ptr 4 [],I.ptr 5 []].all fun y=>y.cu)=true:=rfl;have R:=u8 @dS (u8 @hall dC)
  repeat' ((first |(with_reducible refine .guard (fun hb =>?_) (fun hb =>?_) <;>try simp only[hb])|refine J.aE (by decide +kernel) rfl fun K hK =>?_|refine .lead _ ((zY _ (.inr rfl))) ?_|refine .lead _ (Pz) ?_|(refine .ay [0,1,2,3,4,5,6,7,8] hK ?_;clear hK K)|(with_reducible refine .done (hK _ ?_);clear hK K)|refine J.of rfl ?_|(with_reducible refine ai.aB (fun h =>?_) (fun h =>?_) <;>try simp only[h])) <;>try simp only[aF,R,Nat.reduceEqDiff,reduceIte,Nat.reduceBEq])
  all_goals clear R
  refine .gY [3,4,5] (enc ([]:List Int)) rfl (P2 152 [.ref (enc m),.ref (eQ a),.ref (eQ b)] hd) ?_ ?_ ?_
  ·try simp only[gh,zx7,zw9,List.contains_cons,Nat.reduceBEq,Bool.or_true,Bool.true_or,BEq.rfl,dL,dC,U,Nat.reduceEqDiff,reduceIte]
  ·simp[cJ,aZ]
  ·try simp only[fK,cJ,zx7,zw9,List.contains_cons,Nat.reduceBEq,Bool.or_true,Bool.true_or,BEq.rfl,zy2,zx2,dC,U,Nat.reduceEqDiff,reduceIte]
   have R:=u8 @dS dC
   repeat' ((first |(with_reducible refine .guard (fun hb =>?_) (fun hb =>?_) <;>try simp only[hb])|refine J.aE (by decide +kernel) rfl fun K hK =>?_|(refine .ay [0,1,2,3,4,5,6,7,8] hK ?_;clear hK K)|(with_reducible refine .done (hK _ ?_);clear hK K)|refine J.of rfl ?_|(with_reducible refine ai.aB (fun h =>?_) (fun h =>?_) <;>try simp only[h])) <;>try simp only[aF,R,Nat.reduceEqDiff,reduceIte,Nat.reduceBEq])
   all_goals clear R
 have hC:=PZ [av,bs] (by simp) (by rw[hfl,zz5];omega) (by rw[hfl];exact hne);rw[hfl] at hC;refine .bV [(906,906)] [enc [av,bs]] (Dv (av++bs)) hC fX.nil ⟨.inl ⟨(j5 _ _).symm,bh _ _,dO _⟩,trivial⟩ ?_ ?_
 ·rintro x os' ⟨k,rfl,rfl⟩;exact ee.p8 (fun p=>gj p _) (fun h=>by cases h) rfl (fun h=>by cases h) rfl (by decide)
 rintro x os' ⟨k,rfl,rfl⟩;have hxl:(av++bs).length≤120:=by rw[zz5];omega
 have hxp:0<(av++bs).length:=List.length_pos_iff.2 hne
 try simp only[bN,gP,fM,zy0,zy5,U,Nat.reduceEqDiff,reduceIte]
 refine .done (hK _ ?_);clear hK K;generalize av++bs=xs at hxl hxp ⊢;refine .aq (by decide +kernel) fun K hK =>?_;simp only[Fv,U,Nat.reduceEqDiff,reduceIte]
 try simp only[U,Nat.reduceEqDiff,reduceIte,Int.reduceBNe,Int.reduceBEq]
 refine .bV false [(1000000,906)] (bN 1000000 (xs++List.replicate k 0)) [.view 1000000 [] 1 0 xs.length] _ rfl (uZ xs _ (by omega)) ?_ ?_ ?_ ?_
 ·refine ⟨fun m y hy =>?_,fun m m' h h' _=>by rw[cH.1 h,cH.1 h']⟩;simp only[bN,ak] at hy;split at hy
  ·rename_i hm;cases hy;subst hm;exact ⟨by simp only[bJ,if_true,ak,ah.aQ,I.aQ,fM],gj _ _,rfl⟩
  ·cases hy
 ·exact ⟨.inl ⟨by simp[I.aQ,bJ],cH.2 rfl,rfl⟩,trivial⟩
 ·rintro eb os2 ⟨rfl,rfl⟩;refine ⟨fun m y hy =>?_,fun m m' h h' _=>by rw[cH.1 h,cH.1 h'],fun m hm=>by rw[cH.1 hm];exact cH.2 rfl,fun m a b=>by rw[cH.1 a] at b;simp[bN,al,ak] at b,rfl,fun _=>rfl⟩;simp only[bN,ak] at hy;split at hy
  ·cases hy;exact ⟨gj _ _,rfl,fun h=>by cases h⟩
  ·cases hy
 rintro eb os2 ⟨rfl,rfl⟩
 try simp only[bN,dN,zy2,zx2,ah.aQ,I.aQ,fM,bJ,reduceIte,zy0,zy5,I.cZ,U,reduceIte]
 refine .done (hK _ ?_);clear hK K;have hsl:(di xs).length=xs.length:=(o8 xs).length_eq;rw[←hsl] at hxl hxp ⊢;generalize di xs=ys at hxl hxp ⊢;have hLl:=DK ys ys.length;obtain ⟨L,hL⟩:∃ L,L=dh ys ys.length:=⟨_,rfl⟩
 rw[←hL] at hLl ⊢;refine .aq (by decide +kernel) fun K hK =>?_;simp only[Fw,U,Nat.reduceEqDiff,reduceIte]
 try simp only[U,Nat.reduceEqDiff,reduceIte,Int.reduceBNe,Int.reduceBEq]
 refine .bV false [(1000000,906)] (bN 1000000 (ys++List.replicate k 0)) [.view 1000000 [] 1 0 ys.length] _ rfl (Py ys _ (by omega)) ?_ ?_ ?_ ?_
 ·refine ⟨fun m y hy =>?_,fun m m' h h' _=>by rw[cH.1 h,cH.1 h']⟩;simp only[bN,ak] at hy;split at hy
  ·rename_i hm;cases hy;subst hm;exact ⟨by simp only[bJ,if_true,ak,ah.aQ,I.aQ,fM],gj _ _,rfl⟩
  ·cases hy
 ·exact ⟨.inl ⟨by simp[I.aQ,bJ],cH.2 rfl,rfl⟩,trivial⟩
 ·rintro eb os2 ⟨ws,rfl,rfl,w1,w2⟩;exact ee.Ly (fun p=>gj p _) (fun h=>by cases h) rfl (fun h=>by cases h)
 rintro eb os2 ⟨ws,rfl,rfl,w1,w2⟩;rw[←hL] at w1 ⊢;obtain ⟨q,rfl⟩:∃ q,ws=L++q:=⟨ws.drop L.length,by conv=>lhs;rw[←zy8 L.length ws,w1]⟩
 clear w1;have hp:0<(L++q).length:=by rw[w2,zz5];omega
 try simp only[bN,dN,zy2,zx2,ah.aQ,I.aQ,fM,bJ,reduceIte,zy0,zy5,I.cu,List.all_cons,List.all_nil,zw4,U,Nat.reduceEqDiff,reduceIte]
 refine .bV true [(1000000,906)] (bN 1000000 (L++q)) [.view 1000000 [] 1 0 L.length,.func 152 [.ref (enc m),.ref (eQ a),.ref (eQ b)]] (D7 L (fun no=>fp m (bY a no) (bY b no)) (L++q).length) rfl
  (P1 L q (by omega) hp 152 [.ref (enc m),.ref (eQ a),.ref (eQ b)] hd (fun no=>fp m (bY a no) (bY b no)) (fun x _=>P3 m x a b)) ⟨?_,?_⟩ ⟨.inl ⟨?_,?_,rfl⟩,.inr ?_,trivial⟩ ?_ ?_
 ·intro n x h;simp only[bN,ak] at h;split at h
  ·rename_i hn';subst hn';simp only[t7] at h;subst h;exact ⟨by simp only[gP,fM,U,Nat.reduceEqDiff,reduceIte],gj _ _,rfl⟩
  ·cases h
 ·intro a b ha hb _;rw[cH.1 ha,cH.1 hb]
 ·try simp only[gP,reduceIte]
 ·exact cH.2 rfl
 ·try simp only[jN,bN,bJ,cJ,zx7,zw9,zy2,zx2,List.contains_cons,List.contains_nil,Nat.reduceBEq,Bool.or_false,BEq.rfl,dL,dC,U,Nat.reduceEqDiff,reduceIte]
 ·rintro x os' ⟨us,rfl,rfl,u1,u2⟩;exact ee.one (fun p=>gj p _) (fun _=>by simp only[I.c7];exact tF us) (cH.2 rfl) (fun _=>rfl)
 ·rintro x os' ⟨us,rfl,rfl,u1,u2⟩
  try simp only[bN,gP,fM,zy0,zy5,U,Nat.reduceEqDiff,reduceIte]
  refine .done (hK _ ?_);clear hK K;refine J.ret ?_;simp only[U,Nat.reduceEqDiff,reduceIte]
  try simp only[qY (α:=Int) (sz:=1) rfl,u1,U]
  all_goals rfl
theorem QK(m:cq)(l:List ao)(a:Item)(known:Int):aw Tryz.prog 48 [enc m,enc l,enc a,enc known] (.tuple [enc (gl m l a known).1,enc (gl m l a known).2]):=by
 have hM:=qE m;have hC:=ot l [] [known];refine aw.bj Tryz.func48 TK VQ Yb (zz0 rfl) (fun hwf W0 D0 E1 =>?_);simp only[Cz,Nx,bg,zz3,Nat.reduceAdd];clear hwf;rcases hm:eO m
 ·have hs:gl m l a known=([],13):=by simp[gl,hm]
  rw[hs];rw[hm,if_neg (by decide)] at hM;have R:=u8 @dS dC
  repeat' ((first |(with_reducible refine .guard (fun hb =>?_) (fun hb =>?_) <;>try simp only[hb])|refine J.aE (by decide +kernel) rfl fun K hK =>?_|refine .flat _ (hM) rfl ?_|(refine .ay [0,1,2,3,4,6,8,9,10,11,12,13,17,24,33] hK ?_;clear hK K)|(with_reducible refine .done (hK _ ?_);clear hK K)|refine J.of rfl ?_|(with_reducible refine ai.aB (fun h =>?_) (fun h =>?_) <;>try simp only[h])) <;>try simp only[aF,R,simprocAttr])
  all_goals clear R
  all_goals rfl
 rw[hm,if_pos rfl] at hM;generalize hc:er l [] [known]=e at hC;by_cases he:e=0
 case neg =>
  have hs:gl m l a known=([],e):=by simp[gl,hm,hc,he]
  rw[hs];have hn:=nZ he;have R:=u8 @hn (u8 @he (u8 @kT (u8 @dS dC)))
  repeat' ((first |(with_reducible refine .guard (fun hb =>?_) (fun hb =>?_) <;>try simp only[hb])|refine J.aE (by decide +kernel) rfl fun K hK =>?_|refine .flat _ (hM) rfl ?_|refine .flat _ (hC) rfl ?_|(refine .ay [0,1,2,3,4,6,8,9,10,11,12,13,17,24,33] hK ?_;clear hK K)|(with_reducible refine .done (hK _ ?_);clear hK K)|refine J.of rfl ?_|(with_reducible refine ai.aB (fun h =>?_) (fun h =>?_) <;>try simp only[h])) <;>try simp only[aF,R,simprocAttr])
  all_goals clear R
  all_goals rfl
 have hn:=nY he;subst he;have hok:=mH hc;have hll:=n9 hok;have hG:=Pv l a (yL hok) (by omega);have hh:=xW (yL hok) a;rcases q2:jh l a
 ·have hs:gl m l a known=([],3):=by simp[gl,hm,hc,q2]
  rw[hs];rw[q2] at hG;have R:=u8 @hn (u8 @kT (u8 @dS dC))
  repeat' ((first |(with_reducible refine .guard (fun hb =>?_) (fun hb =>?_) <;>try simp only[hb])|refine J.aE (by decide +kernel) rfl fun K hK =>?_|refine .flat _ (hM) rfl ?_|refine .flat _ (hC) rfl ?_|refine .lead _ (hG) ?_|(refine .ay [0,1,2,3,4,6,8,9,10,11,12,13,17,24,33] hK ?_;clear hK K)|(with_reducible refine .done (hK _ ?_);clear hK K)|refine J.of rfl ?_|(with_reducible refine ai.aB (fun h =>?_) (fun h =>?_) <;>try simp only[h])) <;>try simp only[aF,R,simprocAttr])
  all_goals clear R
  all_goals rfl
 ·have hs:gl m l a known=(jJ m (cM l 100000 known) (cM (dq l (fL l a)) 100000 known),0):=by simp[gl,hm,hc,q2]
  rw[hs];rw[q2] at hG hh;have hp:fL l a<l.length:=by
   by_cases h:fL l a<l.length
   ·exact h
   ·simp[h] at hh
  have hD:=As l (fL l a) hp hll;have hokd:=yI hok (fL l a);have hF:=np l known hok;have hF2:=np (dq l (fL l a)) known hokd;have hX:=zZ m (cM l 100000 known) (cM (dq l (fL l a)) 100000 known) (nJ hok _ _).2.1 (nJ hokd _ _).2.1;have R:=u8 @hn (u8 @kT (u8 @dS dC))
  repeat' ((first |(with_reducible refine .guard (fun hb =>?_) (fun hb =>?_) <;>try simp only[hb])|refine J.aE (by decide +kernel) rfl fun K hK =>?_|refine .flat _ (hM) rfl ?_|refine .flat _ (hC) rfl ?_|refine .lead _ (hG) ?_|refine .lead _ (hF) ?_|refine .lead _ (hD) ?_|refine .lead _ (hF2) ?_|refine .lead _ (hX) ?_|(refine .ay [0,1,2,3,4,6,8,9,10,11,12,13,17,24,33] hK ?_;clear hK K)|(with_reducible refine .done (hK _ ?_);clear hK K)|refine J.of rfl ?_|(with_reducible refine ai.aB (fun h =>?_) (fun h =>?_) <;>try simp only[h])) <;>try simp only[aF,R,simprocAttr])
  all_goals clear R
theorem QM(m:cq)(l:List ao)(k1 k2:Int):aw Tryz.prog 50 [enc m,enc l,enc k1,enc k2] (.tuple [enc (gz m l k1 k2).1,enc (gz m l k1 k2).2]):=by
 have hM:=qE m;have hC:=ot l [] [k1,k2];refine aw.bj Tryz.func50 TM VS Yd (zz0 rfl) (fun hwf W0 D0 E1 =>?_);simp only[CB,Nz,bg,zz3,Nat.reduceAdd];clear hwf;rcases hm:eO m
 ·have hs:gz m l k1 k2=([],13):=by simp[gz,hm]
  rw[hs];rw[hm,if_neg (by decide)] at hM;have R:=u8 @dS dC
  repeat' ((first |(with_reducible refine .guard (fun hb =>?_) (fun hb =>?_) <;>try simp only[hb])|refine J.aE (by decide +kernel) rfl fun K hK =>?_|refine .flat _ (hM) rfl ?_|(refine .ay [0,1,2,3,4,8,9,10,11,15,23] hK ?_;clear hK K)|(with_reducible refine .done (hK _ ?_);clear hK K)|refine J.of rfl ?_|(with_reducible refine ai.aB (fun h =>?_) (fun h =>?_) <;>try simp only[h])) <;>try simp only[aF,R,simprocAttr])
  all_goals clear R
  all_goals rfl
 rw[hm,if_pos rfl] at hM;generalize hc:er l [] [k1,k2]=e at hC;by_cases he:e=0
 case neg =>
  have hs:gz m l k1 k2=([],e):=by simp[gz,hm,hc,he]
  rw[hs];have hn:=nZ he;have R:=u8 @hn (u8 @he (u8 @dS dC))
  repeat' ((first |(with_reducible refine .guard (fun hb =>?_) (fun hb =>?_) <;>try simp only[hb])|refine J.aE (by decide +kernel) rfl fun K hK =>?_|refine .flat _ (hM) rfl ?_|refine .flat _ (hC) rfl ?_|(refine .ay [0,1,2,3,4,8,9,10,11,15,23] hK ?_;clear hK K)|(with_reducible refine .done (hK _ ?_);clear hK K)|refine J.of rfl ?_|(with_reducible refine ai.aB (fun h =>?_) (fun h =>?_) <;>try simp only[h])) <;>try simp only[aF,R,simprocAttr])
  all_goals clear R
  all_goals rfl
 have hn:=nY he;subst he;have hok:=mH hc;have hs:gz m l k1 k2=(jJ m (cM l 100000 k1) (cM l 100000 k2),0):=by simp[gz,hm,hc]
 rw[hs];have hF:=np l k1 hok;have hF2:=np l k2 hok;have hX:=zZ m (cM l 100000 k1) (cM l 100000 k2) (nJ hok _ _).2.1 (nJ hok _ _).2.1;have R:=u8 @hn (u8 @dS dC)
 repeat' ((first |(with_reducible refine .guard (fun hb =>?_) (fun hb =>?_) <;>try simp only[hb])|refine J.aE (by decide +kernel) rfl fun K hK =>?_|refine .flat _ (hM) rfl ?_|refine .flat _ (hC) rfl ?_|refine .lead _ (hF) ?_|refine .lead _ (hF2) ?_|refine .lead _ (hX) ?_|(refine .ay [0,1,2,3,4,8,9,10,11,15,23] hK ?_;clear hK K)|(with_reducible refine .done (hK _ ?_);clear hK K)|refine J.of rfl ?_|(with_reducible refine ai.aB (fun h =>?_) (fun h =>?_) <;>try simp only[h])) <;>try simp only[aF,R,simprocAttr])
 all_goals clear R
structure su where
 cm:Item
 known:Int
 bM:Int
instance:Enc su where
 enc w:=.agg [enc w.cm,.int .i64 w.known,.int .i64 w.bM]
 sz:=4
 aU:=.ej [Enc.aU Item,.one,.one]
 gb:=true
 done e:=by simp only[I.done,I.eI,Enc.done,zw4]
 size e:=by simp only[I.size,I.sizes,iD];rfl
 jT e:=by simp only[I.aU,I.cX,eL]
 agg _:=rfl
theorem aaF(w:su):(enc w).du=some [enc w.cm,.int .i64 w.known,.int .i64 w.bM]:=rfl
theorem anv(a:Item)(n1 n2:Int)(v:I):(dM [enc a,.int .i64 n1,.int .i64 n2] 1 2 v=some v)∧(dM [enc a,.int .i64 n1,.int .i64 n2] 2 3 v=some v):=by
 refine ⟨?_,?_⟩ <;>refine ma (zz0 rfl) ?_ <;>simp[I.sizes,I.size,iD,qR]
theorem QY(m:cq)(l:List ao)(w:su):aw Tryz.prog 9 [enc m,enc l,enc w] (enc true):=by
 have h1:=QK m l w.cm w.known;have h2:=QL m l w.cm w.known;have h3:=QM m l w.known w.bM;have h4:=QN m l (fc w.known w.bM);have e4:gz m l ((fc w.known w.bM).g 0) ((fc w.known w.bM).g 1)=gz m l w.known w.bM:=rfl;rw[e4] at h4;generalize gl m l w.cm w.known=u1 at h1 h2;generalize gz m l w.known w.bM=u2 at h3 h4;refine aw.bj Tryz.func9 Ud Wh YC (zz0 rfl) (fun hwf W0 D0 E1 =>?_);simp only[C0,NZ,bg,zz3,Nat.reduceAdd];clear hwf;have q1:∀ e:Int,(e==e)=true:=fun e=>by simp
 have R:=u8 @q1 (u8 @aaF (u8 @anv (u8 @aal (u8 @dS dC))))
 repeat' ((first |(with_reducible refine .guard (fun hb =>?_) (fun hb =>?_) <;>try simp only[hb])|refine J.aE (by decide +kernel) rfl fun K hK =>?_|refine .lead _ (h1) ?_|refine .lead _ (h2) ?_|refine .lead _ (h3) ?_|refine .lead _ (h4) ?_|refine .flat _ (sf _ _) rfl ?_|refine .flat _ (QG) rfl ?_|(refine .ay [0,1,2,3,5,6,7,8,9,10,11,12,13,14] hK ?_;clear hK K)|(with_reducible refine .done (hK _ ?_);clear hK K)|refine J.of rfl ?_|(with_reducible refine ai.aB (fun h =>?_) (fun h =>?_) <;>try simp only[h])) <;>try simp only[aF,R,eq_self,decide_true,simprocAttr])
 all_goals clear R
end Go.Proofs.YtcldiigclhgafaaGreat
