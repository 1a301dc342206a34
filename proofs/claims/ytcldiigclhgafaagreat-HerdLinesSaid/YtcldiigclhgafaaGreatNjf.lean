/-
  A part of the proof that the law HerdLines returns true for every input; conditions: none beyond the statement's own. (part 6 of 7)
-/
import Derived.Test.YtcldiigclhgafaaGreatNje
set_option linter.unusedSimpArgs false
set_option linter.unusedVariables false
set_option maxHeartbeats 16000000
set_option maxRecDepth 100000
namespace Go.Proofs.YtcldiigclhgafaaGreat
open Go Go.Abs
open Go.Abs.Enc (enc)
def lU(l:List av)(day known:Int)(fT:List Int)(i:Nat):Nat:=((fT.take i).filter fun no=>oe l day known no != 0).length
theorem aiY(l:List av)(day known:Int){fT:List Int}{i:Nat}(h:i<fT.length):lU l day known fT (i+1)=lU l day known fT i+if oe l day known fT[i] != 0 then 1 else 0:=by
 simp only[lU];rw[zy3 h,List.filter_append,zz5,zw1,zv9];split <;>simp_all
theorem aiX(l:List av)(day known:Int)(fT:List Int)(i:Nat):lU l day known fT i≤fT.length :=
 zv8 (zv4 _ _) (by rw[zx3];omega)
theorem Cx(bs:List aB)(o s:Int):n8 bs o s≤bs.length:=zv4 _ _
theorem yY(bs:List aB)(o:Nat):∀ s,l6 bs o s≤s*bs.length
 |0=>zw7 _
 |s+1=>by
  have h1:=yY bs o s;have h2:=Cx bs ((o+1:Nat):Int) ((s+1:Nat):Int);rw[l6,Nat.succ_mul];omega
theorem Oc(bs:List aB):∀ o,jK bs o≤o*(2*bs.length)
 |0=>zw7 _
 |o+1=>by
  have h1:=Oc bs o;have h2:=yY bs o 2;rw[jK,Nat.succ_mul];omega
theorem akK{a b:Nat}(h:a+b<9223372036854775807):IntKind.i64.wrap ((a:Int)+(b:Int))=((a+b:Nat):Int):=kB a b h
theorem PA(c:List Int)(ls:List fC)(n:jq)(hc:c.length*8≤140737488355328):aD Tryz.prog 4 [enc c,enc ls,enc n] (enc true):=by
 obtain ⟨m,hm⟩:∃ m,m=mD c:=⟨_,rfl⟩
 have hokm:ez m=true:=by rw[hm];exact KK c
 have h24:=zC c (by omega);rw[←hm] at h24;have h23:=zB m ls c hokm hc;have hok:=KF hokm ls c;have hev:=ahg hokm ls c;generalize oz m ls c=l at h23 hok hev;obtain ⟨D,hD⟩:∃ D,D=n.g 0%32:=⟨_,rfl⟩
 obtain ⟨de,hKn⟩:∃ de,de=n.g 1%45:=⟨_,rfl⟩
 have hDb:0≤D∧D<32:=by rw[hD];exact ⟨zw8 _ (by decide),zv6 _ (by decide)⟩
 have hKb:0≤de∧de<45:=by rw[hKn];exact ⟨zw8 _ (by decide),zv6 _ (by decide)⟩
 have hd:bS 0 100000 D=true:=by simp[bS];omega
 have hk:bS 0 100000 de=true:=by simp[bS];omega
 have hb:=Ke hev D de;have hbl:=(oo hok D de).2.1;have hck:∀ ns,(ns.all fun q:jq=>bS 1 (q.g 1) (q.g 0))=true→eL l ns [D,de]=0:=fun ns h=>by
  simp only[eL,hok,if_true,h,List.any_cons,List.any_nil,hd,hk,Bool.not_true,Bool.or_false,zz6,if_false]
 have h26:=zD l D de;have hA:nV l D de=(dJ (((cC l D de).filter fun b => !decide (0≤b.cL)).map (·.no)),0):=by simp only[nV,hck [] rfl,if_true]
 rw[hA] at h26;have hall:=aiZ hok hev hd hk;have hsum:=Od hb 12;have hmem:∀ no∈dJ (((cC l D de).filter fun b => !decide (0≤b.cL)).map (·.no)),np l no D de=(oe l D de no,0):=fun no hno=>by
  rw[(qg _).mem_iff,zx4] at hno;obtain ⟨b,hbm,rfl⟩:=hno;obtain ⟨m1,m2⟩:=zw9.1 hbm;have:=Ju hok hd hk m1 (hb b m1) (by simpa using m2);simp only[oe,this]
 have hnl:(dJ (((cC l D de).filter fun b => !decide (0≤b.cL)).map (·.no))).length≤60:=by
  rw[(qg _).length_eq,zy2];exact zv8 (zv4 _ _) hbl
 generalize dJ (((cC l D de).filter fun b => !decide (0≤b.cL)).map (·.no))=fT at h26 hall hmem hnl;have hC:∀ o s:Nat,1≤o→o≤12→1≤s→s≤2→pw l o s D de=((n8 (cC l D de) o s:Int),0):=fun o s h1 h2 h3 h4=>by
  have h0:=hck [dG o 99,dG s 9] (by
   have e1:(dG (o:Int) 99).g 0=o:=rfl;have e2:(dG (o:Int) 99).g 1=99:=rfl;have e3:(dG (s:Int) 9).g 0=s:=rfl;have e4:(dG (s:Int) 9).g 1=9:=rfl;simp only[List.all_cons,List.all_nil,e1,e2,e3,e4,bS];simp;omega)
  simp only[pw,h0,if_true];rfl
 have hSl:=Oc (cC l D de);have hSs:=yY (cC l D de);have hcl:=Cx (cC l D de);obtain ⟨bs,hbs⟩:∃ bs,bs=cC l D de:=⟨_,rfl⟩
 rw[←hbs] at hall hsum hC hSl hSs hcl hbl;refine aD.bA Tryz.func4 Sp Uh Wl (t7 rfl) (fun hwf W0 D0 E1 =>?_);simp only[iR,MH,bp,zz4,Nat.reduceAdd];clear hwf;have R:=v6 @xy (v6 @dW (v6 @bG (v6 @aZ @ab)))
 repeat' ((first |(with_reducible refine .guard (fun hb =>?_) (fun hb =>?_) <;>try simp only[hb])|refine J.aT (by decide +kernel) rfl fun K hK =>?_|refine .lead _ (h24) ?_|refine .lead _ (h23) ?_|refine .flat _ (gB _ _ (by decide) (by decide)) rfl ?_|refine .lead _ (h26) ?_|(refine .aH [0,1,2,5,6,7,8,9,10,11,12,13,14,15,16,17,18,19,20,40,44,59,61,65,69,82] hK ?_;clear hK K)|(with_reducible refine .done (hK _ ?_);clear hK K)|refine J.of rfl ?_|(with_reducible refine aq.aQ (fun h =>?_) (fun h =>?_) <;>try simp only[h])) <;>try simp only[aU,R,←hD,←hKn,Nat.reduceEqDiff,reduceIte,Int.reduceBNe,Nat.reduceBEq])
 all_goals clear R
 refine J.loop (fun i:Nat=>au [(7,enc l),(8,.int .i64 D),(9,.int .i64 de),(10,enc fT),(12,.int .i64 (lU l D de fT i)),(13,.int .i64 i)] []) (fun i=>i≤fT.length) (fun i=>fT.length-i) 0 (zw7 _) ?_ (fun i hi =>?_)
 ·have e:lU l D de fT 0=0:=by simp[lU]
  rw[e];refine aF.bM ?_ ?_ ?_ ?_ <;>simp[aX,bK,bJ,a8,aY,I.only,bt]
 have hol:=aiX l D de fT i;by_cases hlt:i<fT.length
 ·have hc1:=ic hlt;have he:=fun A=>fH (A:=A) 1 hlt rfl;have hw:=fw (i:=i) (by omega);have hwo:=fw (i:=lU l D de fT i) (by omega);have hsu:=aiY l D de hlt;have hF:=zE l fT[i] D de;rw[hmem _ (zy9 hlt)] at hF;rcases q:(oe l D de fT[i] != 0)
  all_goals
   rw[q] at hsu;simp only[if_true,zz6,if_false,Nat.add_zero] at hsu;have R:=v6 @hc1 (v6 @he (v6 @hw (v6 @hwo (v6 @q (v6 @bG (v6 @aZ @ab))))))
   repeat' ((first |(with_reducible refine .guard (fun hb =>?_) (fun hb =>?_) <;>try simp only[hb])|refine J.aT (by decide +kernel) rfl fun K hK =>?_|refine .flat _ (hF) rfl ?_|(refine .aH [0,1,2,5,6,7,8,9,10,11,12,13,14,15,16,17,18,19,20,40,44,59,61,65,69,82] hK ?_;clear hK K)|(with_reducible refine .done (hK _ ?_);clear hK K)|refine J.of rfl ?_|(with_reducible refine aq.aQ (fun h =>?_) (fun h =>?_) <;>try simp only[h])) <;>try simp only[aU,R,Nat.reduceEqDiff,reduceIte,Int.reduceBNe,Nat.reduceBEq])
   all_goals clear R
   refine ⟨i+1,by omega,by omega,?_⟩;rw[hsu];refine aF.bM ?_ ?_ ?_ ?_ <;>simp[aX,bK,bJ,a8,aY,I.only,bt]
 have hc1:=iW hlt;have hge:i=fT.length:=by omega
 subst hge;have hfin:lU l D de fT fT.length=jK bs 12:=by
  rw[hsum,←hall,lU,List.take_length]
 rw[hfin];have R:=v6 @hc1 (v6 @bG (v6 @aZ @ab))
 repeat' ((first |(with_reducible refine .guard (fun hb =>?_) (fun hb =>?_) <;>try simp only[hb])|refine J.aT (by decide +kernel) rfl fun K hK =>?_|(refine .aH [0,1,2,5,6,7,8,9,10,11,12,13,14,15,16,17,18,19,20,40,44,59,61,65,69,82] hK ?_;clear hK K)|(with_reducible refine .done (hK _ ?_);clear hK K)|refine J.of rfl ?_|(with_reducible refine aq.aQ (fun h =>?_) (fun h =>?_) <;>try simp only[h])) <;>try simp only[aU,R,Nat.reduceEqDiff,reduceIte,Nat.reduceBEq])
 all_goals clear R
 refine J.loop (fun o:Nat=>au [(7,enc l),(8,.int .i64 D),(9,.int .i64 de),(12,.int .i64 (jK bs 12:Nat)),(16,.int .i64 (jK bs o:Nat)),(17,.int .i64 ((o+1:Nat):Int))] []) (fun o=>o≤12) (fun o=>12-o) 0 (zw7 _) ?_ (fun o ho =>?_)
 ·simp only[jK];refine aF.bM ?_ ?_ ?_ ?_ <;>simp[aX,bK,bJ,a8,aY,I.only,bt]
 have h1:=hSl o;have h2:o*(2*bs.length)≤12*(2*bs.length):=Nat.mul_le_mul_right _ ho;by_cases ho12:o<12
 case neg =>
  have e:o=12:=by omega
  subst e;have q1:decide (((12+1:Nat):Int)≤12)=false:=rfl;have q2:∀ x:Int,(x==x)=true:=fun x=>by simp
  have R:=v6 @q1 (v6 @q2 (v6 @bG (v6 @aZ @ab)))
  repeat' ((first |(with_reducible refine .guard (fun hb =>?_) (fun hb =>?_) <;>try simp only[hb])|refine J.aT (by decide +kernel) rfl fun K hK =>?_|refine .flat _ (zA) rfl ?_|(refine .aH [0,1,2,5,6,7,8,9,10,11,12,13,14,15,16,17,18,19,20,40,44,59,61,65,69,82] hK ?_;clear hK K)|(with_reducible refine .done (hK _ ?_);clear hK K)|refine J.of rfl ?_|(with_reducible refine aq.aQ (fun h =>?_) (fun h =>?_) <;>try simp only[h])) <;>try simp only[aU,R,Nat.reduceEqDiff,reduceIte,Nat.reduceBEq])
  all_goals clear R
 have q1:decide (((o+1:Nat):Int)≤12)=true:=decide_eq_true (by omega);have hwo:=fw (i:=o+1) (by omega);have R:=v6 @q1 (v6 @bG (v6 @aZ @ab))
 repeat' ((first |(with_reducible refine .guard (fun hb =>?_) (fun hb =>?_) <;>try simp only[hb])|refine J.aT (by decide +kernel) rfl fun K hK =>?_|(refine .aH [0,1,2,5,6,7,8,9,10,11,12,13,14,15,16,17,18,19,20,40,44,59,61,65,69,82] hK ?_;clear hK K)|(with_reducible refine .done (hK _ ?_);clear hK K)|refine J.of rfl ?_|(with_reducible refine aq.aQ (fun h =>?_) (fun h =>?_) <;>try simp only[h])) <;>try simp only[aU,R,Nat.reduceEqDiff,reduceIte,Nat.reduceBEq])
 all_goals clear R
 refine J.loop (fun s:Nat=>au [(7,enc l),(8,.int .i64 D),(9,.int .i64 de),(12,.int .i64 (jK bs 12:Nat)),(16,.int .i64 ((jK bs o+l6 bs o s:Nat):Int)),(17,.int .i64 ((o+1:Nat):Int)),(18,.int .i64 ((s+1:Nat):Int))] []) (fun s=>s≤2) (fun s=>2-s) 0 (zw7 _) ?_ (fun s hs =>?_)
 ·simp only[l6,Nat.add_zero];refine aF.bM ?_ ?_ ?_ ?_ <;>simp[aX,bK,bJ,a8,aY,I.only,bt]
 by_cases hs2:s<2
 case neg =>
  have e:s=2:=by omega
  subst e;have q3:decide (((2+1:Nat):Int)≤2)=false:=rfl;have R:=v6 @q3 (v6 @hwo (v6 @bG (v6 @aZ @ab)))
  repeat' ((first |(with_reducible refine .guard (fun hb =>?_) (fun hb =>?_) <;>try simp only[hb])|refine J.aT (by decide +kernel) rfl fun K hK =>?_|(refine .aH [0,1,2,5,6,7,8,9,10,11,12,13,14,15,16,17,18,19,20,40,44,59,61,65,69,82] hK ?_;clear hK K)|(with_reducible refine .done (hK _ ?_);clear hK K)|refine J.of rfl ?_|(with_reducible refine aq.aQ (fun h =>?_) (fun h =>?_) <;>try simp only[h])) <;>try simp only[aU,R,Nat.reduceEqDiff,reduceIte,Nat.reduceBEq])
  all_goals clear R
  refine ⟨o+1,by omega,by omega,?_⟩;simp only[jK];refine aF.bM ?_ ?_ ?_ ?_ <;>simp[aX,bK,bJ,a8,aY,I.only,bt]
 have q3:decide (((s+1:Nat):Int)≤2)=true:=decide_eq_true (by omega);have hws:=fw (i:=s+1) (by omega);have h3:=hSs o s;have h4:s*bs.length≤2*bs.length:=Nat.mul_le_mul_right _ hs;have h5:=hcl ((o+1:Nat):Int) ((s+1:Nat):Int);have hwa:=akK (a:=jK bs o+l6 bs o s) (b:=n8 bs ((o+1:Nat):Int) ((s+1:Nat):Int)) (by omega);have hF:=zF l ((o+1:Nat):Int) ((s+1:Nat):Int) D de;rw[hC (o+1) (s+1) (by omega) (by omega) (by omega) (by omega)] at hF;have R:=v6 @q3 (v6 @hws (v6 @hwa (v6 @bG (v6 @aZ @ab))))
 repeat' ((first |(with_reducible refine .guard (fun hb =>?_) (fun hb =>?_) <;>try simp only[hb])|refine J.aT (by decide +kernel) rfl fun K hK =>?_|refine .flat _ (hF) rfl ?_|(refine .aH [0,1,2,5,6,7,8,9,10,11,12,13,14,15,16,17,18,19,20,40,44,59,61,65,69,82] hK ?_;clear hK K)|(with_reducible refine .done (hK _ ?_);clear hK K)|refine J.of rfl ?_|(with_reducible refine aq.aQ (fun h =>?_) (fun h =>?_) <;>try simp only[h])) <;>try simp only[aU,R,Nat.reduceEqDiff,reduceIte,Int.reduceBNe,Nat.reduceBEq])
 all_goals clear R
 refine ⟨s+1,by omega,by omega,?_⟩;simp only[l6,←Nat.add_assoc];refine aF.bM ?_ ?_ ?_ ?_ <;>simp[aX,bK,bJ,a8,aY,I.only,bt]
end Go.Proofs.YtcldiigclhgafaaGreat
namespace Go.Proofs.YtcldiigclhgafaaGreat
open Go Go.Abs Go.ChangeShapes Go.WideShapes Go.ChangeAt Go.RowKit
open Go.Abs.Enc (enc)
theorem ahH:jM Tryz.prog 130 (aR 9 Int):=K2 (JF (by kernel_rfl)) tB (by kernel_rfl) (by decide)
theorem Kv:jM Tryz.prog 43 (List (aR 9 Int)):=K3 (by kernel_rfl) ahH (by kernel_rfl)
theorem JW{H:Type}{P:Program}{ts:List TypeId}{ds:List (DataW H)}(hz:(DataW.weightsEach P ts ds).all (· ≤ reachBytes)=true){j:Nat}{t e:TypeId}{d:DataW H}{n:Nat}(ht:ts[j]?=some t)(hd:ds[j]?=some d)(hu:P.underlying t=some (.slice e))(hb:8≤P.bytesOf e)
  (h:n=0∨∃ elems spare,d=.slice elems spare∧elems.length=n):n*8≤140737488355328:=by
 rcases h with h | ⟨elems,spare,rfl,h⟩
 ·omega
 ·have h1:=sized_slice hz ht hd hu;have h2:reachBytes<2^47:=reachBytes_lt;have h3:(elems.length+spare.length)*8≤(elems.length+spare.length)*P.bytesOf e:=Nat.mul_le_mul_left _ hb;omega
theorem agm(os:Os)(started:os.Started)(H:Type)(enc0:TypeId×Value→H) :
  ReturnsInHanded {} Tryz.checked os 4 .any (Rows.herdSumsSpec.pre6 enc0 Tryz.prog Tryz.f4 Rows.herdSumsRow.domain false) (Rows.herdSumsSpec.post enc0 Tryz.prog Tryz.f4 false true false false):=by
 refine returnsInHanded_of_change_sized (C:=Tryz.checked) Tryz.own started (by kernel_rfl) Tryz.func4
  (ChangeSpec.witness6 (enc:=enc0) (C:=Tryz.checked) false ⟨#[],#[.slice none 0 0,.slice none 0 0,.agg #[.int .i64 0,.int .i64 0]],[]⟩ 8 (by kernel_rfl) (by kernel_rfl) (by kernel_rfl) (by kernel_rfl)) ?_
 intro W base args ds gs before hval0 hW hcnd hz0 _;have hval:∀ (j:Nat) t v,Tryz.f4.params[j]?=some t→args[j]?=some v→Value.okWide Tryz.prog W .any base t v:=hval0;have hz:(DataW.weightsEach Tryz.prog (Tryz.f4.params.toList++Rows.herdSumsSpec.plain.varTypes Tryz.prog) (ds++gs)).all (· ≤ reachBytes)=true:=hz0;have hW':=hW;obtain ⟨p,q,hA0,hV,hbef,hfz,hnd⟩:=hW;have hA:DataW.TrodAll enc0 Tryz.prog W 0 (fun _=>true) true Tryz.f4.params.toList args.toList ds p:=hA0;rw[Tryz.params4] at hA hval hz;obtain ⟨v0,v1,v2,d0,d1,d2,p0,p1,p2,rfl,rfl,rfl,h0,h1,h2⟩:=trodAll_three hA;obtain ⟨rfl,rfl⟩:=trodVars_none hV;obtain ⟨a0,k0,l0⟩:=K1 Ku (e:=3) (by kernel_rfl) (hval 0 29 v0 rfl rfl) h0;obtain ⟨a1,c1,k1⟩:=tM Kv rfl (by kernel_rfl) (hval 1 43 v1 rfl rfl) h1;obtain ⟨a2,c2,k2⟩:=aiP ahG rfl (by kernel_rfl) (hval 2 28 v2 rfl rfl) h2;have n0:=JW hz (j:=0) (t:=29) (e:=3) rfl rfl (by kernel_rfl) (of_decide_eq_true (by kernel_rfl)) l0;exact JO (tb:=4) Tryz.JN (by rw[Tryz.params4]) rfl rfl (by rw[hbef];simp) rfl rfl (by kernel_rfl) (by kernel_rfl) hW' h0 h1 h2 (by
  intro t ht;simp only[zw4,List.mem_nil_iff,or_false] at ht;rcases ht with rfl | rfl | rfl <;>exact ⟨by kernel_rfl,of_decide_eq_true (by kernel_rfl)⟩) (PA a0 a1 a2 n0) (ND k0 ⟨c1,k1⟩ ⟨c2,k2⟩)
theorem agl:Rows.HerdSumsSaid :=
 OpenClaim.holds_of_wide 4 Tryz.f4 rfl rfl rfl rfl rfl rfl rfl ⟨rfl,rfl,rfl,rfl,rfl⟩ rfl rfl rfl rfl rfl (by kernel_rfl) Tryz.func4 (by kernel_rfl)
  (of_decide_eq_true (by kernel_rfl)) (by unfold Func.isWrapper;first | (rw[if_pos (by decide +kernel)];kernel_rfl) | (rw[if_neg (by decide +kernel)];exact ⟨rfl,rfl⟩))
  (fun os started H enc0 _=>agm os started H enc0)
#print axioms agl
end Go.Proofs.YtcldiigclhgafaaGreat
namespace Go.Proofs.YtcldiigclhgafaaGreat
open Go Go.Abs
open Go.Abs.Enc (enc)
def jm(xs:List Int):List (Nat×ai):=[(1000002,.box (.own 1000080 xs.length)),(1000080,.bX 3 1 (xs.map enc))]
theorem aj7(xs ys:List Int):fp (jm xs) (jm ys):=by
 refine ⟨fun n=>by simp only[jm,al,ak];(repeat' split) <;>rfl,fun n x h =>?_,fun n h =>?_⟩
 ·simp only[jm,ak] at h
  repeat' split at h
  all_goals first | (cases h;done) | (simp only[u8] at h;subst h;exact ⟨by simp[jm,al,ak,ai.only,I.only,ej],rfl⟩)
 ·simp only[jm,al,ak] at h
  repeat' split at h
  all_goals first | omega | (simp at h;done)
theorem akf(l:List av)(known:Int):(eJ l known).length≤l.length:=by
 have:=zv4 (fun i=>(ik l known).getD i false) (List.range l.length)
 rwa [List.length_range] at this
theorem akS(l:List av)(known:Int)(hl:l.length≤60):cD Tryz.prog 144 [.nils 1,.func 146 [.ref (enc l),.ref (enc (ik l known))]] [] (fun r os'=>r=enc (cN (eJ l known))∧os'=[]):=by
 refine cD.bA Tryz.func144 Rx Tl Vs (t7 rfl) (t7 rfl) (fun n h=>by simp[al,ak] at h) (fun hwf W0 D0 E1 =>?_);simp only[AP,LN,bp,zz4];clear hwf;refine .ao (by decide +kernel) fun K hK =>?_;simp only[ES,ab,simprocAttr];refine .done (hK _ ?_);clear hK K;refine J.seq (J.seq ?_);refine .bu (by decide +kernel) fun K hK =>?_;simp only[ET,ab,simprocAttr]
 try simp only[aZ,ab,simprocAttr]
 refine .done (hK _ ?_);clear hK K;try simp only[ar]
 refine J.sub (aF.uT 2 80 3 1 1 [] _ rfl rfl rfl (B:=au [(2,.ptr 2 []),(6,.func 146 [.ref (enc l),.ref (enc (ik l known))])] [(2,.box (.own 80 0)),(80,.bX 3 1 [])]) ?_) ?_
 ·simp only[fv];refine aF.bM ?_ ?_ ?_ ?_ <;>simp[aX,bK,bJ,a8,al,aY,cu,I.only,I.bU,ai.only,bt]
 refine J.block (J.j0 (osb0:=jm []) (tsR:=[(2,.ptr 1000002 [])]) (ρ:=[(1999999,999999),(1000002,2),(1000080,80)])
  (fun k os=>os=jm (cN ((eJ l known).take k)))
  (fun _ _=>False)
  rfl (t7 rfl) (by simp only[ab,simprocAttr]) (by simp[I.bW,I.bn,eb]) vb (zm l (ik l known) hl (N7 l known)) (fun _=>rfl) rfl rfl rfl (fun o=>⟨?_,?_⟩) ?_ ?_ ?_ ?_ ?_ ?_ ?_)
 ·intro n x hx;simp only[dn,jm,ak] at hx
  repeat' split at hx
  all_goals first | (cases hx;done) | (subst_vars;simp only[u8] at hx;subst hx;simp[dn,jm,al,bx,ak,ai.aK,I.aK,I.cJ,ai.only,I.only,I.bU,ai.eG])
 ·intro a b ha hb;simp only[dn,jm,al,ak] at ha hb
  repeat' split at ha
  all_goals first | (simp at ha;done) | skip
  all_goals (repeat' split at hb)
  all_goals first | (simp at hb;done) | (subst_vars;simp[bx])
 ·simp[l5,aY,I.aK,bx,I.only,jm,al,ak]
 ·rintro k os rfl;exact aj7 ..
 ·rintro e os h;exact h.elim
 ·simp[jm,cN]
 ·rintro k osb hk rfl W1 D1 E1 JM o1 o2;have hk':k<(eJ l known).length:=hk;have hsl:=akf l known;obtain ⟨i,hi⟩:∃ i,i=(eJ l known).getD k 0:=⟨_,rfl⟩
  have hit:((il (fun i=>(ik l known).getD i false) l.length).getD k 0)=i:=hi.symm;have hsu:(eJ l known).take (k+1)=(eJ l known).take k++[i]:=by
   rw[hi,zy3 hk',zz1,zz8 hk'];rfl
  have hdl:((eJ l known).take k).length≤60:=by rw[zx3];omega
  generalize (eJ l known).take k=dk at hsu hdl ⊢;simp only[hit,qc,dn,jm];have R:=v6 @aZ @ab
  repeat' ((first |(with_reducible refine .guard (fun hb =>?_) (fun hb =>?_) <;>try simp only[hb])|refine J.aT (by decide +kernel) rfl fun K hK =>?_|(refine .aH [0,1,2,4,5,6,7] hK ?_;clear hK K)|(with_reducible refine .done (hK _ ?_);clear hK K)|refine J.of rfl ?_|(with_reducible refine aq.aQ (fun h =>?_) (fun h =>?_) <;>try simp only[h])) <;>try simp only[aU,R,simprocAttr])
  all_goals clear R
  refine ⟨by simp[],?_⟩;have hap:=fun (A:ae) d rest=>m7 (α:=Int) (A:=A) (d:=d) 3 1 8 1000080 (l:=(cN dk).length) (es:=cN dk) (ys:=[(i:Int)]) (rest:=rest) rfl rfl (by simp) (by simp[cN,maxLen];omega) (by simp[cN];omega);have R:=v6 @hap (v6 @mg (v6 @dW (v6 @N3 (v6 @dT (v6 @bG (v6 @aZ @ab))))))
  repeat' ((first |(with_reducible refine .guard (fun hb =>?_) (fun hb =>?_) <;>try simp only[hb])|refine J.aT (by decide +kernel) rfl fun K hK =>?_|(refine .aH [0,1,2,4,5,6,7] hK ?_;clear hK K)|(with_reducible refine .done (hK _ ?_);clear hK K)|refine J.of rfl ?_|(with_reducible refine aq.aQ (fun h =>?_) (fun h =>?_) <;>try simp only[h])) <;>try simp only[aU,R,simprocAttr])
  all_goals clear R
  refine ⟨_,?_,rfl⟩;have hti:cN (dk++[i])=cN dk++[(i:Int)]:=by simp[cN]
  rw[hsu,hti];generalize cN dk=xs;intro n x hx;simp only[dn,ak] at hx
  (repeat' split at hx) <;>first
   |(cases hx;done)
   |(subst_vars;simp only[u8] at hx;subst hx;simp[dn,al,au,ak,ai.only,I.only,bt,ai.eG,ej,gz,I.bU])
 ·rintro os rfl;have eN:(eJ l known).take (il (fun i=>(ik l known).getD i false) l.length).length=eJ l known:=List.take_length;simp only[eN,jm,dH,zz9,zx1,bx,ai.aK,I.aK,gM,ar,bL,reduceIte,Nat.reduceEqDiff,zy0,zy6];have hfo:=my (k:=(cN (eJ l known)).length) (T:=3) (es:=cN (eJ l known)) 1 rfl rfl;have R:=v6 @dW (v6 @bG (v6 @aZ @ab))
  repeat' ((first |(with_reducible refine .guard (fun hb =>?_) (fun hb =>?_) <;>try simp only[hb])|refine J.aT (by decide +kernel) rfl fun K hK =>?_|(refine .aH [0,1,2,4,5,6,7] hK ?_;clear hK K)|(with_reducible refine .done (hK _ ?_);clear hK K)|refine J.of rfl ?_|(with_reducible refine aq.aQ (fun h =>?_) (fun h =>?_) <;>try simp only[h])) <;>try simp only[aU,R,simprocAttr])
  all_goals clear R
  rw[fI];exact ⟨[],[enc (cN (eJ l known))],pI,⟨⟨_,rfl,.inr hfo⟩,trivial⟩,rfl,rfl⟩
 ·rintro e os h;exact h.elim
theorem zI(l:List av)(no known:Int):aD Tryz.prog 39 [enc l,enc no,enc known] (.tuple [enc (po l no known).1,enc (po l no known).2]):=by
 refine aD.bA Tryz.func39 Sn Ug Wk (t7 rfl) (fun hwf W0 D0 E1 =>?_);simp only[BK,MG,bp,zz4,Nat.reduceAdd];clear hwf;have hC:=nS l [dG no 9999] [known];simp only[po];generalize hc:eL l [dG no 9999] [known]=e at hC ⊢;by_cases he:e=0
 ·have hn:=nE he;subst he;have hok:=mi hc;have hF:=o9 l known hok;have hk:=pO (cC l 100000 known) no;cases hg:cW (cC l 100000 known) no with
  |none =>
   rw[hg] at hk;have R:=v6 @hn (v6 @hk (v6 @mg (v6 @pz (v6 @qp ep))))
   repeat' ((first |(with_reducible refine .guard (fun hb =>?_) (fun hb =>?_) <;>try simp only[hb])|refine J.aT (by decide +kernel) rfl fun K hK =>?_|refine .flat _ (hC) rfl ?_|refine .lead _ (hF) ?_|(refine .aH [0,1,2,6,7,8,9,18,30] hK ?_;clear hK K)|(with_reducible refine .done (hK _ ?_);clear hK K)|refine J.of rfl ?_|(with_reducible refine aq.aQ (fun h =>?_) (fun h =>?_) <;>try simp only[h])) <;>try simp only[aU,R,simprocAttr])
   all_goals clear R
  |some b =>
   rw[hg] at hk;have R:=v6 @hn (v6 @hk (v6 @mg (v6 @pz (v6 @qp ep))))
   repeat' ((first |(with_reducible refine .guard (fun hb =>?_) (fun hb =>?_) <;>try simp only[hb])|refine J.aT (by decide +kernel) rfl fun K hK =>?_|refine .flat _ (hC) rfl ?_|refine .lead _ (hF) ?_|(refine .aH [0,1,2,6,7,8,9,18,30] hK ?_;clear hK K)|(with_reducible refine .done (hK _ ?_);clear hK K)|refine J.of rfl ?_|(with_reducible refine aq.aQ (fun h =>?_) (fun h =>?_) <;>try simp only[h])) <;>try simp only[aU,R,simprocAttr])
   all_goals clear R
 ·have hn:=nF he;have R:=v6 @hn (v6 @he (v6 @mg (v6 @pz (v6 @qp ep))))
  repeat' ((first |(with_reducible refine .guard (fun hb =>?_) (fun hb =>?_) <;>try simp only[hb])|refine J.aT (by decide +kernel) rfl fun K hK =>?_|refine .flat _ (hC) rfl ?_|(refine .aH [0,1,2,6,7,8,9,18,30] hK ?_;clear hK K)|(with_reducible refine .done (hK _ ?_);clear hK K)|refine J.of rfl ?_|(with_reducible refine aq.aQ (fun h =>?_) (fun h =>?_) <;>try simp only[h])) <;>try simp only[aU,R,simprocAttr])
  all_goals clear R
def iY(x:av)(o:List av):List av:=(o.takeWhile fun a=>decide (a.day≤x.day))++x::o.dropWhile fun a=>decide (a.day≤x.day)
def NV(l:List av):List av:=l.foldl (fun o x=>iY x o) []
theorem ags(l:List av)(i:Nat)(o:List Nat):(iZ (fun i=>(af l i).day) i o).map (af l)=iY (af l i) (o.map (af l)):=by
 simp only[iZ,iY,zx6,zz9,List.takeWhile_map,List.dropWhile_map];rfl
theorem aiS(l:List av)(o:List Nat):(K7 (fun i=>(af l i).day) o).map (af l)=NV (o.map (af l)):=by
 have:∀ (o a:List Nat),(o.foldl (fun o i=>iZ (fun i=>(af l i).day) i o) a).map (af l)=(o.map (af l)).foldl (fun o x=>iY x o) (a.map (af l)):=by
  intro o
  induction o with
  |nil=>intro a;rfl
  |cons i o ih=>intro a;rw[List.foldl_cons,ih,ags];rfl
 exact this o []
theorem Jy(x:av):∀ o:List av,o.Pairwise (fun a b=>a.day≤b.day)→(iY x o).Pairwise (fun a b=>a.day≤b.day)
 | [],_=>by simp[iY]
 |a::o,h=>by
  obtain ⟨h1,h2⟩:=List.pairwise_cons.1 h;by_cases ha:a.day≤x.day
  ·have e:iY x (a::o)=a::iY x o:=by simp[iY,ha]
   rw[e];refine List.pairwise_cons.2 ⟨fun b hb =>?_,Jy x o h2⟩;have hb2:b∈(o.takeWhile fun a=>decide (a.day≤x.day))++x::o.dropWhile fun a=>decide (a.day≤x.day):=hb;rcases zy1.1 hb2 with h3 | h3
   ·exact h1 b ((List.takeWhile_sublist _).subset h3)
   ·rcases zw4.1 h3 with rfl | h3
    ·exact ha
    ·exact h1 b ((List.dropWhile_sublist _).subset h3)
  ·have e:iY x (a::o)=x::a::o:=by simp[iY,ha]
   rw[e];refine List.pairwise_cons.2 ⟨fun b hb =>?_,h⟩;rcases zw4.1 hb with rfl | hb
   ·omega
   ·have:=h1 b hb;omega
theorem Dp:∀ (B o:List av),o.Pairwise (fun a b=>a.day≤b.day)→(B.foldl (fun o y=>iY y o) o).Pairwise (fun a b=>a.day≤b.day)
 | [],_,h=>h
 |y::B,o,h=>Dp B _ (Jy y o h)
def uj(add:List aB→aB→List aB)(bs:List aB)(es:List av):List aB:=es.foldl (fun bs x=>(ea add bs x).getD bs) bs
theorem Lg(add:List aB→aB→List aB)(l:List av):∀ (o:List Nat) (s:List aB×List Nat),(o.foldl (lh add l) s).1=uj add s.1 (o.map (af l))
 | [],_=>rfl
 |i::o,s=>by
  rw[List.foldl_cons,Lg add l o];simp only[uj,zz9,List.foldl_cons,lh];cases ea add s.1 (af l i) <;>rfl
theorem ago(l:List av)(day known:Int):cC l day known=uj ev [] (NV ((jt l day known).map (af l))):=by
 rw[←aiS];exact Lg ev l (jE l day known) ([],[])
theorem Oj{b c:aB}{y:av}(h:eT b y=some c):c.no=b.no:=by
 simp only[eT] at h
 (repeat' split at h) <;>first | (cases h;done) | (cases h;rfl)
theorem aku(b:aB)(y:av):((eT b y).getD b).no=b.no:=by
 cases h:eT b y with
 |none=>rfl
 |some c=>exact Oj h
theorem Qo(add:List aB→aB→List aB){bs:List aB}(hd:(bs.map (·.no)).Nodup){y:av}(hk:¬(y.kind=1∨y.kind=2)) :
  (ea add bs y).getD bs=bs.map fun c=>if c.no=y.c9 then (eT c y).getD c else c:=by
 simp only[ea,if_neg hk];cases hg:cW bs y.c9 with
 |none =>
  have hn:=wU.1 hg;simp only[Option.getD_none]
  symm
  rw[List.map_congr_left (g:=id) fun c hc =>?_,List.map_id];rw[if_neg fun e=>hn (zx4.2 ⟨c,hc,e⟩)];rfl
 |some b =>
  obtain ⟨hb,hbn⟩:=oi hg;have huniq:∀ c∈bs,c.no=y.c9→c=b:=fun c hc e=>by
   have:=wV hd hc;rw[e,hg] at this;exact (Option.some.inj this).symm
  cases ht:eT b y with
  |none =>
   simp only[Option.map_none,Option.getD_none,ht]
   symm
   rw[List.map_congr_left (g:=id) fun c hc =>?_,List.map_id];by_cases e:c.no=y.c9
   ·rw[if_pos e,huniq c hc e,ht];rfl
   ·rw[if_neg e];rfl
  |some d =>
   have hdn:d.no=y.c9:=(Oj ht).trans hbn;simp only[ht,zy4,Option.getD_some,lb,hdn];refine List.map_congr_left fun c hc =>?_;by_cases e:c.no=y.c9
   ·rw[if_pos e,if_pos e,huniq c hc e,ht];rfl
   ·rw[if_neg e,if_neg e]
theorem akv(b:aB)(y:av):((eT b y).getD b).cM=b.cM:=by
 simp only[eT]
 (repeat' split) <;>rfl
theorem akt(b:aB)(y:av):((eT b y).getD b).cL=if y.kind=3∨y.kind=4∨y.kind=5 then b.cL else if b.cL≥0 then b.cL else y.day:=by
 simp only[eT]
 (repeat' split) <;>first | rfl | (exfalso;omega)
inductive im (bs:List aB) (no:Int):Int→Prop
 |self:im bs no no
 |qF {b:aB} : b∈bs→im bs no b.cz→im bs no b.no
theorem im.trans{bs:List aB}{a b c:Int}(h1:im bs a b)(h2:im bs b c):im bs a c:=by
 induction h2 with
 |self=>exact h1
 |qF hb _ ih=>exact .qF hb ih
noncomputable def vu(bs:List aB)(no y:Int):Bool:=@decide (im bs no y) (Classical.propDecidable _)
theorem vv{bs:List aB}{no y:Int} : vu bs no y=true↔im bs no y:=by simp[vu]
noncomputable def iD(bs:List aB)(no:Int):List Int:=dJ ((bs.filter fun b=>vu bs no b.no).map (·.no))
noncomputable def pN(l:List av)(no known:Int):List Int×Int:=if eL l [dG no 9999] [known]=0 then (match cW (cC l 100000 known) no with
 |none=>([],42)
 |some _=>(iD (cC l 100000 known) no,0)) else ([],eL l [dG no 9999] [known])
theorem ri{bs:List aB}{no y:Int} : y∈iD bs no↔y∈bs.map (·.no)∧im bs no y:=by
 simp only[iD];rw[(qg _).mem_iff,zx4];constructor
 ·rintro ⟨b,hb,rfl⟩;obtain ⟨h1,h2⟩:=zw9.1 hb;exact ⟨zx4.2 ⟨b,h1,rfl⟩,vv.1 h2⟩
 ·rintro ⟨h1,h2⟩;obtain ⟨b,hb,rfl⟩:=zx4.1 h1;exact ⟨b,zw9.2 ⟨hb,vv.2 h2⟩,rfl⟩
def dD(bs:List aB)(i:Nat):aB:=bs.getD i default
theorem qy{bs:List aB}{i:Nat}(h:i<bs.length):bs[i]=dD bs i:=by simp[dD,zz1,h]
theorem qz{bs:List aB}{i:Nat}(h:i<bs.length):dD bs i∈bs:=by rw[←qy h];exact zy9 h
theorem sk{bs:List aB}{b:aB}(h:b∈bs):∃ i,i<bs.length∧dD bs i=b:=by
 obtain ⟨i,hi,rfl⟩:=List.getElem_of_mem h;exact ⟨i,hi,(qy hi).symm⟩
def XH(d b:aB):Prop:=d.no=b.cz∧d.cM=b.cM∧d.born≤b.born∧¬(0≤d.cL∧d.cL<b.born)
structure iO (bs:List aB) (t:Int):Prop where
 fA:(bs.map (·.no)).Nodup
 cz:∀ j,j<bs.length→(dD bs j).cz=0∨∃ i,i<j∧XH (dD bs i) (dD bs j)
 no:∀ b∈bs,1≤b.no∧b.no≤9999∧b.born≤t
theorem iO.mono{bs:List aB}{t t':Int}(h:iO bs t)(ht:t≤t'):iO bs t':=⟨h.fA,h.cz,fun b hb=>by have:=h.no b hb;omega⟩
theorem air{x:av}(h:gi x=true)(hk:x.kind=1∨x.kind=2):1≤x.c9∧x.c9≤9999∧0≤x.cz∧(x.kind=2→x.cz=0):=by
 simp only[gi,zz2,decide_eq_true_eq] at h;obtain ⟨h1,h2,-⟩:=h;simp only[oc,if_neg (show ¬ x.kind=0 by omega),zz2,bS,decide_eq_true_eq] at h1;have hd:x.cz=(iQ x).cz:=congrArg av.cz h2;simp only[iQ] at hd;rcases hk with hk | hk
 ·rw[if_pos hk] at h1;simp only[zz2,decide_eq_true_eq] at h1;exact ⟨by omega,by omega,by omega,fun h=>by omega⟩
 ·rw[if_neg (by omega)] at hd;exact ⟨by omega,by omega,by omega,fun _=>hd⟩
theorem agZ{bs:List aB}{t:Int}(h:iO bs t){x:av}(hx:gi x=true)(h0:x.kind≠0)(ht:t≤x.day):iO ((ea ev bs x).getD bs) x.day:=by
 by_cases hk:x.kind=1∨x.kind=2
 ·obtain ⟨k1,k2,k3,k4⟩:=air hx hk;simp only[ea,if_pos hk];split
  ·rename_i hc;obtain ⟨hg,hdm⟩:=hc;have hlen:∀ i,i<bs.length→dD (bs++[eY x]) i=dD bs i:=fun i hi=>by
    simp only[dD,zz1,zy7 hi]
   refine ⟨?_,fun j hj =>?_,fun b hb =>?_⟩
   ·have:=z7 (add:=ev) (bs:=bs) (bs':=ev bs (eY x)) (x:=x) zS h.fA (by simp only[ea,if_pos hk,hg,hdm,and_self,if_true]);exact this
   ·simp only[Option.getD_some,ev,zz5,List.length_singleton] at hj ⊢;by_cases hj2:j<bs.length
    ·rw[hlen j hj2];rcases h.cz j hj2 with h1 | ⟨i,hi,h1⟩
     ·exact .inl h1
     ·exact .inr ⟨i,hi,by rw[hlen i (by omega)];exact h1⟩
    ·have hj3:j=bs.length:=by omega
     have hl:dD (bs++[eY x]) j=eY x:=by subst hj3;simp[dD]
     rw[hl];by_cases hz:x.cz=0
     ·exact .inl hz
     ·right
      have:¬ x.cz≤0:=by omega
      simp only[hX,decide_eq_false this,Bool.false_or] at hdm;cases hgd:cW bs x.cz with
      |none=>rw[hgd] at hdm;cases hdm
      |some d =>
       rw[hgd] at hdm;obtain ⟨hdm1,hdn⟩:=oi hgd;obtain ⟨i,hi,rfl⟩:=sk hdm1;simp only[zz2,Bool.not_eq_true',Bool.and_eq_false_iff,decide_eq_true_eq,decide_eq_false_iff_not] at hdm;refine ⟨i,by omega,?_⟩;rw[hlen i hi];have:=(h.no _ hdm1).2.2;refine ⟨hdn,hdm.1,by simp only[eY];omega,by simp only[eY];omega⟩
   ·simp only[Option.getD_some,ev] at hb;rcases zy1.1 hb with hb | hb
    ·have:=h.no b hb;omega
    ·simp only[zw5] at hb;subst hb;exact ⟨k1,k2,Int.le_refl _⟩
  ·exact h.mono ht
 ·rw[Qo ev h.fA hk];have hf:∀ b:aB,(if b.no=x.c9 then (eT b x).getD b else b).no=b.no∧(if b.no=x.c9 then (eT b x).getD b else b).cM=b.cM∧(if b.no=x.c9 then (eT b x).getD b else b).cz=b.cz∧(if b.no=x.c9 then (eT b x).getD b else b).born=b.born ∧
    ((if b.no=x.c9 then (eT b x).getD b else b).cL=b.cL∨(if b.no=x.c9 then (eT b x).getD b else b).cL=x.day):=fun b=>by
   split
   ·refine ⟨aku b x,akv b x,?_,?_,?_⟩
    ·simp only[eT];(repeat' split) <;>rfl
    ·simp only[eT];(repeat' split) <;>rfl
    ·rw[akt]
     (repeat' split) <;>first | exact .inl rfl | exact .inr rfl
   ·exact ⟨rfl,rfl,rfl,rfl,.inl rfl⟩
  generalize hF:(fun c:aB=>if c.no=x.c9 then (eT c x).getD c else c)=f;have hf2:∀ b,(f b).no=b.no∧(f b).cM=b.cM∧(f b).cz=b.cz∧(f b).born=b.born∧((f b).cL=b.cL∨(f b).cL=x.day):=fun b=>by rw[←hF];exact hf b
  clear hf hF;have hb:∀ i,i<bs.length→dD (bs.map f) i=f (dD bs i):=fun i hi=>by
   simp[dD,zz1,hi]
  refine ⟨?_,fun j hj =>?_,fun b hb =>?_⟩
  ·have e:(bs.map f).map (·.no)=bs.map (·.no):=by
    rw[List.map_map];exact List.map_congr_left fun b _=>(hf2 b).1
   rw[e];exact h.fA
  ·rw[zy2] at hj;rw[hb j hj,(hf2 _).2.2.1];rcases h.cz j hj with h1 | ⟨i,hi,h1,h2,h3,h4⟩
   ·exact .inl h1
   ·refine .inr ⟨i,hi,?_⟩;rw[hb i (by omega)];obtain ⟨a1,a2,a3,a4,a5⟩:=hf2 (dD bs i);obtain ⟨b1,b2,b3,b4,b5⟩:=hf2 (dD bs j);have:=(h.no _ (qz hj)).2.2;refine ⟨by rw[a1,b3,h1],by rw[a2,b2,h2],by rw[a4,b4];exact h3,?_⟩;rw[b4];rcases a5 with a5 | a5 <;>rw[a5]
    ·exact h4
    ·omega
  ·obtain ⟨b',hb',rfl⟩:=zx4.1 hb;obtain ⟨a1,a2,a3,a4,a5⟩:=hf2 b';have:=h.no b' hb';rw[a1,a4];omega
theorem JY:∀ (es:List av) {bs:List aB} {t:Int},iO bs t→(∀ e∈es,gi e=true∧e.kind≠0∧t≤e.day)→es.Pairwise (fun a b=>a.day≤b.day)→∃ t',iO (uj ev bs es) t'
 | [],_,t,h,_,_=>⟨t,h⟩
 |e::es,_,t,h,h1,h2=>by
  obtain ⟨k1,k2,k3⟩:=h1 e List.mem_cons_self;obtain ⟨p1,p2⟩:=List.pairwise_cons.1 h2;exact JY es (agZ h k1 k2 k3) (fun e' he=>⟨(h1 e' (List.mem_cons_of_mem _ he)).1,(h1 e' (List.mem_cons_of_mem _ he)).2.1,p1 e' he⟩) p2
theorem agr{x y:av}{o:List av} : y∈iY x o↔y=x∨y∈o:=by
 have e:y∈o↔y∈o.takeWhile (fun a=>decide (a.day≤x.day))∨y∈o.dropWhile (fun a=>decide (a.day≤x.day)):=by rw[←zy1,List.takeWhile_append_dropWhile]
 simp only[iY,zy1,zw4,e];constructor <;>rintro (h | h | h) <;>simp[h]
theorem Dn{y:av} : ∀ (l o:List av),y∈l.foldl (fun o x=>iY x o) o↔y∈l∨y∈o
 | [],o=>by simp
 |x::l,o=>by
  rw[List.foldl_cons,Dn l,agr,zw4];constructor
  ·rintro (h | h | h) <;>simp[h]
  ·rintro ((h | h) | h) <;>simp[h]
theorem agn{l:List av}(hok:dU l=true)(day known:Int):∃ t,iO (cC l day known) t:=by
 rw[ago];refine JY _ (t:=0) ⟨List.nodup_nil,fun j hj=>absurd hj (Nat.not_lt_zero _),fun b hb=>by cases hb⟩ (fun e he =>?_) (Dp _ _ List.Pairwise.nil);have he:=((Dn _ _).1 he).resolve_right (by simp);obtain ⟨i,hi,rfl⟩:=zx4.1 he;simp only[jt,zw9,zz2,decide_eq_true_eq,eJ,zx5] at hi;have hil:i<l.length:=hi.1.1;have hoe:=(tH.1 hok).2.1 (af l i) (by rw[←lG hil];exact zy9 hil);refine ⟨hoe,hi.2.1,?_⟩;simp only[gi,zz2,bS,decide_eq_true_eq] at hoe;omega
theorem iO.one{bs:List aB}{t:Int}(h:iO bs t){i j:Nat}(hi:i<bs.length)(hj:j<bs.length)(e:(dD bs i).no=(dD bs j).no):i=j:=by
 have hp:=List.pairwise_iff_getElem.1 h.fA;have key:∀ i j,i<j→j<bs.length→(dD bs i).no≠(dD bs j).no:=fun i j hij hj=>by
  have:=hp i j (by simp;omega) (by simpa using hj) hij;rw[List.getElem_map,List.getElem_map,qy hj,qy (show i<bs.length by omega)] at this;exact this
 rcases Nat.lt_trichotomy i j with hl | hl | hl
 ·exact absurd e (key i j hl hj)
 ·exact hl
 ·exact absurd e.symm (key j i hl hi)
theorem iO.sA{bs:List aB}{t:Int}(h:iO bs t){i:Nat}(hi:i<bs.length){y:Int}(hd:im bs (dD bs i).no y):∃ j,j<bs.length∧(dD bs j).no=y∧i≤j∧(dD bs j).cM=(dD bs i).cM∧(dD bs i).born≤(dD bs j).born:=by
 induction hd with
 |self=>exact ⟨i,hi,rfl,zz7 _,rfl,Int.le_refl _⟩
 | @qF b hb _ ih =>
  obtain ⟨j,hj,e,h1,h2,h3⟩:=ih;obtain ⟨k,hk,rfl⟩:=sk hb;rcases h.cz k hk with h4 | ⟨d,hd,h5,h6,h7,-⟩
  ·have:=(h.no _ (qz hj)).1;rw[e,h4] at this;omega
  ·have hdj:d=j:=h.one (by omega) hj (by rw[h5,e]);subst hdj;exact ⟨k,hk,rfl,by omega,by rw[←h6,h2],by omega⟩
theorem iO.XI{bs:List aB}{t:Int}(h:iO bs t){i:Nat}(hi:i<bs.length)(h0:(dD bs i).cz≠0):¬ im bs (dD bs i).no (dD bs i).cz:=fun hd=>by
 obtain ⟨j,hj,e,h1,-⟩:=h.sA hi hd;rcases h.cz i hi with h2 | ⟨d,hd,h5,-⟩
 ·exact h0 h2
 ·have:d=j:=h.one (by omega) hj (by rw[h5,e]);omega
def m0(bs:List aB)(S T:List Int)(no:Int):Prop:=(∀ x∈S,x∈T)∧no∈T∧(∀ x∈T,x∈S∨im bs no x)∧∀ x∈T,x∈S∨∀ i,i<bs.length→(dD bs i).cz=x→(dD bs i).no∈T
def kb(bs:List aB)(S T:List Int)(no:Int)(aH:List Nat):Prop:=(∀ x∈S,x∈T)∧no∈T∧(∀ x∈T,x∈S∨im bs no x)∧(∀ x∈T,x∈S∨x=no∨∀ i,i<bs.length→(dD bs i).cz=x→(dD bs i).no∈T)∧∀ i∈aH,(dD bs i).cz=no→(dD bs i).no∈T
theorem m0.self{bs:List aB}{S:List Int}{no:Int}(h:no∈S):m0 bs S S no:=⟨fun _ h=>h,h,fun _ h=>.inl h,fun _ h=>.inl h⟩
theorem kb.zero(bs:List aB)(S:List Int)(no:Int):kb bs S (S++[no]) no [] :=
 ⟨fun x h=>by simp[h],by simp,fun x h=>by
  rcases zy1.1 h with h | h
  ·exact .inl h
  ·rw[zw5.1 h];exact .inr .self,fun x h=>by
  rcases zy1.1 h with h | h
  ·exact .inl h
  ·exact .inr (.inl (zw5.1 h)),by simp⟩
theorem kb.skip{bs:List aB}{S T:List Int}{no:Int}{aH:List Nat}(h:kb bs S T no aH){i:Nat}(hd:(dD bs i).cz≠no):kb bs S T no (aH++[i]) :=
 ⟨h.1,h.2.1,h.2.2.1,h.2.2.2.1,fun j hj hj2=>by
  rcases zy1.1 hj with hj | hj
  ·exact h.2.2.2.2 j hj hj2
  ·rw[zw5.1 hj] at hj2;exact absurd hj2 hd⟩
theorem kb.step{bs:List aB}{S T U:List Int}{no:Int}{aH:List Nat}(h:kb bs S T no aH){i:Nat}(hi:i<bs.length)(hd:(dD bs i).cz=no)(hf:m0 bs T U (dD bs i).no):kb bs S U no (aH++[i]):=by
 obtain ⟨h1,h2,h3,h4,h5⟩:=h;obtain ⟨f1,f2,f3,f4⟩:=hf;refine ⟨fun x hx=>f1 x (h1 x hx),f1 _ h2,fun x hx =>?_,fun x hx =>?_,fun j hj hj2 =>?_⟩
 ·rcases f3 x hx with h | h
  ·exact h3 x h
  ·exact .inr (im.trans (.qF (qz hi) (by rw[hd];exact .self)) h)
 ·rcases f4 x hx with h | h
  ·rcases h4 x h with h | h | h
   ·exact .inl h
   ·exact .inr (.inl h)
   ·exact .inr (.inr fun j hj hj2=>f1 _ (h j hj hj2))
  ·exact .inr (.inr h)
 ·rcases zy1.1 hj with hj | hj
  ·exact f1 _ (h5 j hj hj2)
  ·rw[zw5.1 hj];exact f2
theorem kb.done{bs:List aB}{S T:List Int}{no:Int}{aH:List Nat}(h:kb bs S T no aH)(hp:aH.Perm (List.range bs.length)):m0 bs S T no:=by
 obtain ⟨h1,h2,h3,h4,h5⟩:=h;refine ⟨h1,h2,h3,fun x hx =>?_⟩;rcases h4 x hx with h | h | h
 ·exact .inl h
 ·exact .inr fun i hi hd=>h5 i (hp.mem_iff.2 (zx5.2 hi)) (hd.trans h)
 ·exact .inr h
theorem m0.sA{bs:List aB}{T:List Int}{no:Int}(h:m0 bs [] T no)(y:Int):y∈T↔im bs no y:=by
 obtain ⟨h1,h2,h3,h4⟩:=h;constructor
 ·intro hy;exact (h3 y hy).resolve_left (by simp)
 ·intro hy
  induction hy with
  |self=>exact h2
  |qF hb _ ih =>
   obtain ⟨i,hi,rfl⟩:=sk hb;exact (h4 _ ih).resolve_left (by simp) i hi rfl
def rem(bs:List aB)(S:List Int):Nat:=bs.countP fun b=>decide (b.no∉S)
theorem yx{bs:List aB}{S T:List Int}(h:∀ x∈S,x∈T):rem bs T≤rem bs S:=by
 refine List.countP_mono_left fun b _ hb =>?_;simp only[decide_eq_true_eq] at hb ⊢;exact fun h2=>hb (h _ h2)
theorem ajp{bs:List aB}{S:List Int}{no:Int}(h1:no∈bs.map (·.no))(h2:no∉S):rem bs (S++[no])<rem bs S:=by
 obtain ⟨b,hb,rfl⟩:=zx4.1 h1;obtain ⟨C,D,rfl⟩:=List.append_of_mem hb;have k1:rem C (S++[b.no])≤rem C S:=yx fun x hx=>by simp[hx]
 have k2:rem D (S++[b.no])≤rem D S:=yx fun x hx=>by simp[hx]
 have k3:decide (b.no∉S++[b.no])=false:=by simp
 have k4:decide (b.no∉S)=true:=by simp[h2]
 simp only[rem,List.countP_append,List.countP_cons,k3,k4] at k1 k2 ⊢;simp only[zz6,if_false,if_true];omega
def eW(bs:List aB)(S:List Int):List (Nat×ai):=[(1000000,.box (.mref 1000003)),(1000001,.box (fm bs)),(1000002,.box (.func 95 [.ptr 1000000 [],.ptr 1000001 [],.ptr 1000002 []])),(1000003,.cv (S.map enc) (List.replicate S.length (.bool true)))]
def qQ(bs:List aB)(S:List Int)(no:Int):cT:=fun r os'=>r=je []∧∃ T,os'=eW bs T∧m0 bs S T no
theorem YQ{bs:List aB}{S:List Int} : ∀ m,al (eW bs S) m=true→1000000≤m:=fun m hm=>by
 simp only[eW,al,ak] at hm
 (repeat' split at hm) <;>first | omega | (simp at hm;done)
theorem hZ{bs:List aB}{S:List Int}{m:Nat} : al (eW bs S) m=decide (1000000≤m∧m≤1000003):=by
 simp only[eW,al,ak]
 (repeat' split) <;>simp <;>omega
theorem og{bs:List aB}{S T:List Int}{n:Nat}{x:ai}(h:ak (eW bs T) n=some x):x.only (al (eW bs S))=true∧x.eG=true:=by
 simp only[eW,ak] at h
 (repeat' split at h) <;>first
  |(cases h;done)
  |(cases h;simp[ai.only,I.only,I.bU,hZ,ai.eG,iA,ej,tL])
theorem YR{bs:List aB}{S:List Int}{os0:List (Nat×ai)}(h:∀ n,al (eW bs S) n=true→ak os0 n=ak (eW bs S) n):fZ [] (eW bs S) os0:=by
 refine ⟨fun m x hx=>⟨?_,og hx⟩,fun m m' _ _ e=>e⟩;rw[show bx [] m=m from rfl,h m (by simp[al,hx])];simp only[eW,ak] at hx ⊢
 (repeat' split at hx) <;>first
  |(cases hx;done)
  |(cases hx;simp_all[ai.aK,I.aK,I.cJ,bx,gM,ud,mO _ (fm bs) (iA.1 bs)])
theorem Nr{ts:List (Nat×I)}{os os':List (Nat×ai)}{bs:List aB}{T:List Int}{post:cT}(e:os'=eW bs T)(ho:∀ n,al os' n=true→ak os n=ak os' n)(hp:post (je []) os'):kF [] post (au ts os):=by
 subst e;refine ⟨eW bs T,[],fun n x hx=>⟨?_,og hx⟩,trivial,hp⟩
 show ak os n=some x
 rw[ho n (by simp[al,hx])];exact hx
theorem UJ(l:List av)(no known:Int):eL l [dG no 9999] [known]=if dU l then (if bS 1 9999 no then (if !bS 0 100000 known then 6 else 0) else 1) else 41:=by
 have e1:(dG no 9999).g 0=no:=rfl;have e2:(dG no 9999).g 1=9999:=rfl;simp only[eL,List.all_cons,List.all_nil,e1,e2,List.any_cons,List.any_nil,Bool.or_false,Bool.and_true]
theorem JZ(bs:List aB)(no:Int):(iD bs no).length≤bs.length:=by
 simp only[iD];rw[(qg _).length_eq,zy2];exact zv4 _ _
theorem ag0{bs:List aB}{t:Int}(h:iO bs t){no:Int}{b:aB}(hb:cW bs no=some b) :
  no∈iD bs no∧(b.cz=0∨b.cz∉iD bs no)∧∀ y∈iD bs no,∃ c,cW bs y=some c∧c.no=y∧c.cM=b.cM∧b.born≤c.born∧¬(c.cz=no∧0≤b.cL∧b.cL<c.born)∧∀ z∈iD bs y,z∈iD bs no:=by
 obtain ⟨hbm,hbn⟩:=oi hb;have hno:no∈bs.map (·.no):=zx4.2 ⟨b,hbm,hbn⟩;obtain ⟨i,hi,rfl⟩:=sk hbm;subst hbn;refine ⟨ri.2 ⟨hno,.self⟩,?_,fun y hy =>?_⟩
 ·by_cases h0:(dD bs i).cz=0
  ·exact .inl h0
  ·exact .inr fun hm=>h.XI hi h0 (ri.1 hm).2
 ·obtain ⟨hym,hyd⟩:=ri.1 hy;obtain ⟨j,hj,rfl,_,h2,h3⟩:=h.sA hi hyd;refine ⟨dD bs j,wV h.fA (qz hj),rfl,h2,h3,?_,fun z hz =>?_⟩
  ·rintro ⟨k1,k2,k3⟩;rcases h.cz j hj with h4 | ⟨d,hd,h5,_,_,h6⟩
   ·have:=(h.no _ (qz hi)).1;rw[←k1,h4] at this;omega
   ·have:d=i:=h.one (by omega) hi (by rw[h5,k1]);subst this;exact h6 ⟨k2,k3⟩
  ·obtain ⟨z1,z2⟩:=ri.1 hz;exact ri.2 ⟨z1,hyd.trans z2⟩
theorem Qs{l:List av}(hok:dU l=true){K:Int}(hK:bS 0 100000 K=true){no:Int}(hn:bS 1 9999 no=true) :
  (cW (cC l 100000 K) no=none→pN l no K=([],42)∧po l no K=(sr,42))∧∀ b,cW (cC l 100000 K) no=some b→pN l no K=(iD (cC l 100000 K) no,0)∧po l no K=(b,0):=by
 have hc:eL l [dG no 9999] [K]=0:=by rw[UJ,hok,hn,hK];rfl
 refine ⟨fun h =>?_,fun b h =>?_⟩ <;>simp only[pN,po,hc,h,if_true,and_self]
theorem agV{n i:Nat}{aH left:List Nat}(hC:(aH++left).Perm (List.range n))(hi:i∈left):(left.filter (· != i)).length<left.length∧((aH++[i])++left.filter (· != i)).Perm (List.range n):=by
 refine ⟨?_,?_⟩
 ·rcases Nat.lt_or_ge (left.filter (· != i)).length left.length with h | h
  ·exact h
  ·have:=List.filter_eq_self.1 (List.Sublist.eq_of_length_le List.filter_sublist h) i hi;simp at this
 have hnd:left.Nodup:=(List.nodup_append.1 (hC.nodup_iff.2 List.nodup_range)).2.1;have h1:left.Perm (i::left.filter (· != i)):=by
  have h2:(left.filter (· == i)).length=1:=by
   have:=List.nodup_iff_count.1 hnd i;have h3:=List.count_pos_iff.2 hi;have h4:left.count i=(left.filter (· == i)).length:=by rw[List.count,List.countP_eq_length_filter]
   omega
  have h5:left.filter (· == i)=[i]:=by
   obtain ⟨a,ha⟩:=List.length_eq_one_iff.1 h2;have:a∈left.filter (· == i):=by rw[ha];simp
   have:=(zw9.1 this).2;simp at this;rw[ha,this]
  have h6:=(List.filter_append_perm (· == i) left).symm;rw[h5] at h6;exact h6
 refine List.Perm.trans ?_ hC;rw[zz3];exact (h1.symm).append_left aH
def uR(bs:List aB)(no:Int)(s:List Int×List Nat×List Nat×Option Nat):ae :=
 au [(0,.int .i64 no),(1,.ptr 1000000 []),(2,.ptr 1000001 []),(3,.ptr 1000002 []),(16,.dv 16)] ((16,.it (dc bs) (bs.map fun b=>.ref (enc (⟨b⟩:er))) s.2.2.1 s.2.2.2)::eW bs s.1)
theorem zM(bs:List aB)(S:List Int)(no:Int)(hno:no∈bs.map (·.no))(ih:∀ T no',rem bs T<rem bs S→no'∈bs.map (·.no)→cD Tryz.prog 95 [enc no',.ptr 1000000 [],.ptr 1000001 [],.ptr 1000002 []] (eW bs T) (qQ bs T no')) :
  cD Tryz.prog 95 [enc no,.ptr 1000000 [],.ptr 1000001 [],.ptr 1000002 []] (eW bs S) (qQ bs S no):=by
 refine cD.bA Tryz.func95 SM UE WJ (t7 rfl) (t7 rfl) YQ (fun hwf W0 D0 E1 =>?_);simp only[B9,M6,bp,zz4,Nat.reduceAdd];clear hwf;have hlk:=xA pA no S;rw[gT] at hlk;by_cases hS:no∈S
 ·have hd:decide (no∈S)=true:=decide_eq_true hS;simp only[eW];have R:=v6 @hlk (v6 @hd (v6 @fM (v6 @dW (v6 @dT (v6 @aZ @ab)))))
  repeat' ((first |(with_reducible refine .guard (fun hb =>?_) (fun hb =>?_) <;>try simp only[hb])|refine J.aT (by decide +kernel) rfl fun K hK =>?_|(refine .aH [0,1,2,3,5,6,9,16,18,28] hK ?_;clear hK K)|(with_reducible refine .done (hK _ ?_);clear hK K)|refine J.of rfl ?_|(with_reducible refine aq.aQ (fun h =>?_) (fun h =>?_) <;>try simp only[h])) <;>try simp only[aU,R,simprocAttr])
  all_goals clear R
  exact Nr rfl (fun n hn=>rfl) ⟨rfl,S,rfl,m0.self hS⟩
 have hd:decide (no∈S)=false:=decide_eq_false hS;have hup:=Kn pA no S;rw[gT] at hup;have hadd:lu S no=S++[no]:=by simp[lu,hS]
 rw[hadd] at hup;have hrem:=ajp hno hS;have hF0:=kb.zero bs S no;simp only[eW];have R:=v6 @hlk (v6 @hd (v6 @hup (v6 @fM (v6 @dW (v6 @iA (v6 @dT (v6 @aZ @ab)))))))
 repeat' ((first |(with_reducible refine .guard (fun hb =>?_) (fun hb =>?_) <;>try simp only[hb])|refine J.aT (by decide +kernel) rfl fun K hK =>?_|(refine .aH [0,1,2,3,5,6,9,16,18,28] hK ?_;clear hK K)|(with_reducible refine .done (hK _ ?_);clear hK K)|refine J.of rfl ?_|(with_reducible refine aq.aQ (fun h =>?_) (fun h =>?_) <;>try simp only[h])) <;>try simp only[aU,R,simprocAttr])
 all_goals clear R
 refine J.loop (uR bs no) (fun s=>kb bs S s.1 no s.2.1∧(s.2.1++s.2.2.1).Perm (List.range bs.length)) (fun s=>s.2.2.1.length) (S++[no],[],List.range bs.length,none) ⟨hF0,by simp⟩ ?_ ?_
 ·simp only[uR,eW];refine aF.c8 ?_ (fun n =>?_)
  ·simp[aX,aY]
  ·simp only[cu,oy,dc,zy2]
   (repeat' split) <;>simp_all
 rintro ⟨T,aH,left,cur⟩ ⟨hA,hC⟩;simp only at hA hC;have hT1:=hA.1;simp only[uR,eW];by_cases hl:left=[]
 ·subst hl;have hF:=hA.done (by simpa using hC);refine .ao (by decide +kernel) fun K hK =>?_;simp only[wP,ab,simprocAttr]
  try simp only[dT,Kt,ab,simprocAttr]
  refine .done (hK _ ?_);clear hK K;refine J.seq ?_;refine J.bH ?_;simp only[aq,ab,simprocAttr];refine ⟨fun h =>?_,fun h =>?_⟩
  case refine_1=>cases h
  refine J.exit ?_;try simp only[ar,bL,simprocAttr]
  rw[kW];exact Nr rfl (fun n hn=>by
   rw[hZ] at hn;simp only[decide_eq_true_eq] at hn;simp only[eW,ak];rw[if_neg (by omega)]) ⟨rfl,T,rfl,hF⟩
 ·refine .ao (by decide +kernel) fun K hK =>?_;simp only[wP,ab,simprocAttr]
  try simp only[dT,ab,simprocAttr]
  refine bj.iF hl fun i hi =>?_;have hib:i<bs.length:=zx5.1 (hC.mem_iff.1 (by simp[hi]));refine ⟨enc (bs[i]).no,.ref (enc (⟨bs[i]⟩:er)),by simp[dc,hib],by simp[hib],?_⟩;obtain ⟨hm,hC2⟩:=agV hC hi;have hent:ni (dc bs) (bs.map fun b=>.ref (enc (⟨b⟩:er))) (some i)=some (.tuple [.int .i64 (bs[i]).no,.ref (enc (⟨bs[i]⟩:er))]):=by
   simp[ni,dc,hib,gT]
  have hbi:=qy hib;have hmem:(bs[i]).no∈bs.map (·.no):=zx4.2 ⟨_,zy9 hib,rfl⟩
  try simp only[ab,simprocAttr]
  refine .done (hK _ ?_);clear hK K;refine J.seq ?_;refine J.bH ?_;simp only[aq,ab,simprocAttr];refine ⟨fun h =>?_,fun h =>?_⟩
  case refine_2=>cases h
  refine J.skip ?_;try simp only[ar,simprocAttr]
  refine J.block ?_;rcases q:((bs[i]).cz==no)
  ·have hq:(dD bs i).cz≠no:=by rw[←hbi];simpa using q
   have R:=v6 @hent (v6 @q (v6 @fM (v6 @dW (v6 @iA (v6 @dT (v6 @aZ @ab))))))
   repeat' ((first |(with_reducible refine .guard (fun hb =>?_) (fun hb =>?_) <;>try simp only[hb])|refine J.aT (by decide +kernel) rfl fun K hK =>?_|(refine .aH [0,1,2,3,5,6,9,16,18,28] hK ?_;clear hK K)|(with_reducible refine .done (hK _ ?_);clear hK K)|refine J.of rfl ?_|(with_reducible refine aq.aQ (fun h =>?_) (fun h =>?_) <;>try simp only[h])) <;>try simp only[aU,R,simprocAttr])
   all_goals clear R
   refine ⟨(T,aH++[i],left.filter (· != i),some i),⟨hA.skip hq,hC2⟩,hm,?_⟩;simp only[];refine aF.c8 ?_ (fun n =>?_)
   ·simp[aX,aY]
   ·simp only[cu,oy];(repeat' split) <;>simp_all
  ·have hq:(dD bs i).cz=no:=by rw[←hbi];simpa using q
   have hU:=ih T (bs[i]).no (Nat.lt_of_le_of_lt (yx (S:=S++[no]) fun x hx=>(zy1.1 hx).elim (hA.1 x) fun h=>by rw[zw5.1 h];exact hA.2.1) hrem) hmem;have R:=v6 @hent (v6 @q (v6 @fM (v6 @dW (v6 @iA (v6 @dT (v6 @aZ @ab))))))
   repeat' ((first |(with_reducible refine .guard (fun hb =>?_) (fun hb =>?_) <;>try simp only[hb])|refine J.aT (by decide +kernel) rfl fun K hK =>?_|(refine .aH [0,1,2,3,5,6,9,16,18,28] hK ?_;clear hK K)|(with_reducible refine .done (hK _ ?_);clear hK K)|refine J.of rfl ?_|(with_reducible refine aq.aQ (fun h =>?_) (fun h =>?_) <;>try simp only[h])) <;>try simp only[aU,R,simprocAttr])
   all_goals clear R
   simp only[zy0,zy6];refine .bT false [] (eW bs T) [enc (bs[i]).no,.ptr 1000000 [],.ptr 1000001 [],.ptr 1000002 []] (qQ bs T (bs[i]).no) rfl hU (YR fun n hn=>by
    rw[hZ,decide_eq_true_eq] at hn;simp only[eW,ak];rw[if_neg (by omega),if_neg (by omega)]) ⟨.inl ⟨rfl,rfl,rfl⟩,.inl ⟨rfl,by simp[I.only,hZ],rfl⟩,.inl ⟨rfl,by simp[I.only,hZ],rfl⟩,.inl ⟨rfl,by simp[I.only,hZ],rfl⟩,trivial⟩ ?_ ?_
   ·rintro r os' ⟨rfl,U,rfl,-⟩;exact ⟨fun m x hx=>⟨(og (S:=U) hx).1,(og (S:=U) hx).2,fun h=>by cases h⟩,fun m m' _ _ e=>e,fun m hm=>by rw[hZ] at hm ⊢;exact hm,fun m h1 h2=>(by rw[hZ] at h1 h2;rw[h1] at h2;cases h2),rfl,fun h=>by cases h⟩
   rintro r os' ⟨rfl,U,rfl,hf⟩;have hA2:=hA.step hib hq (by rw[←hbi];exact hf);have hrh:=fun ρ=>mO ρ (fm bs) (iA.1 bs)
   try simp only[dH,eW,zz9,zx1,ai.aK,I.aK,I.cJ,bx,gM,ud,hrh,zy0,zy6,je,ab,simprocAttr]
   refine .done (hK _ ?_);clear hK K;have R:=v6 @fM (v6 @dW (v6 @dT (v6 @aZ @ab)))
   repeat' ((first |(with_reducible refine .guard (fun hb =>?_) (fun hb =>?_) <;>try simp only[hb])|refine J.aT (by decide +kernel) rfl fun K hK =>?_|(refine .aH [0,1,2,3,5,6,9,16,18,28] hK ?_;clear hK K)|(with_reducible refine .done (hK _ ?_);clear hK K)|refine J.of rfl ?_|(with_reducible refine aq.aQ (fun h =>?_) (fun h =>?_) <;>try simp only[h])) <;>try simp only[aU,R,simprocAttr])
   all_goals clear R
   refine ⟨(U,aH++[i],left.filter (· != i),some i),⟨hA2,hC2⟩,hm,?_⟩;simp only[];refine aF.c8 ?_ (fun n =>?_)
   ·simp[aX,aY]
   ·simp only[cu,oy];(repeat' split) <;>simp_all
theorem zL(bs:List aB):∀ (k:Nat) (S:List Int) (no:Int),rem bs S≤k→no∈bs.map (·.no)→cD Tryz.prog 95 [enc no,.ptr 1000000 [],.ptr 1000001 [],.ptr 1000002 []] (eW bs S) (qQ bs S no)
 |0,S,no,hk,hno=>zM bs S no hno fun T no' h _=>absurd h (by omega)
 |k+1,S,no,hk,hno=>zM bs S no hno fun T no' h hn'=>zL bs k T no' (by omega) hn'
theorem PQ(S:List Int)(b:aB):aD Tryz.prog 96 [.ref (enc (⟨b⟩:er)),.ref (.cI (S.map enc) (List.replicate S.length (.bool true)))] (enc (decide (b.no∈S))):=by
 have hlk:=xA pA b.no S;rw[gT] at hlk;refine aD.bA Tryz.func96 SN UF WK (t7 rfl) (fun hwf W0 D0 E1 =>?_);simp only[Ca,M7,bp,zz4];clear hwf;have R:=v6 @hlk ep
 repeat' ((first |(with_reducible refine .guard (fun hb =>?_) (fun hb =>?_) <;>try simp only[hb])|refine J.aT (by decide +kernel) rfl fun K hK =>?_|(refine .aH [0,1,3] hK ?_;clear hK K)|(with_reducible refine .done (hK _ ?_);clear hK K)|refine J.of rfl ?_|(with_reducible refine aq.aQ (fun h =>?_) (fun h =>?_) <;>try simp only[h])) <;>try simp only[aU,R,simprocAttr])
 all_goals clear R
theorem UY(n:Nat):I.bW (List.replicate n (.bool true))=true:=by
 induction n with
 |zero=>rfl
 |succ n ih=>simp only[List.replicate_succ,I.bW,I.bn,ih,zw3]
theorem Kc(A:ae)(k:Nat):∀ n,fy (dK A (k+1)) (List.replicate n (.bool true))=some (List.replicate n (.bool true))
 |0=>rfl
 |n+1=>by
  have h:dK A (k+1) (.bool true)=some (.bool true):=by simp[dK,I.bn]
  simp only[List.replicate_succ,fy,h,Kc A k n]
theorem YJ{A:ae}{S:List Int}(h10:A.o 10=some (.box (.mref 32)))(h32:A.o 32=some (.cv (S.map enc) (List.replicate S.length (.bool true)))):a7 true A (.ptr 10 [])=some (.ref (.cI (S.map enc) (List.replicate S.length (.bool true)))):=by
 have h5:dK A 9 (.mref 32)=some (.cI (S.map enc) (List.replicate S.length (.bool true))):=by
  rw[dK];simp only[I.bn,zz6,if_false,h32];rw[if_pos (jP _),Kc];rfl
 simp only[a7,cB,h10,if_true,hT,I.bn,zz6,if_false,h5];rfl
def rJ:List (Nat×Nat):=[(1000000,10),(1000001,9),(1000002,11),(1000003,32)]
theorem Ns{a b:Nat}(ha:1000000≤a∧a≤1000003)(hb:1000000≤b∧b≤1000003)(h:bx rJ a=bx rJ b):a=b:=by
 rcases (by omega:a=1000000∨a=1000001∨a=1000002∨a=1000003) with rfl | rfl | rfl | rfl <;>rcases (by omega:b=1000000∨b=1000001∨b=1000002∨b=1000003) with rfl | rfl | rfl | rfl <;>first | rfl | (exact absurd h (by decide))
theorem NY :
  (∀ (bs:List aB) (A:ae) n b rest,dC A none n [] b (fm bs) rest (some .nilp)=ay rest (A.aL n (.box (fm bs))))∧(∀ (A:ae) n b m rest,dC A none n [] b (.mref m) rest (some (.raw (.map none)))=ay rest (A.aL n (.box (.mref m)))) ∧
  (∀ (A:ae) n b f xs rest,dC A none n [] b (.func f xs) rest (some .df)=ay rest (A.aL n (.box (.func f xs)))) :=
 ⟨fun bs A n b rest=>by rw[eg (s:=none) (v:=fm bs) (old:=.nilp) rfl rfl rfl,fv],fun A n b m rest=>by rw[eg (s:=none) (v:=.mref m) (old:=.raw (.map none)) rfl rfl rfl,fv],fun A n b f xs rest=>by rw[eg (s:=none) (v:=.func f xs) (old:=.df) rfl rfl rfl,fv]⟩
theorem zG(l:List av)(no known:Int):aD Tryz.prog 32 [enc l,enc no,enc known] (.tuple [enc (pN l no known).1,enc (pN l no known).2]):=by
 have hC:=nS l [dG no 9999] [known];refine aD.bA Tryz.func32 Sj Uc Wg (t7 rfl) (fun hwf W0 D0 E1 =>?_);simp only[BG,MC,bp,zz4,Nat.reduceAdd];clear hwf;simp only[pN];generalize hc:eL l [dG no 9999] [known]=e at hC ⊢;by_cases he:e=0
 case neg =>
  have hn:=nF he;have R:=v6 @hn (v6 @he (v6 @mg ep))
  repeat' ((first |(with_reducible refine .guard (fun hb =>?_) (fun hb =>?_) <;>try simp only[hb])|refine J.aT (by decide +kernel) rfl fun K hK =>?_|refine .flat _ (hC) rfl ?_|(refine .aH [0,1,2,6,7,8,9,10,11,20,31] hK ?_;clear hK K)|(with_reducible refine .done (hK _ ?_);clear hK K)|refine J.of rfl ?_|(with_reducible refine aq.aQ (fun h =>?_) (fun h =>?_) <;>try simp only[h])) <;>try simp only[aU,R,simprocAttr])
  all_goals clear R
  all_goals rfl
 have hn:=nE he;subst he;have hok:=mi hc;have hF:=o9 l known hok;obtain ⟨hnd,hbl,-⟩:=oo hok 100000 known;have hlk:=pO (cC l 100000 known) no;generalize cC l 100000 known=bs at hF hnd hbl hlk ⊢;cases hg:cW bs no with
 |none =>
  rw[hg] at hlk;have R:=v6 @hn (v6 @hlk (v6 @mg (v6 @NY (v6 @jY ep))))
  repeat' ((first |(with_reducible refine .guard (fun hb =>?_) (fun hb =>?_) <;>try simp only[hb])|refine J.aT (by decide +kernel) rfl fun K hK =>?_|refine .flat _ (hC) rfl ?_|refine .lead _ (hF) ?_|(refine .aH [0,1,2,6,7,8,9,10,11,20,31] hK ?_;clear hK K)|(with_reducible refine .done (hK _ ?_);clear hK K)|refine J.of rfl ?_|(with_reducible refine aq.aQ (fun h =>?_) (fun h =>?_) <;>try simp only[h])) <;>try simp only[aU,R,simprocAttr])
  all_goals clear R
  all_goals rfl
 |some b =>
  rw[hg] at hlk;have hall:([I.ptr 10 [],I.ptr 9 [],I.ptr 11 []].all fun y=>y.b8)=true:=rfl;have R:=v6 @hn (v6 @hlk (v6 @mg (v6 @NY (v6 @hall (v6 @jY ep)))))
  repeat' ((first |(with_reducible refine .guard (fun hb =>?_) (fun hb =>?_) <;>try simp only[hb])|refine J.aT (by decide +kernel) rfl fun K hK =>?_|refine .flat _ (hC) rfl ?_|refine .lead _ (hF) ?_|(refine .aH [0,1,2,6,7,8,9,10,11,20,31] hK ?_;clear hK K)|(with_reducible refine .done (hK _ ?_);clear hK K)|refine J.of rfl ?_|(with_reducible refine aq.aQ (fun h =>?_) (fun h =>?_) <;>try simp only[h])) <;>try simp only[aU,R,zy0,simprocAttr])
  all_goals clear R
  have hmem:no∈bs.map (·.no):=by
   obtain ⟨h1,h2⟩:=oi hg;exact zx4.2 ⟨b,h1,h2⟩
  refine .bT false rJ (eW bs []) [enc no,.ptr 1000000 [],.ptr 1000001 [],.ptr 1000002 []] (qQ bs [] no) rfl (zL bs _ [] no (zz7 _) hmem) ⟨fun m x hx=>⟨?_,og hx⟩,fun a c ha hc h=>Ns (by simpa[hZ] using ha) (by simpa[hZ] using hc) h⟩ ⟨.inl ⟨rfl,rfl,rfl⟩,.inl ⟨rfl,by simp[I.only,hZ],rfl⟩,.inl ⟨rfl,by simp[I.only,hZ],rfl⟩,.inl ⟨rfl,by simp[I.only,hZ],rfl⟩,trivial⟩ ?_ ?_
  ·simp only[eW,ak] at hx
   (repeat' split at hx) <;>first
    |(cases hx;done)
    |(cases hx;subst_vars;simp[rJ,ak,ai.aK,I.aK,I.cJ,bx,mO _ (fm bs) (iA.1 bs)])
  ·rintro r os' ⟨rfl,T,rfl,-⟩;exact ⟨fun m x hx=>⟨(og (S:=T) hx).1,(og (S:=T) hx).2,fun h=>by cases h⟩,fun a c ha hc h=>Ns (by simpa[hZ] using ha) (by simpa[hZ] using hc) h,fun m hm=>by rw[hZ] at hm ⊢;exact hm,fun m h1 h2=>(by rw[hZ] at h1 h2;rw[h1] at h2;cases h2),rfl,fun h=>by cases h⟩
  rintro r os' ⟨rfl,T,rfl,hf⟩;have hline:dJ ((bs.filter fun b=>decide (b.no∈T)).map (·.no))=iD bs no:=by
   simp only[iD]
   congr 2
   refine List.filter_congr fun b _ =>?_;rw[Bool.eq_iff_iff,decide_eq_true_eq,vv];exact hf.sA b.no
  have hF72:=r4 bs hbl 96 [.ref (.cI (T.map enc) (List.replicate T.length (.bool true)))] (by simp only[I.eV,I.done,I.bn,jP,UY,zw3]) (fun b=>decide (b.no∈T)) (fun b _=>PQ T b);rw[hline] at hF72;have hrh:=fun ρ=>mO ρ (fm bs) (iA.1 bs)
  try simp only[dH,eW,zz9,zx1,ai.aK,I.aK,I.cJ,rJ,bx,gM,ud,hrh,zy0,zy6,je,ab,simprocAttr]
  refine .done (hK _ ?_);clear hK K;have hall2:([I.ptr 10 []].all fun y=>y.b8)=true:=rfl;have R:=v6 @hall2 ep
  repeat' ((first |(with_reducible refine .guard (fun hb =>?_) (fun hb =>?_) <;>try simp only[hb])|refine J.aT (by decide +kernel) rfl fun K hK =>?_|(refine .aH [0,1,2,6,7,8,9,10,11,20,31] hK ?_;clear hK K)|(with_reducible refine .done (hK _ ?_);clear hK K)|refine J.of rfl ?_|(with_reducible refine aq.aQ (fun h =>?_) (fun h =>?_) <;>try simp only[h])) <;>try simp only[aU,R,simprocAttr])
  all_goals clear R
  refine .ib [9,10,11,32] (enc (iD bs no)) rfl hF72 ?_ ?_ ?_
  ·simp only[iC,zw1,zv9,List.contains_cons,List.contains_nil,Nat.reduceBEq,Bool.or_false,Bool.or_true,if_true];simp only[bZ,iA];rw[a7,bZ,YJ rfl rfl];rfl
  ·simp[db,a8]
  ·try simp only[gF,db,zw1,zv9,List.contains_cons,Nat.reduceBEq,Bool.or_true,Bool.true_or,BEq.rfl,zz9,zx1,ep,ab,simprocAttr]
   have R:=ep
   repeat' ((first |(with_reducible refine .guard (fun hb =>?_) (fun hb =>?_) <;>try simp only[hb])|refine J.aT (by decide +kernel) rfl fun K hK =>?_|(refine .aH [0,1,2,6,7,8,9,10,11,20,31] hK ?_;clear hK K)|(with_reducible refine .done (hK _ ?_);clear hK K)|refine J.of rfl ?_|(with_reducible refine aq.aQ (fun h =>?_) (fun h =>?_) <;>try simp only[h])) <;>try simp only[aU,R,simprocAttr])
   all_goals clear R
theorem PC(c:List Int)(ls:List fC)(n:Int)(hc:c.length*8≤140737488355328):aD Tryz.prog 7 [enc c,enc ls,enc n] (enc true):=by
 obtain ⟨m,hm⟩:∃ m,m=mD c:=⟨_,rfl⟩
 have hokm:ez m=true:=by rw[hm];exact KK c
 have h24:=zC c (by omega);rw[←hm] at h24;have h23:=zB m ls c hokm hc;have hok:=KF hokm ls c;generalize oz m ls c=l at h23 hok;obtain ⟨de,hKq⟩:∃ de,de=n%45:=⟨_,rfl⟩
 have hKb:0≤de∧de<45:=by rw[hKq];exact ⟨zw8 _ (by decide),zv6 _ (by decide)⟩
 have hk:bS 0 100000 de=true:=by simp[bS];omega
 obtain ⟨t,hL⟩:=agn hok 100000 de;have hal:=fun no=>Qs hok hk (no:=no);have hbl:=(oo hok 100000 de).2.1;generalize cC l 100000 de=bs at hL hal hbl;refine aD.bA Tryz.func7 Sv Un Wr (t7 rfl) (fun hwf W0 D0 E1 =>?_);simp only[BQ,MO,bp,zz4,Nat.reduceAdd];clear hwf;have R:=v6 @bG (v6 @aZ @ab)
 repeat' ((first |(with_reducible refine .guard (fun hb =>?_) (fun hb =>?_) <;>try simp only[hb])|refine J.aT (by decide +kernel) rfl fun K hK =>?_|refine .lead _ (h24) ?_|refine .lead _ (h23) ?_|refine .flat _ (gB _ _ (by decide) (by decide)) rfl ?_|(refine .aH [0,1,2,6,7,8,9,10,11,12,13,14,15,16,17,18,27,54,56,71,75,141,145,154] hK ?_;clear hK K)|(with_reducible refine .done (hK _ ?_);clear hK K)|refine J.of rfl ?_|(with_reducible refine aq.aQ (fun h =>?_) (fun h =>?_) <;>try simp only[h])) <;>try simp only[aU,R,←hKq,simprocAttr])
 all_goals clear R
 refine J.loop (fun k:Nat=>au [(2,.int .i64 de),(7,enc l),(8,.int .i64 ((k+1:Nat):Int))] []) (fun k=>k≤6) (fun k=>6-k) 0 (zw7 _) ?_ (fun k hk6 =>?_)
 ·refine aF.bM ?_ ?_ ?_ ?_ <;>simp[aX,bK,bJ,a8,aY,I.only,bt]
 by_cases hlt:k<6
 case neg =>
  have hk7:k=6:=by omega
  subst hk7;have hc1:decide ((7:Int)≤6)=false:=rfl;have R:=v6 @hc1 (v6 @bG (v6 @aZ @ab))
  repeat' ((first |(with_reducible refine .guard (fun hb =>?_) (fun hb =>?_) <;>try simp only[hb])|refine J.aT (by decide +kernel) rfl fun K hK =>?_|refine .flat _ (zA) rfl ?_|(refine .aH [0,1,2,6,7,8,9,10,11,12,13,14,15,16,17,18,27,54,56,71,75,141,145,154] hK ?_;clear hK K)|(with_reducible refine .done (hK _ ?_);clear hK K)|refine J.of rfl ?_|(with_reducible refine aq.aQ (fun h =>?_) (fun h =>?_) <;>try simp only[h])) <;>try simp only[aU,R,decide_false,simprocAttr])
  all_goals clear R
 have hc1:decide (((k+1:Nat):Int)≤6)=true:=decide_eq_true (by omega);have hw:=fw (i:=k+1) (by omega);have hno:bS 1 9999 ((k+1:Nat):Int)=true:=by simp[bS];omega
 obtain ⟨no,hnoe⟩:∃ no,no=((k+1:Nat):Int):=⟨_,rfl⟩
 rw[←hnoe] at hno hc1 hw ⊢;have hsub:((k+1+1:Nat):Int)=no+1:=by omega
 have h32:=zG l no de;have h39:=zI l no de;obtain ⟨a1,a2⟩:=hal no hno;have e1:((42:Int) != 42)=false:=rfl;have e2:((42:Int) != 0)=true:=rfl;have e3:((0:Int) != 0)=false:=rfl;cases hg:cW bs no with
 |none =>
  obtain ⟨r1,dL⟩:=a1 hg;rw[r1] at h32;rw[dL] at h39;have R:=v6 @hc1 (v6 @hw (v6 @e1 (v6 @e2 (v6 @pz (v6 @qp (v6 @dW (v6 @bG (v6 @aZ @ab))))))))
  repeat' ((first |(with_reducible refine .guard (fun hb =>?_) (fun hb =>?_) <;>try simp only[hb])|refine J.aT (by decide +kernel) rfl fun K hK =>?_|refine .lead _ (h32) ?_|refine .lead _ (h39) ?_|(refine .aH [0,1,2,6,7,8,9,10,11,12,13,14,15,16,17,18,27,54,56,71,75,141,145,154] hK ?_;clear hK K)|(with_reducible refine .done (hK _ ?_);clear hK K)|refine J.of rfl ?_|(with_reducible refine aq.aQ (fun h =>?_) (fun h =>?_) <;>try simp only[h])) <;>try simp only[aU,R,simprocAttr])
  all_goals clear R
  refine ⟨k+1,by omega,by omega,?_⟩;refine aF.bM ?_ ?_ ?_ ?_ <;>simp[aX,bK,bJ,a8,aY,I.only,bt]
 |some b =>
  obtain ⟨r1,dL⟩:=a2 b hg;rw[r1] at h32;rw[dL] at h39;obtain ⟨f1,f2,f3⟩:=ag0 hL hg;have hll:=JZ bs no;generalize iD bs no=aC at h32 f1 f2 f3 hll;have d1:decide (no∈aC)=true:=decide_eq_true f1;have d2:(b.cz != 0)=true→decide (b.cz∈aC)=false:=fun h=>decide_eq_false (f2.resolve_left (by simpa using h));rcases q0:(b.cz != 0)
  all_goals
   have R:=v6 @hc1 (v6 @e3 (v6 @d1 (v6 @d2 (v6 @q0 (v6 @pz (v6 @qp (v6 @tF (v6 @dW (v6 @bG (v6 @aZ @ab))))))))))
   repeat' ((first |(with_reducible refine .guard (fun hb =>?_) (fun hb =>?_) <;>try simp only[hb])|refine J.aT (by decide +kernel) rfl fun K hK =>?_|refine .lead _ (h32) ?_|refine .lead _ (h39) ?_|refine .flat _ (zH _ _) rfl ?_|(refine .aH [0,1,2,6,7,8,9,10,11,12,13,14,15,16,17,18,27,54,56,71,75,141,145,154] hK ?_;clear hK K)|(with_reducible refine .done (hK _ ?_);clear hK K)|refine J.of rfl ?_|(with_reducible refine aq.aQ (fun h =>?_) (fun h =>?_) <;>try simp only[h])) <;>try simp only[aU,R,simprocAttr])
   all_goals clear R
   refine J.loop (fun i:Nat=>au [(2,.int .i64 de),(7,enc l),(8,.int .i64 no),(9,enc aC),(11,.ptr 11 []),(13,.int .i64 i)] [(11,.box (enc b))]) (fun i=>i≤aC.length) (fun i=>aC.length-i) 0 (zw7 _) ?_ (fun i hi =>?_)
   ·refine aF.bM ?_ ?_ ?_ ?_ <;>simp[aX,bK,bJ,a8,al,aY,cu,I.only,ai.only,bt]
   by_cases hli:i<aC.length
   case neg =>
    have hc2:=iW hli;have R:=v6 @hc2 (v6 @hw (v6 @bG (v6 @aZ @ab)))
    repeat' ((first |(with_reducible refine .guard (fun hb =>?_) (fun hb =>?_) <;>try simp only[hb])|refine J.aT (by decide +kernel) rfl fun K hK =>?_|(refine .aH [0,1,2,6,7,8,9,10,11,12,13,14,15,16,17,18,27,54,56,71,75,141,145,154] hK ?_;clear hK K)|(with_reducible refine .done (hK _ ?_);clear hK K)|refine J.of rfl ?_|(with_reducible refine aq.aQ (fun h =>?_) (fun h =>?_) <;>try simp only[h])) <;>try simp only[aU,R,simprocAttr])
    all_goals clear R
    refine ⟨k+1,by omega,by omega,?_⟩;rw[hsub];refine aF.bM ?_ ?_ ?_ ?_ <;>simp[aX,bK,bJ,a8,aY,I.only,bt]
   have hc2:=ic hli;have hwi:=fw (i:=i) (by omega);have he:=fun A=>fH (A:=A) 1 hli rfl;obtain ⟨cb,g1,g2,g3,g4,g5,g6⟩:=f3 aC[i] (zy9 hli);have hy:bS 1 9999 aC[i]=true:=by
    have:=hL.no cb (oi g1).1;rw[g2] at this;simp[bS];omega
   obtain ⟨s1,s2⟩:=(hal _ hy).2 cb g1;have p32:=zG l aC[i] de;rw[s1] at p32;have p39:=zI l aC[i] de;rw[s2] at p39;have hnl:=JZ bs aC[i];generalize iD bs aC[i]=N at p32 g6 hnl;generalize aC[i]=y at he p32 p39;clear s1 s2 g1 g2;have c1:(cb.cM != b.cM)=false:=by simp[g3]
   have c2:decide (cb.born<b.born)=false:=decide_eq_false (by omega);have c3:(cb.cz==no)=true→decide (0≤b.cL)=true→decide (b.cL<cb.born)=false:=fun h1 h2=>decide_eq_false fun h3=>g5 ⟨by simpa using h1,by simpa using h2,h3⟩;have hq:(cb.no != no)=false∨((cb.no != no)=true∧(cb.cz==no)=false)∨((cb.no != no)=true∧(cb.cz==no)=true∧decide (0≤b.cL)=false)∨((cb.no != no)=true∧(cb.cz==no)=true∧decide (0≤b.cL)=true):=by
    cases (cb.no != no) <;>cases (cb.cz==no) <;>cases decide (0≤b.cL) <;>simp
   rcases hq with Q | Q | Q | Q
   all_goals
    have R:=v6 @hc2 (v6 @he (v6 @e3 (v6 @c1 (v6 @c2 (v6 @c3 (v6 @Q (v6 @pz (v6 @qp (v6 @tF (v6 @dW (v6 @bG (v6 @aZ @ab))))))))))))
    repeat' ((first |(with_reducible refine .guard (fun hb =>?_) (fun hb =>?_) <;>try simp only[hb])|refine J.aT (by decide +kernel) rfl fun K hK =>?_|refine .lead _ (p39) ?_|refine .lead _ (p32) ?_|(refine .aH [0,1,2,6,7,8,9,10,11,12,13,14,15,16,17,18,27,54,56,71,75,141,145,154] hK ?_;clear hK K)|(with_reducible refine .done (hK _ ?_);clear hK K)|refine J.of rfl ?_|(with_reducible refine aq.aQ (fun h =>?_) (fun h =>?_) <;>try simp only[h])) <;>try simp only[aU,R,simprocAttr])
    all_goals clear R
    refine J.loop (fun j:Nat=>au [(2,.int .i64 de),(7,enc l),(8,.int .i64 no),(9,enc aC),(11,.ptr 11 []),(13,.int .i64 i),(16,enc N),(18,.int .i64 j)] [(11,.box (enc b))]) (fun j=>j≤N.length) (fun j=>N.length-j) 0 (zw7 _) ?_ (fun j hj =>?_)
    ·refine aF.bM ?_ ?_ ?_ ?_ <;>simp[aX,bK,bJ,a8,al,aY,cu,I.only,ai.only,bt]
    by_cases hlj:j<N.length
    ·have hc3:=ic hlj;have hwj:=fw (i:=j) (by omega);have hej:=fun A=>fH (A:=A) 1 hlj rfl;have hz:decide (N[j]∈aC)=true:=decide_eq_true (g6 _ (zy9 hlj));have R:=v6 @hc3 (v6 @hwj (v6 @hej (v6 @hz (v6 @bG (v6 @aZ @ab)))))
     repeat' ((first |(with_reducible refine .guard (fun hb =>?_) (fun hb =>?_) <;>try simp only[hb])|refine J.aT (by decide +kernel) rfl fun K hK =>?_|refine .flat _ (zH _ _) rfl ?_|(refine .aH [0,1,2,6,7,8,9,10,11,12,13,14,15,16,17,18,27,54,56,71,75,141,145,154] hK ?_;clear hK K)|(with_reducible refine .done (hK _ ?_);clear hK K)|refine J.of rfl ?_|(with_reducible refine aq.aQ (fun h =>?_) (fun h =>?_) <;>try simp only[h])) <;>try simp only[aU,R,simprocAttr])
     all_goals clear R
     refine ⟨j+1,by omega,by omega,?_⟩;refine aF.bM ?_ ?_ ?_ ?_ <;>simp[aX,bK,bJ,a8,al,aY,cu,I.only,ai.only,bt]
    have hc3:=iW hlj;have R:=v6 @hc3 (v6 @hwi (v6 @bG (v6 @aZ @ab)))
    repeat' ((first |(with_reducible refine .guard (fun hb =>?_) (fun hb =>?_) <;>try simp only[hb])|refine J.aT (by decide +kernel) rfl fun K hK =>?_|(refine .aH [0,1,2,6,7,8,9,10,11,12,13,14,15,16,17,18,27,54,56,71,75,141,145,154] hK ?_;clear hK K)|(with_reducible refine .done (hK _ ?_);clear hK K)|refine J.of rfl ?_|(with_reducible refine aq.aQ (fun h =>?_) (fun h =>?_) <;>try simp only[h])) <;>try simp only[aU,R,simprocAttr])
    all_goals clear R
    refine ⟨i+1,by omega,by omega,?_⟩;refine aF.bM ?_ ?_ ?_ ?_ <;>simp[aX,bK,bJ,a8,al,aY,cu,I.only,ai.only,bt]
end Go.Proofs.YtcldiigclhgafaaGreat
