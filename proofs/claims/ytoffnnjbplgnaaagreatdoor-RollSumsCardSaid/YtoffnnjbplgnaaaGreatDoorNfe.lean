/-
  A part of the proof that the law RollSums returns true for every input; five variables of Go's library start as the text lays them (the card ties them); conditions: none beyond the statement's own. (part 5 of 6)
-/
import Derived.ChangeArms
import Derived.Test.YtoffnnjbplgnaaaGreatDoorRows
import Derived.Test.YtoffnnjbplgnaaaGreatDoorCards
import Derived.Test.YtoffnnjbplgnaaaGreatDoorTie
import Derived.LaidMore
import Derived.MakeChecks
import Derived.Lib.LaidTab
import Derived.Lib.LaidU8
import Derived.HandedShaped
import Derived.Shelf.Vars
import Derived.Shelf.SlSortCmp.WholeK
import Derived.Shelf.SlSortCmp.NoneTotal
import Derived.Shelf.Small.Wraps
import Derived.WalkKit
import Derived.Lib.RowBridge
import Derived.Lib.SortBridge
import Derived.StillTailTactics
import Derived.Test.YtoffnnjbplgnaaaGreatDoorNfd
set_option linter.unusedSimpArgs false
set_option linter.unusedVariables false
set_option maxHeartbeats 16000000
set_option maxRecDepth 100000
namespace Go.Proofs.YtoffnnjbplgnaaaGreatDoor
open Go Go.Abs
open Go.Abs.Enc (enc)
def dk.small(r:dk):Prop:=r.bS.length≤140737488351232∧r.eB.length≤140737488351232
def df.small(r:df):Prop:=r.dw.small∧r.copy.small
def dk.all(r:dk):List UInt8:=r.bS++r.eB
theorem dk.rC{r:dk}(h:r.small):r.all.length≤281474976710656:=by
 have:=h.1;have:=h.2;rw[dk.all,Z1];omega
theorem jO:I.agg [.aj ⟨#[]⟩,.aj ⟨#[]⟩]=enc (⟨[],[]⟩:dk):=rfl
theorem AE:I.agg [.agg [.aj ⟨#[]⟩,.aj ⟨#[]⟩],.agg [.aj ⟨#[]⟩,.aj ⟨#[]⟩]]=enc (⟨⟨[],[]⟩,⟨[],[]⟩⟩:df):=rfl
theorem mR:I.agg [enc (⟨[],[]⟩:dk),enc (⟨[],[]⟩:dk)]=enc (⟨⟨[],[]⟩,⟨[],[]⟩⟩:df):=rfl
theorem gy:(∀ A n b rest (q r:dk),dW A (some 2) n [] b (enc q) rest (some (enc r))=ar rest (A.aQ n (.box (enc q))))∧(∀ A n b rest (q r:df),dW A (some 4) n [] b (enc q) rest (some (enc r))=ar rest (A.aQ n (.box (enc q)))) ∧
  (∀ A n rest (q r:dk) (s:df),dW A (some 2) n [0] (enc s) (enc q) rest (some (enc r))=ar rest (A.aQ n (.box (enc (⟨q,s.copy⟩:df)))))∧(∀ A n rest (q r:dk) (s:df),dW A (some 2) n [1] (enc s) (enc q) rest (some (enc r))=ar rest (A.aQ n (.box (enc (⟨s.dw,q⟩:df))))) :=
 ⟨fun A n b rest q r=>by rw[eV (eQ _) (by rw[hZ];rfl) ((eJ _).trans (eJ _).symm),fM],
  fun A n b rest q r=>by rw[eV (eQ _) (by rw[hZ];rfl) ((eJ _).trans (eJ _).symm),fM],
  fun A n rest q r s=>by rw[eV (eQ _) (by rw[hZ];rfl) ((eJ _).trans (eJ _).symm)];rfl,
  fun A n rest q r s=>by rw[eV (eQ _) (by rw[hZ];rfl) ((eJ _).trans (eJ _).symm)];rfl⟩
theorem lp:(∀ x:List UInt8,fF [.aj ⟨#[]⟩,.aj ⟨#[]⟩] [(0,enc (av.of x))]=some [enc (av.of x),enc (av.of [])])∧(∀ x:List UInt8,I.agg [enc (av.of x),enc (av.of [])]=enc (⟨x,[]⟩:dk)) ∧
  (∀ p q:dk,fF [.agg [.aj ⟨#[]⟩,.aj ⟨#[]⟩],.agg [.aj ⟨#[]⟩,.aj ⟨#[]⟩]] [(0,enc p),(1,enc q)]=some [enc p,enc q])∧(∀ p q:dk,I.agg [enc p,enc q]=enc (⟨p,q⟩:df)) ∧
  (∀ p q:dk,fF [enc (⟨[],[]⟩:dk),enc (⟨[],[]⟩:dk)] [(0,enc p),(1,enc q)]=some [enc p,enc q]) :=
 ⟨fun _=>rfl,fun _=>rfl,fun _ _=>rfl,fun _ _=>rfl,fun _ _=>rfl⟩
theorem pA(r:dk)(h:r.small):aS Tryz.prog 73 [enc r] (enc (av.of r.all)):=by
 refine aS.bT Tryz.func73 Iv JF KY (t8 rfl) (fun hwf W0 bI E1 =>?_);simp only[zD,DJ,bF];clear hwf;have ha:=fb r.bS r.eB (by have:=h.1;have:=h.2;omega);have R:=y6 @ha (y6 @bu aD)
 repeat' ((first |refine U.aG (by decide +kernel) rfl fun K hK =>?_|(refine .aE [0,1,2] hK ?_;clear hK K)|(with_reducible refine .done (hK _ ?_);clear hK K)|refine U.of rfl ?_|(with_reducible refine aw.aF (fun h =>?_) (fun h =>?_) <;>try simp only[h])) <;>try simp only[aH,R,simprocAttr])
 all_goals clear R
 all_goals rfl
def pc(r:df):df:=⟨⟨r.dw.all,[]⟩,⟨r.dw.all,[]⟩⟩
theorem F9(r:df)(h:r.small):aS Tryz.prog 20 [enc r] (enc (pc r)):=by
 refine aS.bT Tryz.func20 Ic Jp KH (t8 rfl) (fun hwf W0 bI E1 =>?_);simp only[c20,Dr,bF];clear hwf;have f:=pA r.dw h.1;have R:=y6 @lp (y6 @jO (y6 @mR (y6 @gy (y6 @bu aD))))
 repeat' ((first |refine U.aG (by decide +kernel) rfl fun K hK =>?_|refine .flat _ (f) rfl ?_|(refine .aE [0,1,2,3] hK ?_;clear hK K)|(with_reducible refine .done (hK _ ?_);clear hK K)|refine U.of rfl ?_|(with_reducible refine aw.aF (fun h =>?_) (fun h =>?_) <;>try simp only[h])) <;>try simp only[aH,R,simprocAttr])
 all_goals clear R
 all_goals rfl
def pP(r:df)(copy:Bool):df:=if copy then ⟨r.dw,⟨[],[]⟩⟩ else ⟨⟨[],[]⟩,r.copy⟩
theorem Ga(r:df)(b:Bool):aS Tryz.prog 24 [enc r,enc b] (enc (pP r b)):=by
 refine aS.bT Tryz.func24 If Jr KJ (t8 rfl) (fun hwf W0 bI E1 =>?_);simp only[zm,Dt,bF,Z5];clear hwf;cases b
 ·have R:=y6 @jO (y6 @mR (y6 @gy (y6 @bu aD)))
  repeat' ((first |refine U.aG (by decide +kernel) rfl fun K hK =>?_|(refine .aE [0,1,2,4,5] hK ?_;clear hK K)|(with_reducible refine .done (hK _ ?_);clear hK K)|refine U.of rfl ?_|(with_reducible refine aw.aF (fun h =>?_) (fun h =>?_) <;>try simp only[h])) <;>try simp only[aH,R,simprocAttr])
  all_goals clear R
  all_goals rfl
 ·have R:=y6 @jO (y6 @mR (y6 @gy (y6 @bu aD)))
  repeat' ((first |refine U.aG (by decide +kernel) rfl fun K hK =>?_|(refine .aE [0,1,2,4,5] hK ?_;clear hK K)|(with_reducible refine .done (hK _ ?_);clear hK K)|refine U.of rfl ?_|(with_reducible refine aw.aF (fun h =>?_) (fun h =>?_) <;>try simp only[h])) <;>try simp only[aH,R,simprocAttr])
  all_goals clear R
  all_goals rfl
def kI(r:df):df×List ah:=(⟨⟨(s8 bn c8 r.dw.all r.copy.all).2,[]⟩,⟨(s8 bn c8 r.dw.all r.copy.all).2,[]⟩⟩,(s8 bn c8 r.dw.all r.copy.all).1)
theorem EU(t:List UInt8):(jD bn c8 t).2.length≤t.length:=by rw[jD];simp;omega
theorem rm(r:df)(h:r.small):aS Tryz.prog 18 [enc r] (.tuple [enc (kI r).1,enc (kI r).2]):=by
 refine aS.bT Tryz.func18 Ia Jn KF (t8 rfl) (fun hwf W0 bI E1 =>?_);simp only[zj,Dp,bF];clear hwf;have f1:=pA r.dw h.1;have f2:=pA r.copy h.2;have g1:=xT r.dw.all (dk.rC h.1);have g2:=xT r.copy.all (dk.rC h.2);have l1:=EU r.dw.all;have l2:=EU r.copy.all;have:=dk.rC h.1;have:=dk.rC h.2;have h74:=fun (x:List UInt8) (hx:x.length≤281474976710656)=>Gg (av.of x) (by rw[av.dG];exact hx);simp only[kI,s8];generalize jD bn c8 r.dw.all=p at *;generalize jD bn c8 r.copy.all=q at *;by_cases hlt:p.1.length<q.1.length
 ·have hc:decide ((q.1.length:Int)>(p.1.length:Int))=true:=decide_eq_true (by omega);have h74':=h74 q.2 (by omega);simp only[if_pos hlt];have R:=y6 @hc (y6 @lp (y6 @jO (y6 @mR (y6 @gy (y6 @bu aD)))))
  repeat' ((first |refine U.aG (by decide +kernel) rfl fun K hK =>?_|refine .flat _ (f1) rfl ?_|refine .lead _ (g1) ?_|refine .flat _ (f2) rfl ?_|refine .lead _ (g2) ?_|refine .flat _ (h74') rfl ?_|(refine .aE [0,1,2,3,4,5,6,7,8,27] hK ?_;clear hK K)|(with_reducible refine .done (hK _ ?_);clear hK K)|refine U.of rfl ?_|(with_reducible refine aw.aF (fun h =>?_) (fun h =>?_) <;>try simp only[h])) <;>try simp only[aH,R,simprocAttr])
  all_goals clear R
  all_goals rfl
 ·have hc:decide ((q.1.length:Int)>(p.1.length:Int))=false:=decide_eq_false (by omega);have h74':=h74 p.2 (by omega);simp only[if_neg hlt];have R:=y6 @hc (y6 @lp (y6 @jO (y6 @mR (y6 @gy (y6 @bu aD)))))
  repeat' ((first |refine U.aG (by decide +kernel) rfl fun K hK =>?_|refine .flat _ (f1) rfl ?_|refine .lead _ (g1) ?_|refine .flat _ (f2) rfl ?_|refine .lead _ (g2) ?_|refine .flat _ (h74') rfl ?_|(refine .aE [0,1,2,3,4,5,6,7,8,27] hK ?_;clear hK K)|(with_reducible refine .done (hK _ ?_);clear hK K)|refine U.of rfl ?_|(with_reducible refine aw.aF (fun h =>?_) (fun h =>?_) <;>try simp only[h])) <;>try simp only[aH,R,simprocAttr])
  all_goals clear R
  all_goals rfl
end Go.Proofs.YtoffnnjbplgnaaaGreatDoor
namespace Go.Abs
open Go Go.RowKit Go.ChangeShapes
open Enc (enc)
theorem wz{P:Program}{t:TypeId}{α:Type}[Enc α]{B:α→Prop}{H:Type}{enc0:TypeId×Value→H}{w:World}{dN:Nat}{v:Value}{d:DataW H}{p:List MemPlace}(ho:mK P t α B)(hA:Enc.gS α=false)(hst:(match P.underlying t with | some (.slice _) | some (.int _) | some .bool | some .string=>true | _=>false)=true)(hv:Value.okWide P w .any dN t v)
  (h:DataW.Trod enc0 P w 0 (fun _=>true) true t v d p) (hwt:∀ k∈d.weights P t,k≤reachBytes):∃ (a:α),B a∧∃ (cs:List Value),aZ (enc a) v cs∧ae w (lZ w) cB (enc a) cs:=by
 obtain ⟨fuel,h⟩:=h;have hone:v.cells.toList=[v]:=by
  unfold Value.okWide at hv;split at hst
  ·rename_i e ht;rw[ht] at hv;simp only[Cell.okWide,ht] at hv;cases v <;>simp_all[Cell.ok,Value.cells]
  ·rename_i e ht;rw[ht] at hv;simp only[Cell.okWide,ht] at hv;cases v <;>simp_all[Cell.ok,Value.cells]
  ·rename_i ht;rw[ht] at hv;simp only[Cell.okWide,ht] at hv;cases v <;>simp_all[Cell.ok,Value.cells]
  ·rename_i ht;rw[ht] at hv;simp only[Cell.okWide,ht] at hv;cases v <;>simp_all[Cell.ok,Value.cells]
  ·cases hst
 rw[hone] at h;obtain ⟨a,hB,ha⟩:=ho.oS h hwt;exact ⟨a,hB,[v],by simp[aZ,Enc.agg,hA],ha⟩
end Go.Abs
namespace Go.Proofs.YtoffnnjbplgnaaaGreatDoor
open Go Go.Abs Go.ChangeShapes Go.WideShapes Go.RowKit
open Go.Abs.Enc (enc)
theorem Tryz.own:ownKnob Tryz.prog.godebug=none:=by kernel_rfl
theorem Tryz.Wc:laidOutB Tryz.prog=true:=by kernel_rfl
theorem Co:nX Tryz.prog 3 Int:=XX (by kernel_rfl) (by kernel_rfl)
theorem yB:mK Tryz.prog 3 Int fun _=>True:=Co.CI
theorem Y1{w:World}{D:aK}{E:aN}{x y z:I}{a b c:Value}(hx:∃ cs,aZ x a cs∧ae w D E x cs)(hy:∃ cs,aZ y b cs∧ae w D E y cs)(hz:∃ cs,aZ z c cs∧ae w D E z cs):al w D E [x,y,z] [a,b,c]:=by
 obtain ⟨c1,h1,h2⟩:=hx;obtain ⟨c2,h3,h4⟩:=hy;obtain ⟨c3,h5,h6⟩:=hz;simp only[al];exact ⟨a,[b,c],c1,rfl,h1,h2,b,[c],c2,rfl,h3,h4,c,[],c3,rfl,h5,h6,rfl⟩
def jv : List (String × DataW Unit) := [("math/bits.deBruijn32tab", Rows.laid_math_bits_deBruijn32tab), ("math/bits.deBruijn64tab", Rows.laid_math_bits_deBruijn64tab), ("internal/strconv.uint64pow10", Rows.laid_internal_strconv_uint64pow10), ("strconv.ErrRange", Rows.laid_strconv_ErrRange), ("strconv.ErrSyntax", Rows.laid_strconv_ErrSyntax)]
def FI:List Int:=[1,10,100,1000,10000,100000,1000000,10000000,100000000,1000000000,10000000000,100000000000,1000000000000,10000000000000,100000000000000,1000000000000000,10000000000000000,100000000000000000,1000000000000000000,10000000000000000000]
theorem Uz : Tryz.prog.globalNamed "internal/strconv.uint64pow10" = some 3 := by kernel_rfl
theorem Zv:(Tryz.prog.globals[3]?).map (·.type)=some 256:=by kernel_rfl
theorem Uy : Tryz.prog.globalNamed "internal/bytealg.MaxLen" = some 0 := by kernel_rfl
theorem D0:((begin Tryz.prog (fun _ _=>0) default).world.heap[0]?).bind Obj.row?=some (#[.int .i64 0],3):=by kernel_rfl
theorem UB : Tryz.prog.globalNamed "strconv.ErrSyntax" = some 1 := by kernel_rfl
theorem UA : Tryz.prog.globalNamed "strconv.ErrRange" = some 2 := by kernel_rfl
theorem Fq:(Tryz.prog.globals[1]?).map (·.type)=some 199∧(Tryz.prog.globals[2]?).map (·.type)=some 199:=⟨by kernel_rfl,by kernel_rfl⟩
theorem BE:(match Tryz.prog.underlying 199 with | some (.interface _)=>true | _=>false)=true:=by kernel_rfl
theorem WJ {W : World} (hsh : W.ShapedOpen Tryz.prog) : ∃ v, W.var? Tryz.prog "internal/bytealg.MaxLen" = some v ∧ sv .int v := by
 obtain ⟨m,hm⟩:=cell_of_shapedOpen_int (k:=.i64) hsh (show 0<Tryz.prog.globals.size from of_decide_eq_true (by kernel_rfl)) D0 rfl (by kernel_rfl) (by kernel_rfl) (by kernel_rfl);obtain ⟨cs,hh,hs,_⟩:=hsh.1 0 _ _ (show 0<Tryz.prog.globals.size from of_decide_eq_true (by kernel_rfl)) D0;refine ⟨cs,?_,m,?_⟩
 ·unfold World.var?;rw[Uy];simp only[Option.bind_some];revert hh;cases hb:W.heap[0]? with
  |none=>intro hh;simp at hh
  |some o =>
   intro hh;cases o <;>simp[] at hh
   simp[hh]
 ·have h1:cs.size=1:=hs;have hcell:W.cell? ⟨0,0,none⟩=cs[0]?:=by
   unfold World.cell?;revert hh;cases hb:W.heap[0]? with
   |none=>intro hh;simp at hh
   |some o =>
    intro hh;cases o <;>simp[] at hh
    rw[←hh.1];rfl
  rw[hcell] at hm;apply Array.ext
  ·simp[h1]
  ·intro i h2 h3;obtain rfl:i=0:=by simp at h3;omega
   have:=(zz4.1 hm).2;simpa using this
theorem AM {W : World} (h : laidMet Tryz.prog jv W) {n : String} {text : List UInt8} {g : Nat} (hn : (n, DataW.iface "*errors.errorString" (.ptr (.agg [.lit (.string text)]))) ∈ jv) (hg : Tryz.prog.globalNamed n = some g) (ht : (Tryz.prog.globals[g]?).map (·.type) = some 199) :
  ∃ v,W.var? Tryz.prog n=some v∧sv .oq v:=by
 obtain ⟨g',t',cs,fuel,p,hg',ht',hvar,hd⟩:=Lib.laidMet.reads h hn;obtain rfl:=Option.some.inj (hg.symm.trans hg');obtain rfl:=Option.some.inj (ht.symm.trans ht');cases hi:Tryz.prog.underlying 199 with
 |none=>have:=BE;rw[hi] at this;cases this
 |some d =>
  cases d <;>(try (have:=BE;rw[hi] at this;cases this;done))
  obtain ⟨_,u,v,hcs,_,_⟩:=iface_of_trod hi hd;refine ⟨cs,hvar,u,v,?_⟩;apply Array.ext';simpa using hcs
theorem XL{W:World}(h:laidMetH Tryz.prog jv W)(hsh:W.ShapedOpen Tryz.prog):eG Tryz.prog W (fun _=>False):=by
 rw[MakeChecks.laidMetH_plain _ _ _ (by kernel_rfl)] at h;intro q hq g hg;refine ⟨id,?_⟩;simp only[mX,zy8,List.not_mem_nil,or_false] at hq;rcases hq with rfl | rfl | rfl | rfl
 ·obtain ⟨g', t', cs, fuel, p, hg', ht', hvar, hd⟩ := Lib.laidMet.reads h (n := "internal/strconv.uint64pow10") (d := Rows.laid_internal_strconv_uint64pow10) (by simp [jv])
  obtain rfl:=Option.some.inj (Uz.symm.trans hg');obtain rfl:=Option.some.inj (Zv.symm.trans ht');have hd':DataW.trod (fun _=>()) Tryz.prog W 0 (fun _=>true) false fuel 256 cs.toList=some (Lib.tabData .u64 FI,p):=hd;have hc:=Lib.cells_of_tab (n:=20) (e:=227) (VQ (by kernel_rfl)) (by kernel_rfl) (by kernel_rfl) (by kernel_rfl) hd';refine ⟨cs,hvar,?_⟩
  show cs=BR
  have:cs=(FI.map fun z=>Value.int .u64 z).toArray:=by rw[←hc]
  rw[this];rfl
 ·exact WJ hsh
 ·exact AM h (n := "strconv.ErrSyntax") (text := [105, 110, 118, 97, 108, 105, 100, 32, 115, 121, 110, 116, 97, 120]) (by simp [jv, Rows.laid_strconv_ErrSyntax]) UB Fq.1
 ·exact AM h (n := "strconv.ErrRange") (text := [118, 97, 108, 117, 101, 32, 111, 117, 116, 32, 111, 102, 32, 114, 97, 110, 103, 101]) (by simp [jv, Rows.laid_strconv_ErrRange]) UA Fq.2
theorem YS{H:Type}{enc0:TypeId×Value→H}{a:Assume}{C:Checked}{os:Os}{f:FuncId}{fn:Func}{s:ChangeSpec}{conds:List PathCond}{apart jt handsOn again:Bool}{X:World→Array Value→Prop}
  (hX:∀ (w w':World) (args:Array Value),w.heap=w'.heap→X w args→X w' args)
  (own:ownKnob C.prog.godebug=none) (started:os.Started) (noInit:C.prog.inits.idxOf? f=none) (hfn:C.prog.funcs[f]?=some fn)
  (witness:∃ (w:World) (tape:Tape) (i:Input),w.os=os∧(w.forCall tape i).Shaped C.prog∧i.vars=[]∧Input.okWide C.prog (w.forCall tape i) .any w.heap.size f i ∧
   ((s.pre enc0 C.prog fn conds apart (w.forCall tape i).memory i.args∧X (w.forCall tape i).memory i.args)∧sizedMet enc0 C.prog fn (OpenSpec.ofChange s) apart (w.forCall tape i).memory i.args)∧a.holds C.prog (lone (Frame.enter C.prog f i.args .normal) [] (w.forCall tape i)))
  (contract:∀ (W:World) (dN:Nat) (args:Array Value) (ds gs:List (DataW H)) (before:List MemPlace),
   (∀ (j:Nat) t v,fn.params[j]?=some t→args[j]?=some v→Value.okWide C.prog W .any dN t v) →
   DataW.Whole enc0 C.prog fn.params.toList s.vars apart W args.toList ds gs before →
   (DataW.weightsEach C.prog (fn.params.toList++s.plain.varTypes C.prog) (ds++gs)).all (· ≤ reachBytes)=true→X W args→W.ShapedOpen C.prog →
   Calls C.prog f args W fun e W'=>∃ v,e=.returned v∧s.post enc0 C.prog fn apart jt handsOn again W args v W') :
  ReturnsInHanded a C os f .any (fun w args=>(s.pre enc0 C.prog fn conds apart w args∧X w args)∧sizedMet enc0 C.prog fn (OpenSpec.ofChange s) apart w args) (s.post enc0 C.prog fn apart jt handsOn again):=by
 refine returnsInHanded_of_calls own started noInit witness ?_;intro w tape i _ hsh _ hok hpre _;obtain ⟨_,_,_,fn',hfn',_,_,_,_,hval⟩:=hok;have e:fn'=fn:=Option.some.inj (hfn'.symm.trans hfn);subst e;obtain ⟨⟨⟨ds,gs,before,hw,_⟩,hx⟩,hz⟩:=hpre;have hw':=DataW.Whole.of_heap (w':=w.forCall tape i) (by rfl) hw;refine (contract (w.forCall tape i) w.heap.size i.args ds gs before hval hw' (hz.weights hw) (hX _ _ _ (by rfl) hx) hsh).mono fun e W' ⟨v,he,hp⟩ =>?_;subst he;exact ChangeSpec.post_blind hp
end Go.Proofs.YtoffnnjbplgnaaaGreatDoor
namespace Go.Proofs.YtoffnnjbplgnaaaGreatDoor
open Go Go.Abs
open Go.Abs.Enc (enc)
def cA:ah:=default
theorem lx:I.agg [.agg [.int .i64 0,.int .i64 0],.int .i64 0,.int .i64 0,.int .i64 0,.agg [.int .i64 0,.int .i64 0],.aj ⟨#[]⟩]=enc cA:=rfl
theorem Fe{A:ab}{l:List ah} : kc A 8 (enc l)=some (l.map enc):=kT A 8 l rfl
theorem Ff{A:ab}{n lo k:Nat}{xs:List ah}(ho:A.o n=some (.box (.agg (xs.map enc))))(hl:lo+k≤xs.length):kc A 8 (.view n [] 8 lo k)=some (((xs.drop lo).take k).map enc):=nJ ho hl
theorem ga{k:Nat}{a:ai}{m:Nat} : ao [(k,a)] m=true↔m=k:=by
 constructor
 ·intro h;simp only[ao,aA] at h;split at h
  ·assumption
  ·simp at h
 ·rintro rfl;simp[ao,aA]
theorem BB{A:ab}{k k':Nat}{c c':I}(h1:A.o k=some (.box c))(h2:∀ p,c.only p=true)(h1':A.o k'=some (.box c'))(h2':∀ p,c'.only p=true):∀ n x,aA [(k,.box c),(k',.box c')] n=some x→A.o n=some x∧x.only (ao [(k,.box c),(k',.box c')])=true∧x.er=true:=fun n x h=>by
 simp only[aA] at h;split at h
 ·rename_i hn;subst hn;simp only[v6] at h;subst h;exact ⟨h1,h2 _,rfl⟩
 ·split at h
  ·rename_i hn;subst hn;simp only[v6] at h;subst h;exact ⟨h1',h2' _,rfl⟩
  ·cases h
theorem fD(p:Nat→Bool)(l:List ah):(I.agg (l.map enc)).only p=true:=by simp only[I.only];exact j4 p l
def eU(k:Nat)(l:List ah)(m:Nat):List (Nat×ai):=[(k,.box (.agg ((l++List.replicate m cA).map enc)))]
def mQ(l:List ah):cj:=fun r os'=>(l=[]∧(r=.nils 8∨r=.c0 8)∧os'=[])∨(l≠[]∧∃ m,r=.view 7 [] 8 0 l.length∧os'=eU 7 l m)
theorem rp(l:List ah)(hl:l.length≤1000):eW Tryz.prog 93 [enc l] [] (mQ l):=by
 refine eW.bT Tryz.func93 zX Aa Am (t8 rfl) (t8 rfl) (fun m hm=>by simp[ao,aA] at hm) (fun hwf W0 bI E1 =>?_);simp only[uI,wL,bF];refine .dI (by decide +kernel) fun K hK =>?_;simp only[vx,ba];refine .done (hK _ ?_);clear hK K;refine U.seq (U.seq ?_);by_cases hn:l=[]
 ·subst hn;refine .iq (by decide +kernel) fun K hK =>?_;simp only[qa,ba,Nat.reduceEqDiff,reduceIte];simp only[tN,List.isEmpty_nil,oP];refine .any rfl fun b _ =>?_
  try simp only[ba]
  generalize (b==0)=t;cases t
  ·refine .done (hK _ ?_);clear hK K;try simp only[cQ]
   refine U.gT ?_;simp only[aw,ba,Nat.reduceEqDiff,reduceIte];refine ⟨fun h =>?_,fun h =>?_⟩
   ·cases h
   refine U.skip ?_;try simp only[cQ]
   refine .dI (by decide +kernel) fun K hK =>?_;simp only[qb,ba]
   try simp only[iB,lx,ba,Nat.reduceEqDiff,reduceIte]
   refine .done (hK _ ?_);clear hK K;refine U.ret ?_;simp only[j8];exact ⟨[],[.c0 8],vF,⟨⟨.c0 8,rfl,.inl ⟨rfl,rfl,rfl⟩⟩,trivial⟩,.inl ⟨rfl,.inr rfl,rfl⟩⟩
  ·refine .done (hK _ ?_);clear hK K;refine U.gT ?_;simp only[aw,ba,Nat.reduceEqDiff,reduceIte];refine ⟨fun h =>?_,fun h =>?_⟩
   ·refine .dI (by decide +kernel) fun K hK =>?_;simp only[vy,ba];refine .done (hK _ ?_);clear hK K;refine U.ret ?_;simp only[cQ,j8];exact ⟨[],[.nils 8],vF,⟨⟨.nils 8,rfl,.inl ⟨rfl,rfl,rfl⟩⟩,trivial⟩,.inl ⟨rfl,.inl rfl,rfl⟩⟩
   ·cases h
 ·have hu:jh (enc l)=false:=by rw[tN];simpa using hn
  refine .iq (by decide +kernel) fun K hK =>?_;simp only[qa,ba,Nat.reduceEqDiff,reduceIte]
  try simp only[hu,Ck _ l hn,ba]
  refine .done (hK _ ?_);clear hK K;try simp only[cQ]
  refine U.gT ?_;simp only[aw,ba,Nat.reduceEqDiff,reduceIte];refine ⟨fun h =>?_,fun h =>?_⟩
  ·cases h
  refine U.skip ?_;try simp only[cQ]
  refine .dI (by decide +kernel) fun K hK =>?_;simp only[qb,ba]
  try simp only[iB,lx,ba,Nat.reduceEqDiff,reduceIte]
  refine aY.uu cA rfl hn rfl (by omega) (by simp only[maxLen];omega) fun m =>?_
  try simp only[ba,Nat.reduceEqDiff,reduceIte]
  refine .done (hK _ ?_);clear hK K;refine U.ret ?_;simp only[j8];exact ⟨eU 7 l m,[.view 7 [] 8 0 l.length],oC rfl (fun p=>fD p _),⟨⟨_,rfl,.inl ⟨rfl,rfl,rfl⟩⟩,trivial⟩,.inr ⟨hn,m,rfl,rfl⟩⟩
def fP(l:List ah)(i:Nat)(g:ah):List ah:=l.take i++g::l.drop i
theorem VP{l:List ah}{i:Nat}(g:ah)(h:i≤l.length):(fP l i g).length=l.length+1:=by
 simp only[fP,Z1,zz1,zx1,List.length_drop];omega
def BI(l:List ah)(i:Nat)(g:ah)(k:Nat):cj:=fun r os' =>
 (∃ q,r=.view 1000000 [] 8 0 (l.length+1)∧os'=eU 1000000 (fP l i g) q)∨∃ d q,(d=25∨d=40)∧r=.view d [] 8 0 (l.length+1)∧os'=eU d (fP l i g) q++eU 1000000 l k
theorem WB(l:List ah)(i q:Nat)(g:ah)(h:i<l.length)(xs:List ah)(hx:xs=l.take i++(List.replicate (l.length+1-i) cA++List.replicate q cA))(ys:List ah)(hy:ys=xs.take i++([g].take 1++xs.drop (i+1))) :
  ys.take (i+1)++((((l++List.replicate 0 cA).drop i).take (l.length-i)).take (l.length-i)++ys.drop (i+1+(l.length-i)))=fP l i g++List.replicate q cA:=by
 have e1:xs.take i=l.take i:=by rw[hx,List.take_append_of_le_length (by rw[zz1];omega),List.take_take,Nat.min_self]
 have e2:xs.drop (i+1)=List.replicate (l.length-i+q) cA:=by
  have hl:(l.take i).length=i:=by rw[zz1];omega
  rw[hx,List.replicate_append_replicate,List.drop_append,hl,List.drop_eq_nil_of_le (by rw[hl];omega),zz3,List.drop_replicate]
  congr 1;omega
 have e3:ys=(l.take i++[g])++List.replicate (l.length-i+q) cA:=by rw[hy,e1,e2];simp
 have hl2:(l.take i++[g]).length=i+1:=by rw[Z1,zz1];simp;omega
 have e4:ys.take (i+1)=l.take i++[g]:=by rw[e3,←hl2,List.take_left]
 have e5:ys.drop (i+1+(l.length-i))=List.replicate q cA:=by
  rw[e3,List.drop_append,hl2,List.drop_eq_nil_of_le (by rw[hl2];omega),zz3,List.drop_replicate]
  congr 1;omega
 have e6:(((l++List.replicate 0 cA).drop i).take (l.length-i)).take (l.length-i)=l.drop i:=by
  rw[List.replicate_zero,zw1,List.take_take,Nat.min_self,zx3 (by rw[List.length_drop];omega)]
 rw[e4,e5,e6];simp[fP]
theorem WA(l:List ah)(i k:Nat)(g:ah)(h:i<l.length)(hk:1≤k)(xs:List ah)(hx:xs=l++List.replicate k cA)(ys:List ah)(hy:ys=xs.take (i+1)++(((xs.drop i).take (l.length+1-i)).take (l.length-i)++xs.drop (i+1+(l.length-i)))) :
  ys.take i++([g].take 1++ys.drop (i+1))=fP l i g++List.replicate (k-1) cA:=by
 have e1:((xs.drop i).take (l.length+1-i)).take (l.length-i)=l.drop i:=by
  rw[List.take_take,Nat.min_eq_left (by omega),hx,List.drop_append_of_le_length (by omega),List.take_append_of_le_length (by rw[List.length_drop];omega),zx3 (by rw[List.length_drop];omega)]
 have e2:xs.drop (i+1+(l.length-i))=List.replicate (k-1) cA:=by
  rw[hx,List.drop_append,List.drop_eq_nil_of_le (by omega),zz3,List.drop_replicate]
  congr 1;omega
 have hl:(xs.take (i+1)).length=i+1:=by rw[zz1,hx,Z1];omega
 have e3:ys.take i=l.take i:=by
  rw[hy,List.take_append_of_le_length (by omega),List.take_take,Nat.min_eq_left (by omega),hx,List.take_append_of_le_length (by omega)]
 have e4:ys.drop (i+1)=l.drop i++List.replicate (k-1) cA:=by
  rw[hy,e1,e2];exact List.drop_left' hl
 rw[e3,e4];simp[fP]
theorem FL(l:List ah)(i:Nat)(g:ah)(k:Nat)(hi:i≤l.length)(hn:l≠[])(hlen:l.length≤1000) :
  eW Tryz.prog 101 [.view 1000000 [] 8 0 l.length,enc (i:Int),enc [g]] (eU 1000000 l k) (BI l i g k):=by
 refine eW.bT Tryz.func101 uK uM uV (t8 rfl) (t8 rfl) (fun m hm=>by rw[ga.1 hm];exact Z4 _) (fun hwf W0 bI E1 =>?_);simp only[rJ,te,bF,Z5,Nat.reduceAdd];simp only[eU];have hl0:0<l.length:=List.length_pos_iff.2 hn;have htot:((l++List.replicate k cA).map (enc (α:=ah))).length=l.length+k:=by simp
 refine .dI (by decide +kernel) fun K hK =>?_;simp only[r0,ba];refine .done (hK _ ?_);clear hK K;obtain ⟨y,hy⟩:=Zd (n:=1000000) (p:=[]) (sz:=8) hi (show l.length≤l.length+k by omega);refine .dI (by decide +kernel) fun K hK =>?_;simp only[r2,ba,Nat.reduceEqDiff,reduceIte]
 try simp only[iB,htot,zx2,hy,ba,reduceIte]
 refine .done (hK _ ?_);clear hK K;refine .dI (by decide +kernel) fun K hK =>?_;simp only[r3,ba,Nat.reduceEqDiff,reduceIte]
 try simp only[typR,ji,j0,js,ba,Nat.reduceEqDiff,reduceIte,Int.reduceBNe,Int.reduceBEq]
 refine .done (hK _ ?_);clear hK K;refine U.seq (U.seq ?_);refine .iq (by decide +kernel) fun K hK =>?_;simp only[r4,ba,Nat.reduceEqDiff,reduceIte]
 try simp only[typR,ji,j0,js,ba,Nat.reduceEqDiff,reduceIte,Int.reduceBNe,Int.reduceBEq]
 refine .done (hK _ ?_);clear hK K;try simp only[cQ]
 refine U.gT ?_;simp only[aw,ba,Nat.reduceEqDiff,reduceIte];refine ⟨fun h =>?_,fun h =>?_⟩
 ·first | cases h | simp at h
 refine U.skip ?_;try simp only[cQ]
 refine .dI (by decide +kernel) fun K hK =>?_;simp only[r5,ba,Nat.reduceEqDiff,reduceIte]
 try simp only[iB,ba,Nat.reduceEqDiff,reduceIte]
 refine .done (hK _ ?_);clear hK K;refine U.seq (U.seq ?_);refine .iq (by decide +kernel) fun K hK =>?_;simp only[r6,ba,Nat.reduceEqDiff,reduceIte]
 try simp only[typR,ji,j0,js,ba,Nat.reduceEqDiff,reduceIte,Int.reduceBNe,Int.reduceBEq]
 refine .done (hK _ ?_);clear hK K;try simp only[cQ]
 have hA:∀ ts,(aq ts [(1000000,.box (.agg ((l++List.replicate k cA).map (enc (α:=ah)))))]).o 1000000=some (.box (.agg ((l++List.replicate k cA).map enc))):=fun _=>rfl;have hN:∀ ts (d:Nat),d≠1000000→(aq ts [(1000000,.box (.agg ((l++List.replicate k cA).map (enc (α:=ah)))))]).o d=none:=fun ts d hd=>by
  have:¬ d=1000000:=hd;simp[aq,aA,this]
 refine U.gT ?_;simp only[aw,ba,Nat.reduceEqDiff,reduceIte];refine ⟨fun h =>?_,fun h =>?_⟩
 ·have hil:i=l.length:=by
   have:(i:Int)=l.length:=by simpa using h
   omega
  subst hil;by_cases hk:k=0
  ·subst hk;refine .dI (by decide +kernel) fun K hK =>?_;simp only[p9,ba,Nat.reduceEqDiff,reduceIte]
   try simp only[lx]
   refine aY.GN (esz:=8) cA rfl (xs:=l++List.replicate 0 cA) (ys:=[g]) (by simp) (hA _) (by simp) (by simp) (hN _ 25 (by decide)) (by simp;omega) (by simp[maxLen];omega) fun q =>?_;have hc:(l++List.replicate 0 cA).take l.length++([g]++List.replicate q cA)=fP l l.length g++List.replicate q cA:=by simp[fP]
   rw[hc]
   try simp only[List.length_singleton,ba,Nat.reduceEqDiff,reduceIte]
   refine .done (hK _ ?_);clear hK K;refine U.ret ?_;simp only[cQ,j8];exact ⟨eU 25 (fP l l.length g) q++eU 1000000 l 0,[.view 25 [] 8 0 (l.length+1)],BB rfl (fun p=>fD p _) rfl (fun p=>fD p _),⟨⟨_,rfl,.inl ⟨rfl,rfl,rfl⟩⟩,trivial⟩,.inr ⟨25,q,.inl rfl,rfl,rfl⟩⟩
  ·refine .dI (by decide +kernel) fun K hK =>?_;simp only[p9,ba,Nat.reduceEqDiff,reduceIte]
   try simp only[lx]
   rw[yu (esz:=8) _ rfl (xs:=l++List.replicate k cA) (ys:=[g]) (by simp) (hA _) (by simp;omega)];have hc:(l++List.replicate k cA).take l.length++([g]++(l++List.replicate k cA).drop (l.length+[g].length))=fP l l.length g++List.replicate (k-1) cA:=by
    simp[fP,List.drop_append]
   rw[hc]
   try simp only[List.length_singleton,ba,Nat.reduceEqDiff,reduceIte]
   refine .done (hK _ ?_);clear hK K;refine U.ret ?_;simp only[cQ,j8];exact ⟨eU 1000000 (fP l l.length g) (k-1),[.view 1000000 [] 8 0 (l.length+1)],oC rfl (fun p=>fD p _),⟨⟨_,rfl,.inl ⟨rfl,rfl,rfl⟩⟩,trivial⟩,.inl ⟨k-1,rfl,rfl⟩⟩
 have hlt:i<l.length:=by
  have:¬ (i:Int)=l.length:=by simpa using h
  omega
 refine U.skip ?_;try simp only[cQ]
 refine U.seq (U.seq ?_);refine .iq (by decide +kernel) fun K hK =>?_;simp only[Bi,ba,Nat.reduceEqDiff,reduceIte]
 try simp only[Xe,List.length_singleton,ba,Nat.reduceEqDiff,reduceIte]
 rw[IV (xs:=l++List.replicate k cA) (hA _)]
 try simp only[ba,Nat.reduceEqDiff,reduceIte]
 rw[dX _ (by simp;omega) (by simp;omega)];refine .done (hK _ ?_);clear hK K;try simp only[cQ]
 have hgt:decide ((((l++List.replicate k cA).length-0:Nat):Int)<(l.length:Int)+((1:Nat):Int))=decide (k=0):=by
  by_cases hk:k=0 <;>simp[hk] <;>omega
 simp only[hgt];by_cases hk:k=0
 ·subst hk;refine U.gT ?_;simp only[aw,ba,Nat.reduceEqDiff,reduceIte];refine ⟨fun h =>?_,fun h =>?_⟩
  ·have htot0:((l++List.replicate 0 cA).map (enc (α:=ah))).length=l.length:=by simp
   refine .dI (by decide +kernel) fun K hK =>?_;simp only[Bj,ba,Nat.reduceEqDiff,reduceIte]
   try simp only[iB,htot0,zx2,E0 (show i≤l.length by omega) hl0,lx,W7,ba,Nat.reduceEqDiff,reduceIte]
   rw[dX ((l.length:Int)+((1:Nat):Int)) (by omega) (by omega),dX ((l.length:Int)+((1:Nat):Int)-i) (by omega) (by omega)];have hm:(l.length:Int)+((1:Nat):Int)-i=((l.length+1-i:Nat):Int):=by omega
   rw[hm];refine aY.GX (esz:=8) cA rfl (xs:=l++List.replicate 0 cA) (hA _) (by simp;omega) (by omega) (by simp;omega) (hN _ 40 (by decide)) (by omega) (by simp only[maxLen];omega) fun q =>?_;obtain ⟨xs,hxs⟩:∃ xs,xs=l.take i++(List.replicate (l.length+1-i) cA++List.replicate q cA):=⟨_,rfl⟩
   have hxs':(l++List.replicate 0 cA).take i++(List.replicate (l.length+1-i) cA++List.replicate q cA)=xs:=by rw[hxs,List.take_append_of_le_length (by omega)]
   have hxl:xs.length=l.length+1+q:=by rw[hxs];simp;omega
   have hle:i+(l.length+1-i)=l.length+1:=by omega
   rw[hxs',hle]
   try simp only[ba,Nat.reduceEqDiff,reduceIte]
   refine .done (hK _ ?_);clear hK K;have hxm:(xs.map (enc (α:=ah))).length=l.length+1+q:=by rw[Z2];exact hxl
   have hA2:∀ ts,(aq ts [(40,.box (.agg (xs.map (enc (α:=ah))))),(1000000,.box (.agg ((l++List.replicate 0 cA).map (enc (α:=ah)))))]).o 40=some (.box (.agg (xs.map enc))):=fun _=>rfl;refine .dI (by decide +kernel) fun K hK =>?_;simp only[Ba,ba,Nat.reduceEqDiff,reduceIte]
   try simp only[iB,hxm,zx2,mA (show i≤l.length+1 by omega) (show l.length+1≤l.length+1+q by omega) (show i<l.length+1+q by omega),ml,ba,Nat.reduceEqDiff,reduceIte]
   rw[Fe,og (xs:=xs) (c:=1) (hA2 _) (by omega) (by simp;omega)];obtain ⟨ys,hys⟩:∃ ys,ys=xs.take i++([g].take 1++xs.drop (i+1)):=⟨_,rfl⟩
   have hyl:ys.length=l.length+1+q:=by rw[hys];simp;omega
   rw[←hys]
   try simp only[ba]
   refine .done (hK _ ?_);clear hK K;have hym:(ys.map (enc (α:=ah))).length=l.length+1+q:=by rw[Z2];exact hyl
   have hA3:∀ ts z,(aq ts [(40,.box (.agg (ys.map (enc (α:=ah))))),(40,z),(1000000,.box (.agg ((l++List.replicate 0 cA).map (enc (α:=ah)))))]).o 40=some (.box (.agg (ys.map enc))):=fun _ _=>rfl;have hA4:∀ ts z,(aq ts [(40,.box (.agg (ys.map (enc (α:=ah))))),(40,z),(1000000,.box (.agg ((l++List.replicate 0 cA).map (enc (α:=ah)))))]).o 1000000=some (.box (.agg ((l++List.replicate 0 cA).map enc))):=fun _ _=>rfl;refine .dI (by decide +kernel) fun K hK =>?_;simp only[Bb,ba,Nat.reduceEqDiff,reduceIte];rw[dX ((i:Int)+((1:Nat):Int)) (by omega) (by omega)];have hi1:(i:Int)+((1:Nat):Int)=((i+1:Nat):Int):=by omega
   try simp only[iB,hym,htot0,hi1,zx2,zz0,mA (show i+1≤l.length+1 by omega) (show l.length+1≤l.length+1+q by omega) (show i+1<l.length+1+q by omega),mA (show i≤l.length by omega) (Z4 l.length) hlt,ml,ba,Nat.reduceEqDiff,reduceIte]
   have hd1:l.length+1-(i+1)=l.length-i:=by omega
   rw[hd1,Ff (xs:=l++List.replicate 0 cA) (hA4 _ _) (by simp;omega),og (xs:=ys) (c:=l.length-i) (hA3 _ _) (by omega) (by simp)];rw[WB l i q g hlt xs hxs ys hys]
   try simp only[ba]
   refine .done (hK _ ?_);clear hK K;refine .dI (by decide +kernel) fun K hK =>?_;simp only[Bc,ba,Nat.reduceEqDiff,reduceIte];refine .done (hK _ ?_);clear hK K;refine U.ret ?_;simp only[cQ,j8];exact ⟨eU 40 (fP l i g) q++eU 1000000 l 0,[.view 40 [] 8 0 (l.length+1)],BB rfl (fun p=>fD p _) rfl (fun p=>fD p _),⟨⟨_,rfl,.inl ⟨rfl,rfl,rfl⟩⟩,trivial⟩,.inr ⟨40,q,.inr rfl,rfl,rfl⟩⟩
  ·simp at h
 ·refine U.gT ?_;simp only[aw,ba,Nat.reduceEqDiff,reduceIte];refine ⟨fun h =>?_,fun h =>?_⟩
  ·simp at h;omega
  refine U.skip ?_;try simp only[cQ]
  have hk1:1≤k:=by omega
  have hn1:(l.length:Int)+((1:Nat):Int)=((l.length+1:Nat):Int):=by omega
  refine .dI (by decide +kernel) fun K hK =>?_;simp only[Bd,ba,Nat.reduceEqDiff,reduceIte];rw[dX ((l.length:Int)+((1:Nat):Int)) (by omega) (by omega)]
  try simp only[iB,htot,hn1,zx2,E0 (show l.length+1≤l.length+k by omega) (show 0<l.length+k by omega),ba,Nat.reduceEqDiff,reduceIte]
  refine .done (hK _ ?_);clear hK K;have hi1:(i:Int)+((1:Nat):Int)=((i+1:Nat):Int):=by omega
  have hd1:l.length+1-(i+1)=l.length-i:=by omega
  refine U.seq (U.seq ?_);refine .iq (by decide +kernel) fun K hK =>?_;simp only[Be,ba,Nat.reduceEqDiff,reduceIte];rw[dX ((i:Int)+((1:Nat):Int)) (by omega) (by omega)]
  try simp only[iB,htot,hi1,hd1,zx2,mA (show i+1≤l.length+1 by omega) (show l.length+1≤l.length+k by omega) (show i+1<l.length+k by omega),XI,ba,Nat.reduceEqDiff,reduceIte]
  refine .ext (.bool false) rfl (ZM (tS:=23) (tR:=4) (e:=50) Tryz.func143 (by kernel_rfl) (by kernel_rfl) (by kernel_rfl) (by kernel_rfl) (by kernel_rfl) (by kernel_rfl) (hA _) rfl ?_ (by decide) (A5 (by intro h;have:=congrArg List.length h;rw[Z1,List.length_replicate,zy9] at this;omega) rfl)) ?_
  ·show I.sizes ((l++List.replicate k cA).map enc)≠0
   rw[I.gx (sz:=8) _ (fun e he=>by obtain ⟨x,_,rfl⟩:=zy3.1 he;rw[ma];rfl)];rw[htot];omega
  try simp only[ba,Nat.reduceEqDiff,reduceIte]
  refine .done (hK _ ?_);clear hK K;try simp only[cQ]
  refine U.gT ?_;simp only[aw,ba,Nat.reduceEqDiff,reduceIte];refine ⟨fun h =>?_,fun h =>?_⟩
  case neg.refine_2.refine_2.refine_2=>cases h
  have hd2:l.length+1-i=l.length+1-i:=rfl;obtain ⟨xs,hxs⟩:∃ xs,xs=l++List.replicate k cA:=⟨_,rfl⟩
  have hxl:xs.length=l.length+k:=by rw[hxs];simp
  have hxm:(xs.map (enc (α:=ah))).length=l.length+k:=by rw[Z2];exact hxl
  rw[←hxs];have hB:∀ ts,(aq ts [(1000000,.box (.agg (xs.map (enc (α:=ah)))))]).o 1000000=some (.box (.agg (xs.map enc))):=fun _=>rfl;refine .dI (by decide +kernel) fun K hK =>?_;simp only[Bf,ba,Nat.reduceEqDiff,reduceIte];rw[dX ((i:Int)+((1:Nat):Int)) (by omega) (by omega)]
  try simp only[iB,hxm,hi1,hd1,zx2,zz0,mA (show i+1≤l.length+1 by omega) (show l.length+1≤l.length+k by omega) (show i+1<l.length+k by omega),mA (show i≤l.length+1 by omega) (show l.length+1≤l.length+k by omega) (show i<l.length+k by omega),ml,ba,Nat.reduceEqDiff,reduceIte]
  rw[Ff (xs:=xs) (hB _) (by omega),og (xs:=xs) (c:=l.length-i) (hB _) (by omega) (by simp;omega)];obtain ⟨ys,hys⟩:∃ ys,ys=xs.take (i+1)++(((xs.drop i).take (l.length+1-i)).take (l.length-i)++xs.drop (i+1+(l.length-i))):=⟨_,rfl⟩
  have hyl:ys.length=l.length+k:=by rw[hys];simp;omega
  have hym:(ys.map (enc (α:=ah))).length=l.length+k:=by rw[Z2];exact hyl
  rw[←hys]
  try simp only[ba]
  refine .done (hK _ ?_);clear hK K;have hC:∀ ts z,(aq ts [(1000000,.box (.agg (ys.map (enc (α:=ah))))),(1000000,z)]).o 1000000=some (.box (.agg (ys.map enc))):=fun _ _=>rfl;refine .dI (by decide +kernel) fun K hK =>?_;simp only[Bg,ba,Nat.reduceEqDiff,reduceIte]
  try simp only[iB,hym,zx2,mA (show i≤l.length+1 by omega) (show l.length+1≤l.length+k by omega) (show i<l.length+k by omega),ml,ba,Nat.reduceEqDiff,reduceIte]
  rw[Fe,og (xs:=ys) (c:=1) (hC _ _) (by omega) (by simp;omega)];rw[WA l i k g hlt hk1 xs hxs ys hys]
  try simp only[ba]
  refine .done (hK _ ?_);clear hK K;refine .dI (by decide +kernel) fun K hK =>?_;simp only[Bh,ba,Nat.reduceEqDiff,reduceIte];refine .done (hK _ ?_);clear hK K;refine U.ret ?_;simp only[cQ,j8];exact ⟨eU 1000000 (fP l i g) (k-1),[.view 1000000 [] 8 0 (l.length+1)],oC rfl (fun p=>fD p _),⟨⟨_,rfl,.inl ⟨rfl,rfl,rfl⟩⟩,trivial⟩,.inl ⟨k-1,rfl,rfl⟩⟩
def eI(a b:Int):Int:=if a<b then -1 else if a>b then 1 else 0
def gB(a b:Item):Int:=if eI a.aJ b.aJ≠0 then eI a.aJ b.aJ else eI a.no b.no
def fx(a b:Item):Bool:=decide (a.aJ<b.aJ∨(a.aJ=b.aJ∧a.no<b.no))
theorem Af(a b:Int):(a<b∧eI a b=-1)∨(a=b∧eI a b=0)∨(b<a∧eI a b=1):=by
 simp only[eI]
 (repeat' split) <;>omega
theorem Ag(a b:Item):(fx a b=true∧gB a b=-1)∨(a=b∧gB a b=0)∨(fx b a=true∧gB a b=1):=by
 obtain ⟨m,n⟩:=a;obtain ⟨m',n'⟩:=b;simp only[gB,fx,decide_eq_true_eq,Item.mk.injEq];rcases Af m m' with ⟨h,e⟩ | ⟨h,e⟩ | ⟨h,e⟩ <;>rw[e]
 ·simp;omega
 ·rcases Af n n' with ⟨h2,e2⟩ | ⟨h2,e2⟩ | ⟨h2,e2⟩ <;>rw[e2] <;>simp <;>omega
 ·simp;omega
theorem pN(a:Item):fx a a=false:=by simp only[fx,decide_eq_false_iff_not];omega
theorem uz{a b c:Item}(h:fx a b=true)(k:fx b c=true):fx a c=true:=by
 simp only[fx,decide_eq_true_eq] at *;omega
theorem Ah(a b:Item):decide (gB a b<0)=fx a b:=by
 rcases Ag a b with ⟨h,e⟩ | ⟨rfl,e⟩ | ⟨h,e⟩
 ·rw[e,h];rfl
 ·rw[e,pN];rfl
 ·rw[e];cases k:fx a b
  ·rfl
  ·have:=uz k h;rw[pN] at this;cases this
theorem J9(a b:Item):(gB a b==0)=decide (a=b):=by
 rcases Ag a b with ⟨h,e⟩ | ⟨rfl,e⟩ | ⟨h,e⟩
 ·rw[e,decide_eq_false (fun k=>by rw[k,pN] at h;cases h)];rfl
 ·rw[e];simp
 ·rw[e,decide_eq_false (fun k=>by rw[k,pN] at h;cases h)];rfl
theorem xX(n:Int):aS Tryz.prog 175 [enc n] (enc false):=by
 refine aS.bT Tryz.func175 H9 Jm KE (t8 rfl) (fun hwf W0 bI E1 =>?_);simp only[c175,Dn,bF];clear hwf;have q:(n != n)=false:=by simp
 have R:=y6 @q aD
 repeat' ((first |refine U.aG (by decide +kernel) rfl fun K hK =>?_|(refine .aE [0,2] hK ?_;clear hK K)|(with_reducible refine .done (hK _ ?_);clear hK K)|refine U.of rfl ?_|(with_reducible refine aw.aF (fun h =>?_) (fun h =>?_) <;>try simp only[h])) <;>try simp only[aH,R,simprocAttr])
 all_goals clear R
 all_goals rfl
theorem xV(a b:Int):aS Tryz.prog 161 [enc a,enc b] (enc (eI a b)):=by
 refine aS.bT Tryz.func161 H7 Jj KB (t8 rfl) (fun hwf W0 bI E1 =>?_);simp only[zg,Dk,bF,Z5];clear hwf;have f1:=xX a;have f2:=xX b;simp only[eI];cases q1:decide (a<b)
 ·rw[if_neg (of_decide_eq_false q1)];cases q2:decide (a>b)
  ·rw[if_neg (of_decide_eq_false q2)];have R:=y6 @q1 (y6 @q2 aD)
   repeat' ((first |refine U.aG (by decide +kernel) rfl fun K hK =>?_|refine .flat _ (f1) rfl ?_|refine .flat _ (f2) rfl ?_|(refine .aE [0,1,4,5,6,11,12,13,16,19] hK ?_;clear hK K)|(with_reducible refine .done (hK _ ?_);clear hK K)|refine U.of rfl ?_|(with_reducible refine aw.aF (fun h =>?_) (fun h =>?_) <;>try simp only[h])) <;>try simp only[aH,R,simprocAttr])
   all_goals clear R
   all_goals rfl
  ·rw[if_pos (of_decide_eq_true q2)];have R:=y6 @q1 (y6 @q2 aD)
   repeat' ((first |refine U.aG (by decide +kernel) rfl fun K hK =>?_|refine .flat _ (f1) rfl ?_|refine .flat _ (f2) rfl ?_|(refine .aE [0,1,4,5,6,11,12,13,16,19] hK ?_;clear hK K)|(with_reducible refine .done (hK _ ?_);clear hK K)|refine U.of rfl ?_|(with_reducible refine aw.aF (fun h =>?_) (fun h =>?_) <;>try simp only[h])) <;>try simp only[aH,R,simprocAttr])
   all_goals clear R
   all_goals rfl
 ·rw[if_pos (of_decide_eq_true q1)];have R:=y6 @q1 aD
  repeat' ((first |refine U.aG (by decide +kernel) rfl fun K hK =>?_|refine .flat _ (f1) rfl ?_|refine .flat _ (f2) rfl ?_|(refine .aE [0,1,4,5,6,11,12,13,16,19] hK ?_;clear hK K)|(with_reducible refine .done (hK _ ?_);clear hK K)|refine U.of rfl ?_|(with_reducible refine aw.aF (fun h =>?_) (fun h =>?_) <;>try simp only[h])) <;>try simp only[aH,R,simprocAttr])
  all_goals clear R
  all_goals rfl
theorem F6(a b:Int):aS Tryz.prog 160 [enc [a,b]] (enc (if a≠0 then a else b)):=by
 refine aS.bT Tryz.func160 H6 Ji KA (t8 rfl) (fun hwf W0 bI E1 =>?_);simp only[zf,Dj,bF];clear hwf;have h0:∀ A,jb A 1 ((0:Nat):Int) (enc [a,b])=some (.ref (enc a)):=fun A=>eS (A:=A) (l:=[a,b]) (k:=0) 1 (by simp) rfl;have h1:∀ A,jb A 1 ((1:Nat):Int) (enc [a,b])=some (.ref (enc b)):=fun A=>eS (A:=A) (l:=[a,b]) (k:=1) 1 (by simp) rfl;have hl:([a,b]:List Int).length=2:=rfl;obtain ⟨l,hll⟩:∃ l,l=[a,b]:=⟨_,rfl⟩
 rw[←hll] at h0 h1 hl ⊢;have R:=aD
 repeat' ((first |refine U.aG (by decide +kernel) rfl fun K hK =>?_|(refine .aE [0,2,3,5,6,7,8,9,14] hK ?_;clear hK K)|(with_reducible refine .done (hK _ ?_);clear hK K)|refine U.of rfl ?_|(with_reducible refine aw.aF (fun h =>?_) (fun h =>?_) <;>try simp only[h])) <;>try simp only[aH,R,simprocAttr])
 all_goals clear R
 refine U.loop (fun i:Nat=>aq [(0,enc l),(3,.int .i64 0),(6,enc l),(7,.int .i64 (l.length:Int)),(8,.int .i64 (i:Int))] []) (fun i=>i≤2∧(0<i→a=0)∧(1<i→b=0)) (fun i=>2-i) 0 ⟨by omega,by omega,by omega⟩ ?_ ?_
 ·refine bg.bZ ?_ ?_ ?_ ?_ <;>simp[bK,bO,bG,bE,bN,I.only,br]
  all_goals rfl
 rintro i ⟨hi,k0,k1⟩;have hw:=eO (i:=i) (by omega);by_cases e0:i=0
 ·have hc:=e9 (show i<l.length by omega);have he:∀ A,jb A 1 (i:Int) (enc l)=some (.ref (enc a)):=fun A=>by rw[e0];exact h0 A
  cases q:(a != 0)
  ·have R:=y6 @hc (y6 @he (y6 @q (y6 @hw aD)))
   repeat' ((first |refine U.aG (by decide +kernel) rfl fun K hK =>?_|(refine .aE [0,2,3,5,6,7,8,9,14] hK ?_;clear hK K)|(with_reducible refine .done (hK _ ?_);clear hK K)|refine U.of rfl ?_|(with_reducible refine aw.aF (fun h =>?_) (fun h =>?_) <;>try simp only[h])) <;>try simp only[aH,R,simprocAttr])
   all_goals clear R
   refine ⟨i+1,⟨by omega,fun _=>by simpa using q,by omega⟩,by omega,?_⟩;refine bg.bZ ?_ ?_ ?_ ?_ <;>simp[bK,bO,bG,bE,bN,I.only,br]
   all_goals rfl
  ·have ha:a≠0:=by simpa using q
   rw[if_pos ha];have R:=y6 @hc (y6 @he (y6 @q (y6 @hw aD)))
   repeat' ((first |refine U.aG (by decide +kernel) rfl fun K hK =>?_|(refine .aE [0,2,3,5,6,7,8,9,14] hK ?_;clear hK K)|(with_reducible refine .done (hK _ ?_);clear hK K)|refine U.of rfl ?_|(with_reducible refine aw.aF (fun h =>?_) (fun h =>?_) <;>try simp only[h])) <;>try simp only[aH,R,simprocAttr])
   all_goals clear R
   all_goals rfl
 have ha:¬ a≠0:=fun h=>h (k0 (by omega));by_cases e1:i=1
 ·have hc:=e9 (show i<l.length by omega);have he:∀ A,jb A 1 (i:Int) (enc l)=some (.ref (enc b)):=fun A=>by rw[e1];exact h1 A
  cases q:(b != 0)
  ·have R:=y6 @hc (y6 @he (y6 @q (y6 @hw aD)))
   repeat' ((first |refine U.aG (by decide +kernel) rfl fun K hK =>?_|(refine .aE [0,2,3,5,6,7,8,9,14] hK ?_;clear hK K)|(with_reducible refine .done (hK _ ?_);clear hK K)|refine U.of rfl ?_|(with_reducible refine aw.aF (fun h =>?_) (fun h =>?_) <;>try simp only[h])) <;>try simp only[aH,R,simprocAttr])
   all_goals clear R
   refine ⟨i+1,⟨by omega,fun _=>k0 (by omega),fun _=>by simpa using q⟩,by omega,?_⟩;refine bg.bZ ?_ ?_ ?_ ?_ <;>simp[bK,bO,bG,bE,bN,I.only,br]
   all_goals rfl
  ·rw[if_neg ha];have R:=y6 @hc (y6 @he (y6 @q (y6 @hw aD)))
   repeat' ((first |refine U.aG (by decide +kernel) rfl fun K hK =>?_|(refine .aE [0,2,3,5,6,7,8,9,14] hK ?_;clear hK K)|(with_reducible refine .done (hK _ ?_);clear hK K)|refine U.of rfl ?_|(with_reducible refine aw.aF (fun h =>?_) (fun h =>?_) <;>try simp only[h])) <;>try simp only[aH,R,simprocAttr])
   all_goals clear R
   all_goals rfl
 have hc:=fB (show ¬ i<l.length by omega);rw[if_neg ha,k1 (by omega)];have R:=y6 @hc aD
 repeat' ((first |refine U.aG (by decide +kernel) rfl fun K hK =>?_|(refine .aE [0,2,3,5,6,7,8,9,14] hK ?_;clear hK K)|(with_reducible refine .done (hK _ ?_);clear hK K)|refine U.of rfl ?_|(with_reducible refine aw.aF (fun h =>?_) (fun h =>?_) <;>try simp only[h])) <;>try simp only[aH,R,simprocAttr])
 all_goals clear R
 all_goals rfl
theorem F1(a b:Item):aS Tryz.prog 140 [enc a,enc b] (enc (gB a b)):=by
 refine aS.bT Tryz.func140 HY Je Kv (t8 rfl) (fun hwf W0 bI E1 =>?_);simp only[zb,De,bF,Z5];clear hwf;have f1:=xV a.aJ b.aJ;have f2:=xV a.no b.no;have f3:=F6 (eI a.aJ b.aJ) (eI a.no b.no);have hbs:gm 1 (some [.int .i64 (eI a.aJ b.aJ),.int .i64 (eI a.no b.no)])=some (enc [eI a.aJ b.aJ,eI a.no b.no]):=uG (ys:=[eI a.aJ b.aJ,eI a.no b.no]) 1 rfl;have R:=y6 @hbs aD
 repeat' ((first |refine U.aG (by decide +kernel) rfl fun K hK =>?_|refine .flat _ (f1) rfl ?_|refine .flat _ (f2) rfl ?_|refine .flat _ (f3) rfl ?_|(refine .aE [0,1,2,3,4] hK ?_;clear hK K)|(with_reducible refine .done (hK _ ?_);clear hK K)|refine U.of rfl ?_|(with_reducible refine aw.aF (fun h =>?_) (fun h =>?_) <;>try simp only[h])) <;>try simp only[aH,R,simprocAttr])
 all_goals clear R
 all_goals rfl
theorem xS(x:ah)(a:Item):aS Tryz.prog 139 [enc x,enc a] (enc (gB x.bf a)):=by
 refine aS.bT Tryz.func139 HW Jc Kt (t8 rfl) (fun hwf W0 bI E1 =>?_);simp only[y9,Dc,bF,Z5];clear hwf;have R:=aD
 repeat' ((first |refine U.aG (by decide +kernel) rfl fun K hK =>?_|refine .flat _ (F1 x.bf a) rfl ?_|(refine .aE [0,1,2,3,4] hK ?_;clear hK K)|(with_reducible refine .done (hK _ ?_);clear hK K)|refine U.of rfl ?_|(with_reducible refine aw.aF (fun h =>?_) (fun h =>?_) <;>try simp only[h])) <;>try simp only[aH,R,simprocAttr])
 all_goals clear R
 all_goals rfl
theorem ZK(x y:Nat)(h:x+y<9223372036854775807):IntKind.i64.wrap ((x:Int)+(y:Int))=((x+y:Nat):Int):=by rw[dX _ (by omega) (by omega)];omega
theorem ZL{n:Nat}(h:n≤9223372036854775807):IntKind.i64.wrap (n:Int)=(n:Int):=dX _ (by omega) (by omega)
theorem v7(x:Nat):Int.fdiv (x:Int) (2^min (Int.toNat 1) IntKind.u64.bits)=((x / 2:Nat):Int):=by
 have:min (Int.toNat 1) IntKind.u64.bits=1:=rfl;rw[this]
 show Int.fdiv (x:Int) 2=_
 rw[Int.fdiv_eq_ediv_of_nonneg _ (by decide)];rfl
theorem Cg(x:Nat):Int.fdiv (x:Int) (2^min 1 IntKind.u64.bits)=((x / 2:Nat):Int):=v7 x
theorem WK{x:Nat}(h:x<9223372036854775807):IntKind.u64.wrap (x:Int)=(x:Int):=by
 simp only[IntKind.wrap,IntKind.bits,IntKind.signed];simp;omega
theorem Cf:((0:Int)≤1)=True:=by simp
abbrev lf(l:List ah):Prop:=l.Pairwise fun a b=>cR a b=true
def ef(l:List ah)(a:Item):Nat:=l.findIdx fun x => !fx x.bf a
def gE(l:List ah)(a:Item):Bool:=l.any fun x=>decide (x.bf=a)
theorem X5(l:List ah)(a:Item):ef l a≤l.length:=List.findIdx_le_length
theorem xn{l:List ah}(h:lf l){i j:Nat}(hij:i<j)(hj:j<l.length):fx (l[i]'(by omega)).bf l[j].bf=true:=List.pairwise_iff_getElem.1 h i j (by omega) hj hij
theorem wF{l:List ah}{a:Item}{i:Nat}(hi:i≤l.length)(h1:∀ k (h:k<l.length),k<i→fx l[k].bf a=true)(h2:∀ h:i<l.length,fx l[i].bf a=false):ef l a=i:=by
 simp only[ef];by_cases hlt:i<l.length
 ·refine (List.findIdx_eq hlt).2 ⟨by rw[h2 hlt];rfl,fun j hj =>?_⟩;rw[h1 j (by omega) hj];rfl
 ·have e:i=l.length:=by omega
  rw[e];refine List.findIdx_eq_length.2 fun x hx =>?_;obtain ⟨k,hk,rfl⟩:=List.getElem_of_mem hx;rw[h1 k hk (by omega)];rfl
theorem sh{l:List ah}(hs:lf l)(a:Item):gE l a=true↔∃ h:ef l a<l.length,(l[ef l a]).bf=a:=by
 constructor
 ·intro h;simp only[gE,List.any_eq_true,decide_eq_true_eq] at h;obtain ⟨x,hx,rfl⟩:=h;obtain ⟨k,hk,rfl⟩:=List.getElem_of_mem hx;have h1:ef l l[k].bf=k:=wF (by omega) (fun j hj hjk=>xn hs hjk hk) (fun _=>pN _);exact ⟨by omega,by simp only[h1]⟩
 ·rintro ⟨h1,h2⟩;simp only[gE,List.any_eq_true,decide_eq_true_eq];exact ⟨_,zw0 h1,h2⟩
theorem FZ(l:List ah)(a:Item)(hs:lf l)(hl:l.length≤1000):aS Tryz.prog 138 [enc l,enc a,.func 139 []] (.tuple [enc (ef l a:Int),enc (gE l a)]):=by
 refine aS.bT Tryz.func138 HV Jb Ks (t8 rfl) (fun hwf W0 bI E1 =>?_);simp only[y8,Db,bF,Z5,Nat.reduceAdd];clear hwf;have R:=aD
 repeat' ((first |(with_reducible refine .guard (fun hb =>?_) (fun hb =>?_) <;>try simp only[hb])|refine U.aG (by decide +kernel) rfl fun K hK =>?_|(refine .aE [0,1,2,4,6,7,8,9,10,11,17,31] hK ?_;clear hK K)|(with_reducible refine .done (hK _ ?_);clear hK K)|refine U.of rfl ?_|(with_reducible refine aw.aF (fun h =>?_) (fun h =>?_) <;>try simp only[h])) <;>try simp only[aH,R,simprocAttr])
 all_goals clear R
 refine U.loop (fun s:Nat×Nat=>aq [(0,enc l),(2,.func 139 []),(4,.ptr 4 []),(8,.int .i64 l.length),(9,.int .i64 s.1),(10,.int .i64 s.2)] [(4,.box (enc a))]) (fun s=>s.1≤s.2∧s.2≤l.length∧(∀ k (h:k<l.length),k<s.1→fx l[k].bf a=true)∧∀ k (h:k<l.length),s.2≤k→fx l[k].bf a=false) (fun s=>s.2-s.1) (0,l.length) ⟨zx8 _,Z4 _,fun k _ hk=>by omega,fun k h1 h2=>by simp only at h2;omega⟩ ?_ ?_
 ·refine bg.bZ ?_ ?_ ?_ ?_ <;>simp[bK,bO,bG,bE,ao,bN,cI,I.only,I.bV,ai.only,br]
  all_goals rfl
 rintro ⟨i,j⟩ ⟨h1,h2,h3,h4⟩;simp only at h1 h2 h3 h4 ⊢;by_cases hlt:i<j
 ·have hc:=e9 hlt;have w1:=ZK i j (by omega);have w2:=WK (x:=i+j) (by omega);obtain ⟨h,hh⟩:∃ h,h=(i+j) / 2:=⟨_,rfl⟩
  have w5:=ZL (n:=h) (by omega);have hhl:h<l.length:=by omega
  have he:=fun A=>eS (A:=A) 8 hhl rfl;have hn:=Ah l[h].bf a;have hw:=eO (i:=h) (by omega);have f139:=xS l[h] a;rcases hb:fx l[h].bf a
  ·rw[hb] at hn;have hlo:∀ k (h':k<l.length),h≤k→fx l[k].bf a=false:=fun k hkl hk=>by
    cases hbk:fx l[k].bf a with
    |false=>rfl
    |true =>
     by_cases e:k=h
     ·subst e;rw[hb] at hbk;cases hbk
     ·have:=uz (xn hs (show h<k by omega) hkl) hbk;rw[this] at hb;cases hb
   clear hb;generalize l[h]=r at *;have R:=y6 @hc (y6 @w1 (y6 @w2 (y6 @w5 (y6 @he (y6 @hn (y6 @hw (y6 @Cg (y6 @v7 (y6 @Cf (y6 @kr aD))))))))))
   repeat' ((first |(with_reducible refine .guard (fun hb =>?_) (fun hb =>?_) <;>try simp only[hb])|refine U.aG (by decide +kernel) rfl fun K hK =>?_|refine .flat _ (f139) rfl ?_|(refine .aE [0,1,2,4,6,7,8,9,10,11,17,31] hK ?_;clear hK K)|(with_reducible refine .done (hK _ ?_);clear hK K)|refine U.of rfl ?_|(with_reducible refine aw.aF (fun h =>?_) (fun h =>?_) <;>try simp only[h])) <;>try simp only[aH,R,←hh,Z8,simprocAttr])
   all_goals clear R
   refine ⟨(i,h),⟨by simp only;omega,by simp only;omega,h3,hlo⟩,by simp only;omega,?_⟩;clear hlo;refine bg.bZ ?_ ?_ ?_ ?_ <;>simp[bK,bO,bG,bE,ao,bN,cI,I.only,I.bV,ai.only,br]
   all_goals rfl
  ·rw[hb] at hn;have hhi:∀ k (h':k<l.length),k<h+1→fx l[k].bf a=true:=fun k hkl hk=>by
    by_cases e:k=h
    ·subst e;exact hb
    ·cases hbk:fx l[k].bf a with
     |true=>rfl
     |false =>
      have:=uz (xn hs (show k<h by omega) hhl) hb;rw[this] at hbk;cases hbk
   clear hb;generalize l[h]=r at *;have R:=y6 @hc (y6 @w1 (y6 @w2 (y6 @w5 (y6 @he (y6 @hn (y6 @hw (y6 @Cg (y6 @v7 (y6 @Cf (y6 @kr aD))))))))))
   repeat' ((first |(with_reducible refine .guard (fun hb =>?_) (fun hb =>?_) <;>try simp only[hb])|refine U.aG (by decide +kernel) rfl fun K hK =>?_|refine .flat _ (f139) rfl ?_|(refine .aE [0,1,2,4,6,7,8,9,10,11,17,31] hK ?_;clear hK K)|(with_reducible refine .done (hK _ ?_);clear hK K)|refine U.of rfl ?_|(with_reducible refine aw.aF (fun h =>?_) (fun h =>?_) <;>try simp only[h])) <;>try simp only[aH,R,←hh,Z8,simprocAttr])
   all_goals clear R
   refine ⟨(h+1,j),⟨by simp only;omega,h2,hhi,h4⟩,by simp only;omega,?_⟩;clear hhi;refine bg.bZ ?_ ?_ ?_ ?_ <;>simp[bK,bO,bG,bE,ao,bN,cI,I.only,I.bV,ai.only,br]
   all_goals rfl
 ·have hij:i=j:=by omega
  subst hij;have hc:=fB hlt;have hp:ef l a=i:=wF h2 h3 fun h=>h4 i h (Z4 _);have hh:=sh hs a;rw[hp];by_cases hil:i<l.length
  ·have hc2:=e9 hil;have he:=fun A=>eS (A:=A) 8 hil rfl;have hz:=J9 l[i].bf a;have hhz:gE l a=decide (l[i].bf=a):=by
    rw[Bool.eq_iff_iff,hh,decide_eq_true_eq];constructor
    ·rintro ⟨_,e⟩;simp only[hp] at e;exact e
    ·intro e;exact ⟨by omega,by simp only[hp];exact e⟩
   have f139:=xS l[i] a;rw[hhz];clear hhz h3 h4;generalize l[i]=r at *;have R:=y6 @hc (y6 @hc2 (y6 @he (y6 @hz (y6 @kr aD))))
   repeat' ((first |(with_reducible refine .guard (fun hb =>?_) (fun hb =>?_) <;>try simp only[hb])|refine U.aG (by decide +kernel) rfl fun K hK =>?_|refine .flat _ (f139) rfl ?_|(refine .aE [0,1,2,4,6,7,8,9,10,11,17,31] hK ?_;clear hK K)|(with_reducible refine .done (hK _ ?_);clear hK K)|refine U.of rfl ?_|(with_reducible refine aw.aF (fun h =>?_) (fun h =>?_) <;>try simp only[h])) <;>try simp only[aH,R,Z8,simprocAttr])
   all_goals clear R
   all_goals rfl
  ·have hc2:=fB hil;have hhz:gE l a=false:=by
    cases q:gE l a
    ·rfl
    ·obtain ⟨h,_⟩:=hh.1 q;omega
   rw[hhz];have R:=y6 @hc (y6 @hc2 aD)
   repeat' ((first |(with_reducible refine .guard (fun hb =>?_) (fun hb =>?_) <;>try simp only[hb])|refine U.aG (by decide +kernel) rfl fun K hK =>?_|(refine .aE [0,1,2,4,6,7,8,9,10,11,17,31] hK ?_;clear hK K)|(with_reducible refine .done (hK _ ?_);clear hK K)|refine U.of rfl ?_|(with_reducible refine aw.aF (fun h =>?_) (fun h =>?_) <;>try simp only[h])) <;>try simp only[aH,R,simprocAttr])
   all_goals clear R
   all_goals rfl
theorem yd(l:List ah)(a:Item)(hs:lf l)(hl:l.length≤1000):aS Tryz.prog 94 [enc (⟨l⟩:di),enc a] (.tuple [enc (ef l a:Int),enc (gE l a)]):=by
 have hF:=FZ l a hs hl;refine aS.bT Tryz.func94 IL JU Ld (t8 rfl) (fun hwf W0 bI E1 =>?_);simp only[zP,DY,bF,Z5];clear hwf;have R:=aD
 repeat' ((first |refine U.aG (by decide +kernel) rfl fun K hK =>?_|refine .lead _ (hF) ?_|(refine .aE [0,1,2,3,4,5] hK ?_;clear hK K)|(with_reducible refine .done (hK _ ?_);clear hK K)|refine U.of rfl ?_|(with_reducible refine aw.aF (fun h =>?_) (fun h =>?_) <;>try simp only[h])) <;>try simp only[aH,R,simprocAttr])
 all_goals clear R
 all_goals rfl
def lB(x:ah):List ah→Nat→Int
 | [],_=>-1
 |r::l,i=>if x=r then (i:Int) else lB x l (i+1)
theorem BF(x:ah):∀ (l:List ah) (i:Nat),decide (lB x l i≥0)=decide (x∈l)
 | [],i=>by simp[lB]
 |r::l,i=>by
  rw[lB];by_cases h:x=r
  ·rw[if_pos h];subst h;simp
  ·rw[if_neg h,BF x l (i+1)];simp[h]
theorem F5(l:List ah)(x:ah)(hl:l.length≤4000000000000):aS Tryz.prog 159 [enc l,enc x] (enc (lB x l 0)):=by
 refine aS.bT Tryz.func159 H5 Jh Kz (t8 rfl) (fun hwf W0 bI E1 =>?_);simp only[ze,Di,bF,Z5];clear hwf;have R:=aD
 repeat' ((first |refine U.aG (by decide +kernel) rfl fun K hK =>?_|(refine .aE [0,1,3,4,5,7,8,9,16] hK ?_;clear hK K)|(with_reducible refine .done (hK _ ?_);clear hK K)|refine U.of rfl ?_|(with_reducible refine aw.aF (fun h =>?_) (fun h =>?_) <;>try simp only[h])) <;>try simp only[aH,R,simprocAttr])
 all_goals clear R
 refine U.loop (fun i:Nat=>aq [(0,enc l),(3,.ptr 3 []),(7,.int .i64 l.length),(8,.int .i64 i)] [(3,.box (enc x))]) (fun i=>i≤l.length∧lB x l 0=lB x (l.drop i) i) (fun i=>l.length-i) 0 ⟨zx8 _,by simp⟩ ?_ ?_
 ·refine bg.bZ ?_ ?_ ?_ ?_ <;>simp[bK,bO,bG,bE,ao,bN,cI,I.only,ai.only,br]
  all_goals rfl
 rintro i ⟨hi,heq⟩;rw[heq];by_cases hlt:i<l.length
 ·have hlc:=e9 hlt;have he:=fun A=>eS (A:=A) 8 hlt rfl;have hw:=eO (i:=i) (by omega);have hd:=List.drop_eq_getElem_cons hlt;rw[hd,lB] at heq ⊢;generalize l[i]=r at *;by_cases q:x=r
  ·rw[if_pos q];have q1:decide (x=r)=true:=decide_eq_true q;have R:=y6 @hlc (y6 @he (y6 @hw (y6 @q1 aD)))
   repeat' ((first |refine U.aG (by decide +kernel) rfl fun K hK =>?_|(refine .aE [0,1,3,4,5,7,8,9,16] hK ?_;clear hK K)|(with_reducible refine .done (hK _ ?_);clear hK K)|refine U.of rfl ?_|(with_reducible refine aw.aF (fun h =>?_) (fun h =>?_) <;>try simp only[h])) <;>try simp only[aH,R,simprocAttr])
   all_goals clear R
   all_goals rfl
  ·rw[if_neg q] at heq ⊢;have q1:decide (x=r)=false:=decide_eq_false q;have R:=y6 @hlc (y6 @he (y6 @hw (y6 @q1 aD)))
   repeat' ((first |refine U.aG (by decide +kernel) rfl fun K hK =>?_|(refine .aE [0,1,3,4,5,7,8,9,16] hK ?_;clear hK K)|(with_reducible refine .done (hK _ ?_);clear hK K)|refine U.of rfl ?_|(with_reducible refine aw.aF (fun h =>?_) (fun h =>?_) <;>try simp only[h])) <;>try simp only[aH,R,simprocAttr])
   all_goals clear R
   refine ⟨i+1,⟨by omega,rfl⟩,by omega,?_⟩;clear hd heq;refine bg.bZ ?_ ?_ ?_ ?_ <;>simp[bK,bO,bG,bE,ao,bN,cI,I.only,ai.only,br]
   all_goals rfl
 ·have hlc:=fB hlt;rw[List.drop_eq_nil_of_le (by omega),lB];have R:=y6 @hlc aD
  repeat' ((first |refine U.aG (by decide +kernel) rfl fun K hK =>?_|(refine .aE [0,1,3,4,5,7,8,9,16] hK ?_;clear hK K)|(with_reducible refine .done (hK _ ?_);clear hK K)|refine U.of rfl ?_|(with_reducible refine aw.aF (fun h =>?_) (fun h =>?_) <;>try simp only[h])) <;>try simp only[aH,R,simprocAttr])
  all_goals clear R
  all_goals rfl
theorem FX(l:List ah)(x:ah)(hl:l.length≤4000000000000):aS Tryz.prog 136 [enc l,enc x] (enc (decide (x∈l))):=by
 refine aS.bT Tryz.func136 HT I9 Kq (t8 rfl) (fun hwf W0 bI E1 =>?_);simp only[y5,C9,bF,Z5];clear hwf;have f:=F5 l x hl;have h:=BF x l 0;have R:=y6 @h aD
 repeat' ((first |refine U.aG (by decide +kernel) rfl fun K hK =>?_|refine .flat _ (f) rfl ?_|(refine .aE [0,1,3,4] hK ?_;clear hK K)|(with_reducible refine .done (hK _ ?_);clear hK K)|refine U.of rfl ?_|(with_reducible refine aw.aF (fun h =>?_) (fun h =>?_) <;>try simp only[h])) <;>try simp only[aH,R,simprocAttr])
 all_goals clear R
 all_goals rfl
def gI(l:List ah):Item:=match l.getLast? with
 |none=>⟨-1,0⟩
 |some a=>a.bf
theorem Zr(l:List ah)(r:ah):iA l r=(decide (r.bf=⟨(gI l).aJ,(gI l).no+1⟩)||(!decide (r.aJ≤(gI l).aJ) && !(r.no != 0))):=by
 have e:∀ p:Item,decide ((r.aJ=p.aJ∧r.no=p.no+1)∨(p.aJ<r.aJ∧r.no=0))=(decide (r.bf=⟨p.aJ,p.no+1⟩)||(!decide (r.aJ≤p.aJ) && !(r.no != 0))):=fun p=>by
  rw[Bool.eq_iff_iff];simp[ah.bf]
 rcases h:l.getLast? with _ | a
 ·have h1:iA l r=decide ((r.aJ=-1∧r.no=1)∨(-1<r.aJ∧r.no=0)):=by rw[iA,h]
  have h2:gI l=⟨-1,0⟩:=by rw[gI,h]
  rw[h1,h2];exact e ⟨-1,0⟩
 ·have h1:iA l r=decide ((r.aJ=a.aJ∧r.no=a.no+1)∨(a.aJ<r.aJ∧r.no=0)):=by rw[iA,h]
  have h2:gI l=a.bf:=by rw[gI,h]
  rw[h1,h2];exact e a.bf
def fN(l:List ah):Bool:=fg (fun out r=>bn r&&iA out r) [] l&&decide (l.length≤60)
theorem GD{aT:List ah→ah→Bool}{l:List ah}{i:Nat}(h:i<l.length):fg aT (l.take i) (l.drop i)=(aT (l.take i) l[i]&&fg aT (l.take (i+1)) (l.drop (i+1))):=by
 rw[List.drop_eq_getElem_cons h,fg,←fW h]
theorem AD:I.agg [enc (⟨0,0⟩:Item),.int .i64 0,.int .i64 0,.int .i64 0,enc (⟨0,0⟩:Item),.aj ⟨#[]⟩]=enc (default:ah):=rfl
theorem Fh:(∀ A n b rest (q r:Item),dW A (some 2) n [] b (enc q) rest (some (enc r))=ar rest (A.aQ n (.box (enc q))))∧fF [.int .i64 0,.int .i64 0] [(0,.int .i64 (-1))]=some [.int .i64 (-1),.int .i64 0]∧I.agg [.int .i64 (-1),.int .i64 0]=enc (⟨-1,0⟩:Item) ∧
  (∀ (x:Item),(I.agg [.int .i64 x.aJ,.int .i64 (x.no+1)])=enc (⟨x.aJ,x.no+1⟩:Item)) :=
 ⟨fun A n b rest q r=>by rw[eV (eQ _) (by rw[hZ];rfl) ((eJ _).trans (eJ _).symm),fM],rfl,rfl,fun _=>rfl⟩
theorem X8{l:List ah}{i:Nat}(h:i<l.length):gI (l.take (i+1))=l[i].bf:=by
 rw[gI,fW h,List.getLast?_concat]
theorem X9{l:List ah}(h:∀ r∈l,bn r=true):-1≤(gI l).aJ∧(gI l).aJ≤5∧0≤(gI l).no∧(gI l).no≤9999:=by
 rw[gI];cases e:l.getLast? with
 |none=>simp
 |some a =>
  have:=qB (qD (h a (List.mem_of_getLast? e)));simp only[ah.bf];omega
theorem rn(l:List ah)(hl:l.length≤4000000000000):aS Tryz.prog 92 [enc (⟨l⟩:di)] (enc (fN l)):=by
 refine aS.bT Tryz.func92 IK JT Lc (t8 rfl) (fun hwf W0 bI E1 =>?_);simp only[zO,DX,bF];clear hwf;have R:=aD
 repeat' ((first |(with_reducible refine .guard (fun hb =>?_) (fun hb =>?_) <;>try simp only[hb])|refine U.aG (by decide +kernel) rfl fun K hK =>?_|(refine .aE [0,1,2,3,4,5,7,8,9,10,16,19,49] hK ?_;clear hK K)|(with_reducible refine .done (hK _ ?_);clear hK K)|refine U.of rfl ?_|(with_reducible refine aw.aF (fun h =>?_) (fun h =>?_) <;>try simp only[h])) <;>try simp only[aH,R,simprocAttr])
 all_goals clear R
 refine U.loop (fun i:Nat=>aq [(1,.ptr 1 []),(7,enc l),(8,.int .i64 l.length),(9,.int .i64 i)] [(1,.box (enc (⟨l⟩:di)))]) (fun i=>i≤l.length∧(∀ r∈l.take i,bn r=true)∧fN l=(fg (fun out r=>bn r&&iA out r) (l.take i) (l.drop i)&&decide (l.length≤60))) (fun i=>l.length-i) 0 ⟨zx8 _,by simp,rfl⟩ ?_ ?_
 ·refine bg.bZ ?_ ?_ ?_ ?_ <;>simp[bK,bO,bG,bE,ao,bN,cI,I.only,ai.only,br]
  all_goals rfl
 rintro i ⟨hi,hk,heq⟩;rw[heq];by_cases hlt:i<l.length
 ·have hlc:=e9 hlt;have he:=fun A=>eS (A:=A) 8 hlt rfl;have hw:=eO (i:=i) (by omega);have hnx:=Cy hlt hk;have hpi:=X9 hk;have hst:=Zr (l.take i) l[i];rw[GD hlt] at heq ⊢;have hpz:i=0→gI (l.take i)=⟨-1,0⟩:=fun e=>by subst e;rfl
  have hps:∀ h:0<i,gI (l.take i)=(l[i-1]'(by omega)).bf:=fun h=>by
   have:=X8 (l:=l) (i:=i-1) (by omega)
   rwa [show i-1+1=i by omega] at this
  generalize l[i]=r at *;have f80:=pB r;cases q1:bn r
  ·rw[q1] at f80;have R:=y6 @hlc (y6 @he (y6 @hw (y6 @eZ (y6 @eN aD))))
   repeat' ((first |(with_reducible refine .guard (fun hb =>?_) (fun hb =>?_) <;>try simp only[hb])|refine U.aG (by decide +kernel) rfl fun K hK =>?_|refine .flat _ (f80) rfl ?_|(refine .aE [0,1,2,3,4,5,7,8,9,10,16,19,49] hK ?_;clear hK K)|(with_reducible refine .done (hK _ ?_);clear hK K)|refine U.of rfl ?_|(with_reducible refine aw.aF (fun h =>?_) (fun h =>?_) <;>try simp only[h])) <;>try simp only[aH,R,simprocAttr])
   all_goals clear R
   all_goals rfl
  rw[q1] at f80;generalize gI (l.take i)=p at *;have hww:IntKind.i64.wrap (p.no+1)=p.no+1:=dX _ (by omega) (by omega);rw[hst] at heq ⊢;by_cases hz:0<i
  ·have hgt:decide ((i:Int)>0)=true:=decide_eq_true (by omega);have hpe:=fun A=>eS (A:=A) (l:=l) (k:=i-1) 8 (by omega) rfl;have hw1:IntKind.i64.wrap ((i:Int)-1)=((i-1:Nat):Int):=by rw[dX _ (by omega) (by omega)];omega
   have hpm:=(hps hz).symm;clear hps hpz hst;generalize l[i-1]=q at *;cases c1:decide (r.bf=⟨p.aJ,p.no+1⟩) <;>cases c2:decide (r.aJ≤p.aJ) <;>cases c3:(r.no != 0)
   all_goals
    rw[c1,c2,c3] at heq;have R:=y6 @hlc (y6 @he (y6 @hw (y6 @hgt (y6 @hpm (y6 @hpe (y6 @hw1 (y6 @hww (y6 @c1 (y6 @c2 (y6 @c3 (y6 @AD (y6 @eZ (y6 @pT (y6 @eN (y6 @Fh (y6 @n9 aD))))))))))))))))
    repeat' ((first |(with_reducible refine .guard (fun hb =>?_) (fun hb =>?_) <;>try simp only[hb])|refine U.aG (by decide +kernel) rfl fun K hK =>?_|refine .flat _ (f80) rfl ?_|(refine .aE [0,1,2,3,4,5,7,8,9,10,16,19,49] hK ?_;clear hK K)|(with_reducible refine .done (hK _ ?_);clear hK K)|refine U.of rfl ?_|(with_reducible refine aw.aF (fun h =>?_) (fun h =>?_) <;>try simp only[h])) <;>try simp only[aH,R,simprocAttr])
    all_goals clear R
    all_goals first
     |rfl
     |(refine ⟨i+1,⟨by omega,hnx q1,by rfl⟩,by omega,?_⟩;clear heq hnx;(refine bg.bZ ?_ ?_ ?_ ?_ <;>simp[bK,bO,bG,bE,ao,bN,cI,I.only,ai.only,br]);all_goals rfl)
  ·have hgt:decide ((i:Int)>0)=false:=decide_eq_false (by omega);have hpm:=(hpz (by omega)).symm;clear hps hpz hst;cases c1:decide (r.bf=⟨p.aJ,p.no+1⟩) <;>cases c2:decide (r.aJ≤p.aJ) <;>cases c3:(r.no != 0)
   all_goals
    rw[c1,c2,c3] at heq;have R:=y6 @hlc (y6 @he (y6 @hw (y6 @hgt (y6 @hpm (y6 @hww (y6 @c1 (y6 @c2 (y6 @c3 (y6 @AD (y6 @eZ (y6 @pT (y6 @eN (y6 @Fh (y6 @n9 aD))))))))))))))
    repeat' ((first |(with_reducible refine .guard (fun hb =>?_) (fun hb =>?_) <;>try simp only[hb])|refine U.aG (by decide +kernel) rfl fun K hK =>?_|refine .flat _ (f80) rfl ?_|(refine .aE [0,1,2,3,4,5,7,8,9,10,16,19,49] hK ?_;clear hK K)|(with_reducible refine .done (hK _ ?_);clear hK K)|refine U.of rfl ?_|(with_reducible refine aw.aF (fun h =>?_) (fun h =>?_) <;>try simp only[h])) <;>try simp only[aH,R,simprocAttr])
    all_goals clear R
    all_goals first
     |rfl
     |(refine ⟨i+1,⟨by omega,hnx q1,by rfl⟩,by omega,?_⟩;clear heq hnx;(refine bg.bZ ?_ ?_ ?_ ?_ <;>simp[bK,bO,bG,bE,ao,bN,cI,I.only,ai.only,br]);all_goals rfl)
 ·have hlc:=fB hlt;rw[List.drop_eq_nil_of_le (by omega),fg];have hle:decide ((l.length:Int)≤60)=decide (l.length≤60):=by rw[decide_eq_decide];omega
  have R:=y6 @hlc (y6 @hle aD)
  repeat' ((first |(with_reducible refine .guard (fun hb =>?_) (fun hb =>?_) <;>try simp only[hb])|refine U.aG (by decide +kernel) rfl fun K hK =>?_|(refine .aE [0,1,2,3,4,5,7,8,9,10,16,19,49] hK ?_;clear hK K)|(with_reducible refine .done (hK _ ?_);clear hK K)|refine U.of rfl ?_|(with_reducible refine aw.aF (fun h =>?_) (fun h =>?_) <;>try simp only[h])) <;>try simp only[aH,R,simprocAttr])
  all_goals clear R
  all_goals rfl
theorem xB(l:List ah)(m:Nat):(l++List.replicate m cA).take l.length=l:=List.take_left
theorem ue(l:List ah)(hl:l.length≤1000):aS Tryz.prog 93 [enc l] (enc l):=by
 refine aS.bT Tryz.func93 zX Aa Am (t8 rfl) (fun hwf W0 bI E1 =>?_);simp only[uI,wL,bF];refine .dI (by decide +kernel) fun K hK =>?_;simp only[vx,ba,simprocAttr];refine .done (hK _ ?_);clear hK K;refine U.seq (U.seq ?_);by_cases hn:l=[]
 ·subst hn;refine .iq (by decide +kernel) fun K hK =>?_;simp only[qa,ba,simprocAttr];simp only[tN,List.isEmpty_nil,oP];refine .any rfl fun b _ =>?_
  try simp only[ba,simprocAttr]
  generalize (b==0)=t;cases t
  ·refine .done (hK _ ?_);clear hK K;try simp only[cQ]
   refine U.gT ?_;simp only[aw,ba,simprocAttr];refine ⟨fun h =>?_,fun h =>?_⟩
   ·cases h
   refine U.skip ?_;try simp only[cQ,simprocAttr]
   refine .dI (by decide +kernel) fun K hK =>?_;simp only[qb,ba,simprocAttr]
   try simp only[iB,lx,ba,simprocAttr]
   refine .done (hK _ ?_);clear hK K;refine U.ret ?_;simp only[ba,simprocAttr]
   all_goals rfl
  ·refine .done (hK _ ?_);clear hK K;refine U.gT ?_;simp only[aw,ba,simprocAttr];refine ⟨fun h =>?_,fun h =>?_⟩
   ·refine .dI (by decide +kernel) fun K hK =>?_;simp only[vy,ba,simprocAttr];refine .done (hK _ ?_);clear hK K;refine U.ret ?_;simp only[cQ,ba,simprocAttr]
    all_goals rfl
   ·cases h
 ·have hu:jh (enc l)=false:=by rw[tN];simpa using hn
  refine .iq (by decide +kernel) fun K hK =>?_;simp only[qa,ba,simprocAttr]
  try simp only[hu,Ck _ l hn,ba,simprocAttr]
  refine .done (hK _ ?_);clear hK K;try simp only[cQ]
  refine U.gT ?_;simp only[aw,ba,simprocAttr];refine ⟨fun h =>?_,fun h =>?_⟩
  ·cases h
  refine U.skip ?_;try simp only[cQ,simprocAttr]
  refine .dI (by decide +kernel) fun K hK =>?_;simp only[qb,ba,simprocAttr]
  try simp only[iB,lx,ba,simprocAttr]
  refine aY.uu cA rfl hn rfl (by omega) (by simp only[maxLen];omega) fun m =>?_
  try simp only[ba,simprocAttr]
  refine .done (hK _ ?_);clear hK K;refine U.ret ?_;simp only[ba,simprocAttr]
  try simp only[ox (α:=ah) (sz:=8) rfl,xB,ba,simprocAttr]
def uQ(l:List ah):Int:=if fN l then 0 else 81
theorem Ge(l:List ah)(hl:l.length≤4000000000000):aS Tryz.prog 45 [enc (⟨l⟩:di)] (enc (uQ l)):=by
 refine aS.bT Tryz.func45 Ir JC KU (t8 rfl) (fun hwf W0 bI E1 =>?_);simp only[zA,DG,bF];clear hwf;have f:=rn l hl;simp only[uQ];cases h:fN l
 ·rw[h] at f;have R:=aD
  repeat' ((first |refine U.aG (by decide +kernel) rfl fun K hK =>?_|refine .flat _ (f) rfl ?_|(refine .aE [0,1,2,5] hK ?_;clear hK K)|(with_reducible refine .done (hK _ ?_);clear hK K)|refine U.of rfl ?_|(with_reducible refine aw.aF (fun h =>?_) (fun h =>?_) <;>try simp only[h])) <;>try simp only[aH,R,simprocAttr])
  all_goals clear R
  all_goals rfl
 ·rw[h] at f;have R:=aD
  repeat' ((first |refine U.aG (by decide +kernel) rfl fun K hK =>?_|refine .flat _ (f) rfl ?_|(refine .aE [0,1,2,5] hK ?_;clear hK K)|(with_reducible refine .done (hK _ ?_);clear hK K)|refine U.of rfl ?_|(with_reducible refine aw.aF (fun h =>?_) (fun h =>?_) <;>try simp only[h])) <;>try simp only[aH,R,simprocAttr])
  all_goals clear R
  all_goals rfl
def BH(g:ah):cj:=fun r os'=>∃ q,r=.view 25 [] 8 0 1∧os'=eU 25 [g] q
theorem EW(A:ab):jF A 8 (some (.int .i64 0)) none none (.c0 8)=some (.slice 8 [])∧jF A 8 (some (.int .i64 0)) none none (.nils 8)=some (.slice 8 []):=by
 constructor <;>simp[jF,iQ,hG]
theorem FM(x:I)(hx:x=.nils 8∨x=.c0 8)(g:ah):eW Tryz.prog 101 [x,enc (0:Int),enc [g]] [] (BH g):=by
 rcases hx with rfl | rfl
 ·refine eW.bT Tryz.func101 uK uM uV (t8 rfl) (t8 rfl) (fun m hm=>by simp[ao,aA] at hm) (fun hwf W0 bI E1 =>?_);simp only[rJ,te,bF,Z5,Nat.reduceAdd];refine .dI (by decide +kernel) fun K hK =>?_;simp only[r0,ba];refine .done (hK _ ?_);clear hK K;refine .dI (by decide +kernel) fun K hK =>?_;simp only[r2,ba,Nat.reduceEqDiff,reduceIte]
  try simp only[zx2,(EW _).2,ba]
  refine .done (hK _ ?_);clear hK K;refine .dI (by decide +kernel) fun K hK =>?_;simp only[r3,ba,Nat.reduceEqDiff,reduceIte]
  try simp only[typR,ji,j0,js,ba,Nat.reduceEqDiff,reduceIte,Int.reduceBNe,Int.reduceBEq]
  refine .done (hK _ ?_);clear hK K;refine U.seq (U.seq ?_);refine .iq (by decide +kernel) fun K hK =>?_;simp only[r4,ba,Nat.reduceEqDiff,reduceIte]
  try simp only[typR,ji,j0,js,ba,Nat.reduceEqDiff,reduceIte,Int.reduceBNe,Int.reduceBEq]
  refine .done (hK _ ?_);clear hK K;try simp only[cQ]
  refine U.gT ?_;simp only[aw,ba,Nat.reduceEqDiff,reduceIte];refine ⟨fun h =>?_,fun h =>?_⟩
  ·first | cases h | simp at h
  refine U.skip ?_;try simp only[cQ]
  refine .dI (by decide +kernel) fun K hK =>?_;simp only[r5,ba,Nat.reduceEqDiff,reduceIte]
  try simp only[typR,ji,j0,js,ba,Nat.reduceEqDiff,reduceIte,Int.reduceBNe,Int.reduceBEq]
  refine .done (hK _ ?_);clear hK K;refine U.seq (U.seq ?_);refine .iq (by decide +kernel) fun K hK =>?_;simp only[r6,ba,Nat.reduceEqDiff,reduceIte,Int.reduceBEq]
  try simp only[typR,ji,j0,js,ba,Nat.reduceEqDiff,reduceIte,Int.reduceBNe,Int.reduceBEq]
  refine .done (hK _ ?_);clear hK K;try simp only[cQ]
  refine U.gT ?_;simp only[aw,ba,Nat.reduceEqDiff,reduceIte];refine ⟨fun h =>?_,fun h =>?_⟩
  case refine_2.refine_2=>first | cases h | simp at h
  refine .dI (by decide +kernel) fun K hK =>?_;simp only[p9,ba,Nat.reduceEqDiff,reduceIte]
  try simp only[lx]
  refine aY.GO (esz:=8) cA (l:=[g]) rfl (by simp) rfl (by simp) (by simp[maxLen]) fun q =>?_
  try simp only[ba,Nat.reduceEqDiff,reduceIte]
  refine .done (hK _ ?_);clear hK K;refine U.ret ?_;simp only[cQ,j8];exact ⟨eU 25 [g] q,[.view 25 [] 8 0 1],oC rfl (fun p=>fD p _),⟨⟨_,rfl,.inl ⟨rfl,rfl,rfl⟩⟩,trivial⟩,q,rfl,rfl⟩
 ·refine eW.bT Tryz.func101 uK uM uV (t8 rfl) (t8 rfl) (fun m hm=>by simp[ao,aA] at hm) (fun hwf W0 bI E1 =>?_);simp only[rJ,te,bF,Z5,Nat.reduceAdd];refine .dI (by decide +kernel) fun K hK =>?_;simp only[r0,ba];refine .done (hK _ ?_);clear hK K;refine .dI (by decide +kernel) fun K hK =>?_;simp only[r2,ba,Nat.reduceEqDiff,reduceIte]
  try simp only[zx2,(EW _).1,ba]
  refine .done (hK _ ?_);clear hK K;refine .dI (by decide +kernel) fun K hK =>?_;simp only[r3,ba,Nat.reduceEqDiff,reduceIte]
  try simp only[typR,ji,j0,js,ba,Nat.reduceEqDiff,reduceIte,Int.reduceBNe,Int.reduceBEq]
  refine .done (hK _ ?_);clear hK K;refine U.seq (U.seq ?_);refine .iq (by decide +kernel) fun K hK =>?_;simp only[r4,ba,Nat.reduceEqDiff,reduceIte]
  try simp only[typR,ji,j0,js,ba,Nat.reduceEqDiff,reduceIte,Int.reduceBNe,Int.reduceBEq]
  refine .done (hK _ ?_);clear hK K;try simp only[cQ]
  refine U.gT ?_;simp only[aw,ba,Nat.reduceEqDiff,reduceIte];refine ⟨fun h =>?_,fun h =>?_⟩
  ·first | cases h | simp at h
  refine U.skip ?_;try simp only[cQ]
  refine .dI (by decide +kernel) fun K hK =>?_;simp only[r5,ba,Nat.reduceEqDiff,reduceIte]
  try simp only[typR,ji,j0,js,ba,Nat.reduceEqDiff,reduceIte,Int.reduceBNe,Int.reduceBEq]
  refine .done (hK _ ?_);clear hK K;refine U.seq (U.seq ?_);refine .iq (by decide +kernel) fun K hK =>?_;simp only[r6,ba,Nat.reduceEqDiff,reduceIte,Int.reduceBEq]
  try simp only[typR,ji,j0,js,ba,Nat.reduceEqDiff,reduceIte,Int.reduceBNe,Int.reduceBEq]
  refine .done (hK _ ?_);clear hK K;try simp only[cQ]
  refine U.gT ?_;simp only[aw,ba,Nat.reduceEqDiff,reduceIte];refine ⟨fun h =>?_,fun h =>?_⟩
  case refine_2.refine_2=>first | cases h | simp at h
  refine .dI (by decide +kernel) fun K hK =>?_;simp only[p9,ba,Nat.reduceEqDiff,reduceIte]
  try simp only[lx]
  refine aY.uu (esz:=8) cA (l:=[g]) rfl (by simp) rfl (by simp) (by simp[maxLen]) fun q =>?_
  try simp only[ba,Nat.reduceEqDiff,reduceIte]
  refine .done (hK _ ?_);clear hK K;refine U.ret ?_;simp only[cQ,j8];exact ⟨eU 25 [g] q,[.view 25 [] 8 0 1],oC rfl (fun p=>fD p _),⟨⟨_,rfl,.inl ⟨rfl,rfl,rfl⟩⟩,trivial⟩,q,rfl,rfl⟩
theorem dh.CE{aI:Bool}{ρ:List (Nat×Nat)}{k:Nat}{x:ai}{os0:List (Nat×ai)}{r c:I}(h1:∀ p,c.only p=true)(h2:aI=true→c.cZ=true)(h3:r.only (ao [(k,.box c)])=true)(h4:aI=true→r.cZ=true):dh aI ρ [(k,x)] os0 r [(k,.box c)]:=by
 refine ⟨fun m x h =>?_,fun m m' h h' _ =>?_,fun m h =>?_,fun m h h' =>?_,h3,h4⟩
 ·simp only[aA] at h;split at h
  ·simp only[v6] at h;subst h;exact ⟨h1 _,rfl,h2⟩
  ·cases h
 ·rw[ga.1 h,ga.1 h']
 ·rw[ga.1 h];exact ga.2 rfl
 ·rw[ga.1 h] at h';have:ao [(k,x)] k=true:=ga.2 rfl;rw[this] at h';cases h'
theorem dh.po{aI:Bool}{ρ:List (Nat×Nat)}{k k' d d':Nat}{x:ai}{os0:List (Nat×ai)}{r c c':I}(hk:bh ρ k=d)(hk':bh ρ k'=d')(hd:d≠d')(hne:k≠k')(h1:∀ p,c.only p=true)(h2:aI=true→c.cZ=true)(h1':∀ p,c'.only p=true)(h2':aI=true→c'.cZ=true)
  (h3:r.only (ao [(k,.box c),(k',.box c')])=true) (h4:aI=true→r.cZ=true) (h5:aA os0 d=none) (h6:d<1000000):dh aI ρ [(k',x)] os0 r [(k,.box c),(k',.box c')]:=by
 have po:∀ m,ao [(k,ai.box c),(k',ai.box c')] m=true→m=k∨m=k':=fun m h=>by
  simp only[ao,aA] at h;split at h
  ·rename_i e;exact .inl e
  ·split at h
   ·rename_i e;exact .inr e
   ·cases h
 refine ⟨fun m y h =>?_,fun m m' h h' e =>?_,fun m h =>?_,fun m h h' =>?_,h3,h4⟩
 ·simp only[aA] at h;split at h
  ·simp only[v6] at h;subst h;exact ⟨h1 _,rfl,h2⟩
  ·split at h
   ·simp only[v6] at h;subst h;exact ⟨h1' _,rfl,h2'⟩
   ·cases h
 ·rcases po m h with rfl | rfl <;>rcases po m' h' with rfl | rfl
  ·rfl
  ·rw[hk,hk'] at e;exact absurd e hd
  ·rw[hk,hk'] at e;exact absurd e.symm hd
  ·rfl
 ·rw[ga.1 h];simp[ao,aA,Ne.symm hne]
 ·rcases po m h with rfl | rfl
  ·rw[hk];exact ⟨h5,h6⟩
  ·have:ao [(m,x)] m=true:=ga.2 rfl;rw[this] at h';cases h'
def iC(l:List ah)(r:ah):List ah×Int :=
 if fN l=false then ([],81) else if bn r=false then ([],80)
 else if gE l r.bf=true then (if l.getD (ef l r.bf) default=r then (l,0) else ([],82))
 else if (cG l r.aJ:Int)<r.no then ([],83) else if l.length=60 then ([],2) else (fP l (ef l r.bf) r,0)
theorem pG{aT:List ah→ah→Bool} : ∀ {l out:List ah},fg (fun out r=>bn r&&aT out r) out l=true↔(∀ r∈l,bn r=true)∧fg aT out l=true
 | [],_=>by simp[fg]
 |r::l,out=>by
  simp only[fg,Z0,pG (l:=l),zy8,forall_eq_or_imp];constructor
  ·rintro ⟨⟨h1,h2⟩,h3,h4⟩;exact ⟨⟨h1,h3⟩,h2,h4⟩
  ·rintro ⟨⟨h1,h3⟩,h2,h4⟩;exact ⟨⟨h1,h2⟩,h3,h4⟩
structure Gm (l:List ah):Prop where
 ok:∀ r∈l,bn r=true
 mC:lf l
 len:l.length≤60
 step:fg iA [] l=true
theorem wq{r:ah}(h:bn r=true):0≤r.aJ∧0≤r.no:=by have:=qB (qD h);omega
theorem uE{l:List ah}(h:fN l=true):Gm l:=by
 simp only[fN,Z0,decide_eq_true_eq] at h;obtain ⟨h1,h2⟩:=h;obtain ⟨h3,h4⟩:=pG.1 h1;refine ⟨h3,?_,h2,h4⟩;have:=yK l [] trivial (fun r hr=>wq (h3 r hr)) h4 List.Pairwise.nil;simpa using this
theorem ej:(∀ A n b rest,dW A (some 1) n [] b (.agg [.nils 8]) rest (some (.agg [.nils 8]))=ar rest (A.aQ n (.box (.agg [.nils 8])))) ∧
  (∀ A n b rest m p lo k,dW A (some 1) n [] b (.agg [.view m p 8 lo k]) rest (some (.agg [.nils 8]))=ar rest (A.aQ n (.box (.agg [.view m p 8 lo k])))) ∧
  (∀ A n b rest (l:List ah),dW A (some 1) n [] b (.agg [enc l]) rest (some (.agg [.nils 8]))=ar rest (A.aQ n (.box (.agg [enc l])))) ∧
  (∀ l:List ah,fF [.nils 8] [(0,enc l)]=some [enc l])∧(∀ m p lo k,fF [.nils 8] [(0,.view m p 8 lo k)]=some [.view m p 8 lo k])∧(∀ l:List ah,b6 (some 1) (.agg [enc l])=true)∧b6 (some 1) (.agg [.nils 8])=true∧(∀ m p lo k,b6 (some 1) (.agg [.view m p 8 lo k])=true) :=
 ⟨fun A n b rest=>by rw[eV (s:=some 1) (v:=.agg [.nils 8]) (old:=.agg [.nils 8]) rfl rfl rfl,fM],fun A n b rest m p lo k=>by rw[eV (s:=some 1) (v:=.agg [.view m p 8 lo k]) (old:=.agg [.nils 8]) rfl rfl rfl,fM],
  fun A n b rest l=>by rw[eV (s:=some 1) (v:=.agg [enc l]) (old:=.agg [.nils 8]) rfl rfl rfl,fM],fun _=>rfl,fun _ _ _ _=>rfl,fun _=>rfl,rfl,fun _ _ _ _=>rfl⟩
theorem xZ(l:List ah)(r:ah)(hl:l.length≤4000000000000):aS Tryz.prog 44 [enc (⟨l⟩:di),enc r] (.tuple [enc (⟨(iC l r).1⟩:di),enc (iC l r).2]):=by
 refine aS.bT Tryz.func44 Iq JB KT (t8 rfl) (fun hwf W0 bI E1 =>?_);simp only[zy,DF,bF,Z5];clear hwf;have f92:=rn l hl;simp only[iC];cases q1:fN l
 ·rw[q1] at f92;simp only[if_true];have R:=y6 @ej aD
  repeat' ((first |(with_reducible refine .guard (fun hb =>?_) (fun hb =>?_) <;>try simp only[hb])|refine U.aG (by decide +kernel) rfl fun K hK =>?_|refine .flat _ (f92) rfl ?_|(refine .aE [0,1,2,3,4,5,6,7,8,13,25,40,43,56] hK ?_;clear hK K)|(with_reducible refine .done (hK _ ?_);clear hK K)|refine U.of rfl ?_|(with_reducible refine aw.aF (fun h =>?_) (fun h =>?_) <;>try simp only[h])) <;>try simp only[aH,R,simprocAttr])
  all_goals clear R
  all_goals rfl
 rw[q1] at f92;have hb:=uE q1;have f80:=pB r;simp only[Bool.true_eq_false,if_false];cases q2:bn r
 ·rw[q2] at f80;simp only[if_true];have R:=y6 @ej aD
  repeat' ((first |(with_reducible refine .guard (fun hb =>?_) (fun hb =>?_) <;>try simp only[hb])|refine U.aG (by decide +kernel) rfl fun K hK =>?_|refine .flat _ (f92) rfl ?_|refine .flat _ (f80) rfl ?_|(refine .aE [0,1,2,3,4,5,6,7,8,13,25,40,43,56] hK ?_;clear hK K)|(with_reducible refine .done (hK _ ?_);clear hK K)|refine U.of rfl ?_|(with_reducible refine aw.aF (fun h =>?_) (fun h =>?_) <;>try simp only[h])) <;>try simp only[aH,R,simprocAttr])
  all_goals clear R
  all_goals rfl
 rw[q2] at f80;simp only[Bool.true_eq_false,if_false];have hlen:=hb.len;have f94:=yd l r.bf hb.mC (by omega);have hpl:=X5 l r.bf;have hcl:=ue l (by omega);cases q3:gE l r.bf
 rotate_left
 ·rw[q3] at f94;obtain ⟨hp,hat⟩:=(sh hb.mC r.bf).1 q3;simp only[if_true];have hg:l.getD (ef l r.bf) default=l[ef l r.bf]:=by simp[zz5,hp]
  rw[hg];have he:=fun A=>eS (A:=A) 8 hp rfl;generalize l[ef l r.bf]=x at *;generalize ef l r.bf=p at *;by_cases q4:x=r
  ·have q4':decide (x=r)=true:=decide_eq_true q4;rw[if_pos q4];have R:=y6 @he (y6 @q4' (y6 @ej aD))
   repeat' ((first |(with_reducible refine .guard (fun hb =>?_) (fun hb =>?_) <;>try simp only[hb])|refine U.aG (by decide +kernel) rfl fun K hK =>?_|refine .flat _ (f92) rfl ?_|refine .flat _ (f80) rfl ?_|refine .lead _ (f94) ?_|refine .lead _ (hcl) ?_|(refine .aE [0,1,2,3,4,5,6,7,8,13,25,40,43,56] hK ?_;clear hK K)|(with_reducible refine .done (hK _ ?_);clear hK K)|refine U.of rfl ?_|(with_reducible refine aw.aF (fun h =>?_) (fun h =>?_) <;>try simp only[h])) <;>try simp only[aH,R,simprocAttr])
   all_goals clear R
   all_goals rfl
  ·have q4':decide (x=r)=false:=decide_eq_false q4;rw[if_neg q4];have R:=y6 @he (y6 @q4' (y6 @ej aD))
   repeat' ((first |(with_reducible refine .guard (fun hb =>?_) (fun hb =>?_) <;>try simp only[hb])|refine U.aG (by decide +kernel) rfl fun K hK =>?_|refine .flat _ (f92) rfl ?_|refine .flat _ (f80) rfl ?_|refine .lead _ (f94) ?_|refine .lead _ (hcl) ?_|(refine .aE [0,1,2,3,4,5,6,7,8,13,25,40,43,56] hK ?_;clear hK K)|(with_reducible refine .done (hK _ ?_);clear hK K)|refine U.of rfl ?_|(with_reducible refine aw.aF (fun h =>?_) (fun h =>?_) <;>try simp only[h])) <;>try simp only[aH,R,simprocAttr])
   all_goals clear R
   all_goals rfl
 rw[q3] at f94;simp only[Z6,if_false];have hin:mf l:=fun x hx=>nf (hb.ok x hx);have f100:=xM l hl hin;have hix:=vM l (nf q2);by_cases q5:(cG l r.aJ:Int)<r.no
 ·have q5':decide ((cG l r.aJ:Int)<r.no)=true:=decide_eq_true q5;rw[if_pos q5];have R:=y6 @hix (y6 @q5' (y6 @nL (y6 @ej aD)))
  repeat' ((first |(with_reducible refine .guard (fun hb =>?_) (fun hb =>?_) <;>try simp only[hb])|refine U.aG (by decide +kernel) rfl fun K hK =>?_|refine .flat _ (f92) rfl ?_|refine .flat _ (f80) rfl ?_|refine .lead _ (f94) ?_|refine .lead _ (f100) ?_|(refine .aE [0,1,2,3,4,5,6,7,8,13,25,40,43,56] hK ?_;clear hK K)|(with_reducible refine .done (hK _ ?_);clear hK K)|refine U.of rfl ?_|(with_reducible refine aw.aF (fun h =>?_) (fun h =>?_) <;>try simp only[h])) <;>try simp only[aH,R,simprocAttr])
  all_goals clear R
  all_goals rfl
 have q5':decide ((cG l r.aJ:Int)<r.no)=false:=decide_eq_false q5;rw[if_neg q5];by_cases q6:l.length=60
 ·have q6':((l.length:Int)==60)=true:=by rw[beq_iff_eq];omega
  rw[if_pos q6];have R:=y6 @hix (y6 @q5' (y6 @q6' (y6 @nL (y6 @ej aD))))
  repeat' ((first |(with_reducible refine .guard (fun hb =>?_) (fun hb =>?_) <;>try simp only[hb])|refine U.aG (by decide +kernel) rfl fun K hK =>?_|refine .flat _ (f92) rfl ?_|refine .flat _ (f80) rfl ?_|refine .lead _ (f94) ?_|refine .lead _ (f100) ?_|(refine .aE [0,1,2,3,4,5,6,7,8,13,25,40,43,56] hK ?_;clear hK K)|(with_reducible refine .done (hK _ ?_);clear hK K)|refine U.of rfl ?_|(with_reducible refine aw.aF (fun h =>?_) (fun h =>?_) <;>try simp only[h])) <;>try simp only[aH,R,simprocAttr])
  all_goals clear R
  all_goals rfl
 have q6':((l.length:Int)==60)=false:=by rw[beq_eq_false_iff_ne];omega
 rw[if_neg q6];have hbs:gm 8 (some [enc r])=some (enc [r]):=oa 8 r rfl;have R:=y6 @hix (y6 @q5' (y6 @q6' (y6 @hbs (y6 @nL (y6 @ej aD)))))
 repeat' ((first |(with_reducible refine .guard (fun hb =>?_) (fun hb =>?_) <;>try simp only[hb])|(refine U.my (gs:=vq) [101] [(2,[2]),(3,[3]),(4,[4]),(62,[2])] [0,1,3,4,5,2,6,7,8,9] (by decide +kernel) (dL.of (by simp[jT,bN,Cc,I.only])) fun K hK =>?_;simp only[kK,vq,List.getD_cons_zero,List.getD_cons_succ,R,simprocAttr])|refine U.aG (by decide +kernel) rfl fun K hK =>?_|refine .flat _ (f92) rfl ?_|refine .flat _ (f80) rfl ?_|refine .lead _ (f94) ?_|refine .lead _ (f100) ?_|(refine .aE [0,1,2,3,4,5,6,7,8,13,25,40,43,56] hK ?_;clear hK K)|(with_reducible refine .done (hK _ ?_);clear hK K)|refine U.of rfl ?_|(with_reducible refine aw.aF (fun h =>?_) (fun h =>?_) <;>try simp only[h])) <;>try simp only[aH,R,simprocAttr])
 all_goals clear R
 obtain ⟨au,hL⟩:∃ au,au=fP l (ef l r.bf) r:=⟨_,rfl⟩
 have hLn:l.length+1=au.length:=by rw[hL,VP r hpl]
 have hfin:∀ q,jP 8 0 (l.length+1) (some ((au++List.replicate q cA).map enc))=some (enc au):=fun q=>by
  rw[ox (α:=ah) (sz:=8) rfl,hLn,xB]
 refine .bB [(7,64)] [enc l] (mQ l) (rp l (by omega)) eP.nil ⟨.inl ⟨(gQ _ _).symm,br _ _,eQ _⟩,trivial⟩ ?_ ?_
 ·rintro x os' (⟨_,h | h,rfl⟩ | ⟨_,k,rfl,rfl⟩)
  ·subst h;exact dh.nil (fun _=>rfl) (fun h=>by cases h)
  ·subst h;exact dh.nil (fun _=>rfl) (fun h=>by cases h)
  ·exact dh.qx (fun p=>fD p _) (fun h=>by cases h) rfl (fun h=>by cases h) rfl (by decide)
 rintro x os' (⟨hn,h,rfl⟩ | ⟨hn,k,rfl,rfl⟩)
 ·have hren:x.aO (bh [(7,64)])=x∧x.cC=true∧∀ q,x.only q=true:=by rcases h with rfl | rfl <;>exact ⟨by simp only[I.aO],rfl,fun _=>rfl⟩
  have hren2:x.aO (bh [(25,68)])=x:=by rcases h with rfl | rfl <;>simp only[I.aO]
  have hpos:ef l r.bf=0:=by rw[hn];rfl
  rw[hren.1,hpos]
  try simp only[kN,zz3,aD,ba,simprocAttr]
  refine .bB [(25,68)] [x,enc (0:Int),enc [r]] (BH r) (FM x h r) eP.nil ⟨.inl ⟨hren2.symm,hren.2.2 _,hren.2.1⟩,.inl ⟨rfl,rfl,rfl⟩,.inl ⟨(gQ _ _).symm,br _ _,eQ _⟩,trivial⟩ ?_ ?_
  ·rintro x os' ⟨k,rfl,rfl⟩;exact dh.qx (fun p=>fD p _) (fun h=>by cases h) rfl (fun h=>by cases h) rfl (by decide)
  ·rintro x os' ⟨k,rfl,rfl⟩;have hLg:[r]=au:=by rw[hL,hpos,hn];rfl
   have hf1:=hfin k;rw[hn] at hf1;simp only[zy9,Z5] at hf1;rw[hLg]
   try simp only[eU,kN,jB,Z8,zz3,ej,ba,simprocAttr]
   refine .done (hK _ ?_);clear hK K;refine U.ret ?_;simp only[ba,simprocAttr]
   try simp only[hf1,ej,ba,simprocAttr]
   rw[←hL];rfl
 ·try simp only[eU,kN,jB,Z8,zz3,aD,ba,simprocAttr]
  refine .wi false [(1000000,64),(25,68),(40,69)] (eU 1000000 l k) [.view 1000000 [] 8 0 l.length,enc (ef l r.bf:Int),enc [r]] (BI l (ef l r.bf) r k) rfl (FL l (ef l r.bf) r k hpl hn (by omega)) ⟨?_,?_⟩ ⟨.inl ⟨?_,?_,rfl⟩,.inl ⟨rfl,rfl,rfl⟩,.inl ⟨(gQ _ _).symm,br _ _,eQ _⟩,trivial⟩ ?_ ?_
  ·intro n x h;simp only[eU,aA] at h;split at h
   ·rename_i hn';subst hn';simp only[v6] at h;subst h;exact ⟨by simp only[kN,jB,ba,simprocAttr],fD _ _,rfl⟩
   ·cases h
  ·intro a b ha hb _;rw[Go.Abs.ga.1 ha,Go.Abs.ga.1 hb]
  ·try simp only[kN,simprocAttr]
  ·exact Go.Abs.ga.2 rfl
  ·rintro x os' (⟨q,rfl,rfl⟩ | ⟨d,q,rfl | rfl,rfl,rfl⟩)
   ·exact dh.CE (fun p=>fD p _) (fun h=>by cases h) rfl (fun h=>by cases h)
   ·exact dh.po rfl rfl (by decide) (by decide) (fun p=>fD p _) (fun h=>by cases h) (fun p=>fD p _) (fun h=>by cases h) rfl (fun h=>by cases h) rfl (by decide)
   ·exact dh.po rfl rfl (by decide) (by decide) (fun p=>fD p _) (fun h=>by cases h) (fun p=>fD p _) (fun h=>by cases h) rfl (fun h=>by cases h) rfl (by decide)
  ·rintro x os' (⟨q,rfl,rfl⟩ | ⟨d,q,rfl | rfl,rfl,rfl⟩)
   all_goals
    rw[←hL];have hf1:=hfin q
    try simp only[eU,kN,jB,Z8,zz3,ej,ba,simprocAttr]
    refine .done (hK _ ?_);clear hK K;refine U.ret ?_;simp only[ba,simprocAttr]
    try simp only[hf1,ej,ba,simprocAttr]
    rw[←hL];rfl
end Go.Proofs.YtoffnnjbplgnaaaGreatDoor
namespace Go.Proofs.YtoffnnjbplgnaaaGreatDoor
open Go Go.Abs Go.Shelf Go.RowKit Go.Sort Go.Proofs
open Go.Abs.Enc (enc)
def Wn:Go.Shelf.Ren:=⟨fun | 122=>161 | 215=>175 | n=>n,fun | 3=>3 | 4=>4 | n=>n,fun | n=>n⟩
theorem Wm:Go.Proofs.Lays.n122 Tryz.prog Wn := {
 mixed:=by kernel_rfl
 f122:=Tryz.func161.trans (congrArg some (by kernel_rfl))
 f215:=Tryz.func175.trans (congrArg some (by kernel_rfl))
 t3:=Tryz.underlying3
 a3:=Tryz.isAgg3
 z3:=Tryz.sizeOf3
 v3:=Tryz.zeroValue3
 t4:=Tryz.underlying4
 a4:=Tryz.isAgg4
 z4:=Tryz.sizeOf4
 v4:=Tryz.zeroValue4 }
def vS:Go.Shelf.Ren:=⟨fun | 6=>141 | 15=>163 | 14=>162 | 28=>184 | 29=>185 | 20=>176 | 21=>177 | 22=>178 | 23=>179 | 24=>180 | 25=>181 | 26=>182 | 27=>183 | 46=>199 | 47=>200 | 48=>201 | 49=>202 | 50=>203 | 57=>213 | n=>n,fun | 22=>23 | 24=>50 | 25=>188 | 3=>3 | 39=>208 | 0=>0 | 53=>225 | 55=>227 | 4=>4 | 46=>219 | 45=>218 | 50=>144 | 5=>5 | 9=>9 | 66=>243 | 70=>247 | 76=>258 | 77=>259 | n=>n,fun | n=>n⟩
theorem BY:Go.Proofs.SlLaysF0.n6 Tryz.prog vS := {
 mixed:=by kernel_rfl
 f6 := ⟨ "slices.SortFunc[[]pinfold/api.Record,pinfold/api.Record]", by decide, Tryz.func141.trans (congrArg some (by kernel_rfl))⟩
 f14 := ⟨ "slices.pdqsortCmpFunc[pinfold/api.Record]", by decide, Tryz.func162.trans (congrArg some (by kernel_rfl))⟩
 f15:=Tryz.func163.trans (congrArg some (by kernel_rfl))
 f20 := ⟨ "slices.insertionSortCmpFunc[pinfold/api.Record]", by decide, Tryz.func176.trans (congrArg some (by kernel_rfl))⟩
 f21 := ⟨ "slices.heapSortCmpFunc[pinfold/api.Record]", by decide, Tryz.func177.trans (congrArg some (by kernel_rfl))⟩
 f22 := ⟨ "slices.breakPatternsCmpFunc[pinfold/api.Record]", by decide, Tryz.func178.trans (congrArg some (by kernel_rfl))⟩
 f23 := ⟨ "slices.choosePivotCmpFunc[pinfold/api.Record]", by decide, Tryz.func179.trans (congrArg some (by kernel_rfl))⟩
 f24 := ⟨ "slices.reverseRangeCmpFunc[pinfold/api.Record]", by decide, Tryz.func180.trans (congrArg some (by kernel_rfl))⟩
 f25 := ⟨ "slices.partialInsertionSortCmpFunc[pinfold/api.Record]", by decide, Tryz.func181.trans (congrArg some (by kernel_rfl))⟩
 f26 := ⟨ "slices.partitionEqualCmpFunc[pinfold/api.Record]", by decide, Tryz.func182.trans (congrArg some (by kernel_rfl))⟩
 f27 := ⟨ "slices.partitionCmpFunc[pinfold/api.Record]", by decide, Tryz.func183.trans (congrArg some (by kernel_rfl))⟩
 f28:=Tryz.func184.trans (congrArg some (by kernel_rfl))
 f29:=Tryz.func185.trans (congrArg some (by kernel_rfl))
 f46 := ⟨ "slices.siftDownCmpFunc[pinfold/api.Record]", by decide, Tryz.func199.trans (congrArg some (by kernel_rfl))⟩
 f47:=Tryz.func200.trans (congrArg some (by kernel_rfl))
 f48:=Tryz.func201.trans (congrArg some (by kernel_rfl))
 f49 := ⟨ "slices.medianAdjacentCmpFunc[pinfold/api.Record]", by decide, Tryz.func202.trans (congrArg some (by kernel_rfl))⟩
 f50 := ⟨ "slices.medianCmpFunc[pinfold/api.Record]", by decide, Tryz.func203.trans (congrArg some (by kernel_rfl))⟩
 f57 := ⟨ "slices.order2CmpFunc[pinfold/api.Record]", by decide, Tryz.func213.trans (congrArg some (by kernel_rfl))⟩
 t0:=Tryz.underlying0
 a0:=Tryz.isAgg0
 z0:=Tryz.sizeOf0
 v0:=Tryz.zeroValue0
 t3:=Tryz.underlying3
 a3:=Tryz.isAgg3
 z3:=Tryz.sizeOf3
 v3:=Tryz.zeroValue3
 t4:=Tryz.underlying4
 a4:=Tryz.isAgg4
 z4:=Tryz.sizeOf4
 v4:=Tryz.zeroValue4
 t5:=Tryz.underlying5
 a5:=Tryz.isAgg5
 z5:=Tryz.sizeOf5
 v5:=Tryz.zeroValue5
 t9:=Tryz.underlying9
 a9:=Tryz.isAgg9
 z9:=Tryz.sizeOf9
 v9:=Tryz.zeroValue9
 t22:=Tryz.underlying23
 a22:=Tryz.isAgg23
 z22:=Tryz.sizeOf23
 v22:=Tryz.zeroValue23
 t25:=Tryz.underlying188
 a25:=Tryz.isAgg188
 z25:=Tryz.sizeOf188
 v25:=Tryz.zeroValue188
 t39:=Tryz.underlying208
 a39:=Tryz.isAgg208
 z39:=Tryz.sizeOf208
 v39:=Tryz.zeroValue208
 t45:=Tryz.underlying218
 a45:=Tryz.isAgg218
 z45:=Tryz.sizeOf218
 v45:=Tryz.zeroValue218
 t46:=Tryz.underlying219
 a46:=Tryz.isAgg219
 z46:=Tryz.sizeOf219
 v46:=Tryz.zeroValue219
 t50:=Tryz.underlying144
 a50:=Tryz.isAgg144
 z50:=Tryz.sizeOf144
 v50:=Tryz.zeroValue144
 t53:=Tryz.underlying225
 a53:=Tryz.isAgg225
 z53:=Tryz.sizeOf225
 v53:=Tryz.zeroValue225
 t55:=Tryz.underlying227
 a55:=Tryz.isAgg227
 z55:=Tryz.sizeOf227
 v55:=Tryz.zeroValue227
 t66:=Tryz.underlying243
 a66:=Tryz.isAgg243
 z66:=Tryz.sizeOf243
 v66:=Tryz.zeroValue243
 t70:=Tryz.underlying247
 a70:=Tryz.isAgg247
 z70:=Tryz.sizeOf247
 v70:=Tryz.zeroValue247
 t76:=Tryz.underlying258
 a76:=Tryz.isAgg258
 z76:=Tryz.sizeOf258
 v76:=Tryz.zeroValue258
 t77:=Tryz.underlying259
 a77:=Tryz.isAgg259
 z77:=Tryz.sizeOf259
 v77:=Tryz.zeroValue259 }
theorem J8(a b:Int):Lib.compareInt a b=eI a b:=by
 unfold Lib.compareInt eI
 (repeat' split) <;>first | rfl | omega
theorem Kb(a b:Int)(W:World):Calls Tryz.prog 161 #[.int .i64 a,.int .i64 b] W fun e w'=>e=.returned (.int .i64 (eI a b))∧w'=W:=by
 have h:=Any.cmp_Compare_int Wm a b W;rw[J8] at h;exact h
theorem XY(a b:Int)(W:World)(aB:Nat)(hb:W.heap[aB]?=some (.cells #[.int .i64 a,.int .i64 b] 3)):Calls Tryz.prog 160 #[.slice (some ⟨aB,0,none⟩) 2 2] W fun e w'=>e=.returned (.int .i64 (if a≠0 then a else b))∧w'=W:=by
 go_enter Tryz.func160,Tryz.ntmps160
 go_wp2
 go_loopw [8] (fun i wr=>∃ j:Nat,j≤2∧i=.int .i64 j∧wr=W∧(0<j→a=0)∧(1<j→b=0)) (fun i _=>2-(RowKit.intOf i).toNat)
 case atStart =>
  exact ⟨0,by omega,rfl,rfl,by omega,by omega⟩
 case round =>
  obtain ⟨j,hj,rfl,rfl,h0,h1⟩:=hrel;have c0:wr.cell? ⟨aB,0,none⟩=some (.int .i64 a):=by simp[World.cell?,hb]
  have c1:wr.cell? ⟨aB,1,none⟩=some (.int .i64 b):=by simp[World.cell?,hb]
  have hj3:j=0∨j=1∨j=2:=by omega
  rcases hj3 with rfl | rfl | rfl
  ·by_cases ha:a=0
   ·subst ha
    go_wp2
    refine ⟨⟨1,?_⟩,?_⟩ <;>simp[RowKit.intOf]
   ·go_wp2
    go_ret
    exact ⟨rfl,rfl⟩
  ·have ha:a=0:=h0 (by omega);by_cases hb0:b=0
   ·subst hb0
    go_wp2
    refine ⟨⟨2,?_⟩,?_⟩ <;>simp[RowKit.intOf,ha]
   ·go_wp2
    go_ret
    exact ⟨by first | rfl | simp[ha],rfl⟩
  ·have ha:a=0:=h0 (by omega);have hb0:b=0:=h1 (by omega)
   go_wp2
   go_ret
   exact ⟨by first | rfl | simp[ha,hb0],rfl⟩
theorem F3:aS Tryz.prog 141 [enc ([]:List ah),.func 142 []] (.tuple []):=by
 refine ⟨by kernel_rfl,fun w D vs _ hD hv =>?_⟩;simp only[al] at hv;obtain ⟨u,rest,cs',rfl,hp,hr',hv2⟩:=hv;obtain ⟨a,cap,h1,_⟩:=hr';have h2:cs'=[u]:=hp;rw[h1] at h2;obtain rfl:u=.slice a 0 cap:=by simpa using h2.symm
 obtain ⟨f,rest2,cs2,rfl,hp2,hr2,rfl⟩:=hv2;simp only[ae] at hr2;obtain ⟨vs2,e2,e3⟩:=hr2;have h3:cs2=[f]:=hp2;rw[e2] at h3;simp only[al] at e3;subst e3;obtain rfl:f=.func (.func 142) #[] #[]:=by
  have:=h3.symm;simp only[zy1,and_true] at this;rw[this];rfl
 refine (AnyF.slices_SortFunc_none (P:=Tryz.prog) (ρ:=vS) { BY with } a cap (.func (.func 142) #[] #[]) w).mono ?_;rintro e w' ⟨rfl,rfl⟩;exact ⟨.tuple #[],D,rfl,⟨[],rfl,rfl⟩,⟨rfl,rfl,rfl,Z4 _,fun _ _=>rfl⟩,hD,fun _ _ h _=>h⟩
theorem yg:aS Tryz.prog 95 [enc ([]:List ah)] (enc (⟨[]⟩:di)):=by
 refine aS.bT Tryz.func95 zY Ab An (t8 rfl) (fun hwf W0 bI E1 =>?_);simp only[uJ,wM,bF];clear hwf;have h1:=ue [] (by simp);have R:=y6 @ej (y6 @kr aD)
 repeat' ((first |refine U.aG (by decide +kernel) rfl fun K hK =>?_|refine .lead _ (h1) ?_|refine .flat _ (F3) rfl ?_|(refine .aE [0,2,3] hK ?_;clear hK K)|(with_reducible refine .done (hK _ ?_);clear hK K)|refine U.of rfl ?_|(with_reducible refine aw.aF (fun h =>?_) (fun h =>?_) <;>try simp only[h])) <;>try simp only[aH,R,simprocAttr])
 all_goals clear R
 all_goals rfl
end Go.Proofs.YtoffnnjbplgnaaaGreatDoor
namespace Go.Proofs.YtoffnnjbplgnaaaGreatDoor
open Go Go.Abs
open Go.Abs.Enc (enc)
theorem ke{l:List ah}(h:c7 [] l=true):l.length≤60:=by
 have:=ff.len (by simp) ((pw l []).1 h);simpa using this
theorem tT{l:List ah}(h:c7 [] l=true):∀ r∈l,bn r=true:=ff.ok ((pw l []).1 h)
def oB(r:df)(l:List ah):Bool:=c7 [] l&&decide (r.dw.all=fu 1 l)&&(List.range (l.length+1)).any fun i=>decide (r.copy.all=fu 1 (l.take i))
theorem GH{p:Nat→Bool}{n i:Nat}(hi:i<n)(h:∀ k,k<i→p k=false)(hp:p i=true):(List.range n).any p=true:=List.any_eq_true.2 ⟨i,by simpa using hi,hp⟩
theorem GG{p:Nat→Bool}{n:Nat}(h:∀ k,k<n→p k=false):(List.range n).any p=false:=by
 rw[List.any_eq_false];intro k hk;rw[h k (by simpa using hk)];decide
theorem Gk(r:df)(h:r.small)(l:List ah)(hl:l.length≤4000000000000):aS Tryz.prog 87 [enc r,enc l] (enc (oB r l)):=by
 refine aS.bT Tryz.func87 IH JQ K9 (t8 rfl) (fun hwf W0 bI E1 =>?_);simp only[zL,DU,bF,Z5];clear hwf;have f98:=yh l (by omega);have f1:=pA r.dw h.1;have f2:=pA r.copy h.2;simp only[oB];cases q1:c7 [] l
 ·rw[q1] at f98;have R:=y6 @bu aD
  repeat' ((first |(with_reducible refine .guard (fun hb =>?_) (fun hb =>?_) <;>try simp only[hb])|refine U.aG (by decide +kernel) rfl fun K hK =>?_|refine .flat _ (f98) rfl ?_|(refine .aE [0,1,2,4,5,16,19,20,21,30] hK ?_;clear hK K)|(with_reducible refine .done (hK _ ?_);clear hK K)|refine U.of rfl ?_|(with_reducible refine aw.aF (fun h =>?_) (fun h =>?_) <;>try simp only[h])) <;>try simp only[aH,R,simprocAttr])
  all_goals clear R
  all_goals rfl
 rw[q1] at f98;have hok:=tT q1;have hln:=ke q1;have f135:=xR l (by omega) hok;have hpre:=fun i=>xR (l.take i) (by rw[zz1];omega) fun x hx=>hok x (List.mem_of_mem_take hx);cases q2:decide (r.dw.all=fu 1 l)
 ·have R:=y6 @q2 (y6 @iO (y6 @bu aD))
  repeat' ((first |(with_reducible refine .guard (fun hb =>?_) (fun hb =>?_) <;>try simp only[hb])|refine U.aG (by decide +kernel) rfl fun K hK =>?_|refine .flat _ (f98) rfl ?_|refine .flat _ (f1) rfl ?_|refine .flat _ (f135) rfl ?_|(refine .aE [0,1,2,4,5,16,19,20,21,30] hK ?_;clear hK K)|(with_reducible refine .done (hK _ ?_);clear hK K)|refine U.of rfl ?_|(with_reducible refine aw.aF (fun h =>?_) (fun h =>?_) <;>try simp only[h])) <;>try simp only[aH,R,simprocAttr])
  all_goals clear R
  all_goals rfl
 have hw0:=eO (i:=l.length) (by omega);have R:=y6 @q2 (y6 @hw0 (y6 @iO (y6 @bu aD)))
 repeat' ((first |(with_reducible refine .guard (fun hb =>?_) (fun hb =>?_) <;>try simp only[hb])|refine U.aG (by decide +kernel) rfl fun K hK =>?_|refine .flat _ (f98) rfl ?_|refine .flat _ (f1) rfl ?_|refine .flat _ (f135) rfl ?_|(refine .aE [0,1,2,4,5,16,19,20,21,30] hK ?_;clear hK K)|(with_reducible refine .done (hK _ ?_);clear hK K)|refine U.of rfl ?_|(with_reducible refine aw.aF (fun h =>?_) (fun h =>?_) <;>try simp only[h])) <;>try simp only[aH,R,simprocAttr])
 all_goals clear R
 refine U.loop (fun i:Nat=>aq [(1,enc l),(2,.ptr 2 []),(19,.int .i64 ((l.length+1:Nat):Int)),(20,.int .i64 i)] [(2,.box (enc r))]) (fun i=>i≤l.length+1∧∀ k,k<i→decide (r.copy.all=fu 1 (l.take k))=false) (fun i=>l.length+1-i) 0 ⟨zx8 _,fun k hk=>by omega⟩ ?_ ?_
 ·refine bg.bZ ?_ ?_ ?_ ?_ <;>simp[bK,bO,bG,bE,ao,bN,cI,I.only,ai.only,br]
  all_goals rfl
 rintro i ⟨hi,hk⟩;by_cases hlt:i<l.length+1
 ·have hlc:=e9 hlt;have hw:=eO (i:=i) (by omega);have hsl:=fun A=>EZ (l:=l) (k:=i) A (esz:=8) rfl (by omega);have f135':=hpre i;cases q3:decide (r.copy.all=fu 1 (l.take i))
  ·have R:=y6 @hlc (y6 @hw (y6 @hsl (y6 @q3 (y6 @lL (y6 @bu aD)))))
   repeat' ((first |(with_reducible refine .guard (fun hb =>?_) (fun hb =>?_) <;>try simp only[hb])|refine U.aG (by decide +kernel) rfl fun K hK =>?_|refine .flat _ (f2) rfl ?_|refine .flat _ (f135') rfl ?_|(refine .aE [0,1,2,4,5,16,19,20,21,30] hK ?_;clear hK K)|(with_reducible refine .done (hK _ ?_);clear hK K)|refine U.of rfl ?_|(with_reducible refine aw.aF (fun h =>?_) (fun h =>?_) <;>try simp only[h])) <;>try simp only[aH,R,zx2,simprocAttr])
   all_goals clear R
   refine ⟨i+1,⟨by omega,fun k hk2 =>?_⟩,by omega,?_⟩
   ·by_cases e:k=i
    ·rw[e];exact q3
    ·exact hk k (by omega)
   ·clear hk;refine bg.bZ ?_ ?_ ?_ ?_ <;>simp[bK,bO,bG,bE,ao,bN,cI,I.only,ai.only,br]
    all_goals rfl
  ·rw[GH hlt hk q3];have R:=y6 @hlc (y6 @hw (y6 @hsl (y6 @q3 (y6 @lL (y6 @bu aD)))))
   repeat' ((first |(with_reducible refine .guard (fun hb =>?_) (fun hb =>?_) <;>try simp only[hb])|refine U.aG (by decide +kernel) rfl fun K hK =>?_|refine .flat _ (f2) rfl ?_|refine .flat _ (f135') rfl ?_|(refine .aE [0,1,2,4,5,16,19,20,21,30] hK ?_;clear hK K)|(with_reducible refine .done (hK _ ?_);clear hK K)|refine U.of rfl ?_|(with_reducible refine aw.aF (fun h =>?_) (fun h =>?_) <;>try simp only[h])) <;>try simp only[aH,R,zx2,simprocAttr])
   all_goals clear R
   all_goals rfl
 ·have hlc:=fB hlt;rw[GG fun k hk2=>hk k (by omega)];have R:=y6 @hlc aD
  repeat' ((first |(with_reducible refine .guard (fun hb =>?_) (fun hb =>?_) <;>try simp only[hb])|refine U.aG (by decide +kernel) rfl fun K hK =>?_|(refine .aE [0,1,2,4,5,16,19,20,21,30] hK ?_;clear hK K)|(with_reducible refine .done (hK _ ?_);clear hK K)|refine U.of rfl ?_|(with_reducible refine aw.aF (fun h =>?_) (fun h =>?_) <;>try simp only[h])) <;>try simp only[aH,R,simprocAttr])
  all_goals clear R
  all_goals rfl
section
variable {α:Type} [Enc α] {P:Program} {hs:List FuncId} {Y:Value→List I→List (Nat×ai)→cj→Prop} {K:ab→Prop} {rest:List ay} {d e esz bytes:Nat}
def jk(esz:Nat)(v:I)(os:List (Nat×ai))(l:List α)(S:List Nat):Prop:=(l=[]∧(v=.c0 esz∨v=.nils esz))∨∃ n q,n∈S∧v=.view n [] esz 0 l.length∧aA os n=some (.box (.agg ((l++q).map enc)))
theorem GS{A:ab}{w:I}(hw:w=.c0 esz∨w=.nils esz)(z:I){l:List α}(hsz:Enc.sz α=esz)(hl:l≠[])(hf:A.o d=none)(hb:l.length*bytes≤140737488355328)(hml:l.length≤maxLen) :
  ∃ p:Nat→Prop,eY A (some d) e esz bytes z (enc l) rest w=.any p fun m=>ar rest ((A.aQ d (.box (.agg (l.map enc++List.replicate m z)))).aP (some d) (.view d [] esz 0 l.length)):=by
 have hne:l.map (enc (α:=α))≠[]:=by simpa using hl
 have h1:cW A esz w=some []:=by rcases hw with rfl | rfl <;>rfl
 refine ⟨fun m=>l.length+m≤maxLen,?_⟩;rcases hw with rfl | rfl <;>simp only[eY,h1,kT A esz l hsz,ed,if_neg hne,fh,hf,zy9,Z5,Z2,if_pos (y6 hb hml),zz3]
theorem GR{A:ab}(z:I)(hsz:Enc.sz α=esz){n l:Nat}{xs ys:List α}(hy:ys≠[])(ho:A.o n=some (.box (.agg (xs.map enc))))(hl:l≤xs.length)(hr:xs.length<l+ys.length)(hf:A.o d=none)(hb:(l+ys.length)*bytes≤140737488355328)(hml:l+ys.length≤maxLen) :
  ∃ p:Nat→Prop,eY A (some d) e esz bytes z (enc ys) rest (.view n [] esz 0 l)=.any p fun m=>ar rest ((A.aQ d (.box (.agg ((xs.take l).map enc++(ys.map enc++List.replicate m z))))).aP (some d) (.view d [] esz 0 (l+ys.length))):=by
 have h1:=nJ (A:=A) (esz:=esz) (lo:=0) (k:=l) ho (by omega);have h2:(I.agg (xs.map (enc (α:=α)))).at []=some (.agg (xs.map enc)):=rfl;have h4:(xs.take l).length=l:=by rw[zz1];omega
 refine ⟨fun m=>l+ys.length+m≤maxLen,?_⟩;simp only[eY,h1,List.drop_zero,kT A esz ys hsz,ed];rw[if_neg (by simpa using hy)];simp only[ho,h2,Z2,Z5];rw[if_neg (by omega)];simp only[fh,hf,Z2,h4];rw[if_pos ⟨hb,hml⟩]
theorem By(z:α){ts:List (Nat×I)}{os:List (Nat×ai)}{v:I}{l ys:List α}{S:List Nat}(hsz:Enc.sz α=esz)(hg:jk esz v os l S)(hf:aA os d=none)(hb:(l.length+ys.length)*bytes≤140737488355328)(hml:l.length+ys.length≤maxLen) :
  (∃ v' os',eY (aq ts os) (some d) e esz bytes (enc z) (enc ys) rest v=ar rest (aq ((d,v')::ts) os')∧jk esz v' os' (l++ys) (d::S)∧∀ m,m∉d::S→aA os' m=aA os m) ∨
  (∃ p,∃ v':Nat→I,∃ os':Nat→List (Nat×ai),eY (aq ts os) (some d) e esz bytes (enc z) (enc ys) rest v=.any p (fun m=>ar rest (aq ((d,v' m)::ts) (os' m)))∧∀ k,jk esz (v' k) (os' k) (l++ys) (d::S)∧∀ m,m∉d::S→aA (os' k) m=aA os m):=by
 by_cases hy:ys=[]
 ·subst hy;rw[zw1];rcases hg with ⟨rfl,hv⟩ | ⟨n,q,hn,rfl,ho⟩
  ·rcases hv with rfl | rfl
   ·exact .inl ⟨.c0 esz,os,GU _ hsz,.inl ⟨rfl,.inl rfl⟩,fun _ _=>rfl⟩
   ·refine .inl ⟨.nils esz,os,?_,.inl ⟨rfl,.inr rfl⟩,fun _ _=>rfl⟩;have h1:cW (aq ts os) esz (.nils esz)=some []:=rfl;simp only[eY,h1,kT _ esz ([]:List α) hsz,ed,zz6,if_true];rfl
  ·refine .inl ⟨_,os,?_,.inr ⟨n,q,List.mem_cons_of_mem _ hn,rfl,ho⟩,fun _ _=>rfl⟩;have h1:=nJ (A:=aq ts os) (esz:=esz) (lo:=0) (k:=l.length) ho (by simp);simp only[eY,h1,kT _ esz ([]:List α) hsz,ed,zz6,if_true];rfl
 ·rcases hg with ⟨rfl,hv⟩ | ⟨n,q,hn,rfl,ho⟩
  ·obtain ⟨p,h1⟩:=GS (A:=aq ts os) (rest:=rest) (e:=e) hv (enc z) hsz hy hf (by simpa using hb) (by simpa using hml);refine .inr ⟨p,fun m=>.view d [] esz 0 ys.length,fun m=>(d,.box (.agg (ys.map enc++List.replicate m (enc z))))::os,h1,fun k=>⟨.inr ⟨d,List.replicate k z,List.mem_cons_self,by simp,?_⟩,fun m hm =>?_⟩⟩
   ·simp[aA]
   ·rw[cI,if_neg (fun h=>by rw[h] at hm;exact hm List.mem_cons_self)]
  ·by_cases hr:l.length+ys.length≤(l++q).length
   ·have h1:=yu (A:=aq ts os) (rest:=rest) (d:=some d) (e:=e) (bytes:=bytes) (esz:=esz) (enc z) hsz hy ho hr;have e1:(l++q).take l.length++(ys++(l++q).drop (l.length+ys.length))=(l++ys)++q.drop ys.length:=by simp[List.drop_append]
    rw[e1] at h1;refine .inl ⟨_,(n,.box (.agg (((l++ys)++q.drop ys.length).map enc)))::os,h1,.inr ⟨n,q.drop ys.length,List.mem_cons_of_mem _ hn,by simp,by simp[aA]⟩,fun m hm =>?_⟩;rw[cI,if_neg (fun h=>by rw[h] at hm;exact hm (List.mem_cons_of_mem _ hn))]
   ·obtain ⟨p,h1⟩:=GR (A:=aq ts os) (rest:=rest) (d:=d) (e:=e) (bytes:=bytes) (esz:=esz) (enc z) hsz hy ho (by simp) (by omega) hf hb hml;refine .inr ⟨p,fun m=>.view d [] esz 0 (l.length+ys.length),fun m=>(d,.box (.agg (((l++q).take l.length).map enc++(ys.map enc++List.replicate m (enc z)))))::os,h1,fun k=>⟨.inr ⟨d,List.replicate k z,List.mem_cons_self,by simp,?_⟩,fun m hm =>?_⟩⟩
    ·simp[aA]
    ·rw[cI,if_neg (fun h=>by rw[h] at hm;exact hm List.mem_cons_self)]
theorem bQ.vE(z:α){ts:List (Nat×I)}{os:List (Nat×ai)}{v:I}{l ys:List α}{S:List Nat}(hsz:Enc.sz α=esz)(hg:jk esz v os l S)(hf:aA os d=none)(hb:(l.length+ys.length)*bytes≤140737488355328)(hml:l.length+ys.length≤maxLen)
  (h:∀ v' os',jk esz v' os' (l++ys) (d::S)→(∀ m,m∉d::S→aA os' m=aA os m)→bQ P Y hs K (ar rest (aq ((d,v')::ts) os'))):bQ P Y hs K (eY (aq ts os) (some d) e esz bytes (enc z) (enc ys) rest v):=by
 rcases By (rest:=rest) (e:=e) z hsz hg hf hb hml (ts:=ts) with ⟨v',os',h1,h2,h3⟩ | ⟨p,v',os',h1,h2⟩
 ·rw[h1];exact h v' os' h2 h3
 ·rw[h1];exact .any fun m _=>h _ _ (h2 m).1 (h2 m).2
theorem aY.vE(z:α){ts:List (Nat×I)}{os:List (Nat×ai)}{v:I}{l ys:List α}{S:List Nat}(hsz:Enc.sz α=esz)(hg:jk esz v os l S)(hf:aA os d=none)(hb:(l.length+ys.length)*bytes≤140737488355328)(hml:l.length+ys.length≤maxLen)
  (h:∀ v' os',jk esz v' os' (l++ys) (d::S)→(∀ m,m∉d::S→aA os' m=aA os m)→aY P Y false K (ar rest (aq ((d,v')::ts) os'))):aY P Y false K (eY (aq ts os) (some d) e esz bytes (enc z) (enc ys) rest v):=by
 rcases By (rest:=rest) (e:=e) z hsz hg hf hb hml (ts:=ts) with ⟨v',os',h1,h2,h3⟩ | ⟨p,v',os',h1,h2⟩
 ·rw[h1];exact h v' os' h2 h3
 ·rw[h1];exact .any rfl fun m _=>h _ _ (h2 m).1 (h2 m).2
theorem VG{v:I}{os:List (Nat×ai)}{l:List α}{S:List Nat}{A:ab}(hsz:Enc.sz α=esz)(h:jk esz v os l S)(hA:∀ m∈S,A.o m=aA os m):bd true A v=some (enc l):=by
 rcases h with ⟨rfl,rfl | rfl⟩ | ⟨n,q,hn,rfl,ho⟩
 ·simp only[bd,iG,zz6,hsz]
 ·simp only[bd,iG,zz6,hsz]
 ·have h1:bd true A (.view n [] esz 0 l.length)=jP esz 0 l.length (some ((l++q).map enc)):=by
   rw[vm,hA n hn,ho];rfl
  rw[h1,ox hsz,List.take_left]
end
theorem VF{l:List ah}{x:I}{os' os0:List (Nat×ai)}{d:Nat}(h:mQ l x os'):jk 8 (x.aO (bh [(7,d)])) (cO [(7,d)] os'++os0) l [d]:=by
 rcases h with ⟨hn,rfl | rfl,rfl⟩ | ⟨hn,k,rfl,rfl⟩
 ·exact .inl ⟨hn,.inr rfl⟩
 ·exact .inl ⟨hn,.inl rfl⟩
 ·refine .inr ⟨d,List.replicate k cA,by simp,?_,?_⟩
  ·simp[I.aO,bh]
  ·simp only[eU,jB,Z3,Z8,aA,cO,bh,if_true,ai.aO,I.aO]
def jC:df:=⟨⟨[],[]⟩,⟨[],[]⟩⟩
theorem pV:I.agg [.agg [.aj ⟨#[]⟩,.aj ⟨#[]⟩],.agg [.aj ⟨#[]⟩,.aj ⟨#[]⟩]]=enc jC:=rfl
def pt(r:df)(l s:List ah)(x:ah):df×List ah×Int :=
 if x∈l then (r,l,0) else if (iC s x).2≠0 then (jC,[],(iC s x).2) else (⟨⟨r.dw.bS,r.dw.eB++dV (eE 1 l) x⟩,r.copy⟩,l++[x],0)
theorem Gw{s:List ah}{x:ah}(h:(iC s x).2=0):bn x=true:=by
 simp only[iC] at h;cases q:bn x
 ·rw[q] at h
  (repeat' split at h) <;>simp_all
 ·rfl
theorem jf:(∀ A n b rest (q:di),dW A (some 1) n [] b (enc q) rest (some (.agg [.nils 8]))=ar rest (A.aQ n (.box (enc q)))) ∧
  (∀ A n rest (r:df) (x y:List UInt8),dW A none n [0,1] (enc r) (enc (av.of x)) rest (some (enc (av.of y)))=ar rest (A.aQ n (.box (enc (⟨⟨r.dw.bS,x⟩,r.copy⟩:df))))) :=
 ⟨fun A n b rest q=>by rw[eV (s:=some 1) (v:=enc q) (old:=.agg [.nils 8]) (eQ _) rfl rfl,fM],
  fun A n rest r x y=>by rw[eV (s:=none) (v:=enc (av.of x)) (old:=enc (av.of y)) (eQ _) rfl rfl];rfl⟩
theorem Gl(r:df)(h:r.small)(l s:List ah)(hl:l.length≤60)(hok:∀ x∈l,bn x=true)(hsl:s.length≤60)(h95:aS Tryz.prog 95 [enc l] (enc (⟨s⟩:di)))(x:ah) :
  aS Tryz.prog 88 [enc r,enc l,enc x] (.tuple [enc (pt r l s x).1,enc (pt r l s x).2.1,enc (pt r l s x).2.2]):=by
 refine aS.bT Tryz.func88 II JR La (t8 rfl) (fun hwf W0 bI E1 =>?_);simp only[zM,DV,bF,Z5,Nat.reduceAdd];clear hwf;have f136:=FX l x (by omega);have f93:=ue l (by omega);have f44:=xZ s x (by omega);simp only[pt];cases q1:decide (x∈l)
 rotate_left
 ·rw[q1] at f136;rw[if_pos (of_decide_eq_true q1)];have R:=y6 @pV (y6 @gy (y6 @bu aD))
  repeat' ((first |refine U.aG (by decide +kernel) rfl fun K hK =>?_|refine .flat _ (f136) rfl ?_|refine .lead _ (f93) ?_|(refine U.my (gs:=vu) [] [(3,[3]),(6,[6])] [0,1,2,3,4,5] (by decide +kernel) (dL.of (by simp[jT,bN,Cc,I.only,br])) fun K hK =>?_;simp only[kK,vu,List.getD_cons_zero,List.getD_cons_succ,R,simprocAttr])|(refine .aE [0,1,2,3,5,6,7,8,10,11,15,27] hK ?_;clear hK K)|(with_reducible refine .done (hK _ ?_);clear hK K)|refine U.of rfl ?_|(with_reducible refine aw.aF (fun h =>?_) (fun h =>?_) <;>try simp only[h])) <;>try simp only[aH,R,simprocAttr])
  all_goals clear R
  all_goals rfl
 rw[q1] at f136;rw[if_neg (of_decide_eq_false q1)];by_cases q2:(iC s x).2=0
 rotate_left
 ·have q2':((iC s x).2 != 0)=true:=by simpa using q2
  rw[if_pos q2];generalize iC s x=p at *;have R:=y6 @pV (y6 @q2' (y6 @jf (y6 @ej (y6 @gy (y6 @bu aD)))))
  repeat' ((first |refine U.aG (by decide +kernel) rfl fun K hK =>?_|refine .flat _ (f136) rfl ?_|refine .lead _ (h95) ?_|refine .lead _ (f44) ?_|(refine .aE [0,1,2,3,5,6,7,8,10,11,15,27] hK ?_;clear hK K)|(with_reducible refine .done (hK _ ?_);clear hK K)|refine U.of rfl ?_|(with_reducible refine aw.aF (fun h =>?_) (fun h =>?_) <;>try simp only[h])) <;>try simp only[aH,R,simprocAttr])
  all_goals clear R
  all_goals rfl
 have q2':((iC s x).2 != 0)=false:=by simp[q2]
 rw[if_neg (by simp[q2])];have hx:=Gw q2;have f137:=FY l (by omega) hok;have hin:=tL l;have f81:=pC (eE 1 l) hin x hx;have hll:=sB hin hx;have hadd:=fb r.dw.eB (dV (eE 1 l) x) (by have:=h.1.2;omega);generalize iC s x=p at *;have hbs:gm 8 (some [enc x])=some (enc [x]):=oa 8 x rfl;have R:=y6 @pV (y6 @q2' (y6 @hadd (y6 @jf (y6 @ej (y6 @gy (y6 @bu aD))))))
 repeat' ((first |refine U.aG (by decide +kernel) rfl fun K hK =>?_|refine .flat _ (f136) rfl ?_|refine .lead _ (h95) ?_|refine .lead _ (f44) ?_|refine .flat _ (f137) rfl ?_|refine .lead _ (f81) ?_|(refine .aE [0,1,2,3,5,6,7,8,10,11,15,27] hK ?_;clear hK K)|(with_reducible refine .done (hK _ ?_);clear hK K)|refine U.of rfl ?_|(with_reducible refine aw.aF (fun h =>?_) (fun h =>?_) <;>try simp only[h])) <;>try simp only[aH,R,simprocAttr])
 all_goals clear R
 obtain ⟨r',hr'⟩:∃ r':df,r'=⟨⟨r.dw.bS,r.dw.eB++dV (eE 1 l) x⟩,r.copy⟩:=⟨_,rfl⟩
 rw[←hr'];refine U.sub (bg.mT [3] 3 (x:=.ptr 3 []) (y:=.ref (enc r')) (ts':=[(1,enc l),(3,.ref (enc r')),(5,.ptr 5 []),(6,.ptr 6 [])]) (os':=[(6,.box (enc jC)),(5,.box (enc x))]) rfl ?_ ?_ ?_ ?_ ?_ ?_) ?_
 ·rw[vl];simp[ou,dF,aq,kD,aA,kr,pL]
 ·simp[dD,bE,ai.only,I.only,I.bV,br]
 ·simp[bK,ib,bN,I.only,br]
 ·simp[bO,dD,aA]
 ·simp[bG,ao,aA,I.only,br]
 ·simp[bE,ai.only,br]
 refine U.sub (bg.mT [5] 5 (x:=.ptr 5 []) (y:=.ref (enc x)) (ts':=[(1,enc l),(3,.ref (enc r')),(5,.ref (enc x)),(6,.ptr 6 [])]) (os':=[(6,.box (enc jC))]) rfl ?_ ?_ ?_ ?_ ?_ ?_) ?_
 ·rw[vl];simp[ou,dF,aq,kD,aA,kr,pL]
 ·simp[dD,bE,ai.only,br]
 ·simp[bK,ib,bN,I.only,br]
 ·simp[bO,dD,aA]
 ·simp[bG,ao,aA,I.only,br]
 ·simp[bE,ai.only,br]
 have R:=y6 @hbs (y6 @eZ (y6 @gy (y6 @bu aD)))
 repeat' ((first |refine U.aG (by decide +kernel) rfl fun K hK =>?_|refine .flat _ (8 [0,1,3,4,2,5,6,7,8] [(3,[]),(5,[]),(6,[6])]) rfl ?_|(refine .aE [0,1,2,3,5,6,7,8,10,11,15,27] hK ?_;clear hK K)|(with_reducible refine .done (hK _ ?_);clear hK K)|refine U.of rfl ?_|(with_reducible refine aw.aF (fun h =>?_) (fun h =>?_) <;>try simp only[h])) <;>try simp only[aH,R,simprocAttr])
 all_goals clear R
 refine U.my (gs:=vv) [] [(3,[]),(5,[]),(6,[6])] [0,1,3,4,2,5,6,7,8] (by decide +kernel) (dL.of (by simp[jT,bN,I.only,br])) fun K hK =>?_
 try simp only[kK,vv,Z3,zz6,List.getD_cons_zero,List.getD_cons_succ,hbs,aD,ba,simprocAttr]
 refine .bB [(7,46)] [enc l] (mQ l) (rp l (by omega)) eP.nil ⟨.inl ⟨(gQ _ _).symm,br _ _,eQ _⟩,trivial⟩ ?_ ?_
 ·rintro x os' (⟨_,h | h,rfl⟩ | ⟨_,k,rfl,rfl⟩)
  ·subst h;exact dh.nil (fun _=>rfl) (fun h=>by cases h)
  ·subst h;exact dh.nil (fun _=>rfl) (fun h=>by cases h)
  ·exact dh.qx (fun p=>fD p _) (fun h=>by cases h) rfl (fun h=>by cases h) rfl (by decide)
 intro y os' hp;have hg:=VF (d:=46) (os0:=[(6,.box (enc jC))]) hp;have h6:∀ m,m≠46→aA (cO [(7,46)] os'++[(6,ai.box (enc jC))]) m=aA [(6,ai.box (enc jC))] m:=by
  intro m hm;rcases hp with ⟨_,_,rfl⟩ | ⟨_,k,_,rfl⟩
  ·rfl
  ·simp only[eU,cO,Z3,zz6,bh,if_true,Z8,zz3,aA,if_neg hm]
 generalize y.aO (bh [(7,46)])=v at hg ⊢;generalize cO [(7,46)] os'++[(6,ai.box (enc jC))]=os at hg h6 ⊢;have h49:aA os 49=none:=h6 49 (by decide)
 try simp only[eZ,ba,simprocAttr]
 refine bQ.vE (default:ah) (ys:=[x]) rfl hg h49 (by simp;omega) (by simp[maxLen];omega) fun v' os'' hg2 hk =>?_;have h66:aA os'' 6=some (.box (enc jC)):=by rw[hk 6 (by decide),h6 6 (by decide)];rfl
 try simp only[h66,gy,ba,simprocAttr]
 have hf:∀ ts,bd true (aq ts ((6,.box (enc r'))::os'')) v'=some (enc (l++[x])):=fun ts=>VG rfl hg2 fun m hm=>by
  have:m≠6:=by
   simp only[zy8,List.not_mem_nil,or_false] at hm;omega
  simp[aq,aA,this]
 refine .done (hK _ ?_);clear hK K;refine U.ret ?_;simp only[ba,simprocAttr]
 try simp only[hf,aD,ba,simprocAttr]
 all_goals rfl
def ri(r:df)(l s:List ah)(x:ah):df×List ah×Int:=if oB r l=false then (jC,[],84) else pt r l s x
theorem Gd(r:df)(h:r.small)(l s:List ah)(hl:l.length≤4000000000000)(hsl:s.length≤60)(h95:oB r l=true→aS Tryz.prog 95 [enc l] (enc (⟨s⟩:di)))(x:ah) :
  aS Tryz.prog 35 [enc r,enc l,enc x] (.tuple [enc (ri r l s x).1,enc (ri r l s x).2.1,enc (ri r l s x).2.2]):=by
 refine aS.bT Tryz.func35 Il Jx KP (t8 rfl) (fun hwf W0 bI E1 =>?_);simp only[zt,DA,bF,Z5,Nat.reduceAdd];clear hwf;have f:=Gk r h l hl;simp only[ri];cases q:oB r l
 ·rw[q] at f;have R:=y6 @pV (y6 @gy (y6 @bu aD))
  repeat' ((first |refine U.aG (by decide +kernel) rfl fun K hK =>?_|refine .flat _ (f) rfl ?_|(refine .aE [0,1,2,3,5,6,7,8,12] hK ?_;clear hK K)|(with_reducible refine .done (hK _ ?_);clear hK K)|refine U.of rfl ?_|(with_reducible refine aw.aF (fun h =>?_) (fun h =>?_) <;>try simp only[h])) <;>try simp only[aH,R,simprocAttr])
  all_goals clear R
  all_goals rfl
 rw[q] at f;have hw:c7 [] l=true:=by simp only[oB,Z0] at q;exact q.1.1
 have f88:=Gl r h l s (ke hw) (tT hw) hsl (h95 q) x;simp only[Bool.true_eq_false,if_false];generalize pt r l s x=p at *;have R:=y6 @pV (y6 @gy (y6 @bu aD))
 repeat' ((first |refine U.aG (by decide +kernel) rfl fun K hK =>?_|refine .flat _ (f) rfl ?_|refine .lead _ (f88) ?_|(refine .aE [0,1,2,3,5,6,7,8,12] hK ?_;clear hK K)|(with_reducible refine .done (hK _ ?_);clear hK K)|refine U.of rfl ?_|(with_reducible refine aw.aF (fun h =>?_) (fun h =>?_) <;>try simp only[h])) <;>try simp only[aH,R,simprocAttr])
 all_goals clear R
 all_goals rfl
end Go.Proofs.YtoffnnjbplgnaaaGreatDoor
namespace Go.Proofs.YtoffnnjbplgnaaaGreatDoor
open Go Go.Abs Go.RowKit
open Go.Abs.Enc (enc)
def gA(p:List Int)(i:Nat)(n:Int):Int:=if p=[] then 0 else bA (p.getD (i%p.length) 0) n
theorem YD(i n:Nat):(i:Int).tmod (n:Int)=((i%n:Nat):Int):=rfl
theorem tY(p:List Int)(i:Nat)(n:Int)(hn:n≠0)(hi:i≤1000)(hp:p.length≤1000000000000000):aS Tryz.prog 121 [enc p,.int .i64 (i:Int),enc n] (enc (gA p i n)):=by
 refine aS.bT Tryz.func121 HG I2 Ki (t8 rfl) (fun hwf W0 bI E1 =>?_);simp only[yT,C1,bF,Z5,Nat.reduceAdd];clear hwf;simp only[gA];by_cases h:p=[]
 ·have q:((p.length:Int)==0)=true:=by rw[h];rfl
  rw[if_pos h];have R:=y6 @q aD
  repeat' ((first |refine U.aG (by decide +kernel) rfl fun K hK =>?_|(refine .aE [0,1,2,6,9] hK ?_;clear hK K)|(with_reducible refine .done (hK _ ?_);clear hK K)|refine U.of rfl ?_|(with_reducible refine aw.aF (fun h =>?_) (fun h =>?_) <;>try simp only[h])) <;>try simp only[aH,R,simprocAttr])
  all_goals clear R
  all_goals rfl
 ·have hpos:0<p.length:=List.length_pos_iff.2 h;have q:((p.length:Int)==0)=false:=by rw[beq_eq_false_iff_ne];omega
  have hnz:¬ (p.length:Int)=0:=by omega
  have hr:=YD i p.length;have hlt:i%p.length<p.length:=Nat.mod_lt _ hpos;have he:=fun A=>eS (A:=A) 1 hlt rfl;rw[if_neg h];have hg:p.getD (i%p.length) 0=p[i%p.length]:=by simp[zz5,hlt]
  rw[hg];generalize p[i%p.length]=x at *;have R:=y6 @q (y6 @hnz (y6 @hr (y6 @he (y6 @hn aD))))
  repeat' ((first |refine U.aG (by decide +kernel) rfl fun K hK =>?_|(refine .aE [0,1,2,6,9] hK ?_;clear hK K)|(with_reducible refine .done (hK _ ?_);clear hK K)|refine U.of rfl ?_|(with_reducible refine aw.aF (fun h =>?_) (fun h =>?_) <;>try simp only[h])) <;>try simp only[aH,R,simprocAttr])
  all_goals clear R
  all_goals rfl
end Go.Proofs.YtoffnnjbplgnaaaGreatDoor
namespace Go.Proofs.YtoffnnjbplgnaaaGreatDoor
open Go Go.Abs
open Go.Abs.Enc (enc)
def tQ(u:List UInt8)(p:List Int)(i:Nat):List UInt8:=u.take (gA p i (u.length+1:Nat)).toNat
def qV(w:List UInt8)(p:List Int)(i:Nat):List UInt8:=if gA p (i+1) 2=1∧0<w.length then w.set (gA p (i+2) (w.length:Nat)).toNat 63 else w
def xF(r:dk)(p:List Int)(i:Nat):List UInt8:=r.bS++qV (tQ r.eB p i) p i
def lT(r:dk)(p:List Int)(i:Nat):dk:=⟨xF r p i,[]⟩
theorem E7(w:List UInt8)(p:List Int)(i:Nat):(qV w p i).length=w.length:=by
 rw[qV];split <;>simp
theorem ux{p:List Int}{i:Nat}{n:Nat}(hn:0<n∧n≤4611686018427387904)(hp:∀ x∈p,-9223372036854775808≤x∧x≤9223372036854775807):0≤gA p i (n:Nat)∧gA p i (n:Nat)<n:=by
 rw[gA];by_cases h:p=[]
 ·rw[if_pos h];omega
 ·rw[if_neg h];have hpos:0<p.length:=List.length_pos_iff.2 h;have hlt:i%p.length<p.length:=Nat.mod_lt _ hpos;have hm:p.getD (i%p.length) 0∈p:=by simp only[zz5,zz2 hlt,Option.getD_some];exact zw0 hlt
  rw[WQ (hp _ hm) (by omega)];exact ⟨Int.emod_nonneg _ (by omega),Int.emod_lt_of_pos _ (by omega)⟩
theorem yN:∀ l:List UInt8,mO (l.map enc)=some l
 | []=>rfl
 |b::l=>by
  have h:=yN l;rw[Z3]
  show (match I.int .u8 (b.toNat:Int),mO (l.map enc) with | .int .u8 n,some l=>some (UInt8.ofNat n.toNat::l) | _,_=>none)=_
  rw[h]
  show some (UInt8.ofNat ((b.toNat:Int)).toNat::l)=_
  simp
theorem rG(l:List UInt8):lj (some (l.map enc))=some (enc (av.of l)):=by
 rw[lj,yN];rfl
theorem tE(A:ab)(t:List UInt8):kc A 1 (enc (av.of t))=some (t.map enc):=rfl
theorem tq(n:Nat):List.replicate n (I.int .u8 0)=(List.replicate n (0:UInt8)).map enc:=by rw[List.map_replicate];rfl
def xm(sz z lo k:Nat):Option (List I)→Option (List I)
 |some fs=>if lo+k≤fs.length∧z=sz then some ((fs.drop lo).take k) else none
 |none=>none
theorem tF(A:ab)(sz n z lo k:Nat)(p:List Nat):kc A sz (.view n p z lo k)=xm sz z lo k (ev (dF p (A.o n))):=by
 show cW A sz (.view n p z lo k)=_
 simp only[cW,jN,fO];cases dF p (A.o n) with
 |none=>rfl
 |some c=>cases c <;>rfl
theorem tH(l q:List UInt8){n:Nat}(h:n=l.length):xm 1 1 0 n (some ((l++q).map enc))=some (l.map enc):=by
 subst h;simp only[xm,Z2,List.drop_zero,←List.map_take,List.take_left];rw[if_pos ⟨by simp,trivial⟩]
theorem tG(A:ab)(k n:Nat)(l:List UInt8)(hn:n=l.length)(h:A.o k=some (.box (.agg (l.map enc)))):cW A 1 (.view k [] 1 0 n)=some (l.map enc):=by
 subst hn;have e:=nJ (A:=A) (esz:=1) (lo:=0) (k:=l.length) h (by simp);rw[List.drop_zero,List.take_length] at e;exact e
theorem Al{A:ab}{d:Option Nat}{z esz:Nat}{rest:List ay}{ys:List I} : kp A d esz (ar rest) (.c0 z) (some ys)=ar rest (A.aP d (.int .i64 0)):=rfl
theorem Ze{n:Nat}{p:List Nat}{sz k:Nat} : iR n p sz 0 k k (some (.int .i64 k)) none none=some (.c0 sz):=by
 simp only[iR,hG];rw[if_pos ⟨by omega,by omega,by omega⟩,if_pos (by omega)]
theorem EX{A:ab}{n k i:Nat}{xs:List UInt8}(hk:k=xs.length)(hi:i<k)(h:A.o n=some (.box (.agg (xs.map enc)))):jF A 1 (some (.int .i64 i)) none none (.view n [] 1 0 k)=some (.view n [] 1 i (k-i)):=by
 subst hk;rw[xj,h]
 show lP n [] 1 0 xs.length 1 _ none none (some (xs.map enc))=_
 rw[xk,Z2,mA (by omega) (by omega) hi]
theorem EY{A:ab}{n k:Nat}{xs:List UInt8}(hk:k=xs.length)(h:A.o n=some (.box (.agg (xs.map enc)))):jF A 1 (some (.int .i64 k)) none none (.view n [] 1 0 k)=some (.c0 1):=by
 subst hk;rw[xj,h]
 show lP n [] 1 0 xs.length 1 _ none none (some (xs.map enc))=_
 rw[xk,Z2,Ze]
theorem rO{A:ab}{d:Option Nat}{n k m:Nat}{rest:List ay}{a:List UInt8}(hk:k=a.length+m)(h:A.o n=some (.box (.agg ((List.replicate k (0:UInt8)).map enc)))) :
  kp A d 1 (ar rest) (.view n [] 1 0 k) (some (a.map enc))=ar rest ((A.aQ n (.box (.agg ((a++List.replicate m (0:UInt8)).map enc)))).aP d (.int .i64 (a.length:Nat))):=by
 subst hk;rw[og (c:=a.length) h (by simp) (by omega)];simp
theorem Ak{A:ab}{d:Option Nat}{n i m:Nat}{rest:List ay}{a b:List UInt8}(hi:i=a.length)(hm:m=b.length)(h:A.o n=some (.box (.agg ((a++List.replicate m (0:UInt8)).map enc)))) :
  kp A d 1 (ar rest) (.view n [] 1 i m) (some (b.map enc))=ar rest ((A.aQ n (.box (.agg ((a++b).map enc)))).aP d (.int .i64 (b.length:Nat))):=by
 subst hi hm;rw[og (c:=b.length) h (by simp) (by omega)];simp
theorem ya(r:dk)(hr:r.small)(p:List Int)(i:Nat)(hi:i≤900)(hp:p.length≤100000000000000)(hpi:∀ x∈p,-9223372036854775808≤x∧x≤9223372036854775807):aS Tryz.prog 75 [enc r,enc p,.int .i64 (i:Int)] (enc (lT r p i)):=by
 obtain ⟨n1,hn1⟩:∃ n1:Nat,gA p i ((r.eB.length+1:Nat):Int)=(n1:Int):=zz7 (ux (by have:=hr.2;omega) hpi).1;have hn1l:n1≤r.eB.length:=by have:=(ux (p:=p) (i:=i) (n:=r.eB.length+1) (by have:=hr.2;omega) hpi).2;omega
 have hd:=hr.1;have hu:=hr.2;have e1:tQ r.eB p i=r.eB.take n1:=by rw[tQ,hn1];rfl
 have hnl:(r.eB.take n1).length=n1:=by rw[zz1];omega
 rw[lT,xF,e1];refine aS.bT Tryz.func75 Iy JH K0 (t8 rfl) (fun hwf W0 bI E1 =>?_);simp only[c75,DL,bF,Z5,Nat.reduceAdd];clear hwf;have f1:=tY p i ((r.eB.length+1:Nat):Int) (by omega) (by omega) (by omega);have f2:=tY p (i+1) 2 (by omega) (by omega) (by omega);have hss:=qS (av.of r.eB) (j:=n1) (by rw[av.dG];exact hn1l);rw[av.dG] at hss;have hs2:=xa (r.eB.take n1);have hl:=fun t=>pb t;have hw1:IntKind.i64.wrap (((r.eB.length:Nat):Int)+1)=((r.eB.length+1:Nat):Int):=by rw[dX _ (by omega) (by omega)];omega
 have hw2:IntKind.i64.wrap ((i:Int)+1)=((i+1:Nat):Int):=by rw[dX _ (by omega) (by omega)];omega
 have hw3:IntKind.i64.wrap ((i:Int)+2)=((i+2:Nat):Int):=by rw[dX _ (by omega) (by omega)];omega
 rw[hn1] at f1
 replace f2:aS Tryz.prog 121 [enc p,.int .i64 ((i+1:Nat):Int),.int .i64 2] (.int .i64 (gA p (i+1) 2)):=f2
 replace f1:aS Tryz.prog 121 [enc p,.int .i64 (i:Int),.int .i64 ((r.eB.length+1:Nat):Int)] (.int .i64 (n1:Int)):=f1
 obtain ⟨l2,hl2⟩:∃ l2,qV (r.eB.take n1) p i=l2:=⟨_,rfl⟩
 have hl2n:l2.length=n1:=by rw[←hl2,E7,hnl]
 rw[hl2];rw[qV] at hl2;generalize r.eB.take n1=w at *;have hpi':=hpi;clear e1;have hiv:=trivial;have hat:=trivial;have hst:=trivial;have f3:=f2;rcases Nat.eq_zero_or_pos n1 with h0 | h0
 ·have hw0:l2=w:=by
   rw[if_neg] at hl2
   ·exact hl2.symm
   ·intro h;omega
  subst hw0;have hg:decide ((n1:Int)>0)=false:=decide_eq_false (by omega);cases hb:gA p (i+1) 2==1
  ·generalize gA p (i+1) 2=a2 at *;have hw4:IntKind.i64.wrap ((r.bS.length:Int)+(n1:Int))=((r.bS.length+n1:Nat):Int):=by rw[dX _ (by omega) (by omega)];omega
   have hmk:=fun (A:ab) (rest:List ay)=>sP (A:=A) (d:=44) (bytes:=1) (z:=.int .u8 0) (rest:=rest) (n:=r.bS.length+n1) (by omega) (by unfold maxLen;omega);have hcp:=fun (A:ab) (rest:List ay)=>rO (A:=A) (d:=some 48) (n:=44) (k:=r.bS.length+n1) (m:=n1) (rest:=rest) (a:=r.bS) rfl;have hcv:=fun (q:List UInt8)=>tH l2 q (n:=n1) hl2n.symm;have hsb:=fun (A:ab)=>tG A 44 (r.bS.length+n1) (r.bS++l2) (by simp[hl2n]);have hbs:=rG (r.bS++l2);have hce:=fun (A:ab)=>tE A r.bS;have hl0:l2=[]:=zx4 (by omega);have hsl:=fun (A:ab)=>EY (A:=A) (n:=44) (k:=r.bS.length+n1) (xs:=r.bS++List.replicate n1 0) (by simp);have hn:((r.bS.length+n1:Nat):Int)=(r.bS.length:Int):=by omega
   have hrp:r.bS++List.replicate n1 (0:UInt8)=r.bS++l2:=by rw[hl0,h0];rfl
   rw[hn,hrp] at hsl;rw[hrp] at hcp;have R:=y6 @hg (y6 @ql (y6 @tF (y6 @ml (y6 @tq (y6 @hw1 (y6 @hw2 (y6 @hw3 (y6 @hw4 (y6 @hb (y6 @hnl (y6 @hmk (y6 @hcp (y6 @hcv (y6 @hsb (y6 @hbs (y6 @hce (y6 @hsl (y6 @Al (y6 @jO (y6 @gy (y6 @lp (y6 @hl (y6 @hss (y6 @hs2 (y6 @bu (y6 @sH aD))))))))))))))))))))))))))
   repeat' ((first |(with_reducible refine .guard (fun hb =>?_) (fun hb =>?_) <;>try simp only[hb])|(refine U.my (gs:=lA) [] [] [0,1,2,3,4,5,6,7,8,9,10,11] (by decide +kernel) (dL.of (by simp[jT])) fun K hK =>?_;simp only[kK,lA,List.getD_cons_zero,List.getD_cons_succ,R,simprocAttr])|refine bQ.eM rfl fun m =>?_|refine U.aG (by decide +kernel) rfl fun K hK =>?_|refine .flat _ (f1) rfl ?_|refine .flat _ (f2) rfl ?_|(refine .aE [0,1,2,3,6,7,8,29] hK ?_;clear hK K)|(with_reducible refine .done (hK _ ?_);clear hK K)|refine U.of rfl ?_|(with_reducible refine aw.aF (fun h =>?_) (fun h =>?_) <;>try simp only[h])) <;>try simp only[aH,R,zx2,simprocAttr])
   all_goals clear R
   all_goals rfl
  ·generalize gA p (i+1) 2=a2 at *;have hw4:IntKind.i64.wrap ((r.bS.length:Int)+(n1:Int))=((r.bS.length+n1:Nat):Int):=by rw[dX _ (by omega) (by omega)];omega
   have hmk:=fun (A:ab) (rest:List ay)=>sP (A:=A) (d:=44) (bytes:=1) (z:=.int .u8 0) (rest:=rest) (n:=r.bS.length+n1) (by omega) (by unfold maxLen;omega);have hcp:=fun (A:ab) (rest:List ay)=>rO (A:=A) (d:=some 48) (n:=44) (k:=r.bS.length+n1) (m:=n1) (rest:=rest) (a:=r.bS) rfl;have hcv:=fun (q:List UInt8)=>tH l2 q (n:=n1) hl2n.symm;have hsb:=fun (A:ab)=>tG A 44 (r.bS.length+n1) (r.bS++l2) (by simp[hl2n]);have hbs:=rG (r.bS++l2);have hce:=fun (A:ab)=>tE A r.bS;have hl0:l2=[]:=zx4 (by omega);have hsl:=fun (A:ab)=>EY (A:=A) (n:=44) (k:=r.bS.length+n1) (xs:=r.bS++List.replicate n1 0) (by simp);have hn:((r.bS.length+n1:Nat):Int)=(r.bS.length:Int):=by omega
   have hrp:r.bS++List.replicate n1 (0:UInt8)=r.bS++l2:=by rw[hl0,h0];rfl
   rw[hn,hrp] at hsl;rw[hrp] at hcp;have R:=y6 @hg (y6 @ql (y6 @tF (y6 @ml (y6 @tq (y6 @hw1 (y6 @hw2 (y6 @hw3 (y6 @hw4 (y6 @hb (y6 @hnl (y6 @hmk (y6 @hcp (y6 @hcv (y6 @hsb (y6 @hbs (y6 @hce (y6 @hsl (y6 @Al (y6 @jO (y6 @gy (y6 @lp (y6 @hl (y6 @hss (y6 @hs2 (y6 @bu (y6 @sH aD))))))))))))))))))))))))))
   repeat' ((first |(with_reducible refine .guard (fun hb =>?_) (fun hb =>?_) <;>try simp only[hb])|(refine U.my (gs:=lA) [] [] [0,1,2,3,4,5,6,7,8,9,10,11] (by decide +kernel) (dL.of (by simp[jT])) fun K hK =>?_;simp only[kK,lA,List.getD_cons_zero,List.getD_cons_succ,R,simprocAttr])|refine bQ.eM rfl fun m =>?_|refine U.aG (by decide +kernel) rfl fun K hK =>?_|refine .flat _ (f1) rfl ?_|refine .flat _ (f2) rfl ?_|(refine .aE [0,1,2,3,6,7,8,29] hK ?_;clear hK K)|(with_reducible refine .done (hK _ ?_);clear hK K)|refine U.of rfl ?_|(with_reducible refine aw.aF (fun h =>?_) (fun h =>?_) <;>try simp only[h])) <;>try simp only[aH,R,zx2,simprocAttr])
   all_goals clear R
   all_goals rfl
 ·have hg:decide ((n1:Int)>0)=true:=decide_eq_true (by omega);cases hb:gA p (i+1) 2==1
  ·have hw0:l2=w:=by
    rw[if_neg] at hl2
    ·exact hl2.symm
    ·intro h;rw[h.1] at hb;cases hb
   subst hw0;generalize gA p (i+1) 2=a2 at *;have hw4:IntKind.i64.wrap ((r.bS.length:Int)+(n1:Int))=((r.bS.length+n1:Nat):Int):=by rw[dX _ (by omega) (by omega)];omega
   have hmk:=fun (A:ab) (rest:List ay)=>sP (A:=A) (d:=44) (bytes:=1) (z:=.int .u8 0) (rest:=rest) (n:=r.bS.length+n1) (by omega) (by unfold maxLen;omega);have hcp:=fun (A:ab) (rest:List ay)=>rO (A:=A) (d:=some 48) (n:=44) (k:=r.bS.length+n1) (m:=n1) (rest:=rest) (a:=r.bS) rfl;have hcv:=fun (q:List UInt8)=>tH l2 q (n:=n1) hl2n.symm;have hsb:=fun (A:ab)=>tG A 44 (r.bS.length+n1) (r.bS++l2) (by simp[hl2n]);have hbs:=rG (r.bS++l2);have hce:=fun (A:ab)=>tE A r.bS;have hsl:=fun (A:ab)=>EX (A:=A) (n:=44) (k:=r.bS.length+n1) (i:=r.bS.length) (xs:=r.bS++List.replicate n1 0) (by simp) (by omega);rw[Nat.add_sub_cancel_left] at hsl;have hcb:=fun (A:ab) (rest:List ay)=>Ak (A:=A) (d:=some 55) (n:=44) (i:=r.bS.length) (m:=n1) (rest:=rest) (a:=r.bS) (b:=l2) rfl hl2n.symm;have R:=y6 @hg (y6 @hiv (y6 @hat (y6 @hst (y6 @vI (y6 @ql (y6 @tF (y6 @ml (y6 @tq (y6 @hw1 (y6 @hw2 (y6 @hw3 (y6 @hw4 (y6 @hb (y6 @hnl (y6 @hmk (y6 @hcp (y6 @hcv (y6 @hsb (y6 @hbs (y6 @hce (y6 @hsl (y6 @hcb (y6 @jO (y6 @gy (y6 @lp (y6 @hl (y6 @hss (y6 @hs2 (y6 @bu (y6 @sH aD))))))))))))))))))))))))))))))
   repeat' ((first |(with_reducible refine .guard (fun hb =>?_) (fun hb =>?_) <;>try simp only[hb])|(refine U.my (gs:=lA) [] [] [0,1,2,3,4,5,6,7,8,9,10,11] (by decide +kernel) (dL.of (by simp[jT])) fun K hK =>?_;simp only[kK,lA,List.getD_cons_zero,List.getD_cons_succ,R,simprocAttr])|refine bQ.eM rfl fun m =>?_|refine U.aG (by decide +kernel) rfl fun K hK =>?_|refine .flat _ (f1) rfl ?_|refine .flat _ (f2) rfl ?_|refine .flat _ (f3) rfl ?_|(refine .aE [0,1,2,3,6,7,8,29] hK ?_;clear hK K)|(with_reducible refine .done (hK _ ?_);clear hK K)|refine U.of rfl ?_|(with_reducible refine aw.aF (fun h =>?_) (fun h =>?_) <;>try simp only[h])) <;>try simp only[aH,R,zx2,simprocAttr])
   all_goals clear R
   all_goals rfl
  ·obtain ⟨j,hj,hjn⟩:∃ j:Nat,gA p (i+2) (n1:Int)=(j:Int)∧j<n1:=by
    have:=ux (p:=p) (i:=i+2) (n:=n1) (by omega) hpi';obtain ⟨j,hj⟩:=zz7 this.1;exact ⟨j,hj,by omega⟩
   have hw0:w.set j 63=l2:=by
    rw[if_pos ⟨by simpa using hb,by omega⟩,hnl,hj] at hl2;exact hl2
   clear f3 hiv hat hst;have f3:=tY p (i+2) (n1:Int) (by omega) (by omega) (by omega);rw[hj] at f3
   replace f3:aS Tryz.prog 121 [enc p,.int .i64 ((i+2:Nat):Int),.int .i64 (n1:Int)] (.int .i64 (j:Int)):=f3
   have hiv:=fun (fs:List I)=>VV (m:=19) (sz:=1) (lo:=0) (l:=n1) (i:=j) (fs:=fs) hjn;rw[Z5] at hiv;have hat:∀ q:List UInt8,lh j [] (some ((w++q).map enc))=some (enc w[j]):=fun q=>by
    have h2:((w++q).map (enc (α:=UInt8)))[j]?=some (enc w[j]):=by
     rw[zx0,zz9 (by omega),zz2 (by omega)];rfl
    simp only[lh,h2,nZ,pL]
   have hst:∀ (A:ab) (q:List UInt8) (u:UInt8) (rest:List ay),dW A none 19 [j] (.agg ((w++q).map enc)) (.int .u8 63) rest (some (enc u))=ar rest (A.aQ 19 (.box (.agg ((l2++q).map enc)))):=fun A q u rest=>by
    have:=Zn (A:=A) (n:=19) (i:=j) (xs:=w++q) 63 u (rest:=rest) rfl (by simp;omega);rw[List.set_append_left _ _ (by omega),hw0] at this;exact this
   generalize gA p (i+1) 2=a2 at *;have hw4:IntKind.i64.wrap ((r.bS.length:Int)+(n1:Int))=((r.bS.length+n1:Nat):Int):=by rw[dX _ (by omega) (by omega)];omega
   have hmk:=fun (A:ab) (rest:List ay)=>sP (A:=A) (d:=44) (bytes:=1) (z:=.int .u8 0) (rest:=rest) (n:=r.bS.length+n1) (by omega) (by unfold maxLen;omega);have hcp:=fun (A:ab) (rest:List ay)=>rO (A:=A) (d:=some 48) (n:=44) (k:=r.bS.length+n1) (m:=n1) (rest:=rest) (a:=r.bS) rfl;have hcv:=fun (q:List UInt8)=>tH l2 q (n:=n1) hl2n.symm;have hsb:=fun (A:ab)=>tG A 44 (r.bS.length+n1) (r.bS++l2) (by simp[hl2n]);have hbs:=rG (r.bS++l2);have hce:=fun (A:ab)=>tE A r.bS;have hsl:=fun (A:ab)=>EX (A:=A) (n:=44) (k:=r.bS.length+n1) (i:=r.bS.length) (xs:=r.bS++List.replicate n1 0) (by simp) (by omega);rw[Nat.add_sub_cancel_left] at hsl;have hcb:=fun (A:ab) (rest:List ay)=>Ak (A:=A) (d:=some 55) (n:=44) (i:=r.bS.length) (m:=n1) (rest:=rest) (a:=r.bS) (b:=l2) rfl hl2n.symm;have R:=y6 @hg (y6 @hiv (y6 @hat (y6 @hst (y6 @vI (y6 @ql (y6 @tF (y6 @ml (y6 @tq (y6 @hw1 (y6 @hw2 (y6 @hw3 (y6 @hw4 (y6 @hb (y6 @hnl (y6 @hmk (y6 @hcp (y6 @hcv (y6 @hsb (y6 @hbs (y6 @hce (y6 @hsl (y6 @hcb (y6 @jO (y6 @gy (y6 @lp (y6 @hl (y6 @hss (y6 @hs2 (y6 @bu (y6 @sH aD))))))))))))))))))))))))))))))
   repeat' ((first |(with_reducible refine .guard (fun hb =>?_) (fun hb =>?_) <;>try simp only[hb])|(refine U.my (gs:=lA) [] [] [0,1,2,3,4,5,6,7,8,9,10,11] (by decide +kernel) (dL.of (by simp[jT])) fun K hK =>?_;simp only[kK,lA,List.getD_cons_zero,List.getD_cons_succ,R,simprocAttr])|refine bQ.eM rfl fun m =>?_|refine U.aG (by decide +kernel) rfl fun K hK =>?_|refine .flat _ (f1) rfl ?_|refine .flat _ (f2) rfl ?_|refine .flat _ (f3) rfl ?_|(refine .aE [0,1,2,3,6,7,8,29] hK ?_;clear hK K)|(with_reducible refine .done (hK _ ?_);clear hK K)|refine U.of rfl ?_|(with_reducible refine aw.aF (fun h =>?_) (fun h =>?_) <;>try simp only[h])) <;>try simp only[aH,R,zx2,simprocAttr])
   all_goals clear R
   all_goals rfl
def kU(r:df)(p:List Int):df:=⟨lT r.dw p 0,lT r.copy p 3⟩
theorem ua(r:df)(h:r.small)(p:List Int)(hp:p.length≤100000000000000)(hpi:∀ x∈p,-9223372036854775808≤x∧x≤9223372036854775807):aS Tryz.prog 22 [enc r,enc p] (enc (kU r p)):=by
 refine aS.bT Tryz.func22 Ie Jq KI (t8 rfl) (fun hwf W0 bI E1 =>?_);simp only[zl,Ds,bF,Z5];clear hwf;have f1:=ya r.dw h.1 p 0 (by omega) hp hpi;have f2:=ya r.copy h.2 p 3 (by omega) hp hpi
 replace f1:aS Tryz.prog 75 [enc r.dw,enc p,.int .i64 0] (enc (lT r.dw p 0)):=f1
 replace f2:aS Tryz.prog 75 [enc r.copy,enc p,.int .i64 3] (enc (lT r.copy p 3)):=f2
 simp only[kU];generalize lT r.dw p 0=a at *;generalize lT r.copy p 3=b at *;have R:=y6 @lp (y6 @jO (y6 @mR (y6 @AE (y6 @gy aD))))
 repeat' ((first |refine U.aG (by decide +kernel) rfl fun K hK =>?_|refine .flat _ (f1) rfl ?_|refine .flat _ (f2) rfl ?_|(refine .aE [0,1,2,4] hK ?_;clear hK K)|(with_reducible refine .done (hK _ ?_);clear hK K)|refine U.of rfl ?_|(with_reducible refine aw.aF (fun h =>?_) (fun h =>?_) <;>try simp only[h])) <;>try simp only[aH,R,simprocAttr])
 all_goals clear R
 all_goals rfl
def iK:ah:=⟨2,0,5,10,12,0,0,[97]⟩
def iW:List UInt8:=[51,55,52,56,51,55,32,50,32,48,32,53,32,49,48,32,49,50,32,48,32,48,32,97,10]
def cT:df:=⟨⟨[],iW⟩,⟨[],[]⟩⟩
theorem Mr:kE 1 iK=(iW,374837,0):=by decide +kernel
theorem Mu:kM 1 iW=(iK,374837,0):=by decide +kernel
theorem Mw:ri jC [] [] iK=(cT,[iK],0):=by decide +kernel
theorem Ms:(kI (kU cT [])).2=[]:=by decide +kernel
theorem Mt:(kI (kU cT [25,0,0])).2=[iK]:=by decide +kernel
theorem Mv:(kI (kU cT [25,1,3])).2=[]:=by decide +kernel
theorem Mq:kI (pP (pc cT) false)=(⟨⟨iW,[]⟩,⟨iW,[]⟩⟩,[iK]):=by decide +kernel
theorem mL:iW.length=25:=rfl
theorem Gs:iW.drop 7=[50,32,48,32,53,32,49,48,32,49,50,32,48,32,48,32,97,10]:=rfl
theorem Mg:I.agg [.agg [.int .i64 2,.int .i64 0],.int .i64 5,.int .i64 10,.int .i64 12,.agg [.int .i64 0,.int .i64 0],.aj ⟨#[97]⟩]=enc iK:=rfl
theorem xC(p:List Int):(kU cT p).small:=by
 refine ⟨⟨?_,?_⟩,⟨?_,?_⟩⟩ <;>simp[kU,lT,xF,E7,tQ,cT,mL] <;>omega
theorem F0:aS Tryz.prog 14 [] (enc true):=by
 refine aS.bT Tryz.func14 HX Jd Ku (t8 rfl) (fun hwf W0 bI E1 =>?_);simp only[za,Dd,bF];clear hwf;have f29:=Gb 1 iK;rw[Mr] at f29;have f31:=Gc 1 iW (by rw[mL];omega);rw[Mu] at f31;have f35:=Gd jC ⟨⟨by decide,by decide⟩,⟨by decide,by decide⟩⟩ [] [] (by decide) (by decide) (fun _=>yg) iK;rw[Mw] at f35;have h0:cT.small:=by refine ⟨⟨?_,?_⟩,⟨?_,?_⟩⟩ <;>simp[cT,mL]
 have t1:=ua cT h0 [] (by simp) (by simp);have t2:=ua cT h0 [25,0,0] (by simp) (by simp);have t3:=ua cT h0 [25,1,3] (by simp) (by simp);have o1:=rm _ (xC []);have o2:=rm _ (xC [25,0,0]);have o3:=rm _ (xC [25,1,3]);have f20:=F9 cT h0;have f24:=Ga (pc cT) false;have o4:=rm (pP (pc cT) false) (by refine ⟨⟨?_,?_⟩,⟨?_,?_⟩⟩ <;>simp[pc,pP,cT,dk.all,mL]);rw[Ms] at o1;rw[Mt] at o2;rw[Mv] at o3;rw[Mq] at o4;generalize kU cT []=T1 at *;generalize kU cT [25,0,0]=T2 at *;generalize kU cT [25,1,3]=T3 at *;generalize pc cT=T4 at *;generalize pP T4 false=T5 at *;generalize (kI T1).1=U1 at *;generalize (kI T2).1=U2 at *;generalize (kI T3).1=U3 at *
 dsimp only at f29 f31 f35 o4
 have hl:mh (enc (av.of iW))=some (.int .i64 25):=by rw[pb,mL];rfl
 have hww:cT.dw.eB=iW:=rfl;have hl2:(((av.of iW).l.length:Nat):Int)=25:=by rw[av.dG,mL];rfl
 have hd1:decide (cT.copy=(⟨[],[]⟩:dk))=true:=rfl;have hw7:IntKind.i64.wrap 7=7:=by decide
 have hl1:(((([iK]:List ah).length:Nat):Int)==1)=true:=rfl;have hn0:(((([]:List ah).length:Nat):Int)==0)=true:=rfl;have hse:bL .eql (enc (av.of [50,32,48,32,53,32,49,48,32,49,50,32,48,32,48,32,97,10])) (.aj ⟨#[50,32,48,32,53,32,49,48,32,49,50,32,48,32,48,32,97,10]⟩)=some (.bool true):=by
  show bL .eql (enc (av.of _)) (enc (av.of [50,32,48,32,53,32,49,48,32,49,50,32,48,32,48,32,97,10]))=_
  rw[lL];simp
 have hp1:fF [.int .i64 0,.int .i64 0] [(0,.int .i64 2)]=some [.int .i64 2,.int .i64 0]:=rfl;have hp2:fF [.agg [.int .i64 0,.int .i64 0],.int .i64 0,.int .i64 0,.int .i64 0,.agg [.int .i64 0,.int .i64 0],.aj ⟨#[]⟩] [(0,.agg [.int .i64 2,.int .i64 0]),(1,.int .i64 5),(2,.int .i64 10),(3,.int .i64 12),(5,.aj ⟨#[97]⟩)]=some [.agg [.int .i64 2,.int .i64 0],.int .i64 5,.int .i64 10,.int .i64 12,.agg [.int .i64 0,.int .i64 0],.aj ⟨#[97]⟩]:=rfl;have hb2:gm 1 (some [.int .i64 25,.int .i64 0,.int .i64 0])=some (enc ([25,0,0]:List Int)):=rfl;have hb3:gm 1 (some [.int .i64 25,.int .i64 1,.int .i64 3])=some (enc ([25,1,3]:List Int)):=rfl;have hs:=xb (av.of iW) (i:=7) (by rw[av.dG,mL];omega);rw[av.dG,Gs] at hs
 replace hs:ez (.ss true false) [enc (av.of iW),.int .i64 7]=some (enc (av.of [50,32,48,32,53,32,49,48,32,49,50,32,48,32,48,32,97,10])):=hs
 have R:=y6 @hw7 (y6 @hl1 (y6 @hn0 (y6 @hse (y6 @hww (y6 @hl2 (y6 @hd1 (y6 @hl (y6 @hb2 (y6 @hb3 (y6 @hs (y6 @hp1 (y6 @hp2 (y6 @lL (y6 @Mg (y6 @eZ (y6 @eN (y6 @AE (y6 @jO (y6 @mR (y6 @gy (y6 @lp (y6 @bu aD))))))))))))))))))))))
 repeat' ((first |(with_reducible refine .guard (fun hb =>?_) (fun hb =>?_) <;>try simp only[hb])|refine U.aG (by decide +kernel) rfl fun K hK =>?_|refine .flat _ (f29) rfl ?_|refine .flat _ (f31) rfl ?_|refine .flat _ (f35) rfl ?_|refine .flat _ (t1) rfl ?_|refine .flat _ (o1) rfl ?_|refine .flat _ (t2) rfl ?_|refine .flat _ (o2) rfl ?_|refine .flat _ (t3) rfl ?_|refine .flat _ (o3) rfl ?_|refine .flat _ (f20) rfl ?_|refine .flat _ (f24) rfl ?_|refine .flat _ (o4) rfl ?_|refine .lead _ (f35) ?_|refine .lead _ (o1) ?_|refine .lead _ (o2) ?_|refine .lead _ (o3) ?_|refine .lead _ (o4) ?_|(refine .aE [0,1,2,3,4,5,6,7,8,9,10,12,14,16,17,18,19,20] hK ?_;clear hK K)|(with_reducible refine .done (hK _ ?_);clear hK K)|refine U.of rfl ?_|(with_reducible refine aw.aF (fun h =>?_) (fun h =>?_) <;>try simp only[h])) <;>try simp only[aH,R,eq_self,decide_true,simprocAttr])
 all_goals clear R
 all_goals rfl
end Go.Proofs.YtoffnnjbplgnaaaGreatDoor
namespace Go.Proofs.YtoffnnjbplgnaaaGreatDoor
open Go Go.Abs Go.Shelf Go.RowKit Go.Sort Go.Proofs
open Go.Abs.Enc (enc)
theorem Kd(a b:Item)(W:World):Calls Tryz.prog 140 #[.agg #[.int .i64 a.aJ,.int .i64 a.no],.agg #[.int .i64 b.aJ,.int .i64 b.no]] W fun e w'=>e=.returned (.int .i64 (gB a b))∧∃ q os',w'=grow (W.drewN q) os':=by
 go_enter Tryz.func140,Tryz.ntmps140
 obtain ⟨c1,hc1⟩:∃ c1,c1=Obj.cells #[Value.int .i64 a.aJ,.int .i64 a.no] 48:=⟨_,rfl⟩
 obtain ⟨c2,hc2⟩:∃ c2,c2=Obj.cells #[Value.int .i64 b.aJ,.int .i64 b.no] 48:=⟨_,rfl⟩
 go_wp2
 rw[←hc1,←hc2];obtain ⟨W2,hW2⟩:∃ W2,W2=((W.alloc c1).alloc c2):=⟨_,rfl⟩
 have e1:W2.heap[W.heap.size]?=some c1:=by rw[hW2,heap_alloc_old _ _ (by simp),heap_alloc_new]
 have e2:W2.heap[W.heap.size+1]?=some c2:=by
  have:=heap_alloc_new (W.alloc c1) c2;rw[World.size_alloc] at this;rw[hW2];exact this
 have k1:W2.cell? ⟨W.heap.size,0,none⟩=some (.int .i64 a.aJ):=by simp[World.cell?,e1,hc1]
 have k2:W2.cell? ⟨W.heap.size,1,none⟩=some (.int .i64 a.no):=by simp[World.cell?,e1,hc1]
 have k3:W2.cell? ⟨W.heap.size+1,0,none⟩=some (.int .i64 b.aJ):=by simp[World.cell?,e2,hc2]
 have k4:W2.cell? ⟨W.heap.size+1,1,none⟩=some (.int .i64 b.no):=by simp[World.cell?,e2,hc2]
 rw[←hW2];have d1:W2.drew.cell? ⟨W.heap.size,0,none⟩=some (.int .i64 a.aJ):=k1;have d2:W2.drew.cell? ⟨W.heap.size,1,none⟩=some (.int .i64 a.no):=k2;have d3:W2.drew.cell? ⟨W.heap.size+1,0,none⟩=some (.int .i64 b.aJ):=k3;have d4:W2.drew.cell? ⟨W.heap.size+1,1,none⟩=some (.int .i64 b.no):=k4;have hgr:∃ os,grow W os=W2:=⟨#[c1,c2],by rw[hW2,alloc_eq_grow,alloc_eq_grow,grow_grow];rfl⟩
 clear hc1 hc2 hW2 e1 e2;generalize W.heap.size=S at *;obtain ⟨r,hr⟩:∃ r,gB a b=r:=⟨_,rfl⟩
 have h160:Calls Tryz.prog 160 #[.slice (some ⟨W2.heap.size,0,none⟩) 2 2] ((W2.drew).alloc (Obj.cells #[.int .i64 (eI a.aJ b.aJ),.int .i64 (eI a.no b.no)] 3)) fun e w'=>e=.returned (.int .i64 r)∧w'=(W2.drew).alloc (Obj.cells #[.int .i64 (eI a.aJ b.aJ),.int .i64 (eI a.no b.no)] 3):=by
  rw[←hr];exact XY _ _ _ W2.heap.size (heap_alloc_new W2.drew _)
 refine wp_region_still_tail 10 (by kernel_rfl) (by kernel_rfl) ?_
 change wpStill _ _ W2.drew _ _ _
 simp only[List.take_succ_cons,List.take_zero,List.drop_succ_cons,List.drop_zero]
 repeat (first | still_step | still_call (Kb _ _ _))
 refine wpStill_nil ?_
 change wpList _ _ _ _ _ W2.drew
 go_wp2_with (go_at_call 160;refine h160.mono ?_;rintro e w' ⟨rfl,rfl⟩)
 go_ret
 refine ⟨by rw[hr];rfl,?_⟩;obtain ⟨os,hos⟩:=hgr;exact ⟨1,os ++ #[Obj.cells #[.int .i64 (eI a.aJ b.aJ),.int .i64 (eI a.no b.no)] 3],by rw[←hos,alloc_eq_grow,←grow_grow];rfl⟩
theorem VH(W:World)(o1 o2:Obj)(q:Nat)(os:Array Obj):grow (((W.alloc o1).alloc o2).drewN q) os=grow (W.drewN q) ((#[o1] ++ #[o2])++os):=by
 rw[alloc_eq_grow,alloc_eq_grow,grow_grow]
 show grow (grow (W.drewN q) (#[o1] ++ #[o2])) os=_
 rw[grow_grow]
theorem J7(x y:ah)(W:World):Calls Tryz.prog 142 #[.agg (cP x).toArray,.agg (cP y).toArray] W fun e w'=>e=.returned (.int .i64 (gB x.bf y.bf))∧∃ q os',w'=grow (W.drewN q) os':=by
 have hcon:=fun W'=>Kd x.bf y.bf W';simp only[ah.bf] at hcon ⊢;simp only[cP];generalize gB ⟨x.aJ,x.no⟩ ⟨y.aJ,y.no⟩=r at hcon ⊢
 go_enter Tryz.func142,Tryz.ntmps142
 go_wp2_with (go_at_call 140;refine (hcon _).mono ?_;rintro e w' ⟨rfl,q,os',rfl⟩)
 go_ret
 exact ⟨rfl,q,_,VH _ _ _ _ _⟩
theorem Ka(aB off size:Nat)(w:World):CmpLays Tryz.prog 142 #[] cP 8 (fun x y=>gB x.bf y.bf) aB off size w:=fun _ _ _ _ x y=>J7 x y _
theorem sF(x y:ah):ltOf (fun x y:ah=>gB x.bf y.bf) x y=cR x y:=by
 show decide (gB x.bf y.bf<0)=_
 rw[Ah];rfl
theorem Zu:SWO (ltOf fun x y:ah=>gB x.bf y.bf) where
 irrefl x:=by rw[sF];simp[cR]
 trans x y z h1 h2:=by rw[sF] at *;exact yE h1 h2
 ntrans x y z h1 h2:=by
  rw[sF] at *;simp only[cR,decide_eq_false_iff_not] at *;omega
theorem mP(x:ah):(cP x).length=8:=rfl
theorem JX(x:ah):∀ v∈cP x,v.oneCell'=true:=by
 intro v hv;simp only[cP,zy8,List.not_mem_nil,or_false] at hv;rcases hv with rfl | rfl | rfl | rfl | rfl | rfl | rfl | rfl <;>rfl
theorem Ea{w:World}{D:aK}{E:aN} : ∀ {xs:List ah} {cs:List Value},aC w D E (xs.map enc) cs→cs=xs.flatMap cP∧∀ x∈xs,ae w D E (enc x) (cP x)
 | [],cs,h=>by
  simp only[zz6,aC] at h;subst h;exact ⟨rfl,by simp⟩
 |x::xs,cs,h=>by
  simp only[Z3,aC] at h;obtain ⟨c1,c2,rfl,h1,h2⟩:=h;obtain ⟨rfl,h3⟩:=Ea h2;have e:=D6 h1;subst e;refine ⟨rfl,fun y hy =>?_⟩;rcases zy8.1 hy with rfl | hy
  ·exact h1
  ·exact h3 y hy
theorem D9{w:World}{D:aK}{E:aN} : ∀ {xs:List ah},(∀ x∈xs,ae w D E (enc x) (cP x))→aC w D E (xs.map enc) (xs.flatMap cP)
 | [],_=>rfl
 |x::xs,h=>by
  simp only[Z3,aC,List.flatMap_cons];exact ⟨_,_,rfl,h x (by simp),D9 fun y hy=>h y (by simp[hy])⟩
theorem A4:∀ (l:List ah) (i j:Nat) (hi:i<l.length),j<8→(l.flatMap cP)[i*8+j]?=(cP l[i])[j]?
 |x::l,0,j,_,hj=>by
  rw[List.flatMap_cons,zz9 (by rw[mP];omega)];simp
 |x::l,i+1,j,hi,hj=>by
  rw[List.flatMap_cons,zx5 (by rw[mP];omega),mP,show (i+1)*8+j-8=i*8+j from by omega];rw[A4 l i j (by simpa using hi) hj];simp
theorem kC(l:List ah):(l.flatMap cP).length=l.length*8:=by
 induction l with
 |nil=>rfl
 |cons x l ih=>rw[List.flatMap_cons,Z1,ih,mP,zx1];omega
theorem A2(l:List ah):(flatK cP 8 l.toArray).toList=l.flatMap cP:=by
 apply List.ext_getElem?;intro t;by_cases ht:t<l.length*8
 ·have h1:=get_flatK cP 8 l.toArray t (by simpa using ht);have hi:t / 8<l.length:=by omega
  have h2:=A4 l (t / 8) (t%8) hi (Nat.mod_lt _ (by decide));rw[show t / 8*8+t%8=t from by omega] at h2;have h3:t<(flatK cP 8 l.toArray).size:=by simpa using ht
  rw[h2,zy2,zx7 h3];rw[getElem!_pos _ t h3] at h1;rw[h1,getElem!_pos l.toArray (t / 8) (by simpa using hi),getElem!_pos _ (t%8) (by rw[mP];omega),zz2 (by rw[mP];omega)];rfl
 ·rw[zy2,Array.getElem?_eq_none (by simp;omega),List.getElem?_eq_none (by rw[kC];omega)]
theorem Yp{xs ys q:List ah}(hl:ys.length=xs.length){cs:Array Value}(hc:cs.toList=(xs++q).flatMap cP):(Sort.putCells id 0 (flatK cP 8 ys.toArray) cs).toList=(ys++q).flatMap cP:=by
 apply List.ext_getElem?;intro k;have hcl:=congrArg List.length hc;rw[kC,Z1,zy4] at hcl;have h1:cs[k]?=((xs++q).flatMap cP)[k]?:=by rw[←hc,zy2]
 rw[zy2,Sort.putCells,Array.getElem?_mapIdx,h1];simp only[size_flatK,List.size_toArray,zx8,true_and,Z5,Nat.sub_zero,List.flatMap_append];by_cases hk:k<ys.length*8
 ·simp only[hk,if_true];rw[zz9 (by rw[kC];omega),zz9 (by rw[kC];omega),zz2 (by rw[kC];omega)];have h2:(flatK cP 8 ys.toArray)[k]?=(ys.flatMap cP)[k]?:=by rw[←A2,zy2]
  have h3:k<(flatK cP 8 ys.toArray).size:=by simpa using hk
  rw[←h2,zx7 h3];simp only[zz0,id];rw[getElem!_pos _ k h3]
 ·simp only[hk,if_false];rw[zx5 (by rw[kC];omega),zx5 (by rw[kC];omega),kC,kC,hl];cases ((q.flatMap cP)[k-xs.length*8]?) <;>rfl
def kO(n:Nat)(ws:List ah):List (Nat×ai):=[(n,.box (.agg (ws.map enc)))]
def E9(l q:List ah):cj:=fun r os'=>r=.tuple []∧os'=kO 1000000 (bt l++q)
theorem Yu(x:ah):(enc x:I).flat=true:=rfl
theorem F2(l q:List ah)(hne:l≠[])(hn:l.length≤1000)(hp:l.Pairwise (fun x y=>¬ (x.aJ=y.aJ∧x.no=y.no))):eW Tryz.prog 141 [.view 1000000 [] 8 0 l.length,.func 142 []] (kO 1000000 (l++q)) (E9 l q):=by
 refine ⟨HZ,fun w D E vs _ hD hO hv =>?_⟩;have ho:=hO.bB 1000000;simp only[kO,aA,if_true] at ho;obtain ⟨b,cs,T,ak,-,hb0,hr,hnD⟩:=ho;have hne2:l++q≠[]:=by intro h;exact hne (List.append_eq_nil_iff.1 h).1
 have hb:=hb0.plain (A5 hne2 rfl);have hEn:∀ n,n≠1000000→E n=none:=fun n hn=>by
  have:=hO.bB n;simpa only[kO,aA,if_neg hn,cJ] using this
 simp only[al] at hv;obtain ⟨v,rest,cs',rfl,hpk,hr',f,rest2,cs2,rfl,hp2,hr2,rfl⟩:=hv;obtain ⟨b',aL,off,l',hE',hoff,hpart,rfl,hl1,hl2,hl3⟩:=hr';rw[ak] at hE';simp only[v6,bx.aI.injEq] at hE';obtain ⟨rfl,rfl⟩:=hE';have hoff':off=0:=by
  have:(some 0:Option Nat)=some off:=by rw[←hoff];rfl
  injection this with this;exact this.symm
 subst hoff';have hp':v=.slice (some ⟨b,0,none⟩) l.length (l'.length-0):=by
  have:[Value.slice (some ⟨b,0+0*8,none⟩) l.length (l'.length-0)]=[v]:=hpk;simpa using this.symm
 subst hp';have hf:f=.func (.func 142) #[] #[]:=by
  simp only[ae] at hr2;obtain ⟨vs2,e2,e3⟩:=hr2;have h3:cs2=[f]:=hp2;rw[e2] at h3;simp only[al] at e3;subst e3;have:=h3.symm;simp only[zy1,and_true] at this;rw[this];rfl
 subst hf;obtain ⟨hcs,hrg⟩:=Ea (xs:=l++q) hr;have hbs:b<w.heap.size:=hb0.lt;have hfl:=A2 l;have hH:HoldsK cP 8 w b 0 l.toArray:=fun j hj=>by
  have hj':j<l.length*8:=by simpa using hj
  constructor
  ·simp only[World.cell?,hb,Option.isSome_none,Z6,if_false,Z5];rw[←zy2,hcs,List.flatMap_append,zz9 (by rw[kC];exact hj'),←hfl,zy2,zx7 hj,getElem!_pos _ j hj];rfl
  ·simp[World.frozen?,hb]
 have eg:∀ args w,(callFunc 142 args).run Tryz.prog w=.ok (.enter 142 args) w:=enters_of Tryz.func142 (by kernel_rfl) rfl;refine (AnyQ.slices_SortFunc (P:=Tryz.prog) (ρ:=vS) BY 8 Tryz.isAgg50 Tryz.sizeOf50 cP mP JX (fun x y=>gB x.bf y.bf) Zu 142 #[] b 0 (l'.length-0) l.toArray w eg (Ka b 0 _ w) hH hbs (by simp;omega)).mono ?_;rintro e w' ⟨rfl,d',n,os,hperm,hsort,rfl⟩;obtain ⟨s,rfl⟩:∃ s:List ah,d'=s.toArray:=⟨d'.toList,by simp⟩
 have hlen:s.length=l.length:=by simpa using hperm.1
 have hps:s.Perm l:=by
  have:=hperm.2.2;simp only[List.size_toArray,Array.toList_extract,List.extract_eq_take_drop,List.drop_zero,Nat.sub_zero] at this;rw[zx3 (by omega),zx3 (by omega)] at this;exact this
 have hss:s.Pairwise (fun x y=>cR x y=true):=by
  rw[List.pairwise_iff_getElem];intro i j hi hj hij;have h1:=hsort i j (zx8 _) hij (by simp;omega);rw[sF,getElem!_pos _ j (by simpa using hj),getElem!_pos _ i (by simpa using hi)] at h1;have h2:=List.pairwise_iff_getElem.1 ((List.Perm.pairwise_iff (R:=fun x y:ah=>¬ (x.aJ=y.aJ∧x.no=y.no)) (fun h k=>h ⟨k.1.symm,k.2.symm⟩) hps).2 hp) i j hi hj hij;simp only[List.getElem_toArray] at h1;simp only[cR,decide_eq_false_iff_not,decide_eq_true_eq] at h1 ⊢;omega
 have hst:=Fb hp hps hss;subst hst;have hsz8:(flatK cP 8 (bt l).toArray).size=(bt l).length*8:=by simp
 have hb1:(putRowK cP 8 (Sort.ahead w n) b 0 (bt l).toArray).heap[b]?=some (.cells (putCells id 0 (flatK cP 8 (bt l).toArray) cs) T (0,0)):=by
  simp[putRowK,putRow,mapBlock,Sort.ahead,Array.getElem?_modify,hb,onCells]
 have hother:∀ k,k<w.heap.size→k≠b→(sortWorldK cP 8 w b 0 n (bt l).toArray os).heap[k]?=w.heap[k]?:=fun k hk hkb=>by
  rw[sortWorldK,heap_grow_old _ _ (by simpa[putRowK,putRow,mapBlock,Sort.ahead] using hk)];simp[putRowK,putRow,mapBlock,Sort.ahead,Array.getElem?_modify,Ne.symm hkb]
 have hb2:(sortWorldK cP 8 w b 0 n (bt l).toArray os).heap[b]?=some (.cells (putCells id 0 (flatK cP 8 (bt l).toArray) cs) T (0,0)):=by
  rw[sortWorldK,heap_grow_old _ _ (by simpa[putRowK,putRow,mapBlock,Sort.ahead] using hbs)];exact hb1
 have hsz:w.heap.size≤(sortWorldK cP 8 w b 0 n (bt l).toArray os).heap.size:=by simp[sortWorldK,putRowK,putRow,mapBlock,Sort.ahead]
 have hw1:(sortWorldK cP 8 w b 0 n (bt l).toArray os).os=w.os:=rfl;have hw2:(sortWorldK cP 8 w b 0 n (bt l).toArray os).tape=w.tape:=rfl;have hw3:(sortWorldK cP 8 w b 0 n (bt l).toArray os).output=w.output:=rfl;revert hother hb2 hsz hw1 hw2 hw3;generalize sortWorldK cP 8 w b 0 n (bt l).toArray os=w2;intro hother hb2 hsz hw1 hw2 hw3;have hmem:∀ x∈bt l++q,ae w2 D E (enc x) (cP x):=fun x hx=>ae.flat _ _ (Yu x) (hrg x (by
  rcases zy0.1 hx with h | h
  ·exact List.mem_append_left _ (hps.mem_iff.1 h)
  ·exact List.mem_append_right _ h))
 refine ⟨.tuple #[],D,E,.tuple [],kO 1000000 (bt l++q),rfl,⟨rfl,rfl⟩,⟨[],rfl,rfl⟩,⟨fun m =>?_,hO.cw⟩,⟨hw1,hw2,hw3,hsz,fun k hk =>?_⟩,fun _ _ h=>h,fun b0 o h=>zx9 (hD b0 o h) hsz,fun _ _ h _ _=>h,fun m e h _=>⟨e,h,bx.fC.refl e⟩,⟨fun b0 o u hd hc =>?_,fun b0 es ck hd hc =>?_⟩⟩
 ·by_cases hm:m=1000000
  ·subst hm;simp only[kO,aA,if_true];refine ⟨b,_,T,?_,.inr ⟨1000000,_,ak,rfl⟩,.Cp hb2,?_,hnD⟩
   ·rw[ak]
    congr 2
    show bR.eK (I.cK _)=bR.eK (I.cK _)
    rw[xh (xs:=l++q) (ys:=bt l++q) (by rw[Z1,Z1,hlen])]
   ·show aC w2 D E _ _
    rw[Yp hlen hcs];exact D9 hmem
  ·simp only[kO,aA,if_neg hm,cJ];exact hEn m hm
 ·by_cases hk2:k<w.heap.size
  ·exact hother k hk2 fun e=>hk (.inr ⟨1000000,_,ak,by rw[e];rfl⟩)
  ·exact absurd (.inl (Nat.le_of_not_lt hk2)) hk
 ·have hne:b0≠b:=fun e=>hnD o (e▸hd);simp only[World.cell?,hother b0 (hD b0 o hd) hne] at hc ⊢;exact hc
 ·have hne:b0≠b:=fun e=>hnD 0 (e▸hd);rw[hother b0 (hD b0 0 hd) hne];exact hc
end Go.Proofs.YtoffnnjbplgnaaaGreatDoor
namespace Go.Proofs.YtoffnnjbplgnaaaGreatDoor
open Go Go.Abs
open Go.Abs.Enc (enc)
theorem tD(x r:ah):gi x r=decide (r.bf=x.bf):=by
 simp only[gi,ah.bf,Item.mk.injEq]
theorem CV(r:ah):∀ l:List ah,∃ n,n≤l.length∧fV l r=l.take n++r::l.drop n∧(∀ i (h:i<l.length),i<n→cR l[i] r=true)∧∀ h:n<l.length,cR l[n] r=false
 | []=>⟨0,by simp,by simp[fV],by simp,by simp⟩
 |q::l=>by
  cases h:cR q r
  ·refine ⟨0,by simp,by simp[fV,h],fun i _ hi=>by omega,fun _=>by simpa using h⟩
  ·obtain ⟨n,h1,h2,h3,h4⟩:=CV r l;refine ⟨n+1,by simpa using h1,?_,fun i hi hn =>?_,fun hn =>?_⟩
   ·simp only[fV,List.takeWhile_cons,List.dropWhile_cons,h,if_true,Z8,List.take_succ_cons,List.drop_succ_cons] at h2 ⊢;rw[h2]
   ·match i with
    |0=>exact h
    |i+1=>exact h3 i (by simpa using hi) (by omega)
   ·exact h4 (by simpa using hn)
theorem Zf(l:List ah)(r:ah):bt (l++[r])=fV (bt l) r:=by simp[bt]
theorem Yl(l:List ah)(r:ah):(fV l r).length=l.length+1:=by
 have:=(wJ l r).length_eq;simpa using this
theorem iT:∀ (l:List ah),(bt l).length=l.length:=by
 have:∀ (l out:List ah),(l.foldl fV out).length=out.length+l.length:=by
  intro l
  induction l with
  |nil=>simp
  |cons r l ih=>intro out;rw[List.foldl_cons,ih,Yl,zx1];omega
 intro l;rw[bt,this];simp
def uD(l:List ah):Bool:=decide (l.length≤60)&&fg (fun out r=>bn r&&lS out r) [] l
theorem Hv(l:List ah):fN l=uD l:=by
 rw[fN,uD,Bool.and_comm]
 congr 1
 rw[Bool.eq_iff_iff,pG,pG];constructor
 ·rintro ⟨h1,h2⟩;exact ⟨h1,by rw[←yI fun r hr=>wq (h1 r hr)];exact h2⟩
 ·rintro ⟨h1,h2⟩;exact ⟨h1,by rw[yI fun r hr=>wq (h1 r hr)];exact h2⟩
theorem yf(l:List ah)(hl:l.length≤900)(hp:l.Pairwise (fun x y=>¬ (x.aJ=y.aJ∧x.no=y.no))):aS Tryz.prog 95 [enc l] (enc (⟨bt l⟩:di)):=by
 by_cases hn0:l=[]
 ·subst hn0;exact yg
 refine aS.bT Tryz.func95 zY Ab An (t8 rfl) (fun hwf W0 bI E1 =>?_);simp only[uJ,wM,bF];clear hwf;have hsl:(bt l).length=l.length:=(nI hp).1.length_eq;have R:=y6 @ej aD
 repeat' ((first |refine U.aG (by decide +kernel) rfl fun K hK =>?_|(refine .aE [0,2,3] hK ?_;clear hK K)|(with_reducible refine .done (hK _ ?_);clear hK K)|refine U.of rfl ?_|(with_reducible refine aw.aF (fun h =>?_) (fun h =>?_) <;>try simp only[h])) <;>try simp only[aH,R,simprocAttr])
 all_goals clear R
 refine .bB false [(7,64)] [] [enc l] (mQ l) rfl (rp l (by omega)) eP.nil ⟨.inl ⟨(gQ _ _).symm,br _ _,eQ _⟩,trivial⟩ ?_ ?_
 ·rintro x os' (⟨h,_⟩ | ⟨_,k,rfl,rfl⟩)
  ·exact absurd h hn0
  ·exact dh.qx (fun p=>fD p _) (fun h=>by cases h) rfl (fun h=>by cases h) rfl (by decide)
 rintro x os' (⟨h,_⟩ | ⟨hn,k,rfl,rfl⟩)
 ·exact absurd h hn0
 try simp only[eU,kN,jB,Z8,zz3,ba,simprocAttr]
 refine .done (hK _ ?_);clear hK K;refine .dI (by decide +kernel) fun K hK =>?_;simp only[Bq,ba,simprocAttr];refine .bB false [(1000000,64)] (kO 1000000 (l++List.replicate k cA)) [.view 1000000 [] 8 0 l.length,.func 142 []] (E9 l (List.replicate k cA)) rfl (F2 l _ hn0 (by omega) hp) ⟨?_,?_⟩ ⟨.inl ⟨?_,?_,rfl⟩,.inl ⟨rfl,rfl,rfl⟩,trivial⟩ ?_ ?_
 ·intro n x h;simp only[kO,aA] at h;split at h
  ·rename_i hn';subst hn';simp only[v6] at h;subst h;exact ⟨by simp only[kN,jB,ba,simprocAttr],fD _ _,rfl⟩
  ·cases h
 ·intro a b ha hb _;rw[Go.Abs.ga.1 ha,Go.Abs.ga.1 hb]
 ·try simp only[kN,simprocAttr]
 ·exact Go.Abs.ga.2 rfl
 ·rintro x os' ⟨rfl,rfl⟩;exact dh.CE (fun p=>fD p _) (fun h=>by cases h) rfl (fun h=>by cases h)
 rintro x os' ⟨rfl,rfl⟩
 try simp only[kO,kN,jB,Z8,zz3,ba,simprocAttr]
 refine .done (hK _ ?_);clear hK K;have hf:jP 8 0 l.length (some ((bt l++List.replicate k cA).map enc))=some (enc (bt l)):=by
  rw[ox (α:=ah) (sz:=8) rfl,←hsl,xB]
 have R:=y6 @hf (y6 @ej aD)
 repeat' ((first |refine U.aG (by decide +kernel) rfl fun K hK =>?_|(refine .aE [0,2,3] hK ?_;clear hK K)|(with_reducible refine .done (hK _ ?_);clear hK K)|refine U.of rfl ?_|(with_reducible refine aw.aF (fun h =>?_) (fun h =>?_) <;>try simp only[h])) <;>try simp only[aH,R,simprocAttr])
 all_goals clear R
 all_goals rfl
theorem Zh{l s:List ah}(hw:c7 [] l=true)(p:s.Perm l)(hs:lf s):fN s=true:=by
 have hW:=(pw l []).1 hw;obtain ⟨h1,h2⟩:=Zg hW p hs;rw[Hv,uD,Z0,decide_eq_true_eq,pG];exact ⟨h2,fun r hr=>tT hw r (p.mem_iff.1 hr),h1⟩
theorem Yn(l:List ah)(x:ah):fV l x=fP l (ef l x.bf) x:=by
 obtain ⟨n,h1,h2,h3,h4⟩:=CV x l;have:ef l x.bf=n:=wF h1 (fun k hk hkn=>h3 k hk hkn) fun h=>h4 h;rw[h2,this,fP]
theorem MO{l:List ah}(hs:lf l){a:Item}{r:ah}(h:l.find? (fun r=>decide (r.bf=a))=some r):gE l a=true∧l.getD (ef l a) default=r:=by
 have hm:=List.mem_of_find?_eq_some h;have ha:r.bf=a:=by have:=List.find?_some h;simpa using this
 have hh:gE l a=true:=by simp only[gE,List.any_eq_true,decide_eq_true_eq];exact ⟨r,hm,ha⟩
 obtain ⟨h1,h2⟩:=(sh hs a).1 hh;refine ⟨hh,?_⟩;simp only[zz5,zz2 h1,Option.getD_some];have h3:(l[ef l a]).bf=r.bf:=h2.trans ha.symm;have e:(l[ef l a]).aJ=r.aJ∧(l[ef l a]).no=r.no:=by
  simp only[ah.bf,Item.mk.injEq] at h3;exact h3
 exact s9 (pf hs) (zw0 h1) hm e
theorem MN{l:List ah}{a:Item}(h:l.find? (fun r=>decide (r.bf=a))=none):gE l a=false:=by
 rw[gE,List.any_eq_false];intro r hr;have:=List.find?_eq_none.1 h r hr;simpa using this
theorem jG{l:List ah}(h:c7 [] l=true):l.Pairwise (fun x y=>¬ (x.aJ=y.aJ∧x.no=y.no)):=by
 have:=ff.inj gN.nil ((pw l []).1 h) List.Pairwise.nil;simpa using this
def qW(l:List ah):List ah×Int:=if c7 [] l=true then (bt l,0) else ([],81)
theorem ud(l:List ah)(hl:l.length≤4000000000000):aS Tryz.prog 41 [enc l] (.tuple [enc (⟨(qW l).1⟩:di),enc (qW l).2]):=by
 refine aS.bT Tryz.func41 Io Jz KR (t8 rfl) (fun hwf W0 bI E1 =>?_);simp only[zw,DC,bF];clear hwf;have f:=yh l hl;rw[qW];cases q:c7 [] l
 ·rw[q] at f;have R:=y6 @ej aD
  repeat' ((first |refine U.aG (by decide +kernel) rfl fun K hK =>?_|refine .flat _ (f) rfl ?_|(refine .aE [0,2,3,6] hK ?_;clear hK K)|(with_reducible refine .done (hK _ ?_);clear hK K)|refine U.of rfl ?_|(with_reducible refine aw.aF (fun h =>?_) (fun h =>?_) <;>try simp only[h])) <;>try simp only[aH,R,simprocAttr])
  all_goals clear R
  all_goals rfl
 ·rw[q] at f;have f95:=yf l (by have:=ke q;omega) (jG q);simp only[if_true];generalize bt l=s at *;have R:=y6 @ej (y6 @jf aD)
  repeat' ((first |refine U.aG (by decide +kernel) rfl fun K hK =>?_|refine .flat _ (f) rfl ?_|refine .lead _ (f95) ?_|(refine .aE [0,2,3,6] hK ?_;clear hK K)|(with_reducible refine .done (hK _ ?_);clear hK K)|refine U.of rfl ?_|(with_reducible refine aw.aF (fun h =>?_) (fun h =>?_) <;>try simp only[h])) <;>try simp only[aH,R,simprocAttr])
  all_goals clear R
  all_goals rfl
def gU(a b:List ah):List ah×Int :=
 if (fN a&&fN b)=false then ([],81) else if iX a b=true then ([],82) else if 60<(a++dU a b).length then ([],2) else (bt (a++dU a b),0)
theorem V3{a:List ah}(hs:lf a){x r:ah}(h:a.find? (fun r=>decide (r.bf=x.bf))=some r):a.any (gi x)=true∧(a.any fun q=>gi x q&&decide (q≠x))=decide (r≠x):=by
 have hm:=List.mem_of_find?_eq_some h;have ha:r.bf=x.bf:=by have:=List.find?_some h;simpa using this
 refine ⟨List.any_eq_true.2 ⟨r,hm,by rw[tD,ha];simp⟩,?_⟩;rw[Bool.eq_iff_iff,List.any_eq_true,decide_eq_true_eq];constructor
 ·rintro ⟨q,hq,k⟩ rfl;simp only[Z0,tD,decide_eq_true_eq] at k;have h1:=k.1;simp only[ah.bf,Item.mk.injEq] at h1;exact k.2 (s9 (pf hs) hq hm h1)
 ·intro k;exact ⟨r,hm,by simp only[Z0,tD,decide_eq_true_eq];exact ⟨ha,k⟩⟩
theorem V2{a:List ah}{x:ah}(h:a.find? (fun r=>decide (r.bf=x.bf))=none):a.any (gi x)=false∧(a.any fun q=>gi x q&&decide (q≠x))=false:=by
 have hn:∀ r∈a,gi x r=false:=fun r hr=>by
  have:=List.find?_eq_none.1 h r hr;rw[tD];simpa using this
 refine ⟨List.any_eq_false.2 fun r hr=>by rw[hn r hr];decide,List.any_eq_false.2 fun r hr=>by rw[hn r hr];simp⟩
theorem LR{a b:List ah}{i:Nat}(h:i<b.length):iX a (b.take (i+1))=(iX a (b.take i)||a.any fun q=>gi b[i] q&&decide (q≠b[i])):=by
 rw[fW h,iX,iX,List.any_append];simp
theorem LS{a b:List ah}{i:Nat}(h:i<b.length)(k:(a.any fun q=>gi b[i] q&&decide (q≠b[i]))=true):iX a b=true :=
 List.any_eq_true.2 ⟨b[i],zw0 h,k⟩
theorem V9{a b:List ah}{i:Nat}(h:i<b.length):dU a (b.take (i+1))=dU a (b.take i)++if a.any (gi b[i])=true then [] else [b[i]]:=by
 rw[fW h,dU,dU,List.filter_append];cases q:a.any (gi b[i]) <;>simp[q]
theorem Wa(a b:List ah)(i:Nat):(dU a (b.take i)).length≤i:=by
 have:=List.length_filter_le (fun r => !a.any (gi r)) (b.take i);rw[dU];rw[zz1] at this;omega
theorem V1{a b:List ah}(q1:fN a=true)(q2:fN b=true)(hd:iX a b=true):gU a b=([],82):=by
 rw[gU,q1,q2,hd];rfl
end Go.Proofs.YtoffnnjbplgnaaaGreatDoor
namespace Go.Abs
open Go Go.RowKit
theorem Cd(ρ:Nat→Nat):∀ (ts:List (Nat×I)) (t:Nat),bM (ts.map fun q=>(q.1,q.2.aO ρ)) t=(bM ts t).aO ρ
 | [],_=>rfl
 |(k,v)::ts,t=>by
  simp only[Z3,bM];split
  ·rfl
  ·exact Cd ρ ts t
theorem bg.aO{ts:List (Nat×I)}{os:List (Nat×ai)}(ρ:List (Nat×Nat))(inj:∀ m m',ao os m=true→ao os m'=true→bh ρ m=bh ρ m'→m=m')(sm:∀ m,ao os m=true→bh ρ m<1000000∨bh ρ m=m)
  (hT:bG (ao os) ts) (hO:∀ n x,aA os n=some x→x.only (ao os)=true):bg (aq ts os) (aq (ts.map fun q=>(q.1,q.2.aO (bh ρ))) (cO ρ os)):=by
 rintro c a w ⟨D,E,hs⟩
 let E':aN:=fun n=>match pre ρ os n with | some m=>E m | none=>none
 have ak:∀ m,ao os m=true→E' (bh ρ m)=E m:=fun m hm=>by
  show (match pre ρ os (bh ρ m) with | some m=>E m | none=>none)=E m
  cases hp:pre ρ os (bh ρ m) with
  |none=>exact absurd rfl (wG hp hm)
  |some m' =>
   obtain ⟨k1,k2⟩:=iJ hp;rw[inj m' m k1 hm k2]
 refine ⟨D,E',hs.sz,hs.dT,fun t =>?_,hs.db,hs.cH,hs.cN,fun n =>?_,fun n m e e' b h1 h2 h3 h4 =>?_,fun n e hn =>?_,hs.ee,hs.cz,hs.eF,hs.fe⟩
 ·simp only[aq,Cd];exact (aR.aO (p:=ao os) ak (wv hT t)).2 (hs.dv t)
 ·have hl:=qt ρ os [] n;rw[zw1] at hl;simp only[aq,hl];cases hp:pre ρ os n with
  |none =>
   show (match pre ρ os n with | some m=>E m | none=>none)=none
   rw[hp]
  |some m =>
   obtain ⟨k1,k2⟩:=iJ hp;have hEn:E' n=E m:=by rw[←k2];exact ak m k1
   cases hx:aA os m with
   |none=>simp[ao,hx] at k1
   |some x =>
    have ho:=hs.bB m;have hon:=hO m x hx;simp only[aq,hx] at ho;simp only[hx,zz0];cases x with
    |box x =>
     simp only[ai.aO,cJ];obtain ⟨b,cs,T,q1,q2,q3,q4,q5⟩:=ho;exact ⟨b,cs,T,by rw[hEn,nu];exact q1,q2,q3.aL (by rw[nu]),(ae.aO (p:=ao os) ak x _ (by simpa[ai.only] using hon)).2 q4,q5⟩
    |bH T sz es =>
     simp only[ai.aO,cJ];obtain ⟨aB,q1,q2,q3⟩:=ho;refine ⟨aB,by rw[hEn,nw];exact q1,fun e he =>?_,?_⟩
     ·rw[oY] at he;obtain ⟨e',he',rfl⟩:=zy3.1 he;rw[oW];exact q2 e' he'
     ·cases aB with
      |none=>simp only at q3 ⊢;rw[q3];rfl
      |some bc =>
       obtain ⟨b,cap⟩:=bc;obtain ⟨cs,pr,rest,g1,g2,g3,g4,g5,g6,g7,g8⟩:=q3;exact ⟨cs,pr,rest,g1,g2,g3,(aC.aO (p:=ao os) ak es _ (by simpa[ai.only] using hon)).2 g4,g5,by rw[nw];exact g6,g7,g8⟩
    |dK T xs =>
     simp only[ai.aO,cJ];obtain ⟨aB,q1,q2,q3⟩:=ho;exact ⟨aB,by rw[hEn];exact q1,q2,q3⟩
    |da x =>
     simp only[ai.aO,cJ];obtain ⟨b,q1,q2⟩:=ho;exact ⟨b,by rw[hEn];exact q1,q2⟩
    |cm ks vs =>
     simp only[ai.aO,cJ];obtain ⟨b,es,ck,q1,q2,q3,q4,q5,q6,q7⟩:=ho;simp only[ai.only,Z0] at hon;exact ⟨b,es,ck,by rw[hEn];exact q1,q2,q3,q4,(al.aO (p:=ao os) ak ks _ hon.1).2 q5,(al.aO (p:=ao os) ak vs _ hon.2).2 q6,q7⟩
    |it ks vs left cur =>
     simp only[ai.aO,cJ];obtain ⟨r,b,es,ck,dJ,se,la,q1,q2,q3,q4,q5,q6,q7⟩:=ho;simp only[ai.only,Z0] at hon;exact ⟨r,b,es,ck,dJ,se,la,by rw[hEn];exact q1,q2,q3,q4,(al.aO (p:=ao os) ak ks _ hon.1).2 q5,(al.aO (p:=ao os) ak vs _ hon.2).2 q6,q7⟩
 ·have key:∀ n e,E' n=some e→∃ m,pre ρ os n=some m∧E m=some e:=fun n e h=>by
   have h':(match pre ρ os n with | some m=>E m | none=>none)=some e:=h;cases hp:pre ρ os n with
   |none=>rw[hp] at h';cases h'
   |some m=>rw[hp] at h';exact ⟨m,rfl,h'⟩
  obtain ⟨n',p1,p2⟩:=key n e h1;obtain ⟨m',p3,p4⟩:=key m e' h2;have:=hs.cw n' m' e e' b p2 p4 h3 h4;rw[←(iJ p1).2,←(iJ p3).2,this]
 ·cases hp:pre ρ os n with
  |none =>
   left
   show (match pre ρ os n with | some m=>E m | none=>none)=none
   rw[hp]
  |some m =>
   obtain ⟨k1,k2⟩:=iJ hp;have hEn:E' n=E m:=by rw[←k2];exact ak m k1
   rcases sm m k1 with h | h
   ·have:=(hs.ee n (by rw[hn];simp)).2;omega
   ·rw[hEn];have:m=n:=by omega
    subst this;exact hs.dp m e hn
theorem bg.YE{ts ts':List (Nat×I)}{os os':List (Nat×ai)}(ρ:List (Nat×Nat))(inj:∀ m m',ao os m=true→ao os m'=true→bh ρ m=bh ρ m'→m=m')(sm:∀ m,ao os m=true→bh ρ m<1000000∨bh ρ m=m)
  (hT:bG (ao os) ts) (hO:∀ n x,aA os n=some x→x.only (ao os)=true) (h:bg (aq (ts.map fun q=>(q.1,q.2.aO (bh ρ))) (cO ρ os)) (aq ts' os')):bg (aq ts os) (aq ts' os') :=
 (bg.aO ρ inj sm hT hO).trans h
end Go.Abs
namespace Go.Proofs.YtoffnnjbplgnaaaGreatDoor
open Go Go.Abs
open Go.Abs.Enc (enc)
def mM(v:I)(ov:List (Nat×ai))(R:List ah):Prop:=(R=[]∧(v=.c0 8∨v=.nils 8)∧ov=[])∨∃ q:List ah,v=.view 904 [] 8 0 R.length∧ov=[(904,.box (.agg ((R++q).map enc)))]
theorem Zj{v:I}{ov os:List (Nat×ai)}{R:List ah}(h:mM v ov R)(hs:aA os 904=aA ov 904):jk 8 v os R [904]:=by
 rcases h with ⟨rfl,h,_⟩ | ⟨q,rfl,rfl⟩
 ·exact .inl ⟨rfl,h⟩
 ·exact .inr ⟨904,q,by simp,rfl,hs.trans (by simp[aA])⟩
theorem Zk{v:I}{ov:List (Nat×ai)}{R:List ah}(h:mM v ov R):∀ n,n≠904→aA ov n=none:=by
 intro n hn;rcases h with ⟨_,_,rfl⟩ | ⟨q,_,rfl⟩
 ·rfl
 ·simp[aA,hn]
def jm(a b:List ah)(i:Nat)(v:I)(ov:List (Nat×ai)):ab :=
 aq [(2,.ptr 2 []),(3,.ptr 3 []),(4,.ptr 4 []),(6,v),(24,enc b),(25,.int .i64 b.length),(26,.int .i64 i)]
  ([(2,.box (enc (⟨a⟩:di))),(3,.box (enc (⟨b⟩:di))),(4,.box (.agg [.nils 8]))]++ov)
theorem Zi{l:List ah}{x:I}{os':List (Nat×ai)}(h:mQ l x os'):mM (x.aO (bh [(7,904)])) (cO [(7,904)] os') l:=by
 rcases h with ⟨hn,rfl | rfl,rfl⟩ | ⟨hn,k,rfl,rfl⟩
 ·exact .inl ⟨hn,.inr rfl,rfl⟩
 ·exact .inl ⟨hn,.inl rfl,rfl⟩
 ·refine .inr ⟨List.replicate k cA,by simp[I.aO,bh],?_⟩;simp only[eU,jB,Z3,cO,bh,if_true,ai.aO,I.aO,zz6]
theorem Zs{a b:List ah}{i:Nat}{v:I}{R:List ah}{ts:List (Nat×I)}{os:List (Nat×ai)}(hg:jk 8 v os R [53,904])
  (t2:Abs.bM ts 2=.ptr 2 []) (t3:Abs.bM ts 3=.ptr 3 []) (t4:Abs.bM ts 4=.ptr 4 []) (t6:Abs.bM ts 6=v) (t24:Abs.bM ts 24=enc b) (t25:Abs.bM ts 25=.int .i64 b.length) (t26:Abs.bM ts 26=.int .i64 i)
  (h2:aA os 2=some (.box (enc (⟨a⟩:di)))) (h3:aA os 3=some (.box (enc (⟨b⟩:di)))) (h4:aA os 4=some (.box (.agg [.nils 8]))) :
  ∃ v' ov',mM v' ov' R∧bg (aq ts os) (jm a b i v' ov'):=by
 rcases hg with ⟨rfl,hv⟩ | ⟨n,qq,hn,rfl,hb⟩
 ·refine ⟨v,[],.inl ⟨rfl,hv,rfl⟩,?_⟩;simp only[jm,zw1];refine bg.bZ ?_ ?_ ?_ ?_ <;>rcases hv with rfl | rfl <;>simp[bK,bO,bG,bE,ao,cI,I.only,I.bV,ai.only,br,t2,t3,t4,t6,t24,t25,t26,h2,h3,h4]
 ·refine ⟨.view 904 [] 8 0 R.length,[(904,.box (.agg ((R++qq).map enc)))],.inr ⟨qq,rfl,rfl⟩,?_⟩;have hs:bg (aq ts os) (aq [(2,.ptr 2 []),(3,.ptr 3 []),(4,.ptr 4 []),(6,.view n [] 8 0 R.length),(24,enc b),(25,.int .i64 b.length),(26,.int .i64 i)]
    [(2,.box (enc (⟨a⟩:di))),(3,.box (enc (⟨b⟩:di))),(4,.box (.agg [.nils 8])),(n,.box (.agg ((R++qq).map enc)))]):=by
   simp only[zy8,List.not_mem_nil,or_false] at hn;rcases hn with rfl | rfl <;>refine bg.bZ ?_ ?_ ?_ ?_ <;>simp[bK,bO,bG,bE,ao,cI,I.only,I.bV,ai.only,br,t2,t3,t4,t6,t24,t25,t26,h2,h3,h4,hb,nj,j4]
  refine hs.trans ?_;simp only[zy8,List.not_mem_nil,or_false] at hn;refine bg.YE [(n,904)] (fun a b ha hb h =>?_) (fun a ha =>?_) ?_ (fun a y ha =>?_) ?_
  ·rcases hn with rfl | rfl
   all_goals
    simp only[ao,aA] at ha hb
    (repeat' split at ha) <;>first | (cases ha;done) | skip
    all_goals (repeat' split at hb) <;>first | (cases hb;done) | (subst_vars;first | rfl | (simp[bh] at h;done))
  ·rcases hn with rfl | rfl
   all_goals
    simp only[ao,aA] at ha
    (repeat' split at ha) <;>first | (cases ha;done) | (subst_vars;simp[bh])
  ·rcases hn with rfl | rfl
   all_goals simp[bG,ao,cI,I.only,br]
  ·rcases hn with rfl | rfl
   all_goals
    simp only[aA] at ha
    (repeat' split at ha) <;>first | (cases ha;done) | (subst_vars;cases ha;simp[ai.only,I.only,I.bV,br,nj,j4])
  ·rcases hn with rfl | rfl
   all_goals
    simp only[Z3,zz6,cO,ai.aO,I.aO,I.cV,gQ,jB,bh];refine bg.bZ ?_ ?_ ?_ ?_ <;>simp[bK,bO,bG,bE,ao,bN,cI,I.only,I.bV,ai.only,br,nj,j4]
theorem Zt{a b:List ah}{i:Nat}{v:I}{R:List ah}{ts:List (Nat×I)}{os:List (Nat×ai)}(hlt:i<b.length)(hR:a++dU a (b.take (i+1))=R)(hd:iX a (b.take (i+1))=false)(hg:jk 8 v os R [53,904])
  (t2:Abs.bM ts 2=.ptr 2 []) (t3:Abs.bM ts 3=.ptr 3 []) (t4:Abs.bM ts 4=.ptr 4 []) (t6:Abs.bM ts 6=v) (t24:Abs.bM ts 24=enc b) (t25:Abs.bM ts 25=.int .i64 b.length) (t26:Abs.bM ts 26=.int .i64 ((i+1:Nat):Int))
  (h2:aA os 2=some (.box (enc (⟨a⟩:di)))) (h3:aA os 3=some (.box (enc (⟨b⟩:di)))) (h4:aA os 4=some (.box (.agg [.nils 8]))) :
  ∃ s':Nat×I×List (Nat×ai),(s'.1≤b.length∧iX a (b.take s'.1)=false∧mM s'.2.1 s'.2.2 (a++dU a (b.take s'.1)))∧b.length-s'.1<b.length-i∧bg (aq ts os) (jm a b s'.1 s'.2.1 s'.2.2):=by
 obtain ⟨v',ov',k1,k2⟩:=Zs (i:=i+1) hg t2 t3 t4 t6 t24 t25 t26 h2 h3 h4;exact ⟨(i+1,v',ov'),⟨by simp only;omega,hd,by simp only;rw[hR];exact k1⟩,by simp only;omega,k2⟩
theorem MT{a b:List ah}{i:Nat}{v:I}{ov:List (Nat×ai)}{R:List ah}(h:mM v ov R):bg (jm a b i v ov) (jm a b i (enc R) []):=by
 rcases h with ⟨rfl,hv,rfl⟩ | ⟨q,rfl,rfl⟩
 ·rcases hv with rfl | rfl
  ·refine bg.mT [] 6 (x:=.c0 8) (y:=enc ([]:List ah)) rfl (by rfl) ?_ ?_ ?_ ?_ ?_ <;>simp[dD,bE,ai.only,bK,bO,bG,ib,bN,aA,ao,I.only,I.bV,br]
  ·refine bg.mT [] 6 (x:=.nils 8) (y:=enc ([]:List ah)) rfl (by rfl) ?_ ?_ ?_ ?_ ?_ <;>simp[dD,bE,ai.only,bK,bO,bG,ib,bN,aA,ao,I.only,I.bV,br]
 ·refine bg.mT [904] 6 (x:=.view 904 [] 8 0 R.length) (y:=enc R) rfl ?_ ?_ ?_ ?_ ?_ ?_
  ·have:jP 8 0 R.length (some ((R++q).map enc))=some (enc R):=by
    rw[ox (α:=ah) (sz:=8) rfl,List.take_left]
   exact this
  ·simp[dD,bE,ai.only,I.only,I.bV,br]
  ·simp[bK,ib,bN,I.only,br]
  ·simp[bO,dD,aA]
  ·simp[bG,ao,aA,I.only,br]
  ·simp[bE,ai.only,I.only,I.bV,br]
theorem vN{a b:List ah}(q1:fN a=true)(q2:fN b=true)(hd:iX a b=false) :
  gU a b=if 60<(a++dU a b).length then ([],2) else (bt (a++dU a b),0):=by
 rw[gU,q1,q2,hd];rfl
theorem uc(a b:List ah)(ha:a.length≤4000000000000)(hb:b.length≤4000000000000):aS Tryz.prog 39 [enc (⟨a⟩:di),enc (⟨b⟩:di)] (.tuple [enc (⟨(gU a b).1⟩:di),enc (gU a b).2]):=by
 refine aS.bT Tryz.func39 Im Jy KQ (t8 rfl) (fun hwf W0 bI E1 =>?_);simp only[zu,DB,bF,Z5];clear hwf;have f1:=rn a ha;have f2:=rn b hb;cases q1:fN a
 ·rw[q1] at f1;have e:gU a b=([],81):=by rw[gU,q1];rfl
  rw[e];have R:=y6 @ej (y6 @jf aD)
  repeat' ((first |(with_reducible refine .guard (fun hb =>?_) (fun hb =>?_) <;>try simp only[hb])|refine U.aG (by decide +kernel) rfl fun K hK =>?_|refine .flat _ (f1) rfl ?_|(refine .aE [0,1,2,3,4,5,6,8,9,10,18,24,25,26,27,46,49,57] hK ?_;clear hK K)|(with_reducible refine .done (hK _ ?_);clear hK K)|refine U.of rfl ?_|(with_reducible refine aw.aF (fun h =>?_) (fun h =>?_) <;>try simp only[h])) <;>try simp only[aH,R,simprocAttr])
  all_goals clear R
  all_goals rfl
 cases q2:fN b
 ·rw[q1] at f1;rw[q2] at f2;have e:gU a b=([],81):=by rw[gU,q1,q2];rfl
  rw[e];have R:=y6 @ej (y6 @jf aD)
  repeat' ((first |(with_reducible refine .guard (fun hb =>?_) (fun hb =>?_) <;>try simp only[hb])|refine U.aG (by decide +kernel) rfl fun K hK =>?_|refine .flat _ (f1) rfl ?_|refine .flat _ (f2) rfl ?_|(refine .aE [0,1,2,3,4,5,6,8,9,10,18,24,25,26,27,46,49,57] hK ?_;clear hK K)|(with_reducible refine .done (hK _ ?_);clear hK K)|refine U.of rfl ?_|(with_reducible refine aw.aF (fun h =>?_) (fun h =>?_) <;>try simp only[h])) <;>try simp only[aH,R,simprocAttr])
  all_goals clear R
  all_goals rfl
 have b1:=uE q1;have b2:=uE q2;rw[q1] at f1;rw[q2] at f2;have hla:a.length≤60:=b1.len;have hlb:b.length≤60:=b2.len;obtain ⟨J,hJ⟩:∃ J,J=gU a b:=⟨_,rfl⟩
 rw[←hJ];refine .dI (by decide +kernel) fun K hK =>?_;simp only[Bk,ba,simprocAttr];refine .done (hK _ ?_);clear hK K;refine U.seq (U.ZI (aq [(2,.ptr 2 []),(3,.ptr 3 []),(4,.ptr 4 [])] [(2,.box (enc (⟨a⟩:di))),(3,.box (enc (⟨b⟩:di))),(4,.box (.agg [.nils 8]))]) ?_ fun B hB=>U.sub hB ?_)
 ·have R:=y6 @ej (y6 @jf aD)
  repeat' ((first |(with_reducible refine .guard (fun hb =>?_) (fun hb =>?_) <;>try simp only[hb])|refine U.aG (by decide +kernel) rfl fun K hK =>?_|refine .flat _ (f1) rfl ?_|refine .flat _ (f2) rfl ?_|(refine .aE [0,1,2,3,4,5,6,8,9,10,18,24,25,26,27,46,49,57] hK ?_;clear hK K)|(with_reducible refine .done (hK _ ?_);clear hK K)|refine U.of rfl ?_|(with_reducible refine aw.aF (fun h =>?_) (fun h =>?_) <;>try simp only[h])) <;>try simp only[aH,R,simprocAttr])
  all_goals clear R
  refine bg.bZ ?_ ?_ ?_ ?_ <;>simp[bK,bO,bG,bE,ao,bN,cI,I.only,I.bV,ai.only,br]
 have R:=aD
 repeat' ((first |(with_reducible refine .guard (fun hb =>?_) (fun hb =>?_) <;>try simp only[hb])|refine U.aG (by decide +kernel) rfl fun K hK =>?_|(refine .aE [0,1,2,3,4,5,6,8,9,10,18,24,25,26,27,46,49,57] hK ?_;clear hK K)|(with_reducible refine .done (hK _ ?_);clear hK K)|refine U.of rfl ?_|(with_reducible refine aw.aF (fun h =>?_) (fun h =>?_) <;>try simp only[h])) <;>try simp only[aH,R,simprocAttr])
 all_goals clear R
 refine .bB false [(7,904)] [] [enc a] (mQ a) rfl (rp a (by omega)) eP.nil ⟨.inl ⟨(gQ _ _).symm,br _ _,eQ _⟩,trivial⟩ ?_ ?_
 ·rintro x os' (⟨_,h | h,rfl⟩ | ⟨_,k,rfl,rfl⟩)
  ·subst h;exact dh.nil (fun _=>rfl) (fun h=>by cases h)
  ·subst h;exact dh.nil (fun _=>rfl) (fun h=>by cases h)
  ·exact dh.qx (fun p=>fD p _) (fun h=>by cases h) rfl (fun h=>by cases h) rfl (by decide)
 intro y os' hp;have hsrc:=Zi hp;generalize y.aO (bh [(7,904)])=v at hsrc ⊢;generalize cO [(7,904)] os'=ov at hsrc ⊢
 try simp only[ba,simprocAttr]
 refine .done (hK _ ?_);clear hK K
 try simp only[cQ,simprocAttr]
 refine U.sub (B:=aq [(2,.ptr 2 []),(3,.ptr 3 []),(4,.ptr 4 []),(6,v)] ([(2,.box (enc (⟨a⟩:di))),(3,.box (enc (⟨b⟩:di))),(4,.box (.agg [.nils 8]))]++ov)) ?_ ?_
 ·rcases hsrc with ⟨rfl,hv,rfl⟩ | ⟨qq,rfl,rfl⟩
  ·rcases hv with rfl | rfl
   ·refine bg.bZ ?_ ?_ ?_ ?_ <;>simp[bK,bO,bG,bE,ao,bN,cI,I.only,I.bV,ai.only,br]
   ·refine bg.bZ ?_ ?_ ?_ ?_ <;>simp[bK,bO,bG,bE,ao,bN,cI,I.only,I.bV,ai.only,br]
  ·refine bg.bZ ?_ ?_ ?_ ?_ <;>simp[bK,bO,bG,bE,ao,bN,cI,I.only,I.bV,ai.only,j4,nj,br]
 simp only[Z8,zz3];have R:=aD
 repeat' ((first |(with_reducible refine .guard (fun hb =>?_) (fun hb =>?_) <;>try simp only[hb])|refine U.aG (by decide +kernel) rfl fun K hK =>?_|(refine .aE [0,1,2,3,4,5,6,8,9,10,18,24,25,26,27,46,49,57] hK ?_;clear hK K)|(with_reducible refine .done (hK _ ?_);clear hK K)|refine U.of rfl ?_|(with_reducible refine aw.aF (fun h =>?_) (fun h =>?_) <;>try simp only[h])) <;>try simp only[aH,R,simprocAttr])
 all_goals clear R
 refine U.loop (fun t:Nat×I×List (Nat×ai)=>jm a b t.1 t.2.1 t.2.2) (fun t=>t.1≤b.length∧iX a (b.take t.1)=false∧mM t.2.1 t.2.2 (a++dU a (b.take t.1))) (fun t=>b.length-t.1) (0,v,ov) ⟨zx8 _,rfl,by simpa[dU] using hsrc⟩ ?_ ?_
 ·rcases hsrc with ⟨rfl,hv,rfl⟩ | ⟨qq,rfl,rfl⟩
  ·simp only[jm,zw1];rcases hv with rfl | rfl
   ·refine bg.bZ ?_ ?_ ?_ ?_ <;>simp[bK,bO,bG,bE,ao,bN,cI,I.only,I.bV,ai.only,br]
   ·refine bg.bZ ?_ ?_ ?_ ?_ <;>simp[bK,bO,bG,bE,ao,bN,cI,I.only,I.bV,ai.only,br]
  ·simp only[jm,Z8,zz3];refine bg.bZ ?_ ?_ ?_ ?_ <;>simp[bK,bO,bG,bE,ao,bN,cI,I.only,I.bV,ai.only,j4,nj,br]
 rintro ⟨i,v2,ov2⟩ ⟨hi,hd,hs2⟩;simp only at hi hd hs2 ⊢;have hll:=Wa a b i;have hn2:=Zk hs2;have hn8:=hn2 8 (by decide);by_cases hlt:i<b.length
 case neg =>
  have hc:=fB hlt;have hge:i=b.length:=by omega
  subst hge;rw[List.take_length] at hd hs2 hll;have hJ2:=vN q1 q2 hd;rw[←hJ] at hJ2;refine U.sub (MT hs2) ?_;have f95:¬ 60<(a++dU a b).length→aS Tryz.prog 95 [enc (a++dU a b)] (enc (⟨bt (a++dU a b)⟩:di)):=fun h=>yf _ (by omega) (vO b1.mC b2.mC);simp only[jm,Z8,zz3,zw1];generalize a++dU a b=out at *;rw[hJ2];by_cases hl60:60<out.length
  ·have h60:decide ((out.length:Int)>60)=true:=by simp;omega
   rw[if_pos hl60];have R:=y6 @hc (y6 @h60 (y6 @ej (y6 @jf aD)))
   repeat' ((first |(with_reducible refine .guard (fun hb =>?_) (fun hb =>?_) <;>try simp only[hb])|refine U.aG (by decide +kernel) rfl fun K hK =>?_|(refine .aE [0,1,2,3,4,5,6,8,9,10,18,24,25,26,27,46,49,57] hK ?_;clear hK K)|(with_reducible refine .done (hK _ ?_);clear hK K)|refine U.of rfl ?_|(with_reducible refine aw.aF (fun h =>?_) (fun h =>?_) <;>try simp only[h])) <;>try simp only[aH,R,simprocAttr])
   all_goals clear R
   all_goals rfl
  ·have h60:decide ((out.length:Int)>60)=false:=by simp;omega
   rw[if_neg hl60];have f95':=f95 hl60;simp only;generalize bt out=s at *;have R:=y6 @hc (y6 @h60 (y6 @ej (y6 @jf aD)))
   repeat' ((first |(with_reducible refine .guard (fun hb =>?_) (fun hb =>?_) <;>try simp only[hb])|refine U.aG (by decide +kernel) rfl fun K hK =>?_|refine .lead _ (f95') ?_|(refine .aE [0,1,2,3,4,5,6,8,9,10,18,24,25,26,27,46,49,57] hK ?_;clear hK K)|(with_reducible refine .done (hK _ ?_);clear hK K)|refine U.of rfl ?_|(with_reducible refine aw.aF (fun h =>?_) (fun h =>?_) <;>try simp only[h])) <;>try simp only[aH,R,simprocAttr])
   all_goals clear R
   all_goals rfl
 have hc:=e9 hlt;have he:=fun A=>eS (A:=A) 8 hlt rfl;have hw:=eO (i:=i) (by omega);have hdx:=LR (a:=a) hlt;have hhit:=LS (a:=a) hlt;have hlk:=V9 (a:=a) hlt;have f94:=yd a b[i].bf b1.mC (by omega);rw[hd,Bool.false_or] at hdx;cases q3:a.find? (fun r=>decide (r.bf=b[i].bf)) with
 |some r =>
  obtain ⟨s1,s2⟩:=V3 b1.mC q3;obtain ⟨p1,p2⟩:=MO b1.mC q3;have p3:=((sh b1.mC b[i].bf).1 p1).1;have hea:=fun A=>eS (A:=A) 8 p3 rfl;have hr:a[ef a b[i].bf]=r:=by
   rw[zz5,zz2 p3] at p2;exact p2
  rw[hr] at hea;rw[p1] at f94;rw[s2] at hdx hhit;rw[s1,if_pos rfl,zw1] at hlk;clear q3 s1 s2 p1 p2 hr p3;generalize b[i]=x at *;generalize ef a x.bf=k at *;by_cases q4:r=x
  ·have q4':decide (r≠x)=false:=by simp[q4]
   have q5:(decide (r≠x))=false:=by simp[q4]
   rw[q4'] at hdx;clear hhit;subst q4;simp only[jm,Z8,zz3];have R:=y6 @hn8 (y6 @eZ (y6 @hc (y6 @he (y6 @hea (y6 @hw (y6 @Bool.not_true (y6 @eN (y6 @ej aD))))))))
   repeat' ((first |(with_reducible refine .guard (fun hb =>?_) (fun hb =>?_) <;>try simp only[hb])|refine U.aG (by decide +kernel) rfl fun K hK =>?_|refine .flat _ (f94) rfl ?_|(refine .aE [0,1,2,3,4,5,6,8,9,10,18,24,25,26,27,46,49,57] hK ?_;clear hK K)|(with_reducible refine .done (hK _ ?_);clear hK K)|refine U.of rfl ?_|(with_reducible refine aw.aF (fun h =>?_) (fun h =>?_) <;>try simp only[h])) <;>try simp only[aH,R,decide_true,simprocAttr])
   all_goals clear R
   rw[←hlk] at hs2;refine ⟨(i+1,v2,ov2),⟨by simp only;omega,hdx,hs2⟩,by simp only;omega,?_⟩;clear hdx f94 hea he
   try simp only[]
   rcases hs2 with ⟨hR,hv,rfl⟩ | ⟨qq,rfl,rfl⟩
   ·clear hR;rcases hv with rfl | rfl
    ·refine bg.bZ ?_ ?_ ?_ ?_ <;>simp[bK,bO,bG,bE,ao,bN,cI,I.only,I.bV,ai.only,br]
    ·refine bg.bZ ?_ ?_ ?_ ?_ <;>simp[bK,bO,bG,bE,ao,bN,cI,I.only,I.bV,ai.only,br]
   ·generalize a++dU a (b.take (i+1))=R at *;refine bg.bZ ?_ ?_ ?_ ?_ <;>simp[bK,bO,bG,bE,ao,bN,cI,I.only,I.bV,ai.only,j4,nj,br]
  ·have q4':decide (r≠x)=true:=by simp[q4]
   have q5:decide (r=x)=false:=by simp[q4]
   rw[hJ,V1 q1 q2 (hhit q4')];clear hdx hhit;simp only[jm,Z8,zz3];have R:=y6 @hn8 (y6 @eZ (y6 @hc (y6 @he (y6 @hea (y6 @hw (y6 @q5 (y6 @Bool.not_false (y6 @eN (y6 @ej (y6 @jf aD))))))))))
   repeat' ((first |(with_reducible refine .guard (fun hb =>?_) (fun hb =>?_) <;>try simp only[hb])|refine U.aG (by decide +kernel) rfl fun K hK =>?_|refine .flat _ (f94) rfl ?_|(refine .aE [0,1,2,3,4,5,6,8,9,10,18,24,25,26,27,46,49,57] hK ?_;clear hK K)|(with_reducible refine .done (hK _ ?_);clear hK K)|refine U.of rfl ?_|(with_reducible refine aw.aF (fun h =>?_) (fun h =>?_) <;>try simp only[h])) <;>try simp only[aH,R,simprocAttr])
   all_goals clear R
   all_goals rfl
 |none =>
  obtain ⟨s1,s2⟩:=V2 q3;rw[MN q3] at f94;rw[s2] at hdx;rw[s1,if_neg (by decide)] at hlk
  replace hlk:a++dU a (b.take (i+1))=a++(dU a (b.take i)++[b[i]]):=by rw[hlk]
  clear q3 s1 s2 hhit;generalize b[i]=x at *;generalize ef a x.bf=k at *;have hbs:gm 8 (some [enc x])=some (enc [x]):=oa 8 x rfl;simp only[jm,Z8,zz3];have R:=y6 @hn8 (y6 @eZ (y6 @hc (y6 @he (y6 @hw (y6 @hbs (y6 @eN (y6 @ej (y6 @jf aD))))))))
  repeat' ((first |(with_reducible refine .guard (fun hb =>?_) (fun hb =>?_) <;>try simp only[hb])|refine U.aG (by decide +kernel) rfl fun K hK =>?_|refine .flat _ (f94) rfl ?_|(refine .aE [0,1,2,3,4,5,6,8,9,10,18,24,25,26,27,46,49,57] hK ?_;clear hK K)|(with_reducible refine .done (hK _ ?_);clear hK K)|refine U.of rfl ?_|(with_reducible refine aw.aF (fun h =>?_) (fun h =>?_) <;>try simp only[h])) <;>try simp only[aH,R,simprocAttr])
  all_goals clear R
  have hRl:(a++dU a (b.take i)).length≤200:=by rw[Z1];omega
  rw[←Z9] at hlk;generalize a++dU a (b.take i)=R at *;refine aY.vE (l:=R) (ys:=[x]) (default:ah) rfl (Zj hs2 (by simp[cI])) (by simp[cI,hn2]) (by rw[List.length_singleton];omega) (by rw[List.length_singleton];simp only[maxLen];omega) fun v3 o3 g3 f3 =>?_;have ho2:aA o3 2=some (.box (enc (⟨a⟩:di))):=(f3 2 (by decide)).trans (by simp[cI]);have ho3:aA o3 3=some (.box (enc (⟨b⟩:di))):=(f3 3 (by decide)).trans (by simp[cI]);have ho4:aA o3 4=some (.box (.agg [.nils 8])):=(f3 4 (by decide)).trans (by simp[cI])
  try simp only[ba,simprocAttr]
  refine .done (hK _ ?_);clear hK K;have R:=y6 @hw aD
  repeat' ((first |(with_reducible refine .guard (fun hb =>?_) (fun hb =>?_) <;>try simp only[hb])|refine U.aG (by decide +kernel) rfl fun K hK =>?_|(refine .aE [0,1,2,3,4,5,6,8,9,10,18,24,25,26,27,46,49,57] hK ?_;clear hK K)|(with_reducible refine .done (hK _ ?_);clear hK K)|refine U.of rfl ?_|(with_reducible refine aw.aF (fun h =>?_) (fun h =>?_) <;>try simp only[h])) <;>try simp only[aH,R,simprocAttr])
  all_goals clear R
  exact Zt hlt hlk hdx g3 rfl rfl rfl rfl rfl rfl rfl ho2 ho3 ho4
theorem jX(a:Int){n:Int}(hn:0<n∧n≤4611686018427387904):0≤bA a n∧bA a n<n:=by
 have h1:-n<a.tmod n∧a.tmod n<n:=⟨Int.lt_tmod_of_pos a hn.1,Int.tmod_lt_of_pos a hn.1⟩
 rw[bA,dX _ (by omega) (by omega)];exact ⟨Int.tmod_nonneg _ (by omega),Int.tmod_lt_of_pos _ hn.1⟩
def pj:List (List UInt8):=[[],[97],[98,101,97,115,116,32,49,55],[48,32,48,32,49,32,48,32,48,32,48],[32],[97,32,116,101,120,116,32,111,102,32,97,32,108,101,110,103,116,104,32,116,104,97,116,32,116,101,97,114,115,32,105,110,32,105,116,115,32,109,105,100,115,116]]
def ph(k:Int):List UInt8:=pj.getD k.toNat []
abbrev eX:=en 5 Int
def iM(l:List ah)(n:eX):ah :=
 if bA (n.g 1) 6=0∧0<cG l (bA (n.g 0) 3) then ⟨bA (n.g 0) 3,cG l (bA (n.g 0) 3),0,0,bA (n.g 3) 50,bA (n.g 0) 3,bA (n.g 2) (cG l (bA (n.g 0) 3)),[]⟩
 else ⟨bA (n.g 0) 3,cG l (bA (n.g 0) 3),if bA (n.g 1) 6=0 then 7 else bA (n.g 1) 6,bA (n.g 2) 50,bA (n.g 3) 50,0,0,ph (bA (n.g 4) 6)⟩
theorem VK{A:ab}{m:Nat}{a b c d e:Int}(h:A.o m=some (.box (.agg [.int .i64 a,.int .i64 b,.int .i64 c,.int .i64 d,.int .i64 e]))):ja A 5 1 0 (.ptr m [])=some (.ptr m [0])∧ja A 5 1 1 (.ptr m [])=some (.ptr m [1])∧ja A 5 1 2 (.ptr m [])=some (.ptr m [2])∧ja A 5 1 3 (.ptr m [])=some (.ptr m [3])∧ja A 5 1 4 (.ptr m [])=some (.ptr m [4]):=by
 refine ⟨?_,?_,?_,?_,?_⟩ <;>simp[ja,oD,ig,iH,dF,ev,I.dc,h,pL,gD,I.size]
theorem xI(a b c d e:Int):(I.agg [.int .i64 a,.int .i64 b,.int .i64 c,.int .i64 d,.int .i64 e]).cC=true:=rfl
theorem u3(a b c d e:Int):I.agg [.agg [.int .i64 a,.int .i64 b],.int .i64 c,.int .i64 d,.int .i64 e,.agg [.int .i64 0,.int .i64 0],.aj ⟨#[]⟩]=enc (⟨a,b,c,d,e,0,0,[]⟩:ah):=rfl
theorem uB:(∀ x y,fF [.int .i64 0,.int .i64 0] [(0,.int .i64 x),(1,.int .i64 y)]=some [.int .i64 x,.int .i64 y]) ∧
  (∀ (x1 x2 n1 n2 n3:Int),fF [.agg [.int .i64 0,.int .i64 0],.int .i64 0,.int .i64 0,.int .i64 0,.agg [.int .i64 0,.int .i64 0],.aj ⟨#[]⟩] [(0,.agg [.int .i64 x1,.int .i64 x2]),(1,.int .i64 n1),(2,.int .i64 n2),(3,.int .i64 n3)]=some [.agg [.int .i64 x1,.int .i64 x2],.int .i64 n1,.int .i64 n2,.int .i64 n3,.agg [.int .i64 0,.int .i64 0],.aj ⟨#[]⟩]) :=
 ⟨fun _ _=>rfl,fun _ _ _ _ _=>rfl⟩
theorem xr:(∀ A n rest (r:ah) (v u:Int),dW A none n [1] (enc r) (.int .i64 v) rest (some (.int .i64 u))=ar rest (A.aQ n (.box (enc ({r with kind:=v} : ah))))) ∧
  (∀ A n rest (r:ah) (v u:Int),dW A none n [2] (enc r) (.int .i64 v) rest (some (.int .i64 u))=ar rest (A.aQ n (.box (enc ({r with dY:=v} : ah))))) ∧
  (∀ A n rest (r:ah) (a b:Int) (o:Item),dW A (some 2) n [4] (enc r) (.agg [.int .i64 a,.int .i64 b]) rest (some (enc o))=ar rest (A.aQ n (.box (enc ({r with fo:=a,fE:=b} : ah))))) ∧
  (∀ A n rest (r:ah) (x y:List UInt8),dW A none n [5] (enc r) (enc (av.of x)) rest (some (enc (av.of y)))=ar rest (A.aQ n (.box (enc ({r with text:=x} : ah))))) :=
 ⟨fun A n rest r v u=>by rw[eV (s:=none) (v:=.int .i64 v) (old:=.int .i64 u) rfl rfl rfl];rfl,
  fun A n rest r v u=>by rw[eV (s:=none) (v:=.int .i64 v) (old:=.int .i64 u) rfl rfl rfl];rfl,
  fun A n rest r a b o=>by rw[eV (s:=some 2) (v:=.agg [.int .i64 a,.int .i64 b]) (old:=enc o) rfl rfl rfl];rfl,
  fun A n rest r x y=>by rw[eV (s:=none) (v:=enc (av.of x)) (old:=enc (av.of y)) (eQ _) rfl rfl];rfl⟩
theorem yL:gm 1 (some [.aj ⟨#[]⟩,.aj ⟨#[97]⟩,.aj ⟨#[98,101,97,115,116,32,49,55]⟩,.aj ⟨#[48,32,48,32,49,32,48,32,48,32,48]⟩,.aj ⟨#[32]⟩,.aj ⟨#[97,32,116,101,120,116,32,111,102,32,97,32,108,101,110,103,116,104,32,116,104,97,116,32,116,101,97,114,115,32,105,110,32,105,116,115,32,109,105,100,115,116]⟩])=some (enc (pj.map av.of)):=uG (ys:=pj.map av.of) 1 rfl
theorem Gh(l:List ah)(hl:l.length≤4000000000000)(hin:mf l)(n:eX):aS Tryz.prog 78 [enc l,enc n] (enc (iM l n)):=by
 obtain ⟨n0,n1,n2,n3,n4,rfl⟩:∃ a b c d e:Int,n=⟨[a,b,c,d,e],rfl⟩:=by
  obtain ⟨l,h⟩:=n
  match l,h with
  | [a,b,c,d,e],_=>exact ⟨a,b,c,d,e,rfl⟩
 refine aS.bT Tryz.func78 Iz JI K1 (t8 rfl) (fun hwf W0 bI E1 =>?_);simp only[zF,DM,bF,Z5];clear hwf;have e5:enc (⟨[n0,n1,n2,n3,n4],rfl⟩:eX)=I.agg [.int .i64 n0,.int .i64 n1,.int .i64 n2,.int .i64 n3,.int .i64 n4]:=rfl;have hr:iM l ⟨[n0,n1,n2,n3,n4],rfl⟩=if bA n1 6=0∧0<cG l (bA n0 3) then ⟨bA n0 3,cG l (bA n0 3),0,0,bA n3 50,bA n0 3,bA n2 (cG l (bA n0 3)),[]⟩
   else ⟨bA n0 3,cG l (bA n0 3),if bA n1 6=0 then 7 else bA n1 6,bA n2 50,bA n3 50,0,0,ph (bA n4 6)⟩:=rfl
 rw[hr,e5];clear hr e5;have i5:=fun (A:ab) (h:A.o 3=some (.box (.agg [.int .i64 n0,.int .i64 n1,.int .i64 n2,.int .i64 n3,.int .i64 n4])))=>VK h;have i0:=fun A h=>(i5 A h).1;have i1:=fun A h=>(i5 A h).2.1;have i2:=fun A h=>(i5 A h).2.2.1;have i3:=fun A h=>(i5 A h).2.2.2.1;have i4:=fun A h=>(i5 A h).2.2.2.2;clear i5;have f0:=lW n0 3 (by decide);have f1:=lW n1 6 (by decide);have f2:=lW n2 50 (by decide);have f3:=lW n3 50 (by decide);have f4:=lW n4 6 (by decide);have f102:=FN l hl hin;have p0:=jX n0 (n:=3) (by decide);have p4:=jX n4 (n:=6) (by decide);have hix:=vM l (m:=bA n0 3) (by omega);have f5:cG l (bA n0 3)≠0→aS Tryz.prog 28 [enc n2,enc ((cG l (bA n0 3):Nat):Int)] (enc (bA n2 (cG l (bA n0 3):Nat))):=fun h=>lW n2 _ (by omega);have htx:∀ A,jb A 1 (bA n4 6) (enc (pj.map av.of))=some (.ref (enc (av.of (ph (bA n4 6))))):=by
  intro A;obtain ⟨k,hk⟩:=zz7 p4.1;have hk6:k<(pj.map av.of).length:=by simp[pj];omega
  rw[hk];refine (eS 1 hk6 rfl).trans ?_;rw[List.getElem_map,ph,Int.toNat_natCast,zz5,zz2 (by simpa using hk6)];rfl
 generalize bA n0 3=m0 at *;generalize cG l m0=c at *;generalize bA n1 6=m1 at *;generalize bA n2 50=m2 at *;generalize bA n3 50=m3 at *;generalize bA n4 6=m4 at *;generalize ph m4=tx at *;by_cases q1:m1=0
 ·subst q1;by_cases q2:0<c
  ·have f5':=f5 (by omega);have q2':decide ((c:Int)>0)=true:=decide_eq_true (by omega);rw[if_pos ⟨rfl,q2⟩];generalize bA n2 (c:Nat)=m5 at *;have R:=y6 @q2' (y6 @xI (y6 @eZ (y6 @i0 (y6 @i1 (y6 @i2 (y6 @i3 (y6 @i4 (y6 @hix (y6 @uB (y6 @u3 (y6 @eN (y6 @xr aD))))))))))))
   repeat' ((first |(with_reducible refine .guard (fun hb =>?_) (fun hb =>?_) <;>try simp only[hb])|refine U.aG (by decide +kernel) rfl fun K hK =>?_|refine .flat _ (f0) rfl ?_|refine .flat _ (f1) rfl ?_|refine .flat _ (f2) rfl ?_|refine .flat _ (f3) rfl ?_|refine .lead _ (f102) ?_|refine .flat _ (f5') rfl ?_|(refine .aE [0,1,3,4,5,6,7,35,49] hK ?_;clear hK K)|(with_reducible refine .done (hK _ ?_);clear hK K)|refine U.of rfl ?_|(with_reducible refine aw.aF (fun h =>?_) (fun h =>?_) <;>try simp only[h])) <;>try simp only[aH,R,simprocAttr])
   all_goals clear R
   all_goals rfl
  ·have q2':decide ((c:Int)>0)=false:=decide_eq_false (by omega);rw[if_neg (by omega),if_pos rfl];have R:=y6 @q2' (y6 @xI (y6 @eZ (y6 @i0 (y6 @i1 (y6 @i2 (y6 @i3 (y6 @i4 (y6 @hix (y6 @uB (y6 @u3 (y6 @yL (y6 @htx (y6 @eN (y6 @xr aD))))))))))))))
   repeat' ((first |(with_reducible refine .guard (fun hb =>?_) (fun hb =>?_) <;>try simp only[hb])|refine U.aG (by decide +kernel) rfl fun K hK =>?_|refine .flat _ (f0) rfl ?_|refine .flat _ (f1) rfl ?_|refine .flat _ (f2) rfl ?_|refine .flat _ (f3) rfl ?_|refine .lead _ (f102) ?_|refine .flat _ (f4) rfl ?_|(refine .aE [0,1,3,4,5,6,7,35,49] hK ?_;clear hK K)|(with_reducible refine .done (hK _ ?_);clear hK K)|refine U.of rfl ?_|(with_reducible refine aw.aF (fun h =>?_) (fun h =>?_) <;>try simp only[h])) <;>try simp only[aH,R,simprocAttr])
   all_goals clear R
   all_goals rfl
 ·have q1':(m1==0)=false:=by simpa using q1
  rw[if_neg (fun h=>q1 h.1),if_neg q1];have R:=y6 @q1' (y6 @xI (y6 @eZ (y6 @i0 (y6 @i1 (y6 @i2 (y6 @i3 (y6 @i4 (y6 @hix (y6 @uB (y6 @u3 (y6 @yL (y6 @htx (y6 @eN (y6 @xr aD))))))))))))))
  repeat' ((first |(with_reducible refine .guard (fun hb =>?_) (fun hb =>?_) <;>try simp only[hb])|refine U.aG (by decide +kernel) rfl fun K hK =>?_|refine .flat _ (f0) rfl ?_|refine .flat _ (f1) rfl ?_|refine .flat _ (f2) rfl ?_|refine .flat _ (f3) rfl ?_|refine .lead _ (f102) ?_|refine .flat _ (f4) rfl ?_|(refine .aE [0,1,3,4,5,6,7,35,49] hK ?_;clear hK K)|(with_reducible refine .done (hK _ ?_);clear hK K)|refine U.of rfl ?_|(with_reducible refine aw.aF (fun h =>?_) (fun h =>?_) <;>try simp only[h])) <;>try simp only[aH,R,simprocAttr])
  all_goals clear R
  all_goals rfl
end Go.Proofs.YtoffnnjbplgnaaaGreatDoor
namespace Go.Proofs.YtoffnnjbplgnaaaGreatDoor
open Go Go.Abs Go.ChangeShapes Go.WideShapes Go.RowKit
open Go.Abs.Enc (enc)
theorem G4:mK Tryz.prog 66 eX fun _=>True:=(XW (n:=5) (e:=3) (by kernel_rfl) Co (by kernel_rfl) (by decide)).CI
theorem Hx:Tryz.prog.bytesOf 66=40:=by kernel_rfl
theorem G5:mK Tryz.prog 39 (List eX) fun l=>l.length*40≤reachBytes:=by
 have h:=XV (P:=Tryz.prog) (t:=39) (e:=66) (by kernel_rfl) G4 (by kernel_rfl);exact ⟨h.cells,h.qG,fun hx hw=>by
  obtain ⟨a,⟨-,h2⟩,h3⟩:=h.oS hx hw;rw[Hx] at h2;exact ⟨a,h2,h3⟩⟩
end Go.Proofs.YtoffnnjbplgnaaaGreatDoor
namespace Go.Proofs.YtoffnnjbplgnaaaGreatDoor
open Go Go.Abs
open Go.Abs.Enc (enc)
def ft(out:List ah):List eX→List ah
 | []=>out
 |n::t=>ft (out++[iM out n]) t
def cU(l:List eX)(most:Int):List ah:=ft [] (l.take most.toNat)
theorem El:∀ (l:List eX) (out:List ah) (n:eX),ft out (l++[n])=ft out l++[iM (ft out l) n]
 | [],_,_=>rfl
 |m::l,out,n=>by rw[Z8,ft,ft,El l]
theorem Ee(out:List ah)(n:eX):0≤(iM out n).aJ∧(iM out n).aJ≤2:=by
 have:=jX (n.g 0) (n:=3) (by decide);rw[iM];split <;>(simp only;omega)
theorem Ei:∀ (l:List eX) (out:List ah),mf out→mf (ft out l)
 | [],_,h=>h
 |n::l,out,h=>Ei l _ fun r hr=>by
  rcases zy0.1 hr with k | k
  ·exact h r k
  ·rw[zy6.1 k];have:=Ee out n;omega
theorem wQ:∀ (l:List eX) (out:List ah),(ft out l).length=out.length+l.length
 | [],_=>rfl
 |n::l,out=>by rw[ft,wQ l];simp;omega
theorem Yx(l:List eX)(most:Int):(cU l most).length≤l.length∧(cU l most).length≤most.toNat:=by
 rw[cU,wQ,zy9,zz1];omega
theorem Wq:∀ q:eX,b6 (some 5) (enc q)=true:=fun q=>by rw[hZ];rfl
def um(l:List eX)(most:Int)(x:Nat×List ah):ab:=aq [(0,enc l),(1,enc most),(5,.own 5 x.2.length),(6,.int .i64 (x.1:Int))] [(5,.bH 50 8 (x.2.map enc))]
theorem ub(l:List eX)(hl:l.length≤4000000000000)(most:Int)(hmo:most≤1000):aS Tryz.prog 26 [enc l,enc most] (enc (cU l most)):=by
 refine aS.bT Tryz.func26 Ig Js KK (t8 rfl) (fun hwf W0 bI E1 =>?_);simp only[zn,Du,bF,Z5];clear hwf;have R:=aD
 repeat' ((first |(with_reducible refine .guard (fun hb =>?_) (fun hb =>?_) <;>try simp only[hb])|refine U.aG (by decide +kernel) rfl fun K hK =>?_|(refine .aE [0,1,4,5,6,15] hK ?_;clear hK K)|(with_reducible refine .done (hK _ ?_);clear hK K)|refine U.of rfl ?_|(with_reducible refine aw.aF (fun h =>?_) (fun h =>?_) <;>try simp only[h])) <;>try simp only[aH,R,simprocAttr])
 all_goals clear R
 refine U.loop (um l most) (fun x=>x.1≤l.length∧(x.1=0∨(x.1:Int)≤most)∧x.2=ft [] (l.take x.1)) (fun x=>l.length-x.1) (0,[]) ⟨zx8 _,.inl rfl,rfl⟩ ?_ ?_
 ·refine bg.GC 5 5 50 8 8 rfl rfl ?_;simp only[um,zy9,zz6];refine bg.bZ ?_ ?_ ?_ ?_ <;>simp[bK,bO,bG,bE,ao,bN,cI,I.only,I.bV,ai.only,br,rU]
 rintro ⟨i,out⟩ ⟨hi,hm,ho⟩;simp only at hi hm ho;simp only[um];have hfo:ky out.length (some (.bH 50 8 (out.map enc)))=some (enc out):=pZ 8 rfl rfl;have hin:mf out:=by rw[ho];exact Ei _ _ (fun r hr=>by cases hr)
 have hol:out.length=i:=by rw[ho,wQ,zy9,zz1];omega
 by_cases hlt:i<l.length
 rotate_left
 ·have hc:=fB hlt;have:cU l most=out:=by
   rw[ho,cU,zx3 (by omega),zx3 (by omega)]
  rw[this];have R:=y6 @hc (y6 @hfo aD)
  repeat' ((first |(with_reducible refine .guard (fun hb =>?_) (fun hb =>?_) <;>try simp only[hb])|refine U.aG (by decide +kernel) rfl fun K hK =>?_|(refine .aE [0,1,4,5,6,15] hK ?_;clear hK K)|(with_reducible refine .done (hK _ ?_);clear hK K)|refine U.of rfl ?_|(with_reducible refine aw.aF (fun h =>?_) (fun h =>?_) <;>try simp only[h])) <;>try simp only[aH,R,simprocAttr])
  all_goals clear R
  all_goals rfl
 have hc:=e9 hlt;by_cases hq:(i:Int)<most
 rotate_left
 ·have hd:decide ((i:Int)<most)=false:=decide_eq_false hq;have:cU l most=out:=by
   rw[ho,cU];congr 2;omega
  rw[this];have R:=y6 @hc (y6 @hd (y6 @hfo aD))
  repeat' ((first |(with_reducible refine .guard (fun hb =>?_) (fun hb =>?_) <;>try simp only[hb])|refine U.aG (by decide +kernel) rfl fun K hK =>?_|(refine .aE [0,1,4,5,6,15] hK ?_;clear hK K)|(with_reducible refine .done (hK _ ?_);clear hK K)|refine U.of rfl ?_|(with_reducible refine aw.aF (fun h =>?_) (fun h =>?_) <;>try simp only[h])) <;>try simp only[aH,R,simprocAttr])
  all_goals clear R
  all_goals rfl
 have hd:decide ((i:Int)<most)=true:=decide_eq_true hq;have he:=fun A=>eS (A:=A) 5 hlt rfl;have hw:=eO (i:=i) (by omega);have hnx:out++[iM out l[i]]=ft [] (l.take (i+1)):=by
  rw[fW hlt,El,←ho]
 have f78:=Gh out (by omega) hin l[i];have hbs:∀ x:ah,gm 8 (some [enc x])=some (enc [x]):=fun x=>oa 8 x rfl;generalize iM out l[i]=x at *;generalize l[i]=n at *;have hap:=fun (A:ab) d rest=>yr (A:=A) (d:=d) 50 8 72 5 (l:=out.length) (es:=out) (ys:=[x]) (rest:=rest) rfl rfl (by simp) (by simp[maxLen];omega) (by simp;omega);have R:=y6 @hc (y6 @hd (y6 @he (y6 @hw (y6 @hfo (y6 @hbs (y6 @hap (y6 @Wq (y6 @eZ aD))))))))
 repeat' ((first |(with_reducible refine .guard (fun hb =>?_) (fun hb =>?_) <;>try simp only[hb])|refine U.aG (by decide +kernel) rfl fun K hK =>?_|refine .lead _ (f78) ?_|(refine .aE [0,1,4,5,6,15] hK ?_;clear hK K)|(with_reducible refine .done (hK _ ?_);clear hK K)|refine U.of rfl ?_|(with_reducible refine aw.aF (fun h =>?_) (fun h =>?_) <;>try simp only[h])) <;>try simp only[aH,R,simprocAttr])
 all_goals clear R
 refine ⟨(i+1,out++[x]),⟨by simp only;omega,.inr (by simp only;omega),hnx⟩,by simp only;omega,?_⟩;simp only[];refine bg.bZ ?_ ?_ ?_ ?_ <;>simp[bK,bO,bG,bE,ao,bN,cI,I.only,I.bV,ai.only,j4,nj,br]
 all_goals rfl
theorem Zx{k:Int}(h:0≤k∧k<6):gG (ph k)=true:=by
 have:k=0∨k=1∨k=2∨k=3∨k=4∨k=5:=by omega
 rcases this with rfl | rfl | rfl | rfl | rfl | rfl <;>decide +kernel
theorem Yw{out:List ah}(hl:out.length<60)(n:eX):bn (iM out n)=true∧c8 out (iM out n)=true:=by
 have p0:=jX (n.g 0) (n:=3) (by decide);have p1:=jX (n.g 1) (n:=6) (by decide);have p2:=jX (n.g 2) (n:=50) (by decide);have p3:=jX (n.g 3) (n:=50) (by decide);have p4:=Zx (jX (n.g 4) (n:=6) (by decide));have hc:=uT out (bA (n.g 0) 3);have p5:0<cG out (bA (n.g 0) 3)→0≤bA (n.g 2) (cG out (bA (n.g 0) 3):Nat)∧bA (n.g 2) (cG out (bA (n.g 0) 3):Nat)<(cG out (bA (n.g 0) 3):Nat):=fun h=>jX _ (by omega);have hx:∀ x:Item,(0≤x.aJ∧x.aJ≤5)∧0≤x.no∧x.no≤9999→il x=true:=fun x h=>qC.2 h;rw[iM];obtain ⟨m,hm⟩:∃ m,m=bA (n.g 0) 3:=⟨_,rfl⟩
 rw[←hm] at p0 hc p5 ⊢;obtain ⟨c,hcc⟩:∃ c,c=cG out m:=⟨_,rfl⟩
 rw[←hcc] at hc p5 ⊢;split
 ·rename_i h;have p6:=p5 h.2;generalize bA (n.g 2) (c:Nat)=w at *;refine ⟨?_,by rw[c8,decide_eq_true hl];simp only[←hcc,decide_true,Bool.and_self]⟩;simp only[bn,fT,ah.bf,ah.fS,if_true,nh,Z0,oF,decide_eq_true_eq,beq_iff_eq,qC];refine ⟨⟨⟨by omega,by omega⟩,by omega,by omega,by omega,by decide +kernel⟩,trivial,trivial,⟨by omega,by omega⟩,trivial,by omega⟩
 ·rename_i h;generalize bA (n.g 1) 6=k1 at *;have hk:¬ (if k1=0 then (7:Int) else k1)=0:=by split <;>omega
  have hk2:0≤(if k1=0 then (7:Int) else k1)∧(if k1=0 then (7:Int) else k1)≤40:=by split <;>omega
  refine ⟨?_,by rw[c8,decide_eq_true hl];simp only[←hcc,decide_true,Bool.and_self]⟩;simp only[bn,fT,ah.bf,ah.fS,if_neg hk,Z0,oF,decide_eq_true_eq,qC];refine ⟨⟨⟨by omega,by omega⟩,hk2,by omega,by omega,p4⟩,trivial⟩
theorem xJ:∀ (a out b:List ah),c7 out (a++b)=(c7 out a&&c7 (out++a) b)
 | [],out,b=>by simp[c7]
 |r::a,out,b=>by rw[Z8,c7,c7,xJ a,Z9,List.singleton_append];simp only[Bool.and_assoc]
theorem xK{a:List ah}{r:ah} : c7 [] (a++[r])=true↔c7 [] a=true∧bn r=true∧c8 a r=true:=by
 rw[xJ];simp[c7]
theorem Em:∀ (l:List eX) (out:List ah),out.length+l.length≤60→c7 [] out=true→c7 [] (ft out l)=true
 | [],_,_,h=>h
 |n::l,out,hl,h=>by
  rw[zx1] at hl;obtain ⟨h1,h2⟩:=Yw (out:=out) (by omega) n;exact Em l _ (by rw[Z1,List.length_singleton];omega) (xK.2 ⟨h,h1,h2⟩)
theorem wP(l:List eX){most:Int}(h:most≤60):c7 [] (cU l most)=true :=
 Em _ _ (by rw[zy9,zz1];omega) rfl
theorem Ek:∀ (l:List eX) (out:List ah),∃ t,ft out l=out++t
 | [],out=>⟨[],by simp[ft]⟩
 |n::l,out=>by
  obtain ⟨t,h⟩:=Ek l (out++[iM out n]);exact ⟨iM out n::t,by rw[ft,h];simp⟩
theorem Eg:∀ (a b:List eX) (out:List ah),ft out (a++b)=ft (ft out a) b
 | [],_,_=>rfl
 |n::a,b,out=>by rw[Z8,ft,ft,Eg a]
theorem Ef(l:List eX){i j:Int}(h:i≤j):∀ r∈cU l i,r∈cU l j:=by
 have:l.take j.toNat=l.take i.toNat++(l.take j.toNat).drop i.toNat:=by
  have:=(List.take_append_drop i.toNat (l.take j.toNat)).symm;rw[List.take_take,Nat.min_eq_left (by omega)] at this;exact this
 obtain ⟨t,ht⟩:=Ek ((l.take j.toNat).drop i.toNat) (ft [] (l.take i.toNat));intro r hr;rw[cU,this,Eg,ht];exact List.mem_append_left _ hr
theorem lQ{p:List ah}(hp:c7 [] p=true):fN (bt p)=true∧(bt p).Perm p∧lf (bt p)∧qW p=(bt p,0):=by
 obtain ⟨h1,h2⟩:=nI (jG hp);exact ⟨Zh hp h1 h2,h1,h2,by rw[qW,if_pos hp]⟩
theorem vP{p q:List ah}(hp:c7 [] p=true)(hq:c7 [] q=true)(h:∀ r∈p,r∈q):gU (bt p) (bt q)=(bt q,0)∧gU (bt q) (bt p)=(bt q,0):=by
 obtain ⟨a1,a2,a3,_⟩:=lQ hp;obtain ⟨b1,b2,b3,_⟩:=lQ hq;have hl:(bt q).length≤60:=by rw[iT];exact ke hq
 have ha:∀ r∈bt p,r∈q:=fun r hr=>h r (a2.mem_iff.1 hr);have hb:∀ r∈bt q,r∈q:=fun r hr=>b2.mem_iff.1 hr;have hab:∀ r∈bt p,r∈bt q:=fun r hr=>b2.mem_iff.2 (ha r hr);constructor
 ·obtain ⟨s1,s2⟩:=nI (vO a3 b3);have e:=V4 a3 b3 hab s1 s2;have el:(bt p++dU (bt p) (bt q)).length=(bt q).length:=by rw[←iT,e]
  rw[vN a1 b1 (Aw (jG hq) ha hb),e,if_neg (by omega)]
 ·have e:dU (bt q) (bt p)=[]:=Wb hab;have e2:bt (bt q)=bt q:=Fc (jG hq) b2;rw[vN b1 a1 (Aw (jG hq) hb ha),e,zw1,e2,if_neg (by omega)]
theorem Gx{s:List ah}{r:ah}(h:c7 [] (s++[r])=true):iC (bt s) r=(bt (s++[r]),0):=by
 obtain ⟨h1,h2,h3⟩:=xK.1 h;obtain ⟨b1,b2,b3,_⟩:=lQ h1;simp only[c8,Z0,decide_eq_true_eq] at h3;have hn:gN s:=by have:=ff.wg gN.nil ((pw s []).1 h1);simpa using this
 have hh:gE (bt s) r.bf=false:=by
  rw[gE,List.any_eq_false];intro q hq k;have hqs:=b2.mem_iff.1 hq;simp only[decide_eq_true_eq,ah.bf,Item.mk.injEq] at k;have:=(hn.lt q hqs).2;rw[k.1,h3.2,k.2] at this;omega
 have hc:cG (bt s) r.aJ=cG s r.aJ:=b2.countP_eq _;rw[iC,b1,h2,hh,hc,iT,Zf,Yn,if_neg (by decide),if_neg (by decide),if_neg (by decide),if_neg (by omega),if_neg (by omega)]
def lU(a b:List ah):Bool:=a.all fun r=>b.any fun q=>decide (r=q)
theorem FC{a b:List ah}(h:∀ r∈a,r∈b):lU a b=true:=by
 rw[lU,zy5];exact fun r hr=>List.any_eq_true.2 ⟨r,h r hr,by simp⟩
theorem xY(a b:List ah)(ha:a.length≤4000000000000)(hb:b.length≤4000000000000):aS Tryz.prog 43 [enc a,enc b] (enc (lU a b)):=by
 refine aS.bT Tryz.func43 Ip JA KS (t8 rfl) (fun hwf W0 bI E1 =>?_);simp only[zx,DE,bF,Z5];clear hwf;have R:=aD
 repeat' ((first |(with_reducible refine .guard (fun hb =>?_) (fun hb =>?_) <;>try simp only[hb])|refine U.aG (by decide +kernel) rfl fun K hK =>?_|(refine .aE [0,1,4,5,6,7,11,17,33] hK ?_;clear hK K)|(with_reducible refine .done (hK _ ?_);clear hK K)|refine U.of rfl ?_|(with_reducible refine aw.aF (fun h =>?_) (fun h =>?_) <;>try simp only[h])) <;>try simp only[aH,R,simprocAttr])
 all_goals clear R
 refine U.loop (fun i:Nat=>aq [(0,enc a),(1,enc b),(5,.int .i64 i)] []) (fun i=>i≤a.length∧lU (a.take i) b=true) (fun i=>a.length-i) 0 ⟨zx8 _,rfl⟩ ?_ ?_
 ·refine bg.bZ ?_ ?_ ?_ ?_ <;>simp[bK,bO,bG,bE,bN,I.only,br]
 rintro i ⟨hi,hw0⟩;by_cases hlt:i<a.length
 rotate_left
 ·have hc:=fB hlt;have:lU a b=true:=by rw[zx3 (by omega)] at hw0;exact hw0
  rw[this];have R:=y6 @hc aD
  repeat' ((first |(with_reducible refine .guard (fun hb =>?_) (fun hb =>?_) <;>try simp only[hb])|refine U.aG (by decide +kernel) rfl fun K hK =>?_|(refine .aE [0,1,4,5,6,7,11,17,33] hK ?_;clear hK K)|(with_reducible refine .done (hK _ ?_);clear hK K)|refine U.of rfl ?_|(with_reducible refine aw.aF (fun h =>?_) (fun h =>?_) <;>try simp only[h])) <;>try simp only[aH,R,simprocAttr])
  all_goals clear R
  all_goals rfl
 have hc:=e9 hlt;have he:=fun A=>eS (A:=A) 8 hlt rfl;have hw:=eO (i:=i) (by omega);have hyes:(b.any fun q=>decide (a[i]=q))=true→lU (a.take (i+1)) b=true:=fun h=>by
  rw[lU] at hw0 ⊢;rw[fW hlt,List.all_append,hw0];simp only[List.all_cons,h,List.all_nil,Bool.and_self]
 have hno:(b.any fun q=>decide (a[i]=q))=false→lU a b=false:=fun h=>by
  rw[lU,List.all_eq_false];exact ⟨a[i],zw0 hlt,by rw[h];decide⟩
 generalize a[i]=r at *;have R:=y6 @hc aD
 repeat' ((first |(with_reducible refine .guard (fun hb =>?_) (fun hb =>?_) <;>try simp only[hb])|refine U.aG (by decide +kernel) rfl fun K hK =>?_|(refine .aE [0,1,4,5,6,7,11,17,33] hK ?_;clear hK K)|(with_reducible refine .done (hK _ ?_);clear hK K)|refine U.of rfl ?_|(with_reducible refine aw.aF (fun h =>?_) (fun h =>?_) <;>try simp only[h])) <;>try simp only[aH,R,simprocAttr])
 all_goals clear R
 refine U.loop (fun k:Nat=>aq [(0,enc a),(1,enc b),(5,.int .i64 i),(6,enc ((b.take k).any fun q=>decide (r=q))),(7,.int .i64 k)] []) (fun k=>k≤b.length) (fun k=>b.length-k) 0 (zx8 _) ?_ ?_
 ·refine bg.bZ ?_ ?_ ?_ ?_ <;>simp[bK,bO,bG,bE,bN,I.only,br,Az]
  all_goals rfl
 intro k hk;by_cases hkt:k<b.length
 rotate_left
 ·have hkc:=fB hkt;have:b.take k=b:=zx3 (by omega);rw[this];cases q:b.any fun q=>decide (r=q)
  ·rw[hno q];have R:=y6 @hkc aD
   repeat' ((first |(with_reducible refine .guard (fun hb =>?_) (fun hb =>?_) <;>try simp only[hb])|refine U.aG (by decide +kernel) rfl fun K hK =>?_|(refine .aE [0,1,4,5,6,7,11,17,33] hK ?_;clear hK K)|(with_reducible refine .done (hK _ ?_);clear hK K)|refine U.of rfl ?_|(with_reducible refine aw.aF (fun h =>?_) (fun h =>?_) <;>try simp only[h])) <;>try simp only[aH,R,simprocAttr])
   all_goals clear R
   all_goals rfl
  ·have hy:=hyes q;have R:=y6 @hkc (y6 @hw aD)
   repeat' ((first |(with_reducible refine .guard (fun hb =>?_) (fun hb =>?_) <;>try simp only[hb])|refine U.aG (by decide +kernel) rfl fun K hK =>?_|(refine .aE [0,1,4,5,6,7,11,17,33] hK ?_;clear hK K)|(with_reducible refine .done (hK _ ?_);clear hK K)|refine U.of rfl ?_|(with_reducible refine aw.aF (fun h =>?_) (fun h =>?_) <;>try simp only[h])) <;>try simp only[aH,R,simprocAttr])
   all_goals clear R
   refine ⟨i+1,⟨by omega,hy⟩,by omega,?_⟩;refine bg.bZ ?_ ?_ ?_ ?_ <;>simp[bK,bO,bG,bE,bN,I.only,br]
 have hkc:=e9 hkt;have hke:=fun A=>eS (A:=A) 8 hkt rfl;have hkw:=eO (i:=k) (by omega);have hnx:((b.take (k+1)).any fun q=>decide (r=q))=(((b.take k).any fun q=>decide (r=q))||decide (r=b[k])):=by
  rw[fW hkt,List.any_append];simp
 generalize b[k]=x at *;cases q:(b.take k).any fun q=>decide (r=q)
 ·rw[q,Bool.false_or] at hnx;cases q2:decide (r=x)
  ·rw[q2] at hnx;have R:=y6 @hkc (y6 @hke (y6 @he (y6 @hkw (y6 @q2 aD))))
   repeat' ((first |(with_reducible refine .guard (fun hb =>?_) (fun hb =>?_) <;>try simp only[hb])|refine U.aG (by decide +kernel) rfl fun K hK =>?_|(refine .aE [0,1,4,5,6,7,11,17,33] hK ?_;clear hK K)|(with_reducible refine .done (hK _ ?_);clear hK K)|refine U.of rfl ?_|(with_reducible refine aw.aF (fun h =>?_) (fun h =>?_) <;>try simp only[h])) <;>try simp only[aH,R,simprocAttr])
   all_goals clear R
   refine ⟨k+1,by omega,by omega,?_⟩;rw[hnx];refine bg.bZ ?_ ?_ ?_ ?_ <;>simp[bK,bO,bG,bE,bN,I.only,br]
   all_goals rfl
  ·rw[q2] at hnx;have R:=y6 @hkc (y6 @hke (y6 @he (y6 @hkw (y6 @q2 aD))))
   repeat' ((first |(with_reducible refine .guard (fun hb =>?_) (fun hb =>?_) <;>try simp only[hb])|refine U.aG (by decide +kernel) rfl fun K hK =>?_|(refine .aE [0,1,4,5,6,7,11,17,33] hK ?_;clear hK K)|(with_reducible refine .done (hK _ ?_);clear hK K)|refine U.of rfl ?_|(with_reducible refine aw.aF (fun h =>?_) (fun h =>?_) <;>try simp only[h])) <;>try simp only[aH,R,simprocAttr])
   all_goals clear R
   refine ⟨k+1,by omega,by omega,?_⟩;rw[hnx];refine bg.bZ ?_ ?_ ?_ ?_ <;>simp[bK,bO,bG,bE,bN,I.only,br]
   all_goals rfl
 ·rw[q,Bool.true_or] at hnx;have R:=y6 @hkc (y6 @hke (y6 @he (y6 @hkw aD)))
  repeat' ((first |(with_reducible refine .guard (fun hb =>?_) (fun hb =>?_) <;>try simp only[hb])|refine U.aG (by decide +kernel) rfl fun K hK =>?_|(refine .aE [0,1,4,5,6,7,11,17,33] hK ?_;clear hK K)|(with_reducible refine .done (hK _ ?_);clear hK K)|refine U.of rfl ?_|(with_reducible refine aw.aF (fun h =>?_) (fun h =>?_) <;>try simp only[h])) <;>try simp only[aH,R,simprocAttr])
  all_goals clear R
  refine ⟨k+1,by omega,by omega,?_⟩;rw[hnx];refine bg.bZ ?_ ?_ ?_ ?_ <;>simp[bK,bO,bG,bE,bN,I.only,br]
  all_goals rfl
theorem bg.WV{ts:List (Nat×I)}{os:List (Nat×ai)}(m z:Nat)(p:List Nat)(b:I)(hm:aA os m=some (.box b))(hp:b.at p=some (.nils z)):bg (aq ts os) (aq ts ((m,.box (b.du p (.slice z [])))::os)):=by
 rintro c a w ⟨D,E,h⟩;refine ⟨D,E,h.sz,h.dT,h.dv,h.db,h.cH,h.cN,fun k =>?_,h.cw,h.dp,h.ee,h.cz,h.eF,h.fe⟩;have ho:=h.bB k;simp only[aq,aA] at ho ⊢;split
 ·rename_i hk;subst hk;rw[hm] at ho;obtain ⟨b',cs,T',h1,h2,h3,h4,h5⟩:=ho;obtain ⟨q1,q2⟩:=D7 (y:=.slice z []) h4 hp (fun ds hd=>by
   simp only[ae] at hd;subst hd;refine ⟨none,0,rfl,Z4 _,zx8 _,.inl rfl,by simp⟩) rfl
  exact ⟨b',cs,T',by rw[q2];exact h1,h2,h3.aL q2,q1,h5⟩
 ·exact ho
theorem oi{l:List ah}(h:l.Pairwise (fun x y=>¬ (x.aJ=y.aJ∧x.no=y.no))):l.Nodup:=h.imp fun {x y} k e=>k ⟨by rw[e],by rw[e]⟩
theorem xA{s W:List ah}(hs:s.Nodup)(hW:W.Nodup)(h:∀ r∈s,r∈W):s.length≤W.length:=by
 have p:s.Perm (W.filter fun r=>decide (r∈s)):=(List.perm_ext_iff_of_nodup hs (hW.sublist List.filter_sublist)).2 fun r=>by
  rw[List.mem_filter,decide_eq_true_eq];exact ⟨fun k=>⟨h r k,k⟩,fun k=>k.2⟩
 rw[p.length_eq];exact List.length_filter_le _ _
structure jH (W:List ah) (h:Int) (s:List ah):Prop where
 mD:c7 [] s=true
 fk:∀ r,r∈s↔r∈W∧h<r.aJ
structure kg (W:List ah) (h:Int) (k:Nat) (s:List ah):Prop where
 mD:c7 [] s=true
 fk:∀ r,r∈s↔r∈W∧(h<r.aJ∨(r.aJ=h∧r∈W.take k))
 uS:cG s h=cG (W.take k) h
theorem jH.nil{W:List ah}(hW:∀ r∈W,r.aJ≤2):jH W 2 []:=⟨rfl,fun r=>⟨fun h=>by simp at h,fun h=>by have:=hW r h.1;omega⟩⟩
theorem jH.VO{W s:List ah}{h:Int}(o:jH W h s):kg W h 0 s:=by
 refine ⟨o.mD,fun r=>by rw[o.fk];simp,?_⟩;rw[List.take_zero,cG,cG,List.countP_nil,List.countP_eq_zero];intro r hr;have:=((o.fk r).1 hr).2;rw[decide_eq_true_eq];omega
theorem kg.out{W s:List ah}{h:Int}(o:kg W h W.length s):jH W (h-1) s:=by
 refine ⟨o.mD,fun r =>?_⟩;rw[o.fk,List.take_length];constructor
 ·rintro ⟨h1,h2⟩;exact ⟨h1,by omega⟩
 ·rintro ⟨h1,h2⟩;refine ⟨h1,?_⟩;by_cases e:r.aJ=h
  ·exact .inr ⟨e,h1⟩
  ·exact .inl (by omega)
theorem Ai{W:List ah}{k:Nat}(hk:k<W.length)(h:Int):cG (W.take (k+1)) h=cG (W.take k) h+if W[k].aJ=h then 1 else 0:=by
 rw[fW hk,l9]
theorem kg.skip{W s:List ah}{h:Int}{k:Nat}(o:kg W h k s)(hk:k<W.length)(hm:W[k].aJ≠h):kg W h (k+1) s:=by
 refine ⟨o.mD,fun r =>?_,by rw[o.uS,Ai hk,if_neg hm];rfl⟩;rw[o.fk,fW hk,zy0,zy6];constructor
 ·rintro ⟨h1,h2 | h2⟩
  ·exact ⟨h1,.inl h2⟩
  ·exact ⟨h1,.inr ⟨h2.1,.inl h2.2⟩⟩
 ·rintro ⟨h1,h2 | ⟨h2,h3 | h3⟩⟩
  ·exact ⟨h1,.inl h2⟩
  ·exact ⟨h1,.inr ⟨h2,h3⟩⟩
  ·rw[h3] at h2;exact absurd h2 hm
theorem kg.add{W s:List ah}{h:Int}{k:Nat}(hW:c7 [] W=true)(hl:W.length≤20)(o:kg W h k s)(hk:k<W.length)(hm:W[k].aJ=h):c7 [] (s++[W[k]])=true∧kg W h (k+1) (s++[W[k]]):=by
 have hx:c7 (W.take k) (W.drop k)=true:=by
  have:=hW;rw[←List.take_append_drop k W,xJ,Z0,zz3] at this;exact this.2
 rw[FE hk,Z0,Z0] at hx;obtain ⟨⟨x1,x2⟩,_⟩:=hx;simp only[c8,Z0,decide_eq_true_eq] at x2;have hsl:s.length≤W.length:=xA (oi (jG o.mD)) (oi (jG hW)) fun r hr=>((o.fk r).1 hr).1;have h1:c7 [] (s++[W[k]])=true:=xK.2 ⟨o.mD,x1,by
  simp only[c8,Z0,decide_eq_true_eq];refine ⟨by omega,?_⟩;rw[hm,o.uS,←hm];exact x2.2⟩
 refine ⟨h1,h1,fun r =>?_,by rw[l9,o.uS,Ai hk]⟩;rw[zy0,zy6,o.fk,fW hk,zy0,zy6];constructor
 ·rintro (⟨h1,h2 | h2⟩ | h2)
  ·exact ⟨h1,.inl h2⟩
  ·exact ⟨h1,.inr ⟨h2.1,.inl h2.2⟩⟩
  ·rw[h2];exact ⟨zw0 hk,.inr ⟨hm,.inr rfl⟩⟩
 ·rintro ⟨h1,h2 | ⟨h2,h3 | h3⟩⟩
  ·exact .inl ⟨h1,.inl h2⟩
  ·exact .inl ⟨h1,.inr ⟨h2,h3⟩⟩
  ·exact .inr h3
theorem jH.bd{W s:List ah}(hW:c7 [] W=true)(o:jH W (-1) s):bt s=bt W:=by
 refine Fc (jG hW) ((List.perm_ext_iff_of_nodup (oi (jG o.mD)) (oi (jG hW))).2 fun r =>?_);rw[o.fk];exact ⟨fun h=>h.1,fun h=>⟨h,by have:=(nf (tT hW r h)).1;omega⟩⟩
theorem Ej:∀ (l:List eX) (out:List ah),(∀ r∈out,r.aJ≤2)→∀ r∈ft out l,r.aJ≤2
 | [],_,h=>h
 |n::l,out,h=>Ej l _ fun r hr=>by
  rcases zy0.1 hr with k | k
  ·exact h r k
  ·rw[zy6.1 k];exact (Ee out n).2
theorem xq:(∀ A n b rest (q r:di),dW A (some 1) n [] b (enc q) rest (some (enc r))=ar rest (A.aQ n (.box (enc q))))∧(∀ q:di,b6 (some 1) (enc q)=true) :=
 ⟨fun A n b rest q r=>by rw[eV (s:=some 1) (v:=enc q) (old:=enc r) (eQ _) rfl rfl,fM],fun _=>rfl⟩
theorem WR:(∀ d rest A x y,bo A d (.max2 x y) rest=cq (qw (af A x) (af A y)) (cF d rest A))∧(∀ a b,qw (.int .i64 a) (.int .i64 b)=some (.int .i64 (if b>a then b else a))):=⟨fun _ _ _ _ _=>rfl,fun _ _=>rfl⟩
def ui(W:List ah)(h:Int)(s:List ah):ab:=aq [(8,enc W),(21,.ptr 21 []),(22,.int .i64 h)] [(21,.box (enc (⟨bt s⟩:di)))]
def uj(W:List ah)(h:Int)(k:Nat)(s:List ah):ab:=aq [(8,enc W),(21,.ptr 21 []),(22,.int .i64 h),(23,.int .i64 (k:Int))] [(21,.box (enc (⟨bt s⟩:di)))]
theorem FK(l:List eX)(hl:l.length≤4000000000000)(n m:Int):aS Tryz.prog 10 [enc l,enc n,enc m] (enc true):=by
 refine aS.bT Tryz.func10 HC IY Ke (t8 rfl) (fun hwf W0 bI E1 =>?_);simp only[yP,CX,bF,Z5,Nat.reduceAdd];clear hwf;have pn:=jX n (n:=21) (by decide);have pm:=jX m (n:=21) (by decide);have fn:=lW n 21 (by decide);have fm:=lW m 21 (by decide);have fw:=ub l hl 20 (by decide);have fp:=ub l hl (bA n 21) (by omega);have fq:=ub l hl (bA m 21) (by omega);have w1:=wP l (most:=20) (by decide);have w2:=wP l (most:=bA n 21) (by omega);have w3:=wP l (most:=bA m 21) (by omega);have hWl:(cU l 20).length≤20:=(Yx l 20).2;have hWm:∀ r∈cU l 20,r.aJ≤2:=Ej _ _ fun r hr=>by cases hr
 obtain ⟨X,hX1,hX2,hX3,hX4,hX5,hXl,hXn⟩:∃ X:List ah,gU (bt (cU l (bA n 21))) (bt (cU l (bA m 21)))=(X,0)∧gU (bt (cU l (bA m 21))) (bt (cU l (bA n 21)))=(X,0)∧gU X (bt (cU l (bA n 21)))=(X,0) ∧
   (∀ r∈bt (cU l (bA n 21)),r∈X)∧(∀ r∈bt (cU l (bA m 21)),r∈X)∧(X.length:Int)=(if ((bt (cU l (bA m 21))).length:Int)>((bt (cU l (bA n 21))).length:Int) then ((bt (cU l (bA m 21))).length:Int) else ((bt (cU l (bA n 21))).length:Int))∧X.length≤60:=by
  have n1:=oi (jG w2);have n2:=oi (jG w3);have b1:=(lQ w2).2.1;have b2:=(lQ w3).2.1;have l1:=ke w2;have l2:=ke w3;by_cases hle:bA n 21≤bA m 21
  ·have hs:=Ef l hle;have hc:=xA n1 n2 hs;obtain ⟨j1,j2⟩:=vP w2 w3 hs;refine ⟨_,j1,j2,j2,fun r hr=>b2.mem_iff.2 (hs r (b1.mem_iff.1 hr)),fun r hr=>hr,?_,by rw[iT];omega⟩;rw[iT,iT];split <;>omega
  ·have hs:=Ef l (show bA m 21≤bA n 21 by omega);have hc:=xA n2 n1 hs;obtain ⟨j1,j2⟩:=vP w3 w2 hs;obtain ⟨j3,_⟩:=vP w2 w2 (fun r hr=>hr);refine ⟨_,j2,j1,j3,fun r hr=>hr,fun r hr=>b1.mem_iff.2 (hs r (b2.mem_iff.1 hr)),?_,by rw[iT];omega⟩;rw[iT,iT,if_neg (by omega)]
 have g1:=ud (cU l 20) (by omega);have g2:=ud (cU l (bA n 21)) (by have:=ke w2;omega);have g3:=ud (cU l (bA m 21)) (by have:=ke w3;omega);rw[(lQ w1).2.2.2] at g1;rw[(lQ w2).2.2.2] at g2;rw[(lQ w3).2.2.2] at g3;have hAl:(bt (cU l (bA n 21))).length≤60:=by rw[iT];exact ke w2
 have hBl:(bt (cU l (bA m 21))).length≤60:=by rw[iT];exact ke w3
 have k1:=uc (bt (cU l (bA n 21))) (bt (cU l (bA m 21))) (by omega) (by omega);have k2:=uc (bt (cU l (bA m 21))) (bt (cU l (bA n 21))) (by omega) (by omega);have k3:=uc X (bt (cU l (bA n 21))) (by omega) (by omega);rw[hX1] at k1;rw[hX2] at k2;rw[hX3] at k3;have t1:=xY (bt (cU l (bA n 21))) X (by omega) (by omega);have t2:=xY (bt (cU l (bA m 21))) X (by omega) (by omega);rw[FC hX4] at t1;rw[FC hX5] at t2;have s1:=xW X X (by omega);rw[decide_eq_true rfl] at s1;have s2:=xW (bt (cU l 20)) (bt (cU l 20)) (by rw[iT];omega);rw[decide_eq_true rfl] at s2;have f45:=Ge (bt (cU l 20)) (by rw[iT];omega);rw[uQ,(lQ w1).1,if_pos rfl] at f45;clear w2 w3 hX1 hX2 hX3 hX4 hX5 pn pm;generalize bt (cU l (bA n 21))=A at *;generalize bt (cU l (bA m 21))=B at *;generalize cU l (bA n 21)=P at *;generalize cU l (bA m 21)=Q at *;generalize cU l 20=W at *;generalize bA n 21=n' at *;generalize bA m 21=m' at *;have hmx:((X.length:Int) != (if (B.length:Int)>(A.length:Int) then (B.length:Int) else (A.length:Int)))=false:=by rw[←hXl];simp
 clear hXl;have R:=y6 @hmx (y6 @WR (y6 @ej (y6 @xq (y6 @jf aD))))
 repeat' ((first |(with_reducible refine .guard (fun hb =>?_) (fun hb =>?_) <;>try simp only[hb])|refine U.aG (by decide +kernel) rfl fun K hK =>?_|refine .flat _ (F0) rfl ?_|refine .flat _ (fn) rfl ?_|refine .flat _ (fm) rfl ?_|refine .lead _ (fw) ?_|refine .lead _ (fp) ?_|refine .lead _ (fq) ?_|refine .lead _ (g1) ?_|refine .lead _ (g2) ?_|refine .lead _ (g3) ?_|refine .lead _ (k1) ?_|refine .lead _ (k2) ?_|refine .lead _ (k3) ?_|refine .flat _ (s1) rfl ?_|refine .flat _ (t1) rfl ?_|refine .flat _ (t2) rfl ?_|(refine .aE [0,1,2,6,7,8,9,10,11,12,13,14,15,16,17,18,19,20,21,22,23,24,25,26,27,28,87,132,134,140,150,161] hK ?_;clear hK K)|(with_reducible refine .done (hK _ ?_);clear hK K)|refine U.of rfl ?_|(with_reducible refine aw.aF (fun h =>?_) (fun h =>?_) <;>try simp only[h])) <;>try simp only[aH,R,simprocAttr])
 all_goals clear R
 clear k1 k2 k3 g2 g3 fw fp fq s1 t1 t2;refine U.loop (fun x:Nat×List ah=>ui W ((x.1:Int)-1) x.2) (fun x=>x.1≤3∧jH W ((x.1:Int)-1) x.2) (fun x=>x.1) (3,[]) ⟨Z4 _,by have:=jH.nil hWm;simpa using this⟩ ?_ ?_
 ·simp only[ui];refine (bg.WV 21 8 [0] (.agg [.nils 8]) rfl rfl).trans ?_;simp only[show (I.agg [.nils 8]).du [0] (.slice 8 [])=enc (⟨bt []⟩:di) from rfl];refine bg.bZ ?_ ?_ ?_ ?_ <;>simp[bK,bO,bG,bE,ao,bN,cI,I.only,ai.only,br]
 rintro ⟨j,s⟩ ⟨hj,ho⟩;simp only at hj ho;simp only[ui];cases j with
 |zero =>
  obtain ⟨h,hh⟩:∃ h:Int,h=((0:Nat):Int)-1:=⟨_,rfl⟩
  rw[←hh] at ho ⊢;have ak:=jH.bd w1 (show jH W (-1) s by rw[show (-1:Int)=h by omega];exact ho);have hc:decide (h≥0)=false:=decide_eq_false (by omega);rw[ak];generalize bt W=Z at *;have R:=y6 @hc (y6 @ej (y6 @xq (y6 @jf aD)))
  repeat' ((first |(with_reducible refine .guard (fun hb =>?_) (fun hb =>?_) <;>try simp only[hb])|refine U.aG (by decide +kernel) rfl fun K hK =>?_|refine .lead _ (g1) ?_|refine .flat _ (s2) rfl ?_|refine .flat _ (f45) rfl ?_|(refine .aE [0,1,2,6,7,8,9,10,11,12,13,14,15,16,17,18,19,20,21,22,23,24,25,26,27,28,87,132,134,140,150,161] hK ?_;clear hK K)|(with_reducible refine .done (hK _ ?_);clear hK K)|refine U.of rfl ?_|(with_reducible refine aw.aF (fun h =>?_) (fun h =>?_) <;>try simp only[h])) <;>try simp only[aH,R,eq_self,simprocAttr])
  all_goals clear R
 |succ j =>
 obtain ⟨h,hh⟩:∃ h:Int,h=((j+1:Nat):Int)-1:=⟨_,rfl⟩
 rw[←hh] at ho ⊢;have hc:decide (h≥0)=true:=decide_eq_true (by omega);have R:=y6 @hc aD
 repeat' ((first |(with_reducible refine .guard (fun hb =>?_) (fun hb =>?_) <;>try simp only[hb])|refine U.aG (by decide +kernel) rfl fun K hK =>?_|(refine .aE [0,1,2,6,7,8,9,10,11,12,13,14,15,16,17,18,19,20,21,22,23,24,25,26,27,28,87,132,134,140,150,161] hK ?_;clear hK K)|(with_reducible refine .done (hK _ ?_);clear hK K)|refine U.of rfl ?_|(with_reducible refine aw.aF (fun h =>?_) (fun h =>?_) <;>try simp only[h])) <;>try simp only[aH,R,simprocAttr])
 all_goals clear R
 refine U.loop (fun x:Nat×List ah=>uj W h x.1 x.2) (fun x=>x.1≤W.length∧kg W h x.1 x.2) (fun x=>W.length-x.1) (0,s) ⟨zx8 _,ho.VO⟩ ?_ ?_
 ·simp only[uj];refine bg.bZ ?_ ?_ ?_ ?_ <;>simp[bK,bO,bG,bE,ao,bN,cI,I.only,ai.only,br]
 rintro ⟨k,s'⟩ ⟨hk,hi⟩;simp only at hk hi;simp only[uj];by_cases hkt:k<W.length
 rotate_left
 ·have hkc:=fB hkt;have hke:k=W.length:=by omega
  rw[hke] at hi;have hO:=hi.out;have hwr:IntKind.i64.wrap (h-1)=h-1:=dX _ (by omega) (by omega);have R:=y6 @hkc (y6 @hwr aD)
  repeat' ((first |(with_reducible refine .guard (fun hb =>?_) (fun hb =>?_) <;>try simp only[hb])|refine U.aG (by decide +kernel) rfl fun K hK =>?_|(refine .aE [0,1,2,6,7,8,9,10,11,12,13,14,15,16,17,18,19,20,21,22,23,24,25,26,27,28,87,132,134,140,150,161] hK ?_;clear hK K)|(with_reducible refine .done (hK _ ?_);clear hK K)|refine U.of rfl ?_|(with_reducible refine aw.aF (fun h =>?_) (fun h =>?_) <;>try simp only[h])) <;>try simp only[aH,R,simprocAttr])
  all_goals clear R
  refine ⟨(j,s'),⟨by simp only;omega,by simp only;rw[show (j:Int)-1=h-1 by omega];exact hO⟩,by simp only;omega,?_⟩;rw[show ((j,s').1:Int)-1=h-1 by simp only;omega];refine bg.bZ ?_ ?_ ?_ ?_ <;>simp[bK,bO,bG,bE,ao,bN,cI,I.only,ai.only,br]
 have hkc:=e9 hkt;have hke:=fun A=>eS (A:=A) 8 hkt rfl;have hkw:=eO (i:=k) (by omega);by_cases hm:W[k].aJ=h
 rotate_left
 ·have hq:(W[k].aJ != h)=true:=by simp[hm]
  have hi':=hi.skip hkt hm;generalize W[k]=r at *;have R:=y6 @hkc (y6 @hke (y6 @hkw (y6 @hq aD)))
  repeat' ((first |(with_reducible refine .guard (fun hb =>?_) (fun hb =>?_) <;>try simp only[hb])|refine U.aG (by decide +kernel) rfl fun K hK =>?_|(refine .aE [0,1,2,6,7,8,9,10,11,12,13,14,15,16,17,18,19,20,21,22,23,24,25,26,27,28,87,132,134,140,150,161] hK ?_;clear hK K)|(with_reducible refine .done (hK _ ?_);clear hK K)|refine U.of rfl ?_|(with_reducible refine aw.aF (fun h =>?_) (fun h =>?_) <;>try simp only[h])) <;>try simp only[aH,R,simprocAttr])
  all_goals clear R
  refine ⟨(k+1,s'),⟨by simp only;omega,hi'⟩,by simp only;omega,?_⟩;refine bg.bZ ?_ ?_ ?_ ?_ <;>simp[bK,bO,bG,bE,ao,bN,cI,I.only,ai.only,br]
 ·have hq:(W[k].aJ != h)=false:=by simp[hm]
  obtain ⟨hwn,hi'⟩:=hi.add w1 hWl hkt hm;have hsl:(bt s').length≤60:=by rw[iT];exact ke hi.mD
  have f44:=xZ (bt s') W[k] (by omega);rw[Gx hwn] at f44;generalize W[k]=r at *;generalize hz2:bt (s'++[r])=z2 at *;generalize bt s'=z1 at *;have R:=y6 @hkc (y6 @hke (y6 @hkw (y6 @hq (y6 @ej (y6 @xq (y6 @jf aD))))))
  repeat' ((first |(with_reducible refine .guard (fun hb =>?_) (fun hb =>?_) <;>try simp only[hb])|refine U.aG (by decide +kernel) rfl fun K hK =>?_|refine .lead _ (f44) ?_|(refine .aE [0,1,2,6,7,8,9,10,11,12,13,14,15,16,17,18,19,20,21,22,23,24,25,26,27,28,87,132,134,140,150,161] hK ?_;clear hK K)|(with_reducible refine .done (hK _ ?_);clear hK K)|refine U.of rfl ?_|(with_reducible refine aw.aF (fun h =>?_) (fun h =>?_) <;>try simp only[h])) <;>try simp only[aH,R,simprocAttr])
  all_goals clear R
  refine ⟨(k+1,s'++[r]),⟨by simp only;omega,hi'⟩,by simp only;omega,?_⟩;simp only[hz2];refine bg.bZ ?_ ?_ ?_ ?_ <;>simp[bK,bO,bG,bE,ao,bN,cI,I.only,ai.only,br]
end Go.Proofs.YtoffnnjbplgnaaaGreatDoor
