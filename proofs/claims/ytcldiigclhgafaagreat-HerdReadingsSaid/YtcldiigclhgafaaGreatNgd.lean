/-
  A part of the proof that the law HerdReadings returns true for every input; conditions: none beyond the statement's own. (part 4 of 7)
-/
import Derived.Shelf.Sort.Plain
import Derived.Shelf.Slices.In.SortNone
import Derived.Test.YtcldiigclhgafaaGreatNgc
set_option linter.unusedSimpArgs false
set_option linter.unusedVariables false
set_option maxHeartbeats 16000000
set_option maxRecDepth 100000
namespace Go.Proofs.YtcldiigclhgafaaGreat
open Go Go.Abs
open Go.Abs.Enc (enc)
structure cq where
 bP:Int
 mark:aW 6 Int
instance:Enc cq where
 enc g:=.agg [.int .i64 g.bP,enc g.mark]
 sz:=7
 aQ:=.ep [.one,.ep (List.replicate 6 .one)]
 gz:=true
 done g:=by simp only[I.done,I.eS,Enc.done,zw5]
 size g:=by simp only[I.size,I.sizes,gH,kU,kV]
 kJ g:=by simp only[I.aQ,I.cS,eL,sX,sY]
 agg _:=rfl
structure bU where
 eV:aW 5 Int
 eT:Int
 given:List cq
instance:Enc bU where
 enc m:=.agg [enc m.eV,.int .i64 m.eT,enc m.given]
 sz:=7
 aQ:=.ep [.ep (List.replicate 5 .one),.one,.one]
 gz:=true
 done m:=by simp only[I.done,I.eS,Enc.done,zw5]
 size m:=by simp only[I.size,I.sizes,gH,kU,kV,v7]
 kJ m:=by simp only[I.aQ,I.cS,eL,sX,sY,D8]
 agg _:=rfl
theorem mf{fs:List I}{f off:Nat}{v:I}(h1:f<fs.length)(h:I.sizes (fs.take f)=off):ef fs f off v=some v:=by simp[ef,h,h1]
theorem cI :
  (∀ m:bU,(enc m).dH=some [enc m.eV,.int .i64 m.eT,enc m.given])∧(∀ g:cq,(enc g).dH=some [.int .i64 g.bP,enc g.mark]) ∧
  (∀ (w:aW 5 Int) (n:Int) (g:List cq) v,ef [enc w,.int .i64 n,enc g] 0 0 v=some v)∧(∀ (w:aW 5 Int) (n:Int) (g:List cq) v,ef [enc w,.int .i64 n,enc g] 1 5 v=some v)∧(∀ (w:aW 5 Int) (n:Int) (g:List cq) v,ef [enc w,.int .i64 n,enc g] 2 6 v=some v) ∧
  (∀ (n:Int) (m:aW 6 Int) v,ef [.int .i64 n,enc m] 0 0 v=some v)∧(∀ (n:Int) (m:aW 6 Int) v,ef [.int .i64 n,enc m] 1 1 v=some v) ∧
  (∀ (g:List cq),b8 none (enc g)=true)∧(∀ (g:List Int),b8 none (enc g)=true)∧(∀ (g:aW 5 Int),b8 (some 5) (enc g)=true)∧(∀ (g:aW 6 Int),b8 (some 6) (enc g)=true)∧(∀ (g:cq),b8 (some 7) (enc g)=true)∧(∀ (g:bU),b8 (some 7) (enc g)=true) ∧
  (∀ (fs:List I) x,(x::fs)[0]?=some x)∧(∀ (fs:List I) x n,(x::fs)[n+1]?=fs[n]?)∧(∀ (fs:List I) x,(x::fs)[1]?=fs[0]?)∧(∀ (fs:List I) x,(x::fs)[2]?=fs[1]?) :=
 ⟨fun _=>rfl,fun _=>rfl,fun _ _ _ _=>mf (t7 rfl) rfl,fun w n g v=>mf (t7 rfl) (by simp[I.sizes,gH,kU,kV]),fun w n g v=>mf (t7 rfl) (by simp[I.sizes,I.size,gH,kU,kV]),fun _ _ _=>mf (t7 rfl) rfl,fun _ _ _=>mf (t7 rfl) (by simp[I.sizes,I.size]),
  fun _=>by simp[mT,nJ],fun _=>by simp[mT,nJ],fun _=>by simp[fL,vZ,kU,kV],fun _=>by simp[fL,vZ,kU,kV],fun _=>by rw[fL];rfl,fun _=>by rw[fL];rfl,
  fun _ _=>rfl,fun _ _ _=>rfl,fun _ _=>rfl,fun _ _=>rfl⟩
theorem sq(n lo hi:Int):ay Tryz.prog 121 [enc n,enc lo,enc hi] (enc (cj lo hi n)):=by
 refine ay.bn Tryz.func121 SQ UL WW (t7 rfl) (fun hwf W0 D0 E1 =>?_);simp only[Bi,MU,bg,zz4,Nat.reduceAdd];refine .ao (by decide +kernel) fun K hK =>?_;simp only[Fz,U,simprocAttr];refine .done (hK _ ?_);clear hK K;refine .ao (by decide +kernel) fun K hK =>?_;simp only[FA,U,simprocAttr];refine .guard (fun h =>?_) (fun h =>?_)
 ·simp only[U,simprocAttr,h];refine .done (hK _ ?_);clear hK K;refine J.ret ?_;simp only[U,simprocAttr]
  simp_all[cj]
 ·simp only[U,simprocAttr,h];refine .done (hK _ ?_);clear hK K;refine J.ret ?_;simp only[U,simprocAttr];simp at h;simp[cj];omega
theorem Ae(n:Int):ay Tryz.prog 160 [enc n] (enc (cj 0 31 n)):=by
 refine ay.bn Tryz.func160 Tm Vi Xu (t7 rfl) (fun hwf W0 D0 E1 =>?_);simp only[BP,Nu,bg];refine .ao (by decide +kernel) fun K hK =>?_;simp only[GS,U,simprocAttr];refine .done (hK _ ?_);clear hK K;refine .ao (by decide +kernel) fun K hK =>?_;simp only[GU,U,simprocAttr];refine .flat _ (sq n 0 31) rfl ?_
 try simp only[U,simprocAttr]
 refine .done (hK _ ?_);clear hK K;refine J.ret ?_;simp only[U,simprocAttr]
theorem Ah(a b:Int):ay Tryz.prog 196 [enc a,enc b] (enc (oD a b != 0)):=by
 refine ay.bn Tryz.func196 TH VE XQ (t7 rfl) (fun hwf W0 D0 E1 =>?_);simp only[Cd,NR,bg,zz4];refine .ao (by decide +kernel) fun K hK =>?_;simp only[HL,U,simprocAttr];refine .done (hK _ ?_);clear hK K;refine .ao (by decide +kernel) fun K hK =>?_;simp only[HM,U,simprocAttr];refine .done (hK _ ?_);clear hK K;refine J.ret ?_;simp only[U,simprocAttr];rfl
theorem u9(w:aW 5 Int)(m:aW 6 Int)(i:Nat)(hi:i<6)(h0:0≤m.g i)(h5:m.g i<5):ay Tryz.prog 199 [enc w,enc m,enc (i:Int)] (enc (w.g (m.g i).toNat)):=by
 refine ay.bn Tryz.func199 TK VH XT (t7 rfl) (fun hwf W0 D0 E1 =>?_);simp only[Cg,NU,bg,zz4,Nat.reduceAdd];refine .ao (by decide +kernel) fun K hK =>?_;simp only[HX,U,simprocAttr];refine .done (hK _ ?_);clear hK K;refine .ao (by decide +kernel) fun K hK =>?_;simp only[HY,U,simprocAttr];have hk:(m.g i).toNat<5:=by omega
 try simp only[bd,jH 1 m hi rfl,eW m hi,U,simprocAttr]
 try simp only[bd,gw 1 w ⟨h0,h5⟩ rfl,eW w hk,U,simprocAttr]
 refine .done (hK _ ?_);clear hK K;refine J.ret ?_;simp only[U,simprocAttr]
def eR(p:Nat→Bool):Nat→Nat
 |0=>0
 |n+1=>eR p n+if p n then 1 else 0
theorem vP(p:Nat→Bool):∀ n,eR p n≤n
 |0=>zz7 _
 |n+1=>by have:=vP p n;simp only[eR];split <;>omega
def jg(w:aW 5 Int)(a b:aW 6 Int)(i:Nat):Bool:=oD (w.g (a.g i).toNat) (w.g (b.g i).toNat)==0
def dY(m:aW 6 Int):Bool:=(List.range 6).all fun i=>cj 0 4 (m.g i)
theorem oa{m:aW 6 Int}(h:dY m=true){i:Nat}(hi:i<6):0≤m.g i∧m.g i<5:=by
 simp only[dY,zx2,zw1] at h;have:=h i hi;simp[cj] at this;omega
theorem Qh(w:aW 5 Int)(a b:aW 6 Int)(ha:dY a=true)(hb:dY b=true):ay Tryz.prog 129 [enc w,enc a,enc b] (enc (eR (jg w a b) 6:Int)):=by
 refine ay.bn Tryz.func129 SZ UT W6 (t7 rfl) (fun hwf W0 D0 E1 =>?_);simp only[Bq,M3,bg,zz4,Nat.reduceAdd];refine .ao (by decide +kernel) fun K hK =>?_;simp only[FR,U,simprocAttr];refine .done (hK _ ?_);clear hK K;refine .ao (by decide +kernel) fun K hK =>?_;simp only[FT,U,simprocAttr];refine .done (hK _ ?_);clear hK K;refine J.seq (J.seq ?_);refine .bx (by decide +kernel) fun K hK =>?_;simp only[FU,U,simprocAttr];refine .done (hK _ ?_);clear hK K;try simp only[ar]
 refine J.block (J.loop (fun i:Nat=>au [(3,.ptr 3 []),(4,.ptr 4 []),(5,.ptr 5 []),(7,.int .i64 (eR (jg w a b) i)),(8,.int .i64 i)] [(3,.box (enc w)),(4,.box (enc a)),(5,.box (enc b))]) (fun i=>i≤6) (fun i=>6-i) 0 (by omega) ?_ (fun i hi =>?_))
 ·simp only[eR];refine aC.bI ?_ ?_ ?_ ?_ <;>simp[aT,bC,bB,a6,al,aV,cg,I.only,ah.only,bh]
 ·have hc:=vP (jg w a b) i;refine J.seq (J.seq ?_);refine .bx (by decide +kernel) fun K hK =>?_;simp only[FV,U,simprocAttr];refine .done (hK _ ?_);clear hK K;try simp only[ar]
  refine J.bM ?_;simp only[ak,U,simprocAttr];refine ⟨fun h =>?_,fun h =>?_⟩
  ·have hlt:i<6:=by simp at h;omega
   have h1:=oa ha hlt;have h2:=oa hb hlt;refine J.skip ?_;try simp only[ar,simprocAttr]
   refine J.seq (J.block ?_);refine .ao (by decide +kernel) fun K hK =>?_;simp only[FW,U,simprocAttr];have k1:(a.g i).toNat<5:=by omega
   have k2:(b.g i).toNat<5:=by omega
   try simp only[bd,jH 1 a hlt rfl,eW a hlt,U,simprocAttr]
   try simp only[bd,gw 1 w h1 rfl,eW w k1,U,simprocAttr]
   try simp only[bd,jH 1 b hlt rfl,eW b hlt,U,simprocAttr]
   try simp only[bd,gw 1 w h2 rfl,eW w k2,U,simprocAttr]
   refine .done (hK _ ?_);clear hK K;refine J.bM ?_;simp only[ak,U,simprocAttr];refine ⟨fun h =>?_,fun h =>?_⟩
   ·have hap:jg w a b i=true:=h;refine .bx (by decide +kernel) fun K hK =>?_;simp only[FX,U,simprocAttr];refine .done (hK _ ?_);clear hK K;try simp only[ar,bO]
    refine .bx (by decide +kernel) fun K hK =>?_;simp only[wL,U,simprocAttr];refine .done (hK _ ?_);clear hK K;try simp only[ar]
    refine ⟨i+1,by omega,by omega,?_⟩;rw[cF _ (by omega) (by omega),cF _ (by omega) (by omega)];simp only[eR,hap,if_true];refine aC.bI ?_ ?_ ?_ ?_ <;>simp[aT,bC,bB,a6,al,aV,cg,I.only,ah.only,bh]
   ·have hap:jg w a b i=false:=h;refine J.skip ?_;try simp only[ar,bO,simprocAttr]
    refine .bx (by decide +kernel) fun K hK =>?_;simp only[wL,U,simprocAttr];refine .done (hK _ ?_);clear hK K;try simp only[ar]
    refine ⟨i+1,by omega,by omega,?_⟩;rw[cF _ (by omega) (by omega)];simp only[eR,hap,zz6,if_false];refine aC.bI ?_ ?_ ?_ ?_ <;>simp[aT,bC,bB,a6,al,aV,cg,I.only,ah.only,bh]
  ·have hge:i=6:=by simp at h;omega
   subst hge;refine J.exit ?_;try simp only[ar,bO,simprocAttr]
   refine .ao (by decide +kernel) fun K hK =>?_;simp only[FY,U,simprocAttr];refine .done (hK _ ?_);clear hK K;refine J.ret ?_;simp only[U,simprocAttr]
def ig(w:Int)(k:Nat):Bool:=oD w (shl 1 k) != 0
def gX(w:Int):Nat→List Int
 |0=>[]
 |k+1=>gX w k++if ig w k then [(k:Int)] else []
theorem yk(w:Int):∀ k,(gX w k).length≤k
 |0=>zz7 _
 |k+1=>by
  have:=yk w k;simp only[gX,zz3];split <;>simp <;>omega
theorem Qo(w:Int):ay Tryz.prog 141 [enc w] (enc (gX w 5)):=by
 refine ay.bn Tryz.func141 S8 U3 Xf (t7 rfl) (fun hwf W0 D0 E1 =>?_);simp only[BA,Nc,bg];refine .ao (by decide +kernel) fun K hK =>?_;simp only[F8,U,simprocAttr];refine .done (hK _ ?_);clear hK K;refine .ao (by decide +kernel) fun K hK =>?_;simp only[F9,U,simprocAttr];refine .done (hK _ ?_);clear hK K;refine J.seq (J.seq ?_);refine .bx (by decide +kernel) fun K hK =>?_;simp only[Ga,U,simprocAttr];refine .done (hK _ ?_);clear hK K;try simp only[ar]
 refine J.block (J.loop (fun i:Nat=>au [(0,.int .i64 w),(2,.nils 1),(3,.own 3 (gX w i).length),(4,.int .i64 i)] [(3,.bY 3 1 ((gX w i).map enc))]) (fun i=>i≤5) (fun i=>5-i) 0 (by omega) ?_ (fun i hi =>?_))
 ·refine aC.qM 3 3 3 1 1 ?_ ?_ ?_
  ·simp only[pD,Nat.reduceEqDiff,reduceIte]
  ·simp only[pD]
  ·simp only[gX,zx1,zu2];refine aC.bI ?_ ?_ ?_ ?_ <;>simp[aT,bC,bB,a6,al,aV,cg,I.only,I.bT,ah.only]
 ·refine J.seq (J.seq ?_);refine .bx (by decide +kernel) fun K hK =>?_;simp only[Gb,U,simprocAttr];refine .done (hK _ ?_);clear hK K;try simp only[ar]
  refine J.bM ?_;simp only[ak,U,simprocAttr];refine ⟨fun h =>?_,fun h =>?_⟩
  ·have hlt:i<5:=by simp at h;omega
   have hml:=yk w i;refine J.skip ?_;try simp only[ar,simprocAttr]
   refine J.seq (J.block ?_);refine .ao (by decide +kernel) fun K hK =>?_;simp only[Gc,U,simprocAttr];refine .done (hK _ ?_);clear hK K;refine J.bM ?_;simp only[ak,U,simprocAttr];refine ⟨fun h =>?_,fun h =>?_⟩
   ·have hb:ig w i=true:=h;refine .bx (by decide +kernel) fun K hK =>?_;simp only[Gd,U,simprocAttr];rw[nC 3 1 8 3 rfl rfl (by simp) (by simp[maxLen];omega) (by simp;omega)]
    try simp only[U,simprocAttr]
    refine .done (hK _ ?_);clear hK K;try simp only[ar,bO]
    refine .bx (by decide +kernel) fun K hK =>?_;simp only[wR,U,simprocAttr];refine .done (hK _ ?_);clear hK K;try simp only[ar]
    refine ⟨i+1,by omega,by omega,?_⟩;rw[cF _ (by omega) (by omega)];simp only[gX,hb,reduceIte];refine aC.bI ?_ ?_ ?_ ?_ <;>simp[aT,bC,bB,a6,al,aV,cg,I.only,I.bT,ah.only,dy,fA,gT]
   ·have hb:ig w i=false:=h;refine J.skip ?_;try simp only[ar,bO,simprocAttr]
    refine .bx (by decide +kernel) fun K hK =>?_;simp only[wR,U,simprocAttr];refine .done (hK _ ?_);clear hK K;try simp only[ar]
    refine ⟨i+1,by omega,by omega,?_⟩;rw[cF _ (by omega) (by omega)];simp only[gX,hb,reduceIte,zz6,zx7];refine aC.bI ?_ ?_ ?_ ?_ <;>simp[aT,bC,bB,a6,al,aV,cg,I.only,ah.only,dy]
  ·have hge:i=5:=by simp at h;omega
   subst hge;refine J.exit ?_;try simp only[ar,bO,simprocAttr]
   refine .ao (by decide +kernel) fun K hK =>?_;simp only[Ge,U,simprocAttr];refine .done (hK _ ?_);clear hK K;refine J.ret ?_
   try simp only[U,simprocAttr]
theorem Rp(m:aW 5 Int):ay Tryz.prog 99 [enc m] (enc (if (List.range 5).all (fun i=>cj 0 31 (m.g i)&&ig (m.g i) i) then (0:Int) else 11)):=by
 refine ay.bn Tryz.func99 Uv Wq YC (t7 rfl) (fun hwf W0 D0 E1 =>?_);simp only[CY,OH,bg];refine .ao (by decide +kernel) fun K hK =>?_;simp only[Ky,U,simprocAttr];refine .done (hK _ ?_);clear hK K;refine J.seq ?_;refine .ao (by decide +kernel) fun K hK =>?_;simp only[Kz,U,simprocAttr];refine .done (hK _ ?_);clear hK K;refine J.block (J.loop (fun i:Nat=>au [(1,.ptr 1 []),(2,.int .i64 0),(3,.int .i64 i)] [(1,.box (enc m))]) (fun j=>j≤5∧∀ i,i<j→(cj 0 31 (m.g i)&&ig (m.g i) i)=true) (fun i=>5-i) 0 ⟨by omega,fun k h=>by omega⟩ ?_ (fun i hi =>?_))
 ·refine aC.bI ?_ ?_ ?_ ?_ <;>simp[aT,bC,bB,a6,al,aV,cg,I.only,ah.only,bh]
 ·refine J.seq (J.seq ?_);refine .bx (by decide +kernel) fun K hK =>?_;simp only[KA,U,simprocAttr];refine .done (hK _ ?_);clear hK K;try simp only[ar]
  refine J.bM ?_;simp only[ak,U,simprocAttr];refine ⟨fun h =>?_,fun h =>?_⟩
  ·have hlt:i<5:=by simp at h;omega
   refine J.skip ?_;try simp only[ar,simprocAttr]
   refine J.seq (J.block ?_);refine .ao (by decide +kernel) fun K hK =>?_;simp only[KB,U,simprocAttr]
   try simp only[bd,jH 1 m hlt rfl,eW m hlt,U,simprocAttr]
   refine .flat _ (Ay _ 0 31) rfl ?_;generalize hb:(decide (0≤m.g i)&&decide (m.g i≤31))=b;cases b
   ·try simp only[U,simprocAttr]
    refine .done (hK _ ?_);clear hK K;refine J.bM ?_;simp only[ak,U,simprocAttr];refine ⟨fun h =>?_,fun h =>?_⟩
    ·refine .ao (by decide +kernel) fun K hK =>?_;simp only[xq,U,simprocAttr];refine .done (hK _ ?_);clear hK K;refine J.ret ?_;simp only[bO,ar,U,simprocAttr];rw[oB i hlt]
     ·simp
     ·simp only[cj,hb,Bool.false_and]
    ·cases h
   ·try simp only[bd,jH 1 m hlt rfl,eW m hlt,U,simprocAttr]
    refine .done (hK _ ?_);clear hK K;refine J.bM ?_;simp only[ak,U,simprocAttr];refine ⟨fun h =>?_,fun h =>?_⟩
    ·refine .ao (by decide +kernel) fun K hK =>?_;simp only[xq,U,simprocAttr];refine .done (hK _ ?_);clear hK K;refine J.ret ?_;simp only[bO,ar,U,simprocAttr];rw[oB i hlt]
     ·simp
     ·simp only[cj,hb,Bool.true_and,ig,oD,shl];simpa using h
    ·refine J.skip ?_;try simp only[ar,bO,simprocAttr]
     refine .bx (by decide +kernel) fun K hK =>?_;simp only[KC,U,simprocAttr];refine .done (hK _ ?_);clear hK K;try simp only[ar]
     refine ⟨i+1,⟨by omega,fun k hk =>?_⟩,by omega,?_⟩
     ·by_cases hk':k=i
      ·subst hk';simp only[cj,hb,Bool.true_and,ig,oD,shl];simpa using h
      ·exact hi.2 k (by omega)
     ·rw[cF _ (by omega) (by omega)];refine aC.bI ?_ ?_ ?_ ?_ <;>simp[aT,bC,bB,a6,al,aV,cg,I.only,ah.only,bh]
  ·have hge:i=5:=by simp at h;omega
   subst hge;refine J.exit ?_;try simp only[ar,bO,simprocAttr]
   refine .ao (by decide +kernel) fun K hK =>?_;simp only[KD,U,simprocAttr];refine .done (hK _ ?_);clear hK K;refine J.ret ?_;simp only[U,simprocAttr];rw[qN hi.2];simp
theorem Aj(a b:List Int):ay Tryz.prog 20 [enc a,enc b] (enc (decide (a=b))):=by
 refine ay.bn Tryz.func20 TL VI XU (t7 rfl) (fun hwf W0 D0 E1 =>?_);simp only[Ch,NV,bg,zz4];have hlen:a.length≤maxLen:=((lC a).1 hwf.1).1;simp only[maxLen] at hlen;refine .ao (by decide +kernel) fun K hK =>?_;simp only[Iv,U,simprocAttr];refine .done (hK _ ?_);clear hK K;refine J.seq (J.seq ?_);refine .bx (by decide +kernel) fun K hK =>?_;simp only[Iw,U,simprocAttr]
 try simp only[bd,U,simprocAttr]
 refine .done (hK _ ?_);clear hK K;try simp only[ar]
 refine J.bM ?_;simp only[ak,U,simprocAttr];refine ⟨fun h =>?_,fun h =>?_⟩
 ·refine .ao (by decide +kernel) fun K hK =>?_;simp only[Iy,U,simprocAttr];refine .done (hK _ ?_);clear hK K;refine J.ret ?_;simp only[ar,U,simprocAttr];simp at h;have:a≠b:=fun e=>h (by rw[e]);simp[this]
 ·have hab:a.length=b.length:=by simp at h;omega
  refine J.skip ?_;try simp only[ar,simprocAttr]
  refine J.seq ?_;refine .ao (by decide +kernel) fun K hK =>?_;simp only[Iz,U,simprocAttr];refine .done (hK _ ?_);clear hK K;refine J.block (J.loop (fun i:Nat=>au [(0,enc a),(1,enc b),(5,.int .i64 i)] []) (fun i=>i≤a.length∧a.take i=b.take i) (fun i=>a.length-i) 0 ⟨zw7 _,by simp⟩ ?_ (fun i hi =>?_))
  ·refine aC.bI ?_ ?_ ?_ ?_ <;>simp[aT,bC,bB,a6,aV,I.only,bh]
  ·refine J.seq (J.seq ?_);refine .bx (by decide +kernel) fun K hK =>?_;simp only[IA,U,simprocAttr]
   try simp only[bd,U,simprocAttr]
   refine .done (hK _ ?_);clear hK K;try simp only[ar]
   refine J.bM ?_;simp only[ak,U,simprocAttr];refine ⟨fun h =>?_,fun h =>?_⟩
   ·have hlt:i<a.length:=by simpa using h
    have hlb:i<b.length:=by omega
    refine J.skip ?_;try simp only[ar,simprocAttr]
    refine J.seq (J.block ?_);refine .ao (by decide +kernel) fun K hK =>?_;simp only[IB,U,simprocAttr]
    try simp only[ft 1 hlt rfl,ft 1 hlb rfl,U,simprocAttr]
    refine .done (hK _ ?_);clear hK K;refine J.bM ?_;simp only[ak,U,simprocAttr];refine ⟨fun h =>?_,fun h =>?_⟩
    ·refine .ao (by decide +kernel) fun K hK =>?_;simp only[IC,U,simprocAttr];refine .done (hK _ ?_);clear hK K;refine J.ret ?_;simp only[bO,ar,U,simprocAttr];have hne:a≠b:=fun e=>by subst e;simp at h
     simp[hne]
    ·refine J.skip ?_;try simp only[ar,bO,simprocAttr]
     refine .bx (by decide +kernel) fun K hK =>?_;simp only[ID,U,simprocAttr];refine .done (hK _ ?_);clear hK K;try simp only[ar]
     refine ⟨i+1,⟨by omega,?_⟩,by omega,?_⟩
     ·rw[zy1 hlt,zy1 hlb,hi.2];simp at h;rw[h]
     ·rw[cF _ (by omega) (by omega)];refine aC.bI ?_ ?_ ?_ ?_ <;>simp[aT,bC,bB,a6,aV,I.only,bh]
   ·have hge:i=a.length:=by simp at h;omega
    refine J.exit ?_;try simp only[ar,bO,simprocAttr]
    refine .ao (by decide +kernel) fun K hK =>?_;simp only[IE,U,simprocAttr];refine .done (hK _ ?_);clear hK K;refine J.ret ?_;simp only[U,simprocAttr];have:a=b:=by
     have:=hi.2;rw[hge,List.take_length] at this;rw[hab,List.take_length] at this;exact this
    simp[this]
def c9(m:bU)(i:Nat):cq:=m.given.getD i ⟨0,⟨List.replicate 6 0,rfl⟩⟩
theorem jF{m:bU}{i:Nat}(h:i<m.given.length):m.given[i]=c9 m i:=by simp[c9,zz0,h]
theorem xS{A:ae}{m:bU}{i:Nat}(h:i<m.given.length):iF A 7 (i:Int) (enc m.given)=some (.ref (enc (c9 m i))):=by
 rw[ft 7 h rfl,jF h]
def iy(w:aW 5 Int):Bool:=(List.range 5).all (fun i=>cj 0 31 (w.g i)&&ig (w.g i) i)
theorem Rq(w:aW 5 Int):ay Tryz.prog 99 [enc w] (enc (if iy w then (0:Int) else 11)):=Rp w
theorem P7(m:aW 6 Int):ay Tryz.prog 100 [enc m] (enc (if dY m then (0:Int) else 10)):=P6 m
def ki(m:bU)(a b:aW 6 Int):Bool:=decide ((eR (jg m.eV a b) 6:Int)≤IntKind.i64.wrap (2*m.eT))
def gZ(m:bU)(i:Nat):Bool:=cj 1 99 (c9 m i).bP&&(dY (c9 m i).mark&&((i==0||decide ((c9 m (i-1)).bP<(c9 m i).bP))&&(List.range i).all (fun j => !ki m (c9 m j).mark (c9 m i).mark)))
def eg(m:bU):Bool:=iy m.eV&&(cj 0 2 m.eT&&(decide (m.given.length≤40)&&(List.range m.given.length).all (gZ m)))
theorem yF{m:bU}{i:Nat}(h:gZ m i=true):dY (c9 m i).mark=true:=by
 simp only[gZ,zz2] at h;exact h.2.1
def nG(w:aW 5 Int)(a:aW 6 Int)(r:aW 6 Int)(i:Nat):Bool:=oD (w.g (a.g i).toNat) (r.g i)==0
def lP(w:aW 5 Int)(a r:aW 6 Int):Int:=(eR (nG w a r) 6:Int)
theorem anF(w:aW 5 Int)(a b:aW 6 Int)(ha:dY a=true):ay Tryz.prog 102 [enc w,enc a,enc b] (enc (lP w a b)):=by
 refine ay.bn Tryz.func102 SH UC WM (t7 rfl) (fun hwf W0 D0 E1 =>?_);simp only[A9,MK,bg,zz4,Nat.reduceAdd];refine .ao (by decide +kernel) fun K hK =>?_;simp only[EU,U,simprocAttr];refine .done (hK _ ?_);clear hK K;refine .ao (by decide +kernel) fun K hK =>?_;simp only[EV,U,simprocAttr];refine .done (hK _ ?_);clear hK K;refine J.seq (J.seq ?_);refine .bx (by decide +kernel) fun K hK =>?_;simp only[EW,U,simprocAttr];refine .done (hK _ ?_);clear hK K;try simp only[ar]
 refine J.block (J.loop (fun i:Nat=>au [(3,.ptr 3 []),(4,.ptr 4 []),(5,.ptr 5 []),(7,.int .i64 (eR (nG w a b) i)),(8,.int .i64 i)] [(3,.box (enc w)),(4,.box (enc a)),(5,.box (enc b))]) (fun i=>i≤6) (fun i=>6-i) 0 (by omega) ?_ (fun i hi =>?_))
 ·simp only[eR];refine aC.bI ?_ ?_ ?_ ?_ <;>simp[aT,bC,bB,a6,al,aV,cg,I.only,ah.only,bh]
 ·have hc:=vP (nG w a b) i;refine J.seq (J.seq ?_);refine .bx (by decide +kernel) fun K hK =>?_;simp only[EX,U,simprocAttr];refine .done (hK _ ?_);clear hK K;try simp only[ar]
  refine J.bM ?_;simp only[ak,U,simprocAttr];refine ⟨fun h =>?_,fun h =>?_⟩
  ·have hlt:i<6:=by simp at h;omega
   have h1:=oa ha hlt;refine J.skip ?_;try simp only[ar,simprocAttr]
   refine J.seq (J.block ?_);refine .ao (by decide +kernel) fun K hK =>?_;simp only[EY,U,simprocAttr];have k1:(a.g i).toNat<5:=by omega
   try simp only[bd,jH 1 a hlt rfl,eW a hlt,U,simprocAttr]
   try simp only[bd,gw 1 w h1 rfl,eW w k1,U,simprocAttr]
   try simp only[bd,jH 1 b hlt rfl,eW b hlt,U,simprocAttr]
   refine .done (hK _ ?_);clear hK K;refine J.bM ?_;simp only[ak,U,simprocAttr];refine ⟨fun h =>?_,fun h =>?_⟩
   ·have hap:nG w a b i=true:=h;refine .bx (by decide +kernel) fun K hK =>?_;simp only[EZ,U,simprocAttr];refine .done (hK _ ?_);clear hK K;try simp only[ar,bO]
    refine .bx (by decide +kernel) fun K hK =>?_;simp only[wy,U,simprocAttr];refine .done (hK _ ?_);clear hK K;try simp only[ar]
    refine ⟨i+1,by omega,by omega,?_⟩;rw[cF _ (by omega) (by omega),cF _ (by omega) (by omega)];simp only[eR,hap,if_true];refine aC.bI ?_ ?_ ?_ ?_ <;>simp[aT,bC,bB,a6,al,aV,cg,I.only,ah.only,bh]
   ·have hap:nG w a b i=false:=h;refine J.skip ?_;try simp only[ar,bO,simprocAttr]
    refine .bx (by decide +kernel) fun K hK =>?_;simp only[wy,U,simprocAttr];refine .done (hK _ ?_);clear hK K;try simp only[ar]
    refine ⟨i+1,by omega,by omega,?_⟩;rw[cF _ (by omega) (by omega)];simp only[eR,hap,zz6,if_false];refine aC.bI ?_ ?_ ?_ ?_ <;>simp[aT,bC,bB,a6,al,aV,cg,I.only,ah.only,bh]
  ·have hge:i=6:=by simp at h;omega
   subst hge;refine J.exit ?_;try simp only[ar,bO,simprocAttr]
   refine .ao (by decide +kernel) fun K hK =>?_;simp only[E0,U,simprocAttr];refine .done (hK _ ?_);clear hK K;refine J.ret ?_;simp only[U,simprocAttr];rfl
structure yG (m:bU):Prop where
 len:m.given.length≤1099511627776
 mark:∀ g∈m.given,dY g.mark=true
theorem Rl(m:bU)(k:aW 6 Int)(hm:yG m)(hk:dY k=true):ay Tryz.prog 87 [enc m,enc k] (enc (m.given.any fun g=>decide ((eR (jg m.eV g.mark k) 6:Int)≤IntKind.i64.wrap (2*m.eT)))):=by
 refine ay.bn Tryz.func87 Uo Wj Yv (t7 rfl) (fun hwf W0 D0 E1 =>?_);simp only[CR,OA,bg,zz4];have hlen:=hm.len;refine .ao (by decide +kernel) fun K hK =>?_;simp only[J5,U,simprocAttr];refine .done (hK _ ?_);clear hK K;refine J.seq ?_;refine .ao (by decide +kernel) fun K hK =>?_;simp only[J6,U,simprocAttr];refine .done (hK _ ?_);clear hK K;refine J.block (J.loop (fun i:Nat=>au [(2,.ptr 2 []),(3,.ptr 3 []),(5,.int .i64 i)] [(2,.box (enc m)),(3,.box (enc k))]) (fun i=>i≤m.given.length∧∀ j (h:j<m.given.length),j<i→(decide ((eR (jg m.eV m.given[j].mark k) 6:Int)≤IntKind.i64.wrap (2*m.eT)))=false) (fun i=>m.given.length-i) 0 ⟨by omega,fun k _ h=>by omega⟩ ?_ (fun i hi =>?_))
 ·refine aC.bI ?_ ?_ ?_ ?_ <;>simp[aT,bC,bB,a6,al,aV,cg,I.only,ah.only,bh]
 ·refine J.seq (J.seq ?_);refine .bx (by decide +kernel) fun K hK =>?_;simp only[J7,U,simprocAttr]
  try simp only[cI,bd,U,simprocAttr]
  refine .done (hK _ ?_);clear hK K;try simp only[ar]
  refine J.bM ?_;simp only[ak,U,simprocAttr];refine ⟨fun h =>?_,fun h =>?_⟩
  ·have hlt:i<m.given.length:=by simpa using h
   refine J.skip ?_;try simp only[ar,simprocAttr]
   refine J.seq (J.block ?_);refine .ao (by decide +kernel) fun K hK =>?_;simp only[J8,U,simprocAttr]
   try simp only[cI,ft 7 hlt rfl,c8,U,simprocAttr]
   refine .flat _ (Qh m.eV m.given[i].mark k (hm.mark _ (zx3 _)) hk) rfl ?_
   try simp only[cI,U,simprocAttr]
   refine .done (hK _ ?_);clear hK K;refine J.bM ?_;simp only[ak,U,simprocAttr];refine ⟨fun h =>?_,fun h =>?_⟩
   ·refine .ao (by decide +kernel) fun K hK =>?_;simp only[J9,U,simprocAttr];refine .done (hK _ ?_);clear hK K;refine J.ret ?_;simp only[bO,ar,U,simprocAttr];have:(m.given.any fun g=>decide ((eR (jg m.eV g.mark k) 6:Int)≤IntKind.i64.wrap (2*m.eT)))=true:=List.any_eq_true.2 ⟨_,zx3 hlt,h⟩;rw[this]
   ·refine J.skip ?_;try simp only[ar,bO,simprocAttr]
    refine .bx (by decide +kernel) fun K hK =>?_;simp only[Ka,U,simprocAttr];refine .done (hK _ ?_);clear hK K;try simp only[ar]
    refine ⟨i+1,⟨by omega,fun j hj hji =>?_⟩,by omega,?_⟩
    ·by_cases hj':j=i
     ·subst hj';exact h
     ·exact hi.2 j hj (by omega)
    ·rw[cF _ (by omega) (by omega)];refine aC.bI ?_ ?_ ?_ ?_ <;>simp[aT,bC,bB,a6,al,aV,cg,I.only,ah.only,bh]
  ·have hge:i=m.given.length:=by simp at h;omega
   refine J.exit ?_;try simp only[ar,bO,simprocAttr]
   refine .ao (by decide +kernel) fun K hK =>?_;simp only[Kb,U,simprocAttr];refine .done (hK _ ?_);clear hK K;refine J.ret ?_;simp only[U,simprocAttr];have:(m.given.any fun g=>decide ((eR (jg m.eV g.mark k) 6:Int)≤IntKind.i64.wrap (2*m.eT)))=false:=by
    rw[List.any_eq_false];intro x hx;obtain ⟨j,hj,rfl⟩:=List.getElem_of_mem hx;simpa using hi.2 j hj (by omega)
   rw[this]
theorem ali{m:bU}(h:eg m=true):yG m:=by
 simp only[eg,zz2,decide_eq_true_eq,zx2,zw1] at h;refine ⟨by omega,fun g hg =>?_⟩;obtain ⟨i,hi,rfl⟩:=List.getElem_of_mem hg;rw[jF hi];exact yF (h.2.2.2 i hi)
def iw(r:aW 6 Int):Bool:=(List.range 6).all fun i=>cj 1 31 (r.g i)
theorem yu:I.slice 1 []=enc ([]:List Int):=rfl
def lD:aW 6 Int:=⟨List.replicate 6 0,rfl⟩
theorem oG:I.agg [.int .i64 0,.int .i64 0,.int .i64 0,.int .i64 0,.int .i64 0,.int .i64 0]=enc lD:=rfl
instance:ox cq:=⟨fun g=>by
 show (I.agg [.int .i64 g.bP,enc g.mark]).c6=true
 simp only[I.c6,I.jq,D6,zw5]⟩
def fF:cq:=⟨0,lD⟩
theorem vY:I.agg [.int .i64 0,.agg [.int .i64 0,.int .i64 0,.int .i64 0,.int .i64 0,.int .i64 0,.int .i64 0]]=enc fF:=rfl
theorem m3(p:Nat→Bool)(l:List cq):(I.agg (l.map enc)).only p=true:=by simp only[I.only];exact dy p l
theorem ajV(l:List cq):(I.agg (l.map enc)).c6=true:=by simp only[I.c6];exact tB l
def ja(k:Nat)(l:List cq)(m:Nat):List (Nat×ah):=[(k,.box (.agg ((l++List.replicate m fF).map enc)))]
def vN(l:List cq):cO:=fun r os'=>(l=[]∧(r=.nils 7∨r=.c0 7)∧os'=[])∨(l≠[]∧∃ m,r=.view 7 [] 7 0 l.length∧os'=ja 7 l m)
theorem Af(l:List cq)(hl:l.length≤1000):cC Tryz.prog 167 [enc l] [] (vN l):=by
 refine cC.bn Tryz.func167 Tu Vp XB (t7 rfl) (t7 rfl) (fun m hm=>by simp[al,aj] at hm) (fun hwf W0 D0 E1 =>?_);simp only[BW,NB,bg];refine .ao (by decide +kernel) fun K hK =>?_;simp only[He,U,simprocAttr];refine .done (hK _ ?_);clear hK K;refine J.seq (J.seq ?_);by_cases hn:l=[]
 ·subst hn;refine .bx (by decide +kernel) fun K hK =>?_;simp only[wU,U,simprocAttr];simp only[uQ,List.isEmpty_nil,qg];refine .any rfl fun b _ =>?_
  try simp only[U,simprocAttr]
  generalize (b==0)=t;cases t
  ·refine .done (hK _ ?_);clear hK K;try simp only[ar]
   refine J.bM ?_;simp only[ak,U,simprocAttr];refine ⟨fun h =>?_,fun h =>?_⟩
   ·cases h
   refine J.skip ?_;try simp only[ar,simprocAttr]
   refine .ao (by decide +kernel) fun K hK =>?_;simp only[wV,U,simprocAttr]
   try simp only[dj,vY,U,simprocAttr]
   refine .done (hK _ ?_);clear hK K;refine J.ret ?_;simp only[eY];exact ⟨[],[.c0 7],oM,⟨⟨.c0 7,rfl,.inl ⟨rfl,rfl,rfl⟩⟩,trivial⟩,.inl ⟨rfl,.inr rfl,rfl⟩⟩
  ·refine .done (hK _ ?_);clear hK K;refine J.bM ?_;simp only[ak,U,simprocAttr];refine ⟨fun h =>?_,fun h =>?_⟩
   ·refine .ao (by decide +kernel) fun K hK =>?_;simp only[Hf,U,simprocAttr];refine .done (hK _ ?_);clear hK K;refine J.ret ?_;simp only[ar,eY];exact ⟨[],[.nils 7],oM,⟨⟨.nils 7,rfl,.inl ⟨rfl,rfl,rfl⟩⟩,trivial⟩,.inl ⟨rfl,.inl rfl,rfl⟩⟩
   ·cases h
 ·have hu:kj (enc l)=false:=by rw[uQ];simpa using hn
  refine .bx (by decide +kernel) fun K hK =>?_;simp only[wU,U,simprocAttr]
  try simp only[hu,LK _ l hn,U,simprocAttr]
  refine .done (hK _ ?_);clear hK K;try simp only[ar]
  refine J.bM ?_;simp only[ak,U,simprocAttr];refine ⟨fun h =>?_,fun h =>?_⟩
  ·cases h
  refine J.skip ?_;try simp only[ar,simprocAttr]
  refine .ao (by decide +kernel) fun K hK =>?_;simp only[wV,U,simprocAttr]
  try simp only[dj,vY,U,simprocAttr]
  refine bt.AM fF rfl hn rfl (by omega) (by simp only[maxLen];omega) fun m =>?_
  try simp only[U,simprocAttr]
  refine .done (hK _ ?_);clear hK K;refine J.ret ?_;simp only[eY];exact ⟨ja 7 l m,[.view 7 [] 7 0 l.length],jG rfl (fun p=>m3 p _),⟨⟨_,rfl,.inl ⟨rfl,rfl,rfl⟩⟩,trivial⟩,.inr ⟨hn,m,rfl,rfl⟩⟩
def hZ{n:Nat}(x:aW n Int)(k:Nat)(v:Int):aW n Int:=⟨x.l.set k v,by simp[x.h]⟩
theorem oK{n:Nat}(x:aW n Int)(k j:Nat)(v:Int)(h:k<n):(hZ x k v).g j=if k=j then v else x.g j:=by
 simp only[aW.g,hZ,zz0,List.getElem?_set];by_cases hkj:k=j
 ·subst hkj;simp[x.lt h]
 ·simp[hkj]
theorem amz{n k:Nat}(x:aW n Int)(h:k<n)(v:Int):(enc x:I).dO [k] (.int .i64 v)=enc (hZ x k v):=by
 have h1:(enc x:I).dH=some (x.l.map enc):=rfl;rw[Pf,h1];simp only[r5,rp x h,uH,fI]
 change I.agg _=I.agg ((x.l.set k v).map enc)
 rw[List.map_set];rfl
theorem po{A:ae}{n m k:Nat}(x:aW m Int)(h:k<m){v u:Int}{rest:List aB} : dR A none n [k] (enc x) (.int .i64 v) rest (some (.int .i64 u))=aE rest (A.aS n (.box (enc (hZ x k v)))):=by
 rw[ez (s:=none) (v:=.int .i64 v) (old:=.int .i64 u) rfl rfl rfl,amz x h]
def iu(n:Int):Nat→Int
 |0=>n
 |k+1=>(iu n k).tdiv 5
def kq(n:Int):Nat→aW 6 Int
 |0=>lD
 |k+1=>hZ (kq n k) (5-k) ((iu n k).tmod 5)
theorem LJ(n:Int)(h:-9223372036854775808≤n∧n≤9223372036854775807):∀ k,-9223372036854775808≤iu n k∧iu n k≤9223372036854775807
 |0=>h
 |k+1=>by
  have:=LJ n h k;simp only[iu];rcases Int.le_total 0 (iu n k) with h0 | h0
  ·rw[Int.tdiv_eq_ediv_of_nonneg h0];omega
  ·have:(iu n k).tdiv 5=-((-(iu n k)) / 5):=by
    rw[←Int.tdiv_eq_ediv_of_nonneg (by omega),Int.neg_tdiv,Int.neg_neg]
   omega
theorem Rk(n:Int):ay Tryz.prog 86 [enc n] (enc (kq n 6)):=by
 refine ay.bn Tryz.func86 Un Wi Yu (t7 rfl) (fun hwf W0 D0 E1 =>?_);simp only[CQ,Oz,bg];have hin:=LJ n ((anp n).1 hwf.1);have h5:¬ (5:Int)=0:=by decide
 refine .ao (by decide +kernel) fun K hK =>?_;simp only[JX,U,simprocAttr];refine .done (hK _ ?_);clear hK K;refine .ao (by decide +kernel) fun K hK =>?_;simp only[JY,U,simprocAttr];simp only[oG];refine .done (hK _ ?_);clear hK K;refine J.seq (J.seq ?_);refine .bx (by decide +kernel) fun K hK =>?_;simp only[JZ,U,simprocAttr];refine .done (hK _ ?_);clear hK K;try simp only[ar]
 refine J.block (J.loop (fun k:Nat=>au [(0,.int .i64 (iu n k)),(2,.ptr 2 []),(3,.ptr 3 []),(4,.int .i64 (5-k))] [(2,.box (enc lD)),(3,.box (enc (kq n k)))]) (fun k=>k≤6) (fun k=>6-k) 0 (by omega) ?_ (fun k hk =>?_))
 ·refine aC.bI ?_ ?_ ?_ ?_ <;>simp[aT,bC,bB,a6,al,aV,cg,I.only,ah.only,bh]
  all_goals rfl
 refine J.seq (J.seq ?_);refine .bx (by decide +kernel) fun K hK =>?_;simp only[J0,U,simprocAttr];refine .done (hK _ ?_);clear hK K;try simp only[ar]
 refine J.bM ?_;simp only[ak,U,simprocAttr];refine ⟨fun h =>?_,fun h =>?_⟩
 ·have hlt:k<6:=by simp at h;omega
  have hd:=hin k;have e1:((5:Int)-k).toNat=5-k:=by omega
  have hlt':5-k<6:=by omega
  refine J.skip ?_;try simp only[ar,simprocAttr]
  refine J.seq (J.block ?_);refine .ao (by decide +kernel) fun K hK =>?_;simp only[J1,U,simprocAttr]
  try simp only[bd,gw 1 (kq n k) (show (0:Int)≤5-k∧(5:Int)-k<(6:Nat) by omega) rfl,e1,eW (kq n k) hlt',po (kq n k) hlt',U,simprocAttr]
  refine .done (hK _ ?_);clear hK K;refine .bx (by decide +kernel) fun K hK =>?_;simp only[J2,U,simprocAttr]
  try simp only[h5,U,simprocAttr]
  refine .done (hK _ ?_);clear hK K;try simp only[ar,bO]
  refine .bx (by decide +kernel) fun K hK =>?_;simp only[J3,U,simprocAttr];refine .done (hK _ ?_);clear hK K;try simp only[ar]
  refine ⟨k+1,by omega,by omega,?_⟩;have hq:=hin (k+1);simp only[iu] at hq;rw[cF _ (by omega) (by omega),cF _ hq.1 hq.2];have e2:(5:Int)-k-1=5-((k+1:Nat):Int):=by omega
  rw[e2];simp only[iu,kq];refine aC.bI ?_ ?_ ?_ ?_ <;>simp[aT,bC,bB,a6,al,aV,cg,I.only,ah.only,bh]
 ·have hge:k=6:=by simp at h;omega
  subst hge;refine J.exit ?_;try simp only[ar,bO,simprocAttr]
  refine .ao (by decide +kernel) fun K hK =>?_;simp only[J4,U,simprocAttr]
  try simp only[cI,U,simprocAttr]
  rw[ez (dN _) (by rw[fL];rfl) ((eL _).trans (eL _).symm)]
  try simp only[U,simprocAttr]
  refine .done (hK _ ?_);clear hK K;refine J.ret ?_;simp only[U,simprocAttr]
  try simp only[cI,c8,U,simprocAttr]
theorem xR{A:ae}{l:List Int}{i:Nat}(h:i<l.length):iF A 1 (i:Int) (enc l)=some (.ref (.int .i64 (l.getD i 0))):=by
 rw[ft 1 h rfl];simp[zz0,h,gT]
theorem yl{w:Int}{k:Nat}(h:ig w k=true):∀ n,k<n→(k:Int)∈gX w n
 |0,h=>absurd h (by omega)
 |n+1,hk=>by
  simp only[gX,zy4];rcases Nat.lt_or_ge k n with h1 | h1
  ·exact .inl (yl h n h1)
  ·have:k=n:=by omega
   subst this
   right;simp[h]
theorem yj{w:Int} : ∀ n,∀ x∈gX w n,0≤x∧x<n
 |0=>by simp[gX]
 |n+1=>by
  intro x hx;simp only[gX,zy4] at hx;rcases hx with hx | hx
  ·have:=yj n x hx;omega
  ·split at hx
   ·simp only[List.mem_singleton] at hx;omega
   ·cases hx
theorem Mb{w:aW 5 Int}(h:iy w=true){k:Nat}(hk:k<5):(0≤w.g k∧w.g k≤31)∧ig (w.g k) k=true:=by
 simp only[iy,zx2,zw1,zz2] at h;have:=h k hk;simp only[cj,zz2,decide_eq_true_eq] at this;exact this
def lR(cuts:List Int)(i n:Nat):Nat:=if 0<cuts.length then (((cuts.getD (i%cuts.length) 0).tmod n+n).tmod n).toNat else 0
def jx(w:aW 5 Int)(a:aW 6 Int)(i:Nat):List Int:=gX (w.g (a.g i).toNat) 5
def sh(w:aW 5 Int)(a:aW 6 Int)(cuts:List Int)(i:Nat):Int:=shl 1 ((jx w a i).getD (lR cuts i (jx w a i).length) 0).toNat
def kl(w:aW 5 Int)(a:aW 6 Int)(cuts:List Int):Nat→aW 6 Int
 |0=>lD
 |i+1=>hZ (kl w a cuts i) i (sh w a cuts i)
def pA(w:aW 5 Int)(a:aW 6 Int)(cuts:List Int):aW 6 Int×Int:=if iy w then (if dY a then (kl w a cuts 6,0) else (lD,10)) else (lD,11)
theorem DJ(cuts:List Int)(i:Nat){n:Nat}(hn:0<n):lR cuts i n<n:=by
 unfold lR;split
 ·have h1:-(n:Int)<(cuts.getD (i%cuts.length) 0).tmod n:=by
   have:=Int.tmod_lt_of_pos (-(cuts.getD (i%cuts.length) 0)) (show (0:Int)<n by omega);rw[Int.neg_tmod] at this;omega
  have h2:=Int.tmod_lt_of_pos ((cuts.getD (i%cuts.length) 0).tmod n+n) (show (0:Int)<n by omega);have h3:0≤((cuts.getD (i%cuts.length) 0).tmod n+n).tmod n:=Int.tmod_nonneg _ (by omega);omega
 ·exact hn
structure Item where
 fh:Int
 no:Int
 deriving DecidableEq
instance:Enc Item where
 enc x:=.agg [.int .i64 x.fh,.int .i64 x.no]
 sz:=2
 aQ:=.ep [.one,.one]
 gz:=true
 done _:=rfl
 size _:=by simp[I.size,I.sizes]
 kJ _:=by simp[I.aQ,I.cS]
 agg _:=rfl
structure aq where
 bF:Item
 kind:Int
 day:Int
 known:Int
 cH:Int
 e7:Int
 dq:Int
 bP:Int
 b9:aW 6 Int
 kb:Item
instance:Enc aq where
 enc e:=.agg [enc e.bF,.int .i64 e.kind,.int .i64 e.day,.int .i64 e.known,.int .i64 e.cH,.int .i64 e.e7,.int .i64 e.dq,.int .i64 e.bP,enc e.b9,enc e.kb]
 sz:=17
 aQ:=.ep [.ep [.one,.one],.one,.one,.one,.one,.one,.one,.one,.ep (List.replicate 6 .one),.ep [.one,.one]]
 gz:=true
 done e:=by simp only[I.done,I.eS,Enc.done,zw5]
 size e:=by simp only[I.size,I.sizes,gH,kU,kV];rfl
 kJ e:=by simp only[I.aQ,I.cS,eL,sX,sY];rfl
 agg _:=rfl
structure aD where
 no:Int
 dq:Int
 e7:Int
 bP:Int
 jZ:Int
 born:Int
 cV:Int
 found:Bool
 b9:List (aW 6 Int)
instance:Enc aD where
 enc b:=.agg [.int .i64 b.no,.int .i64 b.dq,.int .i64 b.e7,.int .i64 b.bP,.int .i64 b.jZ,.int .i64 b.born,.int .i64 b.cV,.bool b.found,enc b.b9]
 sz:=9
 aQ:=.ep [.one,.one,.one,.one,.one,.one,.one,.one,.one]
 gz:=true
 done e:=by simp only[I.done,I.eS,Enc.done,zw5]
 size e:=by simp only[I.size,I.sizes,gH,v7]
 kJ e:=by simp only[I.aQ,I.cS,eL,D8]
 agg _:=rfl
theorem re:Enc.sz Item=2:=rfl
theorem Z9:Enc.sz aq=17:=rfl
theorem D9:Enc.sz aD=9:=rfl
theorem Z7:Enc.gz Item=true:=rfl
theorem Z6:Enc.gz aq=true:=rfl
theorem Z5:Enc.gz aD=true:=rfl
theorem ajr(fs:List I)(x:I):(x::fs)[0]?=some x:=rfl
theorem ajB(fs:List I)(x:I)(n:Nat):(x::fs)[n+1]?=fs[n]?:=rfl
theorem ajs(fs:List I)(x:I):(x::fs)[1]?=fs[0]?:=rfl
theorem ajt(fs:List I)(x:I):(x::fs)[2]?=fs[1]?:=rfl
theorem aju(fs:List I)(x:I):(x::fs)[3]?=fs[2]?:=rfl
theorem ajv(fs:List I)(x:I):(x::fs)[4]?=fs[3]?:=rfl
theorem ajw(fs:List I)(x:I):(x::fs)[5]?=fs[4]?:=rfl
theorem ajx(fs:List I)(x:I):(x::fs)[6]?=fs[5]?:=rfl
theorem ajy(fs:List I)(x:I):(x::fs)[7]?=fs[6]?:=rfl
theorem ajz(fs:List I)(x:I):(x::fs)[8]?=fs[7]?:=rfl
theorem ajA(fs:List I)(x:I):(x::fs)[9]?=fs[8]?:=rfl
theorem ak9(x:I)(fs:List I)(v:I):ef (x::fs) 0 0 v=some v:=mf (by simp) (by simp[I.sizes])
theorem LW(a b:Item)(n1 n2 n3 n4 n5 n6 n7:Int)(s:aW 6 Int)(v:I) :
  (ef [enc a,.int .i64 n1,.int .i64 n2,.int .i64 n3,.int .i64 n4,.int .i64 n5,.int .i64 n6,.int .i64 n7,enc s,enc b] 1 2 v=some v) ∧
  (ef [enc a,.int .i64 n1,.int .i64 n2,.int .i64 n3,.int .i64 n4,.int .i64 n5,.int .i64 n6,.int .i64 n7,enc s,enc b] 2 3 v=some v) ∧
  (ef [enc a,.int .i64 n1,.int .i64 n2,.int .i64 n3,.int .i64 n4,.int .i64 n5,.int .i64 n6,.int .i64 n7,enc s,enc b] 3 4 v=some v) ∧
  (ef [enc a,.int .i64 n1,.int .i64 n2,.int .i64 n3,.int .i64 n4,.int .i64 n5,.int .i64 n6,.int .i64 n7,enc s,enc b] 4 5 v=some v) ∧
  (ef [enc a,.int .i64 n1,.int .i64 n2,.int .i64 n3,.int .i64 n4,.int .i64 n5,.int .i64 n6,.int .i64 n7,enc s,enc b] 5 6 v=some v) ∧
  (ef [enc a,.int .i64 n1,.int .i64 n2,.int .i64 n3,.int .i64 n4,.int .i64 n5,.int .i64 n6,.int .i64 n7,enc s,enc b] 6 7 v=some v) ∧
  (ef [enc a,.int .i64 n1,.int .i64 n2,.int .i64 n3,.int .i64 n4,.int .i64 n5,.int .i64 n6,.int .i64 n7,enc s,enc b] 7 8 v=some v) ∧
  (ef [enc a,.int .i64 n1,.int .i64 n2,.int .i64 n3,.int .i64 n4,.int .i64 n5,.int .i64 n6,.int .i64 n7,enc s,enc b] 8 9 v=some v) ∧
  (ef [enc a,.int .i64 n1,.int .i64 n2,.int .i64 n3,.int .i64 n4,.int .i64 n5,.int .i64 n6,.int .i64 n7,enc s,enc b] 9 15 v=some v):=by
 refine ⟨?_,?_,?_,?_,?_,?_,?_,?_,?_⟩ <;>refine mf (t7 rfl) ?_ <;>simp[I.sizes,I.size,gH,re,kU,kV]
theorem ak8(n1 n2:Int)(v:I):ef [.int .i64 n1,.int .i64 n2] 1 1 v=some v:=mf (t7 rfl) (by simp[I.sizes,I.size])
theorem yC(n0 n1 n2 n3 n4 n5 n6:Int)(f:Bool)(x:I)(v:I) :
  (ef [.int .i64 n0,.int .i64 n1,.int .i64 n2,.int .i64 n3,.int .i64 n4,.int .i64 n5,.int .i64 n6,.bool f,x] 1 1 v=some v) ∧
  (ef [.int .i64 n0,.int .i64 n1,.int .i64 n2,.int .i64 n3,.int .i64 n4,.int .i64 n5,.int .i64 n6,.bool f,x] 2 2 v=some v) ∧
  (ef [.int .i64 n0,.int .i64 n1,.int .i64 n2,.int .i64 n3,.int .i64 n4,.int .i64 n5,.int .i64 n6,.bool f,x] 3 3 v=some v) ∧
  (ef [.int .i64 n0,.int .i64 n1,.int .i64 n2,.int .i64 n3,.int .i64 n4,.int .i64 n5,.int .i64 n6,.bool f,x] 4 4 v=some v) ∧
  (ef [.int .i64 n0,.int .i64 n1,.int .i64 n2,.int .i64 n3,.int .i64 n4,.int .i64 n5,.int .i64 n6,.bool f,x] 5 5 v=some v) ∧
  (ef [.int .i64 n0,.int .i64 n1,.int .i64 n2,.int .i64 n3,.int .i64 n4,.int .i64 n5,.int .i64 n6,.bool f,x] 6 6 v=some v) ∧
  (ef [.int .i64 n0,.int .i64 n1,.int .i64 n2,.int .i64 n3,.int .i64 n4,.int .i64 n5,.int .i64 n6,.bool f,x] 7 7 v=some v) ∧
  (ef [.int .i64 n0,.int .i64 n1,.int .i64 n2,.int .i64 n3,.int .i64 n4,.int .i64 n5,.int .i64 n6,.bool f,x] 8 8 v=some v):=by
 refine ⟨?_,?_,?_,?_,?_,?_,?_,?_⟩ <;>refine mf (t7 rfl) ?_ <;>simp[I.sizes,I.size]
theorem aap(x:Item):(enc x).dH=some [.int .i64 x.fh,.int .i64 x.no]:=rfl
theorem aao(e:aq):(enc e).dH=some [enc e.bF,.int .i64 e.kind,.int .i64 e.day,.int .i64 e.known,.int .i64 e.cH,.int .i64 e.e7,.int .i64 e.dq,.int .i64 e.bP,enc e.b9,enc e.kb]:=rfl
theorem aan(b:aD):(enc b).dH=some [.int .i64 b.no,.int .i64 b.dq,.int .i64 b.e7,.int .i64 b.bP,.int .i64 b.jZ,.int .i64 b.born,.int .i64 b.cV,.bool b.found,enc b.b9]:=rfl
theorem Me(x:Item):b8 (some 2) (enc x)=true:=by simp[fL,Z7,re]
theorem Md(x:aq):b8 (some 17) (enc x)=true:=by simp[fL,Z6,Z9]
theorem alo(x:aD):b8 (some 9) (enc x)=true:=by simp[fL,Z5,D9]
theorem Mc(x:aW 6 Int):b8 (some 6) (enc x)=true:=by simp[fL,vZ,kU,kV]
theorem alp(x:List aq):b8 none (enc x)=true:=by simp[mT,nJ]
theorem alq(x:List Int):b8 none (enc x)=true:=by simp[mT,nJ]
theorem als(x:List (aW 6 Int)):b8 none (enc x)=true:=by simp[mT,nJ]
theorem alr(x:List Item):b8 none (enc x)=true:=by simp[mT,nJ]
theorem qG :
  (∀ x:Item,(enc x).dH=some [.int .i64 x.fh,.int .i64 x.no])∧(∀ e:aq,(enc e).dH=some [enc e.bF,.int .i64 e.kind,.int .i64 e.day,.int .i64 e.known,.int .i64 e.cH,.int .i64 e.e7,.int .i64 e.dq,.int .i64 e.bP,enc e.b9,enc e.kb]) ∧
  (∀ b:aD,(enc b).dH=some [.int .i64 b.no,.int .i64 b.dq,.int .i64 b.e7,.int .i64 b.bP,.int .i64 b.jZ,.int .i64 b.born,.int .i64 b.cV,.bool b.found,enc b.b9]) ∧
  (∀ (x:I) fs v,ef (x::fs) 0 0 v=some v)∧(∀ n1 n2 v,ef [.int .i64 n1,.int .i64 n2] 1 1 v=some v) ∧
  (∀ x:Item,b8 (some 2) (enc x)=true)∧(∀ x:aq,b8 (some 17) (enc x)=true)∧(∀ x:aD,b8 (some 9) (enc x)=true)∧(∀ x:aW 6 Int,b8 (some 6) (enc x)=true)∧(∀ x:List aq,b8 none (enc x)=true)∧(∀ x:List Int,b8 none (enc x)=true) ∧
  (∀ x:List (aW 6 Int),b8 none (enc x)=true)∧(∀ x:List Item,b8 none (enc x)=true) ∧
  (∀ (fs:List I) x,(x::fs)[0]?=some x)∧(∀ (fs:List I) x n,(x::fs)[n+1]?=fs[n]?)∧(∀ (fs:List I) x,(x::fs)[1]?=fs[0]?)∧(∀ (fs:List I) x,(x::fs)[2]?=fs[1]?)∧(∀ (fs:List I) x,(x::fs)[3]?=fs[2]?)∧(∀ (fs:List I) x,(x::fs)[4]?=fs[3]?) ∧
  (∀ (fs:List I) x,(x::fs)[5]?=fs[4]?)∧(∀ (fs:List I) x,(x::fs)[6]?=fs[5]?)∧(∀ (fs:List I) x,(x::fs)[7]?=fs[6]?)∧(∀ (fs:List I) x,(x::fs)[8]?=fs[7]?)∧(∀ (fs:List I) x,(x::fs)[9]?=fs[8]?) :=
 ⟨aap,aao,aan,fun x fs v=>ak9 x fs v,ak8,Me,Md,alo,Mc,alp,alq,als,alr,ajr,ajB,ajs,ajt,aju,ajv,ajw,ajx,ajy,ajz,ajA⟩
theorem Item.El(a b:Item):a=b↔a.fh=b.fh∧a.no=b.no:=by cases a;cases b;simp
theorem rf(x y:Item):cv (.br [.i .i64,.i .i64]) (enc x) (enc y)=some (decide (x=y)):=by
 show cv (.br [.i .i64,.i .i64]) (.agg [.int .i64 x.fh,.int .i64 x.no]) (.agg [.int .i64 y.fh,.int .i64 y.no])=_
 simp[cv,jk,iN,Item.El];rfl
theorem Ag(x:Int):ay Tryz.prog 194 [enc x] (enc false):=by
 refine ay.bn Tryz.func194 TF VC XO (t7 rfl) (fun hwf W0 D0 E1 =>?_);simp only[Cb,NP,bg];refine .ao (by decide +kernel) fun K hK =>?_;simp only[HA,U,simprocAttr];refine .done (hK _ ?_);clear hK K;refine .ao (by decide +kernel) fun K hK =>?_;simp only[HB,U,simprocAttr];refine .done (hK _ ?_);clear hK K;refine J.ret ?_;simp only[U,simprocAttr];simp
def jE(x y:Int):Int:=if x<y then -1 else if y<x then 1 else 0
theorem Ad(x y:Int):ay Tryz.prog 159 [enc x,enc y] (enc (jE x y)):=by
 refine ay.bn Tryz.func159 Tk Vg Xs (t7 rfl) (fun hwf W0 D0 E1 =>?_);simp only[BN,Ns,bg,zz4];refine .ao (by decide +kernel) fun K hK =>?_;simp only[GI,U,simprocAttr];refine .done (hK _ ?_);clear hK K;refine .ao (by decide +kernel) fun K hK =>?_;simp only[GJ,U,simprocAttr];refine .flat _ (Ag x) rfl ?_
 try simp only[U,simprocAttr]
 refine .done (hK _ ?_);clear hK K;refine .ao (by decide +kernel) fun K hK =>?_;simp only[GO,U,simprocAttr];refine .flat _ (Ag y) rfl ?_
 try simp only[U,simprocAttr]
 refine .done (hK _ ?_);clear hK K;refine J.seq ?_;refine .ao (by decide +kernel) fun K hK =>?_;simp only[GP,U,simprocAttr];refine .done (hK _ ?_);clear hK K;refine J.bM ?_;simp only[ak,U,simprocAttr];refine ⟨fun h =>?_,fun h =>?_⟩
 ·cases h
 refine J.skip ?_;try simp only[ar,simprocAttr]
 refine J.seq ?_;refine .ao (by decide +kernel) fun K hK =>?_;simp only[GQ,U,simprocAttr];refine .done (hK _ ?_);clear hK K;refine J.bM ?_;simp only[ak,U,simprocAttr];refine ⟨fun h =>?_,fun h =>?_⟩
 ·cases h
 refine J.skip ?_;try simp only[ar,simprocAttr]
 refine J.seq ?_;refine .ao (by decide +kernel) fun K hK =>?_;simp only[GR,U,simprocAttr];refine .done (hK _ ?_);clear hK K;refine J.bM ?_;simp only[ak,U,simprocAttr];refine ⟨fun h =>?_,fun h =>?_⟩
 ·refine .ao (by decide +kernel) fun K hK =>?_;simp only[GK,U,simprocAttr];refine .done (hK _ ?_);clear hK K;refine J.ret ?_;simp only[ar,U,simprocAttr];have:x<y:=by simpa using h
  simp[jE,this]
 have h1:¬ x<y:=by simpa using h
 refine J.skip ?_;try simp only[ar,simprocAttr]
 refine J.seq ?_;refine .ao (by decide +kernel) fun K hK =>?_;simp only[GL,U,simprocAttr];refine .done (hK _ ?_);clear hK K;refine J.bM ?_;simp only[ak,U,simprocAttr];refine ⟨fun h =>?_,fun h =>?_⟩
 ·refine .ao (by decide +kernel) fun K hK =>?_;simp only[GM,U,simprocAttr];refine .done (hK _ ?_);clear hK K;refine J.ret ?_;simp only[ar,U,simprocAttr];have:y<x:=by simpa using h
  simp[jE,this,h1]
 have h2:¬ y<x:=by simpa using h
 refine J.skip ?_;try simp only[ar,simprocAttr]
 refine .ao (by decide +kernel) fun K hK =>?_;simp only[GN,U,simprocAttr];refine .done (hK _ ?_);clear hK K;refine J.ret ?_;simp only[U,simprocAttr];simp[jE,h1,h2]
theorem A2(a b:Int):dZ [.int .i64 0,.int .i64 0] [(0,.int .i64 a),(1,.int .i64 b)]=some [.int .i64 a,.int .i64 b]:=by simp[dZ,I.cm,I.size]
theorem mG(n lo hi:Int):ay Tryz.prog 114 [enc n,enc lo,enc hi] (enc (cj lo hi n)):=by
 refine ay.bn Tryz.func114 SL UG WR (t7 rfl) (fun hwf W0 D0 E1 =>?_);simp only[Bd,MP,bg,zz4,Nat.reduceAdd];refine .ao (by decide +kernel) fun K hK =>?_;simp only[Fg,U,simprocAttr];refine .done (hK _ ?_);clear hK K;refine .ao (by decide +kernel) fun K hK =>?_;simp only[Fh,U,simprocAttr];refine .guard (fun h =>?_) (fun h =>?_)
 ·simp only[U,simprocAttr,h];refine .done (hK _ ?_);clear hK K;refine J.ret ?_;simp only[U,simprocAttr]
  simp_all[cj]
 ·simp only[U,simprocAttr,h];refine .done (hK _ ?_);clear hK K;refine J.ret ?_;simp only[U,simprocAttr];simp at h;simp[cj];omega
def pZ(x:Item):Bool:=cj 0 5 x.fh&&cj 0 9999 x.no
theorem u4(n:Int):ay Tryz.prog 127 [enc n] (enc (cj 0 100000 n)):=by
 refine ay.bn Tryz.func127 SX UR W4 (t7 rfl) (fun hwf W0 D0 E1 =>?_);simp only[Bo,M0,bg];refine .ao (by decide +kernel) fun K hK =>?_;simp only[FJ,U,simprocAttr];refine .done (hK _ ?_);clear hK K;refine .ao (by decide +kernel) fun K hK =>?_;simp only[FK,U,simprocAttr];refine .flat _ (mG n 0 100000) rfl ?_
 try simp only[U,simprocAttr]
 refine .done (hK _ ?_);clear hK K;refine J.ret ?_;simp only[U,simprocAttr]
theorem Qx(n:Int):ay Tryz.prog 154 [enc n] (enc (cj 1 9999 n)):=by
 refine ay.bn Tryz.func154 Tf Vb Xn (t7 rfl) (fun hwf W0 D0 E1 =>?_);simp only[BI,Nl,bg];refine .ao (by decide +kernel) fun K hK =>?_;simp only[Gn,U,simprocAttr];refine .done (hK _ ?_);clear hK K;refine .ao (by decide +kernel) fun K hK =>?_;simp only[Gp,U,simprocAttr];refine .flat _ (mG n 1 9999) rfl ?_
 try simp only[U,simprocAttr]
 refine .done (hK _ ?_);clear hK K;refine J.ret ?_;simp only[U,simprocAttr]
theorem Qy(n:Int):ay Tryz.prog 155 [enc n] (enc (cj 1 9 n)):=by
 refine ay.bn Tryz.func155 Tg Vc Xo (t7 rfl) (fun hwf W0 D0 E1 =>?_);simp only[BJ,Nn,bg];refine .ao (by decide +kernel) fun K hK =>?_;simp only[Gq,U,simprocAttr];refine .done (hK _ ?_);clear hK K;refine .ao (by decide +kernel) fun K hK =>?_;simp only[Gr,U,simprocAttr];refine .flat _ (mG n 1 9) rfl ?_
 try simp only[U,simprocAttr]
 refine .done (hK _ ?_);clear hK K;refine J.ret ?_;simp only[U,simprocAttr]
theorem Qz(n:Int):ay Tryz.prog 156 [enc n] (enc (cj 1 99 n)):=by
 refine ay.bn Tryz.func156 Th Vd Xp (t7 rfl) (fun hwf W0 D0 E1 =>?_);simp only[BK,Np,bg];refine .ao (by decide +kernel) fun K hK =>?_;simp only[Gs,U,simprocAttr];refine .done (hK _ ?_);clear hK K;refine .ao (by decide +kernel) fun K hK =>?_;simp only[Gt,U,simprocAttr];refine .flat _ (mG n 1 99) rfl ?_
 try simp only[U,simprocAttr]
 refine .done (hK _ ?_);clear hK K;refine J.ret ?_;simp only[U,simprocAttr]
theorem zZ(x:Item):ay Tryz.prog 115 [enc x] (enc (pZ x)):=by
 refine ay.bn Tryz.func115 SM UH WS (t7 rfl) (fun hwf W0 D0 E1 =>?_);simp only[Be,MQ,bg];refine .ao (by decide +kernel) fun K hK =>?_;simp only[Fi,U,simprocAttr]
 try simp only[dN,U,simprocAttr]
 refine .done (hK _ ?_);clear hK K;refine .ao (by decide +kernel) fun K hK =>?_;simp only[Fj,U,simprocAttr]
 try simp only[qG,U,simprocAttr]
 refine .flat _ (mG x.fh 0 5) rfl ?_
 try simp only[U,simprocAttr]
 cases h1:cj 0 5 x.fh with
 |false =>
  try simp only[U,simprocAttr]
  refine .done (hK _ ?_);clear hK K;refine J.ret ?_;simp only[U,simprocAttr];simp[pZ,h1]
 |true =>
  try simp only[qG,U,simprocAttr]
  refine .flat _ (mG x.no 0 9999) rfl ?_
  try simp only[U,simprocAttr]
  refine .done (hK _ ?_);clear hK K;refine J.ret ?_;simp only[U,simprocAttr];simp[pZ,h1]
def before(a b:Item):Bool:=decide (a.fh<b.fh)||(decide (a.fh=b.fh)&&decide (a.no<b.no))
def mh:List Int→Int
 | []=>0
 |x::l=>if x≠0 then x else mh l
theorem Mr{l:List Int}{i:Nat}(hi:i≤l.length)(h:∀ k,k<i→l.getD k 0=0):mh (l.drop i)=mh l:=by
 induction i with
 |zero=>simp
 |succ i ih =>
  have hlt:i<l.length:=by omega
  rw[←ih (by omega) (fun k hk=>h k (by omega)),zv8 hlt];have:=h i (by omega);rw[zz0,zz9 hlt] at this;simp at this;simp[mh,this]
theorem QA(l:List Int):ay Tryz.prog 158 [enc l] (enc (mh l)):=by
 refine ay.bn Tryz.func158 Tj Vf Xr (t7 rfl) (fun hwf W0 D0 E1 =>?_);simp only[BM,Nr,bg];have hlen:l.length≤maxLen:=((lC l).1 hwf.1).1;simp only[maxLen] at hlen;refine .ao (by decide +kernel) fun K hK =>?_;simp only[Gy,U,simprocAttr];refine .done (hK _ ?_);clear hK K;refine .ao (by decide +kernel) fun K hK =>?_;simp only[Gz,U,simprocAttr];refine .done (hK _ ?_);clear hK K;refine J.seq (J.seq ?_);refine .bx (by decide +kernel) fun K hK =>?_;simp only[GA,U,simprocAttr]
 try simp only[bd,U,simprocAttr]
 refine .done (hK _ ?_);clear hK K;try simp only[ar]
 refine J.block (J.loop (fun i:Nat=>au [(3,.int .i64 0),(6,enc l),(7,.int .i64 l.length),(8,.int .i64 i)] []) (fun i=>i≤l.length∧∀ k,k<i→l.getD k 0=0) (fun i=>l.length-i) 0 ⟨zw7 _,by intro k hk;omega⟩ ?_ (fun i hi =>?_))
 ·refine aC.bI ?_ ?_ ?_ ?_ <;>simp[aT,bC,bB,a6,aV,I.only,bh]
 refine .ao (by decide +kernel) fun K hK =>?_;simp only[GB,U,simprocAttr];refine .done (hK _ ?_);clear hK K;refine J.seq ?_;refine J.bM ?_;simp only[ak,U,simprocAttr];refine ⟨fun h =>?_,fun h =>?_⟩
 ·have hlt:i<l.length:=by simpa using h
  refine J.skip ?_;try simp only[ar,simprocAttr]
  refine J.seq (J.block ?_);refine .ao (by decide +kernel) fun K hK =>?_;simp only[GC,U,simprocAttr]
  try simp only[ft 1 hlt rfl,U,simprocAttr]
  refine .done (hK _ ?_);clear hK K;refine J.seq ?_;refine .bx (by decide +kernel) fun K hK =>?_;simp only[GD,U,simprocAttr];refine .done (hK _ ?_);clear hK K;try simp only[ar]
  refine J.bM ?_;simp only[ak,U,simprocAttr];refine ⟨fun h =>?_,fun h =>?_⟩
  ·refine .ao (by decide +kernel) fun K hK =>?_;simp only[GF,U,simprocAttr];refine .done (hK _ ?_);clear hK K;refine J.ret ?_;simp only[bO,ar,U,simprocAttr];rw[←Mr hi.1 hi.2,zv8 hlt];simp at h;simp[mh,h]
  ·refine J.skip ?_;try simp only[ar,bO,simprocAttr]
   refine .bx (by decide +kernel) fun K hK =>?_;simp only[GG,U,simprocAttr];refine .done (hK _ ?_);clear hK K;try simp only[ar]
   refine ⟨i+1,⟨by omega,fun k hk =>?_⟩,by omega,?_⟩
   ·by_cases e:k=i
    ·subst e;simp at h;simp[zz0,hlt,h]
    ·exact hi.2 k (by omega)
   ·rw[cF _ (by omega) (by omega)];refine aC.bI ?_ ?_ ?_ ?_ <;>simp[aT,bC,bB,a6,aV,I.only,bh]
 have hie:i=l.length:=by simp at h;omega
 refine J.exit ?_;try simp only[ar,bO,simprocAttr]
 refine .ao (by decide +kernel) fun K hK =>?_;simp only[GH,U,simprocAttr];refine .done (hK _ ?_);clear hK K;refine J.ret ?_;simp only[U,simprocAttr];rw[←Mr hi.1 hi.2,hie];simp[mh]
def lN(a b:Item):Int:=mh [jE a.fh b.fh,jE a.no b.no]
theorem u0(a b:Item):ay Tryz.prog 118 [enc a,enc b] (enc (lN a b)):=by
 refine ay.bn Tryz.func118 SO UJ WU (t7 rfl) (fun hwf W0 D0 E1 =>?_);simp only[Bg,MS,bg,zz4];refine .ao (by decide +kernel) fun K hK =>?_;simp only[Fo,U,simprocAttr]
 try simp only[dN,U,simprocAttr]
 refine .done (hK _ ?_);clear hK K;refine .ao (by decide +kernel) fun K hK =>?_;simp only[Fp,U,simprocAttr]
 try simp only[qG,U,simprocAttr]
 refine .flat _ (Ad a.fh b.fh) rfl ?_
 try simp only[qG,U,simprocAttr]
 refine .flat _ (Ad a.no b.no) rfl ?_
 try simp only[U,simprocAttr]
 have hb:iC 1 (some [.int .i64 (jE a.fh b.fh),.int .i64 (jE a.no b.no)])=some (enc [jE a.fh b.fh,jE a.no b.no]):=mM (ys:=[jE a.fh b.fh,jE a.no b.no]) 1 rfl
 try simp only[hb,c8,U,simprocAttr]
 refine .flat _ (QA _) rfl ?_
 try simp only[U,simprocAttr]
 refine .done (hK _ ?_);clear hK K;refine J.ret ?_;simp only[U,simprocAttr];rfl
deriving instance DecidableEq for aW
deriving instance DecidableEq for aq
deriving instance DecidableEq for aD
def oq:aW 6 Int:=⟨List.replicate 6 0,rfl⟩
instance:Inhabited aq:=⟨⟨⟨0,0⟩,0,0,0,0,0,0,0,oq,⟨0,0⟩⟩⟩
instance:Inhabited aD:=⟨⟨0,0,0,0,0,0,0,false,[]⟩⟩
def jY(x:aq):aq where
 bF:=x.bF
 kind:=x.kind
 day:=x.day
 known:=x.known
 cH:=if x.kind=0 then 0 else x.cH
 e7:=if x.kind=1 then x.e7 else 0
 dq:=if x.kind=1∨x.kind=2 then x.dq else 0
 bP:=if x.kind=1∨x.kind=3∨x.kind=5 then x.bP else 0
 b9:=if x.kind=4 then x.b9 else oq
 kb:=if x.kind=0 then x.kb else ⟨0,0⟩
def pT(x:aq):Bool :=
 if x.kind=0 then (x.day==0)&&(pZ x.kb&&((x.kb.fh==x.bF.fh)&&decide (x.kb.no<x.bF.no)))
 else cj 1 9999 x.cH&&(
  if x.kind=1 then cj 1 9 x.dq&&(cj 1 99 x.bP&&(cj 0 9999 x.e7&&(x.e7 != x.cH)))
  else if x.kind=2 then cj 1 9 x.dq
  else if x.kind=3∨x.kind=5 then cj 1 99 x.bP
  else if x.kind=4 then iw x.b9
  else decide (x.kind=6))
def iW(x:aq):Bool:=pT x&&(decide (x=jY x)&&(pZ x.bF&&(cj 0 100000 x.day&&cj 0 100000 x.known)))
def ab(l:List aq)(i:Nat):aq:=l.getD i default
def kD(l:List aq)(i:Nat):Bool:=iW (ab l i)&&(decide (i=0)||before (ab l (i-1)).bF (ab l i).bF)
def dQ(l:List aq):Bool:=decide (l.length≤60)&&(List.range l.length).all (kD l)
def gC(l:List aq)(a:Item):Nat:=l.findIdx fun x => !before x.bF a
def l6(l:List aq)(a:Item):Bool:=l.any fun x=>decide (x.bF=a)
def gM(known:Int):List aq→List Bool×List Item
 | []=>([],[])
 |x::l =>
  let b:=decide (x.known≤known) && !(gM known l).2.contains x.bF
  (b::(gM known l).1,if b&&decide (x.kind=0) then x.kb::(gM known l).2 else (gM known l).2)
def gp(l:List aq)(known:Int):List Bool:=(gM known l).1
def eQ(l:List aq)(known:Int):List Nat:=(List.range l.length).filter fun i=>(gp l known).getD i false
def jn(key:Nat→Int)(i:Nat)(l:List Nat):List Nat:=(l.takeWhile fun k=>decide (key k≤key i))++i::l.dropWhile fun k=>decide (key k≤key i)
def Ms(key:Nat→Int)(l:List Nat):List Nat:=l.foldl (fun o i=>jn key i o) []
def jj(l:List aq)(day known:Int):List Nat:=(eQ l known).filter fun i=>decide ((ab l i).kind≠0)&&decide ((ab l i).day≤day)
def jQ(l:List aq)(day known:Int):List Nat:=Ms (fun i=>(ab l i).day) (jj l day known)
def cw(bs:List aD)(no:Int):Option aD:=bs.find? fun b=>decide (b.no=no)
def lx(bs:List aD)(x:aD):List aD:=bs.map fun b=>if b.no=x.no then x else b
def fP(x:aq):aD:=⟨x.cH,x.dq,x.e7,x.bP,x.bP,x.day,-1,false,[]⟩
def gQ(bs:List aD)(x:aq):Bool:=decide (x.e7≤0)||match cw bs x.e7 with
 |some d=>decide (d.dq=x.dq) && !(decide (0≤d.cV)&&decide (d.cV<x.day))
 |none=>false
def eZ(b:aD)(x:aq):Option aD :=
 if x.kind=3 then (if b.cV≥0∨b.bP=0∨b.bP=x.bP then none else some { b with bP:=x.bP })
 else if x.kind=4 then some { b with b9:=b.b9++[x.b9] }
 else if x.kind=5 then some { b with bP:=x.bP,found:=true }
 else (if b.cV≥0 then none else some { b with cV:=x.day })
def dK(add:List aD→aD→List aD)(bs:List aD)(x:aq):Option (List aD) :=
 if x.kind=1∨x.kind=2 then (if cw bs x.cH=none∧gQ bs x=true then some (add bs (fP x)) else none)
 else match cw bs x.cH with
  |none=>none
  |some b=>(eZ b x).map (lx bs)
def c5(bs:List aD)(b:aD):List aD:=bs++[b]
def nA(bs:List aD)(b:aD):List aD:=(bs.takeWhile fun a=>decide (a.no≤b.no))++b::bs.dropWhile fun a=>decide (a.no≤b.no)
def lB(add:List aD→aD→List aD)(l:List aq)(s:List aD×List Nat)(i:Nat):List aD×List Nat:=match dK add s.1 (ab l i) with
 |some bs=>(bs,s.2)
 |none=>(s.1,s.2++[i])
def rR(add:List aD→aD→List aD)(l:List aq)(order:List Nat):List aD×List Nat:=order.foldl (lB add l) ([],[])
theorem amB(bs:List aD)(x:aD):(lx bs x).map (·.no)=bs.map (·.no):=by
 simp only[lx,List.map_map];refine List.map_congr_left fun b _ =>?_;simp only[Function.comp];split
 ·rename_i h;exact h.symm
 ·rfl
theorem pW{bs:List aD}{no:Int}{b:aD}(h:cw bs no=some b):b∈bs∧b.no=no:=⟨List.mem_of_find?_eq_some h,by simpa using List.find?_some h⟩
theorem tp{bs:List aD}{no:Int} : cw bs no=none↔no∉bs.map (·.no):=by
 simp[cw]
theorem KF{bs:List aD}(hd:(bs.map (·.no)).Nodup){b:aD}(h:b∈bs):cw bs b.no=some b:=by
 induction bs with
 |nil=>cases h
 |cons a bs ih =>
  simp only[cw,List.find?_cons];simp only[zz8,List.nodup_cons] at hd;by_cases e:a.no=b.no
  ·rcases zx6.1 h with rfl | h
   ·simp
   ·exact absurd (zx9.2 ⟨b,h,e.symm⟩) hd.1
  ·rcases zx6.1 h with rfl | h
   ·exact absurd rfl e
   ·simp only[decide_eq_false e];exact ih hd.2 h
def uX(add:List aD→aD→List aD):Prop:=∀ bs b,(add bs b).Perm (b::bs)
theorem AF:uX c5:=fun bs b=>List.perm_append_comm
theorem RE:uX nA:=fun bs b=>by
 have h:(bs.takeWhile fun a=>decide (a.no≤b.no))++(bs.dropWhile fun a=>decide (a.no≤b.no))=bs:=List.takeWhile_append_dropWhile;have:=(List.perm_middle (a:=b) (l₁:=bs.takeWhile fun a=>decide (a.no≤b.no)) (l₂:=bs.dropWhile fun a=>decide (a.no≤b.no)))
 rw[h] at this;exact this
theorem AP{add:List aD→aD→List aD}(ha:uX add){bs bs':List aD}{x:aq}(hd:(bs.map (·.no)).Nodup)(h:dK add bs x=some bs'):(bs'.map (·.no)).Nodup:=by
 simp only[dK] at h;split at h
 ·split at h
  ·rename_i h2;simp only[u8] at h;subst h;rw[((ha bs (fP x)).map _).nodup_iff];simp only[zz8,List.nodup_cons];exact ⟨tp.1 h2.1,hd⟩
  ·cases h
 ·split at h
  ·cases h
  ·simp only[zz1] at h;obtain ⟨b',_,rfl⟩:=h;rw[amB];exact hd
def gf(l:List Int):Prop:=l.Pairwise (· < ·)
theorem anI{bs:List aD}{b:aD}(h:gf (bs.map (·.no)))(hn:b.no∉bs.map (·.no)):gf ((nA bs b).map (·.no)):=by
 induction bs with
 |nil=>simp[nA,gf]
 |cons a bs ih =>
  simp only[zz8,gf,zw3,zx6,not_or] at h hn;by_cases e:a.no≤b.no
  ·have hlt:a.no<b.no:=by omega
   have:nA (a::bs) b=a::nA bs b:=by simp[nA,e]
   rw[this];simp only[zz8,gf,zw3];refine ⟨fun n hm =>?_,ih h.2 hn.2⟩;obtain ⟨c,hc,rfl⟩:=zx9.1 hm;rcases zx6.1 ((RE bs b).mem_iff.1 hc) with rfl | hc
   ·exact hlt
   ·exact h.1 _ (zx9.2 ⟨c,hc,rfl⟩)
  ·have:nA (a::bs) b=b::a::bs:=by simp[nA,e]
   rw[this];simp only[zz8,gf,zw3,zx6];refine ⟨fun n hm =>?_,h.1,h.2⟩;rcases hm with rfl | hm
   ·omega
   ·have:=h.1 n hm;omega
theorem zf:∀ {l m:List Int},gf l→gf m→(∀ x,x∈l↔x∈m)→l=m
 | [],[],_,_,_=>rfl
 | [],b::m,_,_,h=>by have:=(h b).2 (by simp);cases this
 |a::l,[],_,_,h=>by have:=(h a).1 (by simp);cases this
 |a::l,b::m,h1,h2,h=>by
  simp only[gf,zw3] at h1 h2;have e:a=b:=by
   rcases zx6.1 ((h a).1 (by simp)) with e | e
   ·exact e
   ·rcases zx6.1 ((h b).2 (by simp)) with e2 | e2
    ·exact e2.symm
    ·have:=h1.1 b e2;have:=h2.1 a e;omega
  subst e
  congr 1
  refine zf h1.2 h2.2 fun x=>⟨fun hx =>?_,fun hx =>?_⟩
  ·rcases zx6.1 ((h x).1 (by simp[hx])) with e | e
   ·have:=h1.1 x hx;omega
   ·exact e
  ·rcases zx6.1 ((h x).2 (by simp[hx])) with e | e
   ·have:=h2.1 x hx;omega
   ·exact e
theorem amJ{n:Nat}{p:List Nat}{sz k total i j:Nat}(h:i≤j)(hj:j≤k)(hk:k≤total):iA n p sz 0 k total (some (.int .i64 i)) (some (.int .i64 j)) (some (.int .i64 k))=some .du:=by
 simp only[iA,iP];rw[if_pos ⟨by omega,by omega,by omega,by omega⟩]
theorem Pn{n:Nat}{p:List Nat}{sz k total i j:Nat}(h:i≤j)(hk:j≤total)(h0:i<total):iA n p sz 0 k total (some (.int .i64 i)) (some (.int .i64 j)) none=some (.view n p sz i (j-i)):=by
 simp only[iA,iP];rw[if_pos ⟨by omega,by omega,by omega⟩,if_neg (by omega)];simp
theorem RU{α:Type}[Enc α]{A:ae}{rest:List aB}{esz bytes:Nat}{d:Option Nat}{e:Nat}(z x:I){n l:Nat}{xs ys:List α}(hx:eI A esz x=some (ys.map enc))(hy:ys≠[])(ho:A.o n=some (.box (.agg (xs.map enc))))(hr:l+ys.length≤xs.length) :
  ic A d e esz bytes z x rest (.view n [] esz 0 l)=aE rest ((A.aS n (.box (.agg ((xs.take l++(ys++xs.drop (l+ys.length))).map enc)))).aP d (.view n [] esz 0 (l+ys.length))):=by
 have h1:=r8 (A:=A) (esz:=esz) (lo:=0) (k:=l) ho (by omega);have h2:(I.agg (xs.map (enc (α:=α)))).at []=some (.agg (xs.map enc)):=rfl;have h3:I.cS (ys.map (enc (α:=α)))=I.cS (((xs.map (enc (α:=α))).drop l).take ys.length):=by
  rw[←List.map_drop,←List.map_take];exact Pk (by rw[zy7,zy9];omega)
 simp only[ic,h1,hx,fw];rw[if_neg (by simpa using hy)];simp only[ho,h2,zy2,zz4];rw[if_pos hr,if_pos ⟨rfl,by rw[zy2,zz4];exact h3⟩];simp only[jc,fI,zy2,zx5,List.map_take,List.map_drop]
theorem AN{α:Type}[Enc α]{A:ae}{rest:List aB}{esz bytes:Nat}{d:Option Nat}{e:Nat}(z x:I){n l:Nat}{xs:List α}(hx:eI A esz x=some [])(ho:A.o n=some (.box (.agg (xs.map enc))))(hr:l≤xs.length) :
  ic A d e esz bytes z x rest (.view n [] esz 0 l)=aE rest (A.aP d (.view n [] esz 0 l)):=by
 have h1:=r8 (A:=A) (esz:=esz) (lo:=0) (k:=l) ho (by omega);simp only[ic,h1,hx,fw,if_true]
theorem aab(a b:Int):cv (.i .i64) (enc a) (enc b)=some (a==b):=by simp[gT,cv]
theorem EI:∀ (x y:List Int),x.length=y.length→((x.map (enc (α:=Int))).zip (y.map (enc (α:=Int)))).foldr (fun p acc=>iN (cv (.i .i64) p.1 p.2) acc) (some true)=some (decide (x=y))
 | [],[],_=>by simp
 |a::x,b::y,h=>by
  have ih:=EI x y (by simpa using h);rw[zz8,zz8,List.zip_cons_cons,List.foldr_cons,ih,aab];by_cases hab:a=b <;>by_cases hxy:x=y <;>simp[iN,hab,hxy]
theorem s7{n:Nat}(x y:aW n Int):cv (.kO n (.i .i64)) (enc x) (enc y)=some (decide (x.l=y.l)):=by
 change cv (.kO n (.i .i64)) (.agg (x.l.map enc)) (.agg (y.l.map enc))=_
 rw[cv,if_pos ⟨by simp[x.h],by simp[y.h]⟩];exact EI x.l y.l (by rw[x.h,y.h])
theorem QD(n:Int):ay Tryz.prog 162 [enc n] (enc (!cj 0 4 n)):=by
 refine ay.bn Tryz.func162 Tp Vk Xw (t7 rfl) (fun hwf W0 D0 E1 =>?_);simp only[BR,Nw,bg];refine .ao (by decide +kernel) fun K hK =>?_;simp only[GX,U,simprocAttr];refine .done (hK _ ?_);clear hK K;refine .ao (by decide +kernel) fun K hK =>?_;simp only[GY,U,simprocAttr];refine .flat _ (sq n 0 4) rfl ?_
 try simp only[U,simprocAttr]
 refine .done (hK _ ?_);clear hK K;refine J.ret ?_;simp only[U,simprocAttr]
theorem Q6(n:Int):ay Tryz.prog 211 [enc n] (enc (!cj 1 31 n)):=by
 refine ay.bn Tryz.func211 TP VM XY (t7 rfl) (fun hwf W0 D0 E1 =>?_);simp only[Cl,NZ,bg];refine .ao (by decide +kernel) fun K hK =>?_;simp only[IF,U,simprocAttr];refine .done (hK _ ?_);clear hK K;refine .ao (by decide +kernel) fun K hK =>?_;simp only[IG,U,simprocAttr];generalize hz:(n==0)=z;cases z
 ·try simp only[U,simprocAttr]
  refine .flat _ (Ae n) rfl ?_
  try simp only[U,simprocAttr]
  refine .done (hK _ ?_);clear hK K;refine J.ret ?_;simp only[U,simprocAttr];simp at hz;have e:(0≤n)↔(1≤n):=by omega
  simp[cj,e]
 ·try simp only[U,simprocAttr]
  refine .done (hK _ ?_);clear hK K;refine J.ret ?_;simp only[U,simprocAttr];simp at hz;simp[cj,hz]
def j7(p:Int→Bool)(l:List Int):Int:=match l.findIdx? p with
 |some i=>i
 |none=>-1
theorem wq{α:Type}{p:α→Bool}{l:List α}(h:∀ x∈l,p x=false):l.findIdx? p=none:=by
 rw[List.findIdx?_eq_none_iff];exact h
theorem wu{α:Type}{p:α→Bool}{l:List α}{i:Nat}(hi:i<l.length)(h:∀ x∈l.take i,p x=false)(hp:p l[i]=true):l.findIdx? p=some i:=by
 rw[zv2];refine ⟨hi,hp,fun j hj =>?_⟩;have:l[j]∈l.take i:=by
  rw[List.mem_take_iff_getElem];exact ⟨j,by omega,rfl⟩
 simp[h _ this]
theorem u6(l:List Int)(f:FuncId)(caps:List I)(hcaps:I.eS caps=true)(p:Int→Bool)(hf:∀ x∈l,ay Tryz.prog f (enc x::caps) (enc (p x))):ay Tryz.prog 166 [enc l,.func f caps] (enc (j7 p l)):=by
 refine ay.bn Tryz.func166 Tt Vo XA (t7 rfl) (fun hwf W0 D0 E1 =>?_);simp only[BV,NA,bg,zz4];have hlen:l.length≤maxLen:=((lC l).1 hwf.1).1;simp only[maxLen] at hlen;have hcl:I.bZ caps=true:=kr caps hcaps;have hfc:∀ aA A,ca aA A caps=some caps:=fun aA A=>j5 aA A caps hcaps;have hon:∀ q,I.bT q caps=true:=fun q=>kc q caps hcl;refine .ao (by decide +kernel) fun K hK =>?_;simp only[G6,U,simprocAttr];refine .done (hK _ ?_);clear hK K;refine J.seq ?_;refine J.seq (J.bx (by decide +kernel) fun K hK =>?_)
 try simp only[G7,bd,U,simprocAttr]
 refine .done (hK _ ?_);clear hK K;refine J.block (J.loop (fun i:Nat=>au [(0,enc l),(1,.func f caps),(7,.int .i64 l.length),(8,.int .i64 i)] []) (fun i=>i≤l.length∧∀ x∈l.take i,p x=false) (fun i=>l.length-i) 0 ⟨zw7 _,by simp⟩ ?_ (fun i hi =>?_))
 ·refine aC.bI ?_ ?_ ?_ ?_ <;>simp[aT,bC,bB,a6,aV,I.only,bh,hon]
 ·refine .ao (by decide +kernel) fun K hK =>?_;simp only[G8,U,simprocAttr];refine .done (hK _ ?_);clear hK K;refine J.seq ?_;refine J.bM ?_;simp only[ak,U,simprocAttr];refine ⟨fun h =>?_,fun h =>?_⟩
  ·have hlt:i<l.length:=by simpa using h
   refine J.skip ?_;try simp only[ar,simprocAttr]
   refine J.seq (J.block ?_);refine .ao (by decide +kernel) fun K hK =>?_;simp only[G9,U,simprocAttr];refine .done (hK _ ?_);clear hK K;refine .ao (by decide +kernel) fun K hK =>?_;simp only[Ha,U,simprocAttr]
   try simp only[ft 1 hlt rfl,zy0,hfc,U,simprocAttr]
   refine .flat _ (hf _ (zx3 hlt)) rfl ?_
   try simp only[U,simprocAttr]
   refine .done (hK _ ?_);clear hK K;refine J.bM ?_;simp only[ak,U,simprocAttr];refine ⟨fun h =>?_,fun h =>?_⟩
   ·refine .ao (by decide +kernel) fun K hK =>?_;simp only[Hb,U,simprocAttr];refine .done (hK _ ?_);clear hK K;refine J.ret ?_;simp only[bO,ar,U,simprocAttr];simp[j7,wu hlt hi.2 h]
   ·refine J.skip ?_;try simp only[ar,bO,simprocAttr]
    refine .bx (by decide +kernel) fun K hK =>?_;simp only[Hc,U,simprocAttr];refine .done (hK _ ?_);clear hK K;try simp only[ar]
    refine ⟨i+1,⟨by omega,fun x hm =>?_⟩,by omega,?_⟩
    ·rw[zy1 hlt] at hm;rcases zy4.1 hm with hm | hm
     ·exact hi.2 x hm
     ·simp at hm;rw[hm];exact h
    ·rw[cF _ (by omega) (by omega)];refine aC.bI ?_ ?_ ?_ ?_ <;>simp[aT,bC,bB,a6,aV,I.only,bh,hon]
  ·have hge:i=l.length:=by simp at h;omega
   refine J.exit ?_;try simp only[ar,bO,simprocAttr]
   refine .ao (by decide +kernel) fun K hK =>?_;simp only[Hd,U,simprocAttr];refine .done (hK _ ?_);clear hK K;refine J.ret ?_;simp only[U,simprocAttr];simp[hge] at hi;simp[j7,wq hi]
theorem KS(p:Int→Bool)(l:List Int):decide (0≤j7 p l)=l.any p:=by
 unfold j7;cases h:l.findIdx? p with
 |none =>
  rw[List.findIdx?_eq_none_iff] at h;have:l.any p=false:=by rw[List.any_eq_false];intro x hx;simp[h x hx]
  simp[this]
 |some i =>
  rw[zv2] at h;obtain ⟨h1,h2,_⟩:=h;have:l.any p=true:=by rw[List.any_eq_true];exact ⟨_,zx3 h1,h2⟩
  rw[this];exact decide_eq_true (Int.natCast_nonneg i)
theorem u3(l:List Int)(f:FuncId)(caps:List I)(hcaps:I.eS caps=true)(p:Int→Bool)(hf:∀ x∈l,ay Tryz.prog f (enc x::caps) (enc (p x))):ay Tryz.prog 125 [enc l,.func f caps] (enc (l.any p)):=by
 refine ay.bn Tryz.func125 SV UP W2 (t7 rfl) (fun hwf W0 D0 E1 =>?_);simp only[Bm,MY,bg,zz4];have hcl:I.bZ caps=true:=kr caps hcaps;have hfc:∀ aA A,ca aA A caps=some caps:=fun aA A=>j5 aA A caps hcaps;refine .ao (by decide +kernel) fun K hK =>?_;simp only[FH,U,simprocAttr];refine .done (hK _ ?_);clear hK K;refine .ao (by decide +kernel) fun K hK =>?_;simp only[FI,U,simprocAttr]
 try simp only[c8,hfc,U,simprocAttr]
 refine .flat _ (u6 l f caps hcaps p hf) rfl ?_
 try simp only[U,simprocAttr]
 refine .done (hK _ ?_);clear hK K;refine J.ret ?_;simp only[U,simprocAttr];rw[KS]
theorem Es{α:Type}[Enc α]{n sz:Nat}(x:aW n α)(hs:Enc.sz α=sz):lY sz 0 n (some (x.l.map enc))=some (enc x.l):=by
 have h:((x.l.map (enc (α:=α))).drop 0).take n=x.l.map enc:=by
  rw[List.drop_zero,zv6];simp[x.h]
 simp only[lY,h];rw[if_pos (kR x.l),gG,hs]
theorem PS{α:Type}[Enc α]{n sz:Nat}(x:aW n α)(hs:Enc.sz α=sz)(h1:n≤maxLen)(h0:n≠0)(y:I):py n sz (x.l.map enc) y=some y:=by
 simp only[py];rw[if_pos ⟨wc n sz x.l x.h hs,h1,h0⟩]
theorem AI(p:Int→Bool)(x:aW 6 Int):x.l.any (fun v => !p v) = !(List.range 6).all (fun i=>p (x.g i)):=by
 have h:(List.range 6).all (fun i=>p (x.g i))=x.l.all p:=by
  rw[Bool.eq_iff_iff];simp only[zx2,zw1];constructor
  ·intro h v hv;obtain ⟨i,hi,rfl⟩:=List.getElem_of_mem hv;have:=h i (by rw[x.h] at hi;exact hi)
   rwa [←x.tn (by rw[x.h] at hi;exact hi)] at this
  ·intro h i hi;rw[←x.tn hi];exact h _ (zx3 _)
 rw[h,List.not_all_eq_any_not]
theorem Qe(m:aW 6 Int):ay Tryz.prog 123 [enc m] (enc (dY m)):=by
 refine ay.bn Tryz.func123 SS UN WY (t7 rfl) (fun hwf W0 D0 E1 =>?_);simp only[Bk,MW,bg];refine .ao (by decide +kernel) fun K hK =>?_;simp only[FD,U,simprocAttr];refine .done (hK _ ?_);clear hK K;refine .ao (by decide +kernel) fun K hK =>?_;simp only[FE,U,simprocAttr]
 try simp only[bd,PS (sz:=1) m rfl (t7 rfl) (Nat.succ_ne_zero 5),Es (sz:=1) m rfl,U,simprocAttr]
 refine .flat _ (u3 m.l 162 [] rfl (fun n => !cj 0 4 n) (fun x _=>QD x)) rfl ?_
 try simp only[U,simprocAttr]
 refine .done (hK _ ?_);clear hK K;refine J.ret ?_;simp only[U,simprocAttr];rw[AI (cj 0 4)];simp[dY]
theorem QV(m:aW 6 Int):ay Tryz.prog 193 [enc m] (enc (iw m)):=by
 refine ay.bn Tryz.func193 TE VB XN (t7 rfl) (fun hwf W0 D0 E1 =>?_);simp only[Ca,NO,bg];refine .ao (by decide +kernel) fun K hK =>?_;simp only[Hy,U,simprocAttr];refine .done (hK _ ?_);clear hK K;refine .ao (by decide +kernel) fun K hK =>?_;simp only[Hz,U,simprocAttr]
 try simp only[bd,PS (sz:=1) m rfl (t7 rfl) (Nat.succ_ne_zero 5),Es (sz:=1) m rfl,U,simprocAttr]
 refine .flat _ (u3 m.l 211 [] rfl (fun n => !cj 1 31 n) (fun x _=>Q6 x)) rfl ?_
 try simp only[U,simprocAttr]
 refine .done (hK _ ?_);clear hK K;refine J.ret ?_;simp only[U,simprocAttr];rw[AI (cj 1 31)];simp[iw]
theorem Qd(n:Int):ay Tryz.prog 122 [enc n] (enc (cj 1 99 n)):=by
 refine ay.bn Tryz.func122 SR UM WX (t7 rfl) (fun hwf W0 D0 E1 =>?_);simp only[Bj,MV,bg];refine .ao (by decide +kernel) fun K hK =>?_;simp only[FB,U,simprocAttr];refine .done (hK _ ?_);clear hK K;refine .ao (by decide +kernel) fun K hK =>?_;simp only[FC,U,simprocAttr];refine .flat _ (sq n 1 99) rfl ?_
 try simp only[U,simprocAttr]
 refine .done (hK _ ?_);clear hK K;refine J.ret ?_;simp only[U,simprocAttr]
theorem Ac(m:aW 6 Int):ay Tryz.prog 157 [enc m] (enc (if iw m then (0:Int) else 12)):=by
 refine ay.bn Tryz.func157 Ti Ve Xq (t7 rfl) (fun hwf W0 D0 E1 =>?_);simp only[BL,Nq,bg];refine .ao (by decide +kernel) fun K hK =>?_;simp only[Gu,U,simprocAttr];refine .done (hK _ ?_);clear hK K;refine J.seq (J.seq ?_);refine .bx (by decide +kernel) fun K hK =>?_;simp only[Gv,U,simprocAttr]
 try simp only[cI,c8,U,simprocAttr]
 refine .flat _ (QV m) rfl ?_;generalize hm:iw m=b;cases b
 ·try simp only[U,simprocAttr]
  refine .done (hK _ ?_);clear hK K;try simp only[ar]
  refine J.bM ?_;simp only[ak,U,simprocAttr];refine ⟨fun h =>?_,fun h =>?_⟩
  ·refine .ao (by decide +kernel) fun K hK =>?_;simp only[Gw,U,simprocAttr];refine .done (hK _ ?_);clear hK K;refine J.ret ?_;simp only[ar,U,simprocAttr];simp[hm]
  ·cases h
 ·try simp only[U,simprocAttr]
  refine .done (hK _ ?_);clear hK K;refine J.bM ?_;simp only[ak,U,simprocAttr];refine ⟨fun h =>?_,fun h =>?_⟩
  ·cases h
  ·refine J.skip ?_;try simp only[ar,simprocAttr]
   refine .ao (by decide +kernel) fun K hK =>?_;simp only[Gx,U,simprocAttr];refine .done (hK _ ?_);clear hK K;refine J.ret ?_;simp only[U,simprocAttr];simp[hm]
def xE(s:Int)(k:Nat):Bool:=oD (s.fdiv (2^min k IntKind.i64.bits)) 1==1
theorem QC(s:Int)(k:Nat):ay Tryz.prog 161 [enc s,enc (k:Int)] (enc (xE s k)):=by
 refine ay.bn Tryz.func161 Tn Vj Xv (t7 rfl) (fun hwf W0 D0 E1 =>?_);simp only[BQ,Nv,bg,zz4];refine .ao (by decide +kernel) fun K hK =>?_;simp only[GV,U,simprocAttr];refine .done (hK _ ?_);clear hK K;refine .ao (by decide +kernel) fun K hK =>?_;simp only[GW,U,simprocAttr];refine .done (hK _ ?_);clear hK K;refine J.ret ?_;simp only[U,simprocAttr];rfl
theorem aiZ(s:Int)(h0:0≤s)(h1:s≤31)(k:Nat)(hk:k<5):xE s k=ig s k:=by
 have key:∀ s:Fin 32,∀ k:Fin 5,xE (s.1:Int) k.1=ig (s.1:Int) k.1:=by decide +kernel
 have:=key ⟨s.toNat,by omega⟩ ⟨k,hk⟩;simpa[Int.toNat_of_nonneg h0] using this
theorem Qc(m:aW 5 Int):ay Tryz.prog 120 [enc m] (enc (iy m)):=by
 refine ay.bn Tryz.func120 SP UK WV (t7 rfl) (fun hwf W0 D0 E1 =>?_);simp only[Bh,MT,bg];refine .ao (by decide +kernel) fun K hK =>?_;simp only[Fq,U,simprocAttr];refine .done (hK _ ?_);clear hK K;refine J.seq ?_;refine J.seq (J.bx (by decide +kernel) fun K hK =>?_)
 try simp only[Fs,cI,U,simprocAttr]
 refine .done (hK _ ?_);clear hK K;refine J.block (J.loop (fun i:Nat=>au [(2,.bool false),(6,enc m),(7,.int .i64 i)] []) (fun j=>j≤5∧∀ i,i<j→(cj 0 31 (m.g i)&&ig (m.g i) i)=true) (fun i=>5-i) 0 ⟨by omega,fun k h=>by omega⟩ ?_ (fun i hi =>?_))
 ·refine aC.bI ?_ ?_ ?_ ?_ <;>simp[aT,bC,bB,a6,aV,I.only,bh]
 ·refine .ao (by decide +kernel) fun K hK =>?_;simp only[Ft,U,simprocAttr];refine .done (hK _ ?_);clear hK K;refine J.seq ?_;refine J.bM ?_;simp only[ak,U,simprocAttr];refine ⟨fun h =>?_,fun h =>?_⟩
  ·have hlt:i<5:=by simp at h;omega
   refine J.skip ?_;try simp only[ar,simprocAttr]
   refine J.seq (J.block ?_);refine .ao (by decide +kernel) fun K hK =>?_;simp only[Fu,U,simprocAttr]
   try simp only[rB,bd,jH 1 m hlt rfl,rp m hlt,U,simprocAttr]
   refine .done (hK _ ?_);clear hK K;refine .ao (by decide +kernel) fun K hK =>?_;simp only[Fv,U,simprocAttr];refine .done (hK _ ?_);clear hK K;refine .ao (by decide +kernel) fun K hK =>?_;simp only[Fw,U,simprocAttr];refine .flat _ (Ae _) rfl ?_;generalize hb:cj 0 31 (m.g i)=b;cases b
   ·try simp only[U,simprocAttr]
    refine .done (hK _ ?_);clear hK K;refine J.bM ?_;simp only[ak,U,simprocAttr];refine ⟨fun h =>?_,fun h =>?_⟩
    ·refine .ao (by decide +kernel) fun K hK =>?_;simp only[wC,U,simprocAttr];refine .done (hK _ ?_);clear hK K;refine J.ret ?_;simp only[bO,ar,U,simprocAttr];rw[iy,oB i hlt];simp[hb]
    ·cases h
   ·have hr:0≤m.g i∧m.g i≤31:=by simpa[cj] using hb
    try simp only[U,simprocAttr]
    refine .flat _ (QC (m.g i) i) rfl ?_;rw[aiZ _ hr.1 hr.2 i hlt]
    try simp only[U,simprocAttr]
    refine .done (hK _ ?_);clear hK K;refine J.bM ?_;simp only[ak,U,simprocAttr];refine ⟨fun h =>?_,fun h =>?_⟩
    ·refine .ao (by decide +kernel) fun K hK =>?_;simp only[wC,U,simprocAttr];refine .done (hK _ ?_);clear hK K;refine J.ret ?_;simp only[bO,ar,U,simprocAttr];rw[iy,oB i hlt];simp at h;simp[h]
    ·refine J.skip ?_;try simp only[ar,bO,simprocAttr]
     refine .bx (by decide +kernel) fun K hK =>?_;simp only[Fx,U,simprocAttr];refine .done (hK _ ?_);clear hK K;try simp only[ar]
     refine ⟨i+1,⟨by omega,fun k hk =>?_⟩,by omega,?_⟩
     ·by_cases hk':k=i
      ·subst hk';simp at h;simp[hb,h]
      ·exact hi.2 k (by omega)
     ·rw[cF _ (by omega) (by omega)];refine aC.bI ?_ ?_ ?_ ?_ <;>simp[aT,bC,bB,a6,aV,I.only,bh]
  ·have hge:i=5:=by simp at h;omega
   subst hge;refine J.exit ?_;try simp only[ar,bO,simprocAttr]
   refine .ao (by decide +kernel) fun K hK =>?_;simp only[Fy,U,simprocAttr];refine .done (hK _ ?_);clear hK K;refine J.ret ?_;simp only[U,simprocAttr];rw[iy,qN hi.2]
theorem Ai(f:FuncId)(caps:List I)(hcaps:I.eS caps=true)(p:Nat→Bool)(hf:∀ i:Nat,i<6→ay Tryz.prog f (enc (i:Int)::caps) (enc (p i))):ay Tryz.prog 197 [.func f caps] (enc (eR (fun i => !p i) 6:Int)):=by
 refine ay.bn Tryz.func197 TI VF XR (t7 rfl) (fun hwf W0 D0 E1 =>?_);simp only[Ce,NS,bg];have hcl:I.bZ caps=true:=kr caps hcaps;have hfc:∀ aA A,ca aA A caps=some caps:=fun aA A=>j5 aA A caps hcaps;have hon:∀ q,I.bT q caps=true:=fun q=>kc q caps hcl;refine .ao (by decide +kernel) fun K hK =>?_;simp only[HN,U,simprocAttr];refine .done (hK _ ?_);clear hK K;refine .ao (by decide +kernel) fun K hK =>?_;simp only[HO,U,simprocAttr];refine .done (hK _ ?_);clear hK K;refine J.seq ?_;refine .ao (by decide +kernel) fun K hK =>?_;simp only[HP,U,simprocAttr];refine .done (hK _ ?_);clear hK K;refine J.block (J.loop (fun i:Nat=>au [(0,.func f caps),(3,.int .i64 (eR (fun i => !p i) i:Int)),(5,.int .i64 i)] []) (fun i=>i≤6∧eR (fun i => !p i) i≤i) (fun i=>6-i) 0 ⟨by omega,by simp[eR]⟩ ?_ (fun i hi =>?_))
 ·refine aC.bI ?_ ?_ ?_ ?_ <;>simp[aT,bC,bB,a6,aV,I.only,hon,eR]
 ·refine .ao (by decide +kernel) fun K hK =>?_;simp only[HQ,U,simprocAttr];refine .done (hK _ ?_);clear hK K;refine J.seq ?_;refine J.bM ?_;simp only[ak,U,simprocAttr];refine ⟨fun h =>?_,fun h =>?_⟩
  ·have hlt:i<6:=by simp at h;omega
   refine J.skip ?_;try simp only[ar,simprocAttr]
   refine J.seq (J.block ?_);refine .ao (by decide +kernel) fun K hK =>?_;simp only[HR,U,simprocAttr];refine .done (hK _ ?_);clear hK K;refine .ao (by decide +kernel) fun K hK =>?_;simp only[HS,U,simprocAttr]
   try simp only[zy0,hfc,U,simprocAttr]
   refine .flat _ (hf i hlt) rfl ?_
   try simp only[U,simprocAttr]
   refine .done (hK _ ?_);clear hK K;refine J.bM ?_;simp only[ak,U,simprocAttr];refine ⟨fun h =>?_,fun h =>?_⟩
   ·simp at h;refine .bx (by decide +kernel) fun K hK =>?_;simp only[HT,U,simprocAttr];refine .done (hK _ ?_);clear hK K;try simp only[ar,bO]
    refine .bx (by decide +kernel) fun K hK =>?_;simp only[w0,U,simprocAttr];refine .done (hK _ ?_);clear hK K;try simp only[ar]
    refine ⟨i+1,⟨by omega,?_⟩,by omega,?_⟩
    ·simp only[eR];split <;>omega
    ·rw[cF _ (by omega) (by omega),cF _ (by omega) (by omega)];refine aC.bI ?_ ?_ ?_ ?_ <;>simp[aT,bC,bB,a6,aV,I.only,hon,eR,h]
   ·simp at h;refine J.skip ?_;try simp only[ar,bO,simprocAttr]
    refine .bx (by decide +kernel) fun K hK =>?_;simp only[w0,U,simprocAttr];refine .done (hK _ ?_);clear hK K;try simp only[ar]
    refine ⟨i+1,⟨by omega,?_⟩,by omega,?_⟩
    ·simp only[eR];split <;>omega
    ·rw[cF _ (by omega) (by omega)];refine aC.bI ?_ ?_ ?_ ?_ <;>simp[aT,bC,bB,a6,aV,I.only,hon,eR,h]
  ·have hge:i=6:=by simp at h;omega
   subst hge;refine J.exit ?_;try simp only[ar,bO,simprocAttr]
   refine .ao (by decide +kernel) fun K hK =>?_;simp only[HU,U,simprocAttr];refine .done (hK _ ?_);clear hK K;refine J.ret ?_;simp only[U,simprocAttr]
theorem Q7(w:aW 5 Int)(m r:aW 6 Int)(hm:dY m=true)(i:Nat)(hi:i<6):ay Tryz.prog 212 (enc (i:Int)::[.ref (.func 196 []),.ref (enc w),.ref (enc m),.ref (enc r)]) (enc (!nG w m r i)):=by
 obtain ⟨h0,h5⟩:=oa hm hi;refine ay.bn Tryz.func212 TQ VN XZ (t7 rfl) (fun hwf W0 D0 E1 =>?_);simp only[Cm,N0,bg,zz4,Nat.reduceAdd];refine .ao (by decide +kernel) fun K hK =>?_;simp only[IH,U,simprocAttr];refine .done (hK _ ?_);clear hK K;refine .ao (by decide +kernel) fun K hK =>?_;simp only[II,U,simprocAttr]
 try simp only[cI,c8,U,simprocAttr]
 refine .flat _ (u9 w m i hi h0 h5) rfl ?_
 try simp only[bd,jH 1 r hi rfl,rv,rp r hi,zx7,U,simprocAttr]
 refine .flat _ (Ah _ _) rfl ?_
 try simp only[U,simprocAttr]
 refine .done (hK _ ?_);clear hK K;refine J.ret ?_;simp only[U,simprocAttr];simp[nG,bne]
theorem QW(w:aW 5 Int)(a b:aW 6 Int)(ha:dY a=true)(hb:dY b=true)(i:Nat)(hi:i<6):ay Tryz.prog 198 (enc (i:Int)::[.ref (.func 196 []),.ref (enc w),.ref (enc a),.ref (enc b)]) (enc (!jg w a b i)):=by
 obtain ⟨h0,h5⟩:=oa ha hi;obtain ⟨k0,k5⟩:=oa hb hi;refine ay.bn Tryz.func198 TJ VG XS (t7 rfl) (fun hwf W0 D0 E1 =>?_);simp only[Cf,NT,bg,zz4,Nat.reduceAdd];refine .ao (by decide +kernel) fun K hK =>?_;simp only[HV,U,simprocAttr];refine .done (hK _ ?_);clear hK K;refine .ao (by decide +kernel) fun K hK =>?_;simp only[HW,U,simprocAttr]
 try simp only[cI,c8,U,simprocAttr]
 refine .flat _ (u9 w a i hi h0 h5) rfl ?_
 try simp only[cI,c8,U,simprocAttr]
 refine .flat _ (u9 w b i hi k0 k5) rfl ?_
 try simp only[zx7,U,simprocAttr]
 refine .flat _ (Ah _ _) rfl ?_
 try simp only[U,simprocAttr]
 refine .done (hK _ ?_);clear hK K;refine J.ret ?_;simp only[U,simprocAttr];simp[jg,bne]
theorem Py{A:ae}{n:Nat}{b:I}{f:FuncId}{caps:List I}{rest:List aB} : dR A none n [] b (.func f caps) rest (some .dw)=aE rest (A.aS n (.box (b.dO [] (.func f caps)))):=ez rfl rfl (by simp[I.aQ])
theorem Q0(w:aW 5 Int)(m r:aW 6 Int)(hm:dY m=true):ay Tryz.prog 202 [enc w,enc m,enc r] (enc (lP w m r)):=by
 refine ay.bn Tryz.func202 TN VK XW (t7 rfl) (fun hwf W0 D0 E1 =>?_);simp only[Cj,NX,bg,zz4,Nat.reduceAdd];refine .ao (by decide +kernel) fun K hK =>?_;simp only[Ia,U,simprocAttr]
 try simp only[dN,U,simprocAttr]
 refine .done (hK _ ?_);clear hK K;refine .ao (by decide +kernel) fun K hK =>?_;simp only[Ib,U,simprocAttr]
 try simp only[Py,U,simprocAttr]
 refine .done (hK _ ?_);clear hK K;refine .ao (by decide +kernel) fun K hK =>?_;simp only[Ic,U,simprocAttr]
 try simp only[List.all_cons,List.all_nil,I.cm,zw5,dG,U,simprocAttr]
 refine .flat _ (Ai 212 [.ref (.func 196 []),.ref (enc w),.ref (enc m),.ref (enc r)] ?_ (fun i => !nG w m r i) (fun i hi=>Q7 w m r hm i hi)) rfl ?_
 ·simp only[I.eS,I.done,I.bD,I.bZ,dG,zw5]
 try simp only[U,simprocAttr]
 refine .done (hK _ ?_);clear hK K;refine J.ret ?_;simp only[U,simprocAttr];simp only[lP,Bool.not_not]
theorem QG(w:aW 5 Int)(a b:aW 6 Int)(ha:dY a=true)(hb:dY b=true):ay Tryz.prog 165 [enc w,enc a,enc b] (enc (eR (jg w a b) 6:Int)):=by
 refine ay.bn Tryz.func165 Ts Vn Xz (t7 rfl) (fun hwf W0 D0 E1 =>?_);simp only[BU,Nz,bg,zz4,Nat.reduceAdd];refine .ao (by decide +kernel) fun K hK =>?_;simp only[G3,U,simprocAttr]
 try simp only[dN,U,simprocAttr]
 refine .done (hK _ ?_);clear hK K;refine .ao (by decide +kernel) fun K hK =>?_;simp only[G4,U,simprocAttr]
 try simp only[Py,U,simprocAttr]
 refine .done (hK _ ?_);clear hK K;refine .ao (by decide +kernel) fun K hK =>?_;simp only[G5,U,simprocAttr]
 try simp only[List.all_cons,List.all_nil,I.cm,zw5,dG,U,simprocAttr]
 refine .flat _ (Ai 198 [.ref (.func 196 []),.ref (enc w),.ref (enc a),.ref (enc b)] ?_ (fun i => !jg w a b i) (fun i hi=>QW w a b ha hb i hi)) rfl ?_
 ·simp only[I.eS,I.done,I.bD,I.bZ,dG,zw5]
 try simp only[U,simprocAttr]
 refine .done (hK _ ?_);clear hK K;refine J.ret ?_;simp only[U,simprocAttr];simp only[Bool.not_not]
theorem QF(m:bU)(g:cq)(k:aW 6 Int)(hg:dY g.mark=true)(hk:dY k=true):ay Tryz.prog 164 (enc g::[.ref (enc m),.ref (enc k)]) (enc (ki m g.mark k)):=by
 refine ay.bn Tryz.func164 Tr Vm Xy (t7 rfl) (fun hwf W0 D0 E1 =>?_);simp only[BT,Ny,bg,zz4,Nat.reduceAdd];refine .ao (by decide +kernel) fun K hK =>?_;simp only[G1,U,simprocAttr]
 try simp only[dN,U,simprocAttr]
 refine .done (hK _ ?_);clear hK K;refine .ao (by decide +kernel) fun K hK =>?_;simp only[G2,U,simprocAttr]
 try simp only[cI,c8,U,simprocAttr]
 refine .flat _ (QG m.eV g.mark k hg hk) rfl ?_
 try simp only[cI,U,simprocAttr]
 refine .done (hK _ ?_);clear hK K;refine J.ret ?_;simp only[U,simprocAttr];rfl
theorem u7(l:List cq)(f:FuncId)(caps:List I)(hcaps:I.eS caps=true)(p:cq→Bool)(hf:∀ x∈l,ay Tryz.prog f (enc x::caps) (enc (p x))):ay Tryz.prog 195 [enc l,.func f caps] (enc (match l.findIdx? p with | some i=>(i:Int) | none=>-1)):=by
 refine ay.bn Tryz.func195 TG VD XP (t7 rfl) (fun hwf W0 D0 E1 =>?_);simp only[Cc,NQ,bg,zz4];have hlen:l.length≤maxLen:=((lC l).1 hwf.1).1;simp only[maxLen] at hlen;have hcl:I.bZ caps=true:=kr caps hcaps;have hfc:∀ aA A,ca aA A caps=some caps:=fun aA A=>j5 aA A caps hcaps;have hon:∀ q,I.bT q caps=true:=fun q=>kc q caps hcl;refine .ao (by decide +kernel) fun K hK =>?_;simp only[HC,U,simprocAttr];refine .done (hK _ ?_);clear hK K;refine J.seq ?_;refine J.seq (J.bx (by decide +kernel) fun K hK =>?_)
 try simp only[HD,bd,U,simprocAttr]
 refine .done (hK _ ?_);clear hK K;refine J.block (J.loop (fun i:Nat=>au [(0,enc l),(1,.func f caps),(7,.int .i64 l.length),(8,.int .i64 i)] []) (fun i=>i≤l.length∧∀ x∈l.take i,p x=false) (fun i=>l.length-i) 0 ⟨zw7 _,by simp⟩ ?_ (fun i hi =>?_))
 ·refine aC.bI ?_ ?_ ?_ ?_ <;>simp[aT,bC,bB,a6,aV,I.only,bh,hon]
 ·refine .ao (by decide +kernel) fun K hK =>?_;simp only[HE,U,simprocAttr];refine .done (hK _ ?_);clear hK K;refine J.seq ?_;refine J.bM ?_;simp only[ak,U,simprocAttr];refine ⟨fun h =>?_,fun h =>?_⟩
  ·have hlt:i<l.length:=by simpa using h
   refine J.skip ?_;try simp only[ar,simprocAttr]
   refine J.seq (J.block ?_);refine .ao (by decide +kernel) fun K hK =>?_;simp only[HF,U,simprocAttr];refine .done (hK _ ?_);clear hK K;refine .ao (by decide +kernel) fun K hK =>?_;simp only[HG,U,simprocAttr]
   try simp only[ft 7 hlt rfl,cI,zy0,hfc,c8,U,simprocAttr]
   refine .flat _ (hf _ (zx3 hlt)) rfl ?_
   try simp only[U,simprocAttr]
   refine .done (hK _ ?_);clear hK K;refine J.bM ?_;simp only[ak,U,simprocAttr];refine ⟨fun h =>?_,fun h =>?_⟩
   ·refine .ao (by decide +kernel) fun K hK =>?_;simp only[HI,U,simprocAttr];refine .done (hK _ ?_);clear hK K;refine J.ret ?_;simp only[bO,ar,U,simprocAttr];simp[wu hlt hi.2 h]
   ·refine J.skip ?_;try simp only[ar,bO,simprocAttr]
    refine .bx (by decide +kernel) fun K hK =>?_;simp only[HJ,U,simprocAttr];refine .done (hK _ ?_);clear hK K;try simp only[ar]
    refine ⟨i+1,⟨by omega,fun x hm =>?_⟩,by omega,?_⟩
    ·rw[zy1 hlt] at hm;rcases zy4.1 hm with hm | hm
     ·exact hi.2 x hm
     ·simp at hm;rw[hm];exact h
    ·rw[cF _ (by omega) (by omega)];refine aC.bI ?_ ?_ ?_ ?_ <;>simp[aT,bC,bB,a6,aV,I.only,bh,hon]
  ·have hge:i=l.length:=by simp at h;omega
   refine J.exit ?_;try simp only[ar,bO,simprocAttr]
   refine .ao (by decide +kernel) fun K hK =>?_;simp only[HK,U,simprocAttr];refine .done (hK _ ?_);clear hK K;refine J.ret ?_;simp only[U,simprocAttr];simp[hge] at hi;simp[wq hi]
theorem aaG{α:Type}(p:α→Bool)(l:List α):decide (0≤(match l.findIdx? p with | some i=>(i:Int) | none=>-1))=l.any p:=by
 cases h:l.findIdx? p with
 |none =>
  rw[List.findIdx?_eq_none_iff] at h;have:l.any p=false:=by rw[List.any_eq_false];intro x hx;simp[h x hx]
  simp[this]
 |some i =>
  rw[zv2] at h;obtain ⟨h1,h2,_⟩:=h;have:l.any p=true:=by rw[List.any_eq_true];exact ⟨_,zx3 h1,h2⟩
  rw[this];exact decide_eq_true (Int.natCast_nonneg i)
theorem QE(l:List cq)(f:FuncId)(caps:List I)(hcaps:I.eS caps=true)(p:cq→Bool)(hf:∀ x∈l,ay Tryz.prog f (enc x::caps) (enc (p x))):ay Tryz.prog 163 [enc l,.func f caps] (enc (l.any p)):=by
 refine ay.bn Tryz.func163 Tq Vl Xx (t7 rfl) (fun hwf W0 D0 E1 =>?_);simp only[BS,Nx,bg,zz4];have hcl:I.bZ caps=true:=kr caps hcaps;have hfc:∀ aA A,ca aA A caps=some caps:=fun aA A=>j5 aA A caps hcaps;refine .ao (by decide +kernel) fun K hK =>?_;simp only[GZ,U,simprocAttr];refine .done (hK _ ?_);clear hK K;refine .ao (by decide +kernel) fun K hK =>?_;simp only[G0,U,simprocAttr]
 try simp only[c8,hfc,U,simprocAttr]
 refine .flat _ (u7 l f caps hcaps p hf) rfl ?_
 try simp only[U,simprocAttr]
 refine .done (hK _ ?_);clear hK K;refine J.ret ?_;simp only[U,simprocAttr];rw[aaG]
theorem z6(m:bU)(l:List cq)(k:aW 6 Int)(hl:∀ g∈l,dY g.mark=true)(hk:dY k=true):ay Tryz.prog 124 [enc m,enc l,enc k] (enc (!l.any fun g=>ki m g.mark k)):=by
 refine ay.bn Tryz.func124 SU UO WZ (t7 rfl) (fun hwf W0 D0 E1 =>?_);simp only[Bl,MX,bg,zz4,Nat.reduceAdd];refine .ao (by decide +kernel) fun K hK =>?_;simp only[FF,U,simprocAttr]
 try simp only[dN,U,simprocAttr]
 refine .done (hK _ ?_);clear hK K;refine .ao (by decide +kernel) fun K hK =>?_;simp only[FG,U,simprocAttr]
 try simp only[List.all_cons,List.all_nil,I.cm,zw5,dG,c8,U,simprocAttr]
 refine .flat _ (QE l 164 [.ref (enc m),.ref (enc k)] ?_ (fun g=>ki m g.mark k) (fun g hg=>QF m g k (hl g hg) hk)) rfl ?_
 ·simp only[I.eS,I.done,dG,zw5]
 try simp only[U,simprocAttr]
 refine .done (hK _ ?_);clear hK K;refine J.ret ?_;simp only[U,simprocAttr]
theorem Pm{α:Type}[Enc α]{A:ae}(esz:Nat){l:List α}{i:Nat}(h:i≤l.length)(hs:Enc.sz α=esz):pj A esz none (some (.int .i64 i)) none (enc l)=some (enc (l.take i)):=by
 simp only[pj,gG,hs,if_true,ke,iP,zy2];rw[if_pos ⟨by omega,by omega,by omega,by omega⟩];simp
theorem AK(m:bU)(k:aW 6 Int){i:Nat}(h:i≤m.given.length):(!(m.given.take i).any fun g=>ki m g.mark k)=(List.range i).all (fun j => !ki m (c9 m j).mark k):=by
 rw[Bool.eq_iff_iff];simp only[Bool.not_eq_true',List.any_eq_false,zx2,zw1];constructor
 ·intro h1 j hj;have hjl:j<m.given.length:=by omega
  have:=h1 m.given[j] (by rw[List.mem_take_iff_getElem];exact ⟨j,by omega,rfl⟩);rw[jF hjl] at this;simpa using this
 ·intro h1 g hg;rw[List.mem_take_iff_getElem] at hg;obtain ⟨j,hj,rfl⟩:=hg;have hjl:j<m.given.length:=by omega
  rw[jF hjl];simpa using h1 j (by omega)
theorem sv(m:bU):ay Tryz.prog 66 [enc m] (enc (if eg m then (0:Int) else 13)):=by
 refine ay.bn Tryz.func66 Ua V5 Yh (t7 rfl) (fun hwf W0 D0 E1 =>?_);simp only[CD,Oi,bg];refine .ao (by decide +kernel) fun K hK =>?_;simp only[Jw,U,simprocAttr]
 try simp only[dN,U,simprocAttr]
 refine .done (hK _ ?_);clear hK K;refine J.seq (J.seq ?_);refine .bx (by decide +kernel) fun K hK =>?_;simp only[Jx,U,simprocAttr]
 try simp only[cI,c8,U,simprocAttr]
 refine .flat _ (Qc m.eV) rfl ?_;generalize hw:iy m.eV=bw;cases bw
 ·try simp only[U,simprocAttr]
  refine .done (hK _ ?_);clear hK K;try simp only[ar]
  refine J.bM ?_;simp only[ak,U,simprocAttr];refine ⟨fun h =>?_,fun h =>?_⟩
  ·refine .ao (by decide +kernel) fun K hK =>?_;simp only[tk,U,simprocAttr];refine .done (hK _ ?_);clear hK K;refine J.ret ?_;simp only[ar,U,simprocAttr];simp[eg,hw]
  ·cases h
 try simp only[cI,U,simprocAttr]
 refine .flat _ (sq m.eT 0 2) rfl ?_;generalize hf:cj 0 2 m.eT=bf;cases bf
 ·try simp only[U,simprocAttr]
  refine .done (hK _ ?_);clear hK K;refine J.bM ?_;simp only[ak,U,simprocAttr];refine ⟨fun h =>?_,fun h =>?_⟩
  ·refine .ao (by decide +kernel) fun K hK =>?_;simp only[tk,U,simprocAttr];refine .done (hK _ ?_);clear hK K;refine J.ret ?_;simp only[ar,U,simprocAttr];simp[eg,hw,hf]
  ·cases h
 try simp only[cI,bd,U,simprocAttr]
 refine .done (hK _ ?_);clear hK K;refine J.bM ?_;simp only[ak,U,simprocAttr];refine ⟨fun h =>?_,fun h =>?_⟩
 ·refine .ao (by decide +kernel) fun K hK =>?_;simp only[tk,U,simprocAttr];refine .done (hK _ ?_);clear hK K;refine J.ret ?_;simp only[ar,U,simprocAttr];have:¬ m.given.length≤40:=by simp at h;omega
  simp[eg,hw,hf,this]
 have hlen:m.given.length≤40:=by simp at h;omega
 refine J.skip ?_;try simp only[ar,simprocAttr]
 refine J.seq (J.seq ?_);refine J.bx (by decide +kernel) fun K hK =>?_
 try simp only[Jy,cI,bd,U,simprocAttr]
 refine .done (hK _ ?_);clear hK K;refine J.block (J.loop (fun i:Nat=>au [(1,.ptr 1 []),(22,enc m.given),(23,.int .i64 m.given.length),(24,.int .i64 i)] [(1,.box (enc m))]) (fun i=>i≤m.given.length∧∀ j,j<i→gZ m j=true) (fun i=>m.given.length-i) 0 ⟨by omega,fun k h=>by omega⟩ ?_ (fun i hi =>?_))
 ·refine aC.bI ?_ ?_ ?_ ?_ <;>simp[aT,bC,bB,a6,al,aV,cg,I.only,ah.only,bh]
 refine .ao (by decide +kernel) fun K hK =>?_;simp only[Jz,U,simprocAttr];refine .done (hK _ ?_);clear hK K;refine J.seq ?_;refine J.bM ?_;simp only[ak,U,simprocAttr];refine ⟨fun h =>?_,fun h =>?_⟩
 case refine_2.refine_2 =>
  have hge:i=m.given.length:=by simp at h;omega
  subst hge;refine J.exit ?_;try simp only[ar,bO,simprocAttr]
  refine .ao (by decide +kernel) fun K hK =>?_;simp only[JC,U,simprocAttr];refine .done (hK _ ?_);clear hK K;refine J.ret ?_;simp only[U,simprocAttr];have:(List.range m.given.length).all (gZ m)=true:=qN hi.2;simp[eg,hw,hf,this,hlen]
 have hlt:i<m.given.length:=by simpa using h
 refine J.skip ?_;try simp only[ar,simprocAttr]
 refine J.seq (J.block ?_);refine .ao (by decide +kernel) fun K hK =>?_;simp only[JA,U,simprocAttr]
 try simp only[cI,xS hlt,U,simprocAttr]
 rw[ez (dN _) (by rw[fL];rfl) ((eL _).trans rfl)]
 try simp only[U,simprocAttr]
 refine .done (hK _ ?_);clear hK K;have lJ:∀ b,gZ m i=b→b=false→(if eg m then (0:Int) else 13)=13:=fun b h1 h2=>by
  have:(List.range m.given.length).all (gZ m)=false:=oB i hlt (by rw[h1,h2]);simp[eg,this]
 have htake:∀ g∈m.given.take i,dY g.mark=true:=fun g hg=>by
  rw[List.mem_take_iff_getElem] at hg;obtain ⟨j,hj,rfl⟩:=hg;have hjl:j<m.given.length:=by omega
  rw[jF hjl];exact yF (hi.2 j (by omega))
 refine .ao (by decide +kernel) fun K hK =>?_;simp only[JB,U,simprocAttr]
 try simp only[cI,U,simprocAttr]
 refine .flat _ (Qd (c9 m i).bP) rfl ?_;generalize ho:cj 1 99 (c9 m i).bP=bo;cases bo
 ·try simp only[U,simprocAttr]
  refine .done (hK _ ?_);clear hK K;refine J.bM ?_;simp only[ak,U,simprocAttr];refine ⟨fun h =>?_,fun h =>?_⟩
  ·refine .ao (by decide +kernel) fun K hK =>?_;simp only[pV,U,simprocAttr];refine .done (hK _ ?_);clear hK K;refine J.ret ?_;simp only[bO,ar,U,simprocAttr];rw[lJ _ rfl (by simp[gZ,ho])]
  ·cases h
 try simp only[cI,c8,U,simprocAttr]
 refine .flat _ (Qe (c9 m i).mark) rfl ?_;generalize hk:dY (c9 m i).mark=bk;cases bk
 ·try simp only[U,simprocAttr]
  refine .done (hK _ ?_);clear hK K;refine J.bM ?_;simp only[ak,U,simprocAttr];refine ⟨fun h =>?_,fun h =>?_⟩
  ·refine .ao (by decide +kernel) fun K hK =>?_;simp only[pV,U,simprocAttr];refine .done (hK _ ?_);clear hK K;refine J.ret ?_;simp only[bO,ar,U,simprocAttr];rw[lJ _ rfl (by simp[gZ,ho,hk])]
  ·cases h
 try simp only[U,simprocAttr]
 generalize hz:decide (0<(i:Int))=bz;cases bz
 ·have hprev:(i==0||decide ((c9 m (i-1)).bP<(c9 m i).bP))=true:=by simp at hz;simp[hz]
  try simp only[cI,U,simprocAttr]
  try simp only[cI,c8,Pm 7 (Nat.le_of_lt hlt) rfl,zu3,U,simprocAttr]
  refine .flat _ (z6 m (m.given.take i) (c9 m i).mark htake hk) rfl ?_;rw[AK m (c9 m i).mark (Nat.le_of_lt hlt)];generalize hap:(List.range i).all (fun j => !ki m (c9 m j).mark (c9 m i).mark)=ba;cases ba
  ·try simp only[U,simprocAttr]
   refine .done (hK _ ?_);clear hK K;refine J.bM ?_;simp only[ak,U,simprocAttr];refine ⟨fun h =>?_,fun h =>?_⟩
   ·refine .ao (by decide +kernel) fun K hK =>?_;simp only[pV,U,simprocAttr];refine .done (hK _ ?_);clear hK K;refine J.ret ?_;simp only[bO,ar,U,simprocAttr];rw[lJ _ rfl (by simp only[gZ,hap,Bool.and_false])]
   ·cases h
  ·try simp only[U,simprocAttr]
   refine .done (hK _ ?_);clear hK K;refine J.bM ?_;simp only[ak,U,simprocAttr];refine ⟨fun h =>?_,fun h =>?_⟩
   ·cases h
   refine J.skip ?_;try simp only[ar,bO,simprocAttr]
   refine .bx (by decide +kernel) fun K hK =>?_;simp only[xh,U,simprocAttr];refine .done (hK _ ?_);clear hK K;try simp only[ar]
   refine ⟨i+1,⟨by omega,fun k hk' =>?_⟩,by omega,?_⟩
   ·by_cases hki:k=i
    ·rw[hki];simp only[gZ,ho,hk,hprev,hap,zw5]
    ·exact hi.2 k (by omega)
   ·rw[cF _ (by omega) (by omega)];refine aC.bI ?_ ?_ ?_ ?_ <;>simp[aT,bC,bB,a6,al,aV,cg,I.only,ah.only,bh]
 ·have hpos:0<i:=by simpa using hz
  have hpl:i-1<m.given.length:=by omega
  have hpred:IntKind.i64.wrap ((i:Int)-1)=((i-1:Nat):Int):=by rw[cF _ (by omega) (by omega)];omega
  try simp only[cI,hpred,xS hpl,U,simprocAttr]
  generalize hq:decide ((c9 m i).bP≤(c9 m (i-1)).bP)=bq;cases bq
  ·have hprev:(i==0||decide ((c9 m (i-1)).bP<(c9 m i).bP))=true:=by simp at hq;simp;omega
   try simp only[cI,U,simprocAttr]
   try simp only[cI,c8,Pm 7 (Nat.le_of_lt hlt) rfl,zu3,U,simprocAttr]
   refine .flat _ (z6 m (m.given.take i) (c9 m i).mark htake hk) rfl ?_;rw[AK m (c9 m i).mark (Nat.le_of_lt hlt)];generalize hap:(List.range i).all (fun j => !ki m (c9 m j).mark (c9 m i).mark)=ba;cases ba
   ·try simp only[U,simprocAttr]
    refine .done (hK _ ?_);clear hK K;try simp only[ar,bO]
    refine J.bM ?_;simp only[ak,U,simprocAttr];refine ⟨fun h =>?_,fun h =>?_⟩
    ·refine .ao (by decide +kernel) fun K hK =>?_;simp only[pV,U,simprocAttr];refine .done (hK _ ?_);clear hK K;refine J.ret ?_;simp only[bO,ar,U,simprocAttr];rw[lJ _ rfl (by simp only[gZ,hap,Bool.and_false])]
    ·cases h
   ·try simp only[U,simprocAttr]
    refine .done (hK _ ?_);clear hK K;refine J.bM ?_;simp only[ak,U,simprocAttr];refine ⟨fun h =>?_,fun h =>?_⟩
    ·cases h
    refine J.skip ?_;try simp only[ar,bO,simprocAttr]
    refine .bx (by decide +kernel) fun K hK =>?_;simp only[xh,U,simprocAttr];refine .done (hK _ ?_);clear hK K;try simp only[ar]
    refine ⟨i+1,⟨by omega,fun k hk' =>?_⟩,by omega,?_⟩
    ·by_cases hki:k=i
     ·rw[hki];simp only[gZ,ho,hk,hprev,hap,zw5]
     ·exact hi.2 k (by omega)
    ·rw[cF _ (by omega) (by omega)];refine aC.bI ?_ ?_ ?_ ?_ <;>simp[aT,bC,bB,a6,al,aV,cg,I.only,ah.only,bh]
  ·try simp only[U,simprocAttr]
   refine .done (hK _ ?_);clear hK K;try simp only[ar,bO]
   refine J.bM ?_;simp only[ak,U,simprocAttr];refine ⟨fun h =>?_,fun h =>?_⟩
   ·refine .ao (by decide +kernel) fun K hK =>?_;simp only[pV,U,simprocAttr];refine .done (hK _ ?_);clear hK K;refine J.ret ?_;simp only[bO,ar,U,simprocAttr];have:(i==0||decide ((c9 m (i-1)).bP<(c9 m i).bP))=false:=by simp at hq;simp;omega
    rw[lJ _ rfl (by simp only[gZ,this,Bool.and_false,Bool.false_and])]
   ·cases h
theorem QY(f:FuncId)(caps:List I)(hcaps:I.eS caps=true):ay Tryz.prog 200 [enc ([]:List cq),.func f caps] (enc ([]:List cq)):=by
 refine ay.bn Tryz.func200 C8 Dj DG (t7 rfl) (fun hwf W0 D0 E1 =>?_);simp only[vA,y7,bg,zz4];have hcl:I.bZ caps=true:=kr caps hcaps;have hfc:∀ aA A,ca aA A caps=some caps:=fun aA A=>j5 aA A caps hcaps;refine .ao (by decide +kernel) fun K hK =>?_;simp only[xa,U,simprocAttr];refine .done (hK _ ?_);clear hK K;refine .ao (by decide +kernel) fun K hK =>?_;simp only[xb,U,simprocAttr]
 try simp only[c8,hfc,U,simprocAttr]
 refine .flat _ (u7 [] f caps hcaps (fun _=>false) (fun x hx=>by cases hx)) rfl ?_
 try simp only[List.findIdx?_nil,U,simprocAttr]
 refine .done (hK _ ?_);clear hK K;refine J.seq (J.seq ?_);refine .bx (by decide +kernel) fun K hK =>?_;simp only[tg,U,simprocAttr];refine .done (hK _ ?_);clear hK K;try simp only[ar]
 refine J.bM ?_;simp only[ak,U,simprocAttr];refine ⟨fun h =>?_,fun h =>?_⟩
 ·refine .ao (by decide +kernel) fun K hK =>?_;simp only[xd,U,simprocAttr];refine .done (hK _ ?_);clear hK K;refine J.ret ?_;simp only[ar,U,simprocAttr]
  try simp only[c8,U,simprocAttr]
 ·cases h
def fX(p:cq→Bool)(l:List cq):List cq:=l.filter fun x => !p x
def DM(k:Nat)(l:List cq):cO:=fun r os'=>∃ m,r=.view k [] 7 0 l.length∧os'=ja k l m
theorem yO(p:Nat→Bool)(m:Nat)(x:cq):I.bT p (List.replicate m (enc x))=true:=by
 have:List.replicate m (enc x)=(List.replicate m x).map (enc (α:=cq)):=by simp
 rw[this];exact dy p _
theorem alz(p:Nat→Bool)(xs:List cq)(i:Nat)(v:cq):I.bT p ((xs.map enc).set i (enc v))=true:=by
 rw[←List.map_set];exact dy p _
theorem zh{xs:List cq}{m j:Nat}(h:j<xs.length):((xs++List.replicate m fF).map (enc (α:=cq)))[0+j]?=some (enc xs[j]):=by
 rw[zz4,zw6,zy8 h,zz9 h];rfl
theorem amt{xs:List cq}{m i:Nat}(h:i<xs.length)(v:cq):((xs++List.replicate m fF).map (enc (α:=cq))).set (0+i) (enc v)=(xs.set i v++List.replicate m fF).map enc:=by
 rw[zz4,←List.map_set,List.set_append_left _ _ h]
theorem zK(l:List cq)(m:Nat):(l++List.replicate m fF).take l.length=l:=List.take_left
theorem wh(p:cq→Bool)(l:List cq){j:Nat}(h:j<l.length):fX p (l.take (j+1))=fX p (l.take j)++(if p l[j] then [] else [l[j]]):=by
 rw[zy1 h];simp only[fX,List.filter_append,zx4,zv5];cases p l[j] <;>simp
theorem QX(l:List cq)(f:FuncId)(caps:List I)(hcaps:I.eS caps=true)(p:cq→Bool)(hf:∀ x∈l,ay Tryz.prog f (enc x::caps) (enc (p x)))(hlen:l.length≤1000)(m:Nat) :
  cC Tryz.prog 200 [.view 1000000 [] 7 0 l.length,.func f caps] (ja 1000000 l m) (DM 1000000 (fX p l)):=by
 refine cC.bn Tryz.func200 C8 Dj DG (t7 rfl) (t7 rfl) (fun m hm=>by rw[cE.1 hm];exact zz7 _) (fun hwf W0 D0 E1 =>?_);simp only[vA,y7,bg,zz4];have hcl:I.bZ caps=true:=kr caps hcaps;have hfc:∀ aA A,ca aA A caps=some caps:=fun aA A=>j5 aA A caps hcaps;have hon:∀ q,I.bT q caps=true:=fun q=>kc q caps hcl;simp only[ja];refine .ao (by decide +kernel) fun K hK =>?_;simp only[xa,U,simprocAttr];refine .done (hK _ ?_);clear hK K;refine .ao (by decide +kernel) fun K hK =>?_;simp only[xb,U,simprocAttr]
 try simp only[hfc,rl (α:=cq) (sz:=7) rfl,zK,U,simprocAttr]
 refine .flat _ (u7 l f caps hcaps p hf) rfl ?_
 try simp only[U,simprocAttr]
 refine .done (hK _ ?_);clear hK K;generalize hfi:l.findIdx? p=fi;cases fi with
 |none =>
  rw[List.findIdx?_eq_none_iff] at hfi;have hk:fX p l=l:=by
   simp only[fX,List.filter_eq_self];intro x hx;simp[hfi x hx]
  refine J.seq (J.seq ?_);refine .bx (by decide +kernel) fun K hK =>?_;simp only[tg,U,simprocAttr];refine .done (hK _ ?_);clear hK K;try simp only[ar]
  refine J.bM ?_;simp only[ak,U,simprocAttr];refine ⟨fun h =>?_,fun h =>?_⟩
  ·refine .ao (by decide +kernel) fun K hK =>?_;simp only[xd,U,simprocAttr];refine .done (hK _ ?_);clear hK K;refine J.ret ?_;simp only[ar,eY];rw[hk];exact ⟨ja 1000000 l m,[.view 1000000 [] 7 0 l.length],jG rfl (fun p=>m3 p _),⟨⟨_,rfl,.inl ⟨rfl,rfl,rfl⟩⟩,trivial⟩,m,rfl,rfl⟩
  ·cases h
 |some i0 =>
  obtain ⟨q1,q2,q3⟩:=zv2.1 hfi;have hstart:l.take i0=fX p (l.take (i0+1)):=by
   rw[wh p l q1,q2];simp only[if_true,zx7,fX]
   symm
   rw[List.filter_eq_self];intro x hx;rw[List.mem_take_iff_getElem] at hx;obtain ⟨j,hj,rfl⟩:=hx;have:=q3 j (by omega);simpa using this
  refine J.seq (J.seq ?_);refine .bx (by decide +kernel) fun K hK =>?_;simp only[tg,U,simprocAttr];refine .done (hK _ ?_);clear hK K;try simp only[ar]
  refine J.bM ?_;simp only[ak,U,simprocAttr];refine ⟨fun h =>?_,fun h =>?_⟩
  ·simp at h
  refine J.skip ?_;try simp only[ar,simprocAttr]
  refine J.seq (J.seq ?_);refine .bx (by decide +kernel) fun K hK =>?_;simp only[H2,U,simprocAttr];refine .done (hK _ ?_);clear hK K;try simp only[ar]
  refine J.block (J.loop (fun s:List cq×Nat×Nat=>au [(0,.view 1000000 [] 7 0 l.length),(1,.func f caps),(5,.int .i64 s.2.1),(6,.int .i64 s.2.2)] [(1000000,.box (.agg ((s.1++List.replicate m fF).map enc)))])
   (fun s=>s.1.length=l.length∧s.2.1<s.2.2∧s.2.2≤l.length∧s.1.take s.2.1=fX p (l.take s.2.2)∧s.1.drop s.2.2=l.drop s.2.2) (fun s=>l.length-s.2.2) (l,i0,i0+1) ⟨rfl,by simp only;omega,by simp only;omega,hstart,rfl⟩ ?_ ?_)
  ·rw[cF _ (by omega) (by omega)];refine aC.bI ?_ ?_ ?_ ?_ <;>simp[aT,bC,bB,a6,al,aV,cg,I.only,ah.only,dy,fA,hon,yO]
  ·rintro ⟨xs,i,j⟩ ⟨c1,c2,c3,fK,iD⟩;simp only at c1 c2 c3 fK iD ⊢;refine J.seq (J.seq ?_);refine .bx (by decide +kernel) fun K hK =>?_;simp only[H3,U,simprocAttr]
   try simp only[dj,U,simprocAttr]
   refine .done (hK _ ?_);clear hK K;try simp only[ar]
   refine J.bM ?_;simp only[ak,U,simprocAttr];refine ⟨fun h =>?_,fun h =>?_⟩
   ·have hj:j<l.length:=by simpa using h
    have hjx:j<xs.length:=by omega
    have hix:i<xs.length:=by omega
    have hxj:xs[j]=l[j]:=by
     have h1:(xs.drop j)[0]?=(l.drop j)[0]?:=by rw[iD]
     simpa[hj,hjx] using h1
    refine J.skip ?_;try simp only[ar,simprocAttr]
    refine J.seq (J.block ?_);refine .ao (by decide +kernel) fun K hK =>?_;simp only[H4,U,simprocAttr]
    try simp only[dj,xV (sz:=7) hj,zy3,U,simprocAttr]
    try simp only[zh hjx,hxj,cI,U,simprocAttr]
    rw[ez (dN _) (by rw[fL];rfl) ((eL _).trans rfl)]
    try simp only[U,simprocAttr]
    refine .done (hK _ ?_);clear hK K;refine .ao (by decide +kernel) fun K hK =>?_;simp only[H5,U,simprocAttr]
    try simp only[cI,c8,hfc,zy0,zy3,U,simprocAttr]
    refine .flat _ (hf _ (zx3 hj)) rfl ?_
    try simp only[U,simprocAttr]
    refine .done (hK _ ?_);clear hK K;refine J.bM ?_;simp only[ak,U,simprocAttr];refine ⟨fun h =>?_,fun h =>?_⟩
    ·have hpj:p l[j]=false:=by simpa using h
     refine .ao (by decide +kernel) fun K hK =>?_;simp only[H6,U,simprocAttr]
     try simp only[cI,dj,xV (sz:=7) (show i<l.length by omega),zy3,U,simprocAttr]
     try simp only[zh hix,U,simprocAttr]
     rw[ez (dN _) (by rw[fL];rfl) ((eL _).trans (eL _).symm)]
     try simp only[zh hix,amt hix,U,simprocAttr]
     refine .done (hK _ ?_);clear hK K;refine .bx (by decide +kernel) fun K hK =>?_;simp only[H7,U,simprocAttr];refine .done (hK _ ?_);clear hK K;try simp only[ar,bO]
     refine .bx (by decide +kernel) fun K hK =>?_;simp only[xc,U,simprocAttr];refine .done (hK _ ?_);clear hK K;try simp only[ar]
     refine ⟨(xs.set i l[j],i+1,j+1),⟨by simp[c1],by simp only;omega,by simp only;omega,?_,?_⟩,by simp only;omega,?_⟩
     ·simp only;rw[wh p l hj,hpj,←fK];simp only[zz6,if_false];rw[zy1 (by simpa using hix),List.take_set_of_le (zz7 _)];simp
     ·simp only;rw[List.drop_set_of_lt (by omega)];have:(xs.drop j).drop 1=(l.drop j).drop 1:=by rw[iD]
      simpa[List.drop_drop] using this
     ·simp only;rw[cF _ (by omega) (by omega),cF _ (by omega) (by omega)];refine aC.bI ?_ ?_ ?_ ?_ <;>simp[aT,bC,bB,a6,al,aV,cg,I.only,ah.only,fA,hon,yO,alz]
    ·have hpj:p l[j]=true:=by simpa using h
     refine J.skip ?_;try simp only[ar,bO,simprocAttr]
     refine .bx (by decide +kernel) fun K hK =>?_;simp only[xc,U,simprocAttr];refine .done (hK _ ?_);clear hK K;try simp only[ar]
     refine ⟨(xs,i,j+1),⟨c1,by simp only;omega,by simp only;omega,?_,?_⟩,by simp only;omega,?_⟩
     ·simp only;rw[wh p l hj,hpj,←fK];simp
     ·simp only;have:(xs.drop j).drop 1=(l.drop j).drop 1:=by rw[iD]
      simpa[List.drop_drop] using this
     ·simp only;rw[cF _ (by omega) (by omega)];refine aC.bI ?_ ?_ ?_ ?_ <;>simp[aT,bC,bB,a6,al,aV,cg,I.only,ah.only,dy,fA,hon,yO]
   ·have hj:j=l.length:=by simp at h;omega
    subst hj;rw[List.take_length] at fK;have hlk:(fX p l).length=i:=by rw[←fK,zy7];omega
    have htot:((xs++List.replicate m fF).map (enc (α:=cq))).length=l.length+m:=by simp[c1]
    refine J.exit ?_;try simp only[ar,bO,simprocAttr]
    refine .ao (by decide +kernel) fun K hK =>?_;simp only[HZ,U,simprocAttr]
    try simp only[dj,htot,zu3,qx (show i≤l.length by omega) (show l.length≤l.length+m by omega) (show i<l.length+m by omega),vY,U,simprocAttr]
    rw[qX fF rfl (by simp[c1];omega)];have hcont:(xs++List.replicate m fF).take i++(List.replicate (l.length-i) fF++(xs++List.replicate m fF).drop (i+(l.length-i)))=fX p l++List.replicate (l.length-i+m) fF:=by
     rw[zx8 (by omega),fK];have e1:i+(l.length-i)=xs.length:=by omega
     rw[e1,List.drop_left,List.replicate_append_replicate]
    rw[hcont]
    try simp only[U,simprocAttr]
    refine .done (hK _ ?_);clear hK K;have htot2:((fX p l++List.replicate (l.length-i+m) fF).map (enc (α:=cq))).length=l.length+m:=by simp[hlk];omega
    refine .ao (by decide +kernel) fun K hK =>?_;simp only[H0,U,simprocAttr]
    try simp only[dj,htot2,zu3,r7 (show i≤l.length+m by omega) (show 0<l.length+m by omega),U,simprocAttr]
    refine .done (hK _ ?_);clear hK K;refine J.ret ?_;simp only[eY];exact ⟨ja 1000000 (fX p l) (l.length-i+m),[.view 1000000 [] 7 0 i],jG rfl (fun p=>m3 p _),⟨⟨_,rfl,.inl ⟨rfl,rfl,rfl⟩⟩,trivial⟩,l.length-i+m,by rw[hlk];rfl,rfl⟩
def qb(a:Item)(k d kn b:Int):aq:=⟨a,k,d,kn,b,0,0,0,oq,⟨0,0⟩⟩
theorem DY:I.agg [.agg [.int .i64 0,.int .i64 0],.int .i64 0,.int .i64 0,.int .i64 0,.int .i64 0,.int .i64 0,.int .i64 0,.int .i64 0,.agg [.int .i64 0,.int .i64 0,.int .i64 0,.int .i64 0,.int .i64 0,.int .i64 0],.agg [.int .i64 0,.int .i64 0]]=enc (qb ⟨0,0⟩ 0 0 0 0):=rfl
theorem A1(a:Item)(k d kn b:Int):(dZ [.agg [.int .i64 0,.int .i64 0],.int .i64 0,.int .i64 0,.int .i64 0,.int .i64 0,.int .i64 0,.int .i64 0,.int .i64 0,.agg [.int .i64 0,.int .i64 0,.int .i64 0,.int .i64 0,.int .i64 0,.int .i64 0],.agg [.int .i64 0,.int .i64 0]] [(0,enc a),(1,.int .i64 k),(2,.int .i64 d),(3,.int .i64 kn),(4,.int .i64 b)]).map .agg=some (enc (qb a k d kn b)):=by
 simp[dZ,I.cm,I.size,I.sizes,gH,re];rfl
theorem AZ(a:Item)(k d kn:Int):(dZ [.agg [.int .i64 0,.int .i64 0],.int .i64 0,.int .i64 0,.int .i64 0,.int .i64 0,.int .i64 0,.int .i64 0,.int .i64 0,.agg [.int .i64 0,.int .i64 0,.int .i64 0,.int .i64 0,.int .i64 0,.int .i64 0],.agg [.int .i64 0,.int .i64 0]] [(0,enc a),(1,.int .i64 k),(2,.int .i64 d),(3,.int .i64 kn)]).map .agg=some (enc (qb a k d kn 0)):=by
 simp[dZ,I.cm,I.size,I.sizes,gH,re];rfl
theorem Pt(A:ae)(n:Nat)(b:I)(x y:aq)(rest:List aB):dR A (some 17) n [] b (enc x) rest (some (enc y))=aE rest (A.aS n (.box (enc x))):=ez (dN _) (Md x) ((eL x).trans (eL y).symm)
theorem pn(A:ae)(n:Nat)(p:List Nat)(b:I)(k:IntKind)(x y:Int)(rest:List aB):dR A none n p b (.int k x) rest (some (.int k y))=aE rest (A.aS n (.box (b.dO p (.int k x)))):=ez rfl rfl rfl
theorem amR(A:ae)(n:Nat)(p:List Nat)(b:I)(x y:aW 6 Int)(rest:List aB):dR A (some 6) n p b (enc x) rest (some (enc y))=aE rest (A.aS n (.box (b.dO p (enc x)))):=ez (dN _) (Mc x) ((eL x).trans (eL y).symm)
theorem PA(A:ae)(n:Nat)(p:List Nat)(b:I)(x y:Item)(rest:List aB):dR A (some 2) n p b (enc x) rest (some (enc y))=aE rest (A.aS n (.box (b.dO p (enc x)))):=ez (dN _) (Me x) ((eL x).trans (eL y).symm)
theorem Ph :
  (∀ (A:ae) (n:Nat) (rest:List aB) (e:aq) v y,dR A (some 2) n [0] (enc e) (enc (v:Item)) rest (some (enc (y:Item)))=aE rest (A.aS n (.box (enc { e with bF:=v })))) ∧
  (∀ (A:ae) (n:Nat) (rest:List aB) (e:aq) v y,dR A none n [1] (enc e) (.int .i64 v) rest (some (.int .i64 y))=aE rest (A.aS n (.box (enc { e with kind:=v })))) ∧
  (∀ (A:ae) (n:Nat) (rest:List aB) (e:aq) v y,dR A none n [2] (enc e) (.int .i64 v) rest (some (.int .i64 y))=aE rest (A.aS n (.box (enc { e with day:=v })))) ∧
  (∀ (A:ae) (n:Nat) (rest:List aB) (e:aq) v y,dR A none n [3] (enc e) (.int .i64 v) rest (some (.int .i64 y))=aE rest (A.aS n (.box (enc { e with known:=v })))) ∧
  (∀ (A:ae) (n:Nat) (rest:List aB) (e:aq) v y,dR A none n [4] (enc e) (.int .i64 v) rest (some (.int .i64 y))=aE rest (A.aS n (.box (enc { e with cH:=v })))) ∧
  (∀ (A:ae) (n:Nat) (rest:List aB) (e:aq) v y,dR A none n [5] (enc e) (.int .i64 v) rest (some (.int .i64 y))=aE rest (A.aS n (.box (enc { e with e7:=v })))) ∧
  (∀ (A:ae) (n:Nat) (rest:List aB) (e:aq) v y,dR A none n [6] (enc e) (.int .i64 v) rest (some (.int .i64 y))=aE rest (A.aS n (.box (enc { e with dq:=v })))) ∧
  (∀ (A:ae) (n:Nat) (rest:List aB) (e:aq) v y,dR A none n [7] (enc e) (.int .i64 v) rest (some (.int .i64 y))=aE rest (A.aS n (.box (enc { e with bP:=v })))) ∧
  (∀ (A:ae) (n:Nat) (rest:List aB) (e:aq) v y,dR A (some 6) n [8] (enc e) (enc (v:aW 6 Int)) rest (some (enc (y:aW 6 Int)))=aE rest (A.aS n (.box (enc { e with b9:=v })))) ∧
  (∀ (A:ae) (n:Nat) (rest:List aB) (e:aq) v y,dR A (some 2) n [9] (enc e) (enc (v:Item)) rest (some (enc (y:Item)))=aE rest (A.aS n (.box (enc { e with kb:=v })))) :=
 ⟨fun _ _ _ _ _ _=>by rw[PA];rfl,fun _ _ _ _ _ _=>by rw[pn];rfl,fun _ _ _ _ _ _=>by rw[pn];rfl,fun _ _ _ _ _ _=>by rw[pn];rfl,fun _ _ _ _ _ _=>by rw[pn];rfl,fun _ _ _ _ _ _=>by rw[pn];rfl,fun _ _ _ _ _ _=>by rw[pn];rfl,fun _ _ _ _ _ _=>by rw[pn];rfl,fun _ _ _ _ _ _=>by rw[amR];rfl,fun _ _ _ _ _ _=>by rw[PA];rfl⟩
theorem P4(x y:aW 6 Int):x=y↔x.l=y.l:=by cases x;cases y;simp
theorem anJ(p q:Prop)[Decidable p][Decidable q]:iN (some (decide p)) (some (decide q))=some (decide (p∧q)):=by simp[iN]
theorem Ec(a b:Int):cv (.i .i64) (.int .i64 a) (.int .i64 b)=some (decide (a=b)):=by simp[cv];rfl
theorem Eb(x y:aq):cv (.br [(.br [(.i .i64),(.i .i64)]),(.i .i64),(.i .i64),(.i .i64),(.i .i64),(.i .i64),(.i .i64),(.i .i64),(.kO 6 (.i .i64)),(.br [(.i .i64),(.i .i64)])]) (enc x) (enc y)=some (decide (x=y)):=by
 obtain ⟨a1,k1,d1,n1,b1,m1,s1,o1,r1,f1⟩:=x;obtain ⟨a2,k2,d2,n2,b2,m2,s2,o2,dV,f2⟩:=y
 show cv _ (.agg [enc a1,.int .i64 k1,.int .i64 d1,.int .i64 n1,.int .i64 b1,.int .i64 m1,.int .i64 s1,.int .i64 o1,enc r1,enc f1]) (.agg [enc a2,.int .i64 k2,.int .i64 d2,.int .i64 n2,.int .i64 b2,.int .i64 m2,.int .i64 s2,.int .i64 o2,enc dV,enc f2])=_
 have hr:cv (.kO 6 (.i .i64)) (enc r1) (enc dV)=some (decide (r1=dV)):=by
  rw[s7]
  congr 1
  exact decide_eq_decide.2 (P4 r1 dV).symm
 rw[cv];simp only[jk,rf,Ec,hr,aq.mk.injEq];simp[iN]
theorem aU:(type_of% @qG)∧(type_of% @LW)∧(type_of% @lh)∧(∀ {α:Type} [Enc α] (aA:Bool) (A:ae) (x:α),bl aA A (enc x)=some (enc x))∧(∀ {α:Type} [Enc α] (x:α),(enc x).cm=true)∧(type_of% @DY)∧(type_of% @A1)∧(type_of% @AZ)∧(type_of% @Pt) ∧
  (type_of% @Ph)∧(type_of% @Eb)∧(type_of% @rf)∧(∀ (a:Nat) l m,(a::l)++m=a::(l++m))∧(∀ b:Bool,((if b=true then (0:Int) else 12)==0)=b)∧(∀ b:Bool,((if b=true then (0:Int) else 12) != 0) = !b) :=
 ⟨qG,LW,lh,@c8,@dN,DY,A1,AZ,Pt,Ph,Eb,rf,fun _ _ _=>rfl,fun b=>by cases b <;>rfl,fun b=>by cases b <;>rfl⟩
theorem sy(x:aq):ay Tryz.prog 84 [enc x] (enc (jY x)):=by
 refine ay.bn Tryz.func84 Ul Wg Ys (t7 rfl) (fun hwf W0 D0 E1 =>?_);simp only[CO,Ox,bg];have R:=v6 @aU @U
 repeat' ((first |(with_reducible refine .guard (fun hb =>?_) (fun hb =>?_) <;>try simp only[hb])|refine J.aL (by decide +kernel) rfl fun K hK =>?_|(refine .aG [0,1,2,3,15,24,25,36,41,47] hK ?_;clear hK K)|(with_reducible refine .done (hK _ ?_);clear hK K)|refine J.of rfl ?_|(with_reducible refine ak.aK (fun h =>?_) (fun h =>?_) <;>try simp only[h])) <;>try simp only[aM,R,simprocAttr])
 all_goals clear R
 all_goals (congr 1;simp_all[jY,qb])
theorem z1(x:aq):ay Tryz.prog 117 [enc x] (enc (iW x)):=by
 refine ay.bn Tryz.func117 SN UI WT (t7 rfl) (fun hwf W0 D0 E1 =>?_);simp only[Bf,MR,bg];refine .ao (by decide +kernel) fun K hK =>?_;simp only[Fk,U,simprocAttr]
 try simp only[aU,U,simprocAttr]
 refine .done (hK _ ?_);clear hK K;refine .ao (by decide +kernel) fun K hK =>?_;simp only[Fl,U,simprocAttr]
 try simp only[aU,U,simprocAttr]
 refine .done (hK _ ?_);clear hK K;refine .ao (by decide +kernel) fun K hK =>?_;simp only[Fm,U,simprocAttr]
 try simp only[aU,U,simprocAttr]
 refine .flat _ (Qx _) rfl ?_
 try simp only[U,simprocAttr]
 refine .done (hK _ ?_);clear hK K;refine J.fX [1,2,3,4] ?_;simp only[xY,reduceIte,Nat.reduceBEq];by_cases hk:0≤x.kind∧x.kind≤6
 ·refine J.seq (J.zR (au [(1,.ptr 1 []),(3,.ptr 3 []),(4,.bool (pT x))] [(1,.box (enc x)),(3,.box (enc (jY x)))]) ?_ fun B hB=>J.sub hB ?_)
  ·clear hwf;obtain hk | hk | hk | hk | hk | hk | hk:x.kind=0∨x.kind=1∨x.kind=2∨x.kind=3∨x.kind=4∨x.kind=5∨x.kind=6:=by omega
   all_goals
    have R:=v6 @hk (v6 @aU @U)
    repeat' ((first |(with_reducible refine .guard (fun hb =>?_) (fun hb =>?_) <;>try simp only[hb])|refine J.aL (by decide +kernel) rfl fun K hK =>?_|refine .flat _ (zZ _) rfl ?_|refine .flat _ (Qy _) rfl ?_|refine .flat _ (Qz _) rfl ?_|refine .flat _ (mG _ _ _) rfl ?_|refine .flat _ (Ac _) rfl ?_|refine .flat _ (u4 _) rfl ?_|(refine J.rV (gs:=wA) [] [(1,[1]),(3,[3]),(23,[1]),(25,[3]),(26,[3])] [0,1,2,3,4,5] (by decide +kernel) (fc.of (by simp[oQ,aV,Ls,I.only])) fun K hK =>?_;simp only[oZ,wA,List.getD_cons_zero,List.getD_cons_succ,R,simprocAttr])|(refine J.rV (gs:=wB) [] [(1,[1]),(3,[3]),(55,[1]),(57,[1]),(59,[1]),(61,[3]),(62,[3]),(63,[3])] [0,1,2,3,4,5,6,7,8,9,10,11] (by decide +kernel) (fc.of (by simp[oQ,aV,Ls,I.only])) fun K hK =>?_;simp only[oZ,wB,List.getD_cons_zero,List.getD_cons_succ,R,simprocAttr])|(refine .aG [0,1,2,3,4,20,21,53,87,98,110,122] hK ?_;clear hK K)|(with_reducible refine .done (hK _ ?_);clear hK K)|refine J.of rfl ?_|(with_reducible refine ak.aK (fun h =>?_) (fun h =>?_) <;>try simp only[h])) <;>try simp only[aM,R,simprocAttr])
    all_goals clear R
   all_goals
    refine aC.bI ?_ ?_ ?_ ?_ <;>simp[*,aT,bC,bB,a6,al,aV,cg,I.only,ah.only,bh,pT,jY,qb]
  ·have R:=v6 @aU @U
   repeat' ((first |(with_reducible refine .guard (fun hb =>?_) (fun hb =>?_) <;>try simp only[hb])|refine J.aL (by decide +kernel) rfl fun K hK =>?_|refine .flat _ (zZ _) rfl ?_|refine .flat _ (u4 _) rfl ?_|(refine .aG [0,1,2,3,4,20,21,53,87,98,110,122] hK ?_;clear hK K)|(with_reducible refine .done (hK _ ?_);clear hK K)|refine J.of rfl ?_|(with_reducible refine ak.aK (fun h =>?_) (fun h =>?_) <;>try simp only[h])) <;>try simp only[aM,R,simprocAttr])
   all_goals clear R
   all_goals simp[iW, *]
 ·have h0:(x.kind==0)=false:=by simp;omega
  have h1:(x.kind==1)=false:=by simp;omega
  have h2:(x.kind==2)=false:=by simp;omega
  have h3:(x.kind==3)=false:=by simp;omega
  have h4:(x.kind==4)=false:=by simp;omega
  have h5:(x.kind==5)=false:=by simp;omega
  have h6:(x.kind==6)=false:=by simp;omega
  have R:=v6 @h0 (v6 @h1 (v6 @h2 (v6 @h3 (v6 @h4 (v6 @h5 (v6 @h6 (v6 @aU @U)))))))
  repeat' ((first |(with_reducible refine .guard (fun hb =>?_) (fun hb =>?_) <;>try simp only[hb])|refine J.aL (by decide +kernel) rfl fun K hK =>?_|(refine .aG [0,1,2,3,4,20,21,53,87,98,110,122] hK ?_;clear hK K)|(with_reducible refine .done (hK _ ?_);clear hK K)|refine J.of rfl ?_|(with_reducible refine ak.aK (fun h =>?_) (fun h =>?_) <;>try simp only[h])) <;>try simp only[aM,R,simprocAttr])
  all_goals clear R
  simp at h0 h1 h2 h3 h4 h5 h6;simp[iW,pT, *]
def ik:aq:=qb ⟨0,0⟩ 0 0 0 0
theorem sW:I.agg [.agg [.int .i64 0,.int .i64 0],.int .i64 0,.int .i64 0,.int .i64 0,.int .i64 0,.int .i64 0,.int .i64 0,.int .i64 0,.agg [.int .i64 0,.int .i64 0,.int .i64 0,.int .i64 0,.int .i64 0,.int .i64 0],.agg [.int .i64 0,.int .i64 0]]=enc ik:=rfl
theorem yg(p:Nat→Bool)(l:List aq):(I.agg (l.map enc)).only p=true:=by simp only[I.only];exact dy p l
def lq(k:Nat)(l:List aq)(m:Nat):List (Nat×ah):=[(k,.box (.agg ((l++List.replicate m ik).map enc)))]
def Ds(l:List aq):cO:=fun r os'=>(l=[]∧(r=.nils 17∨r=.c0 17)∧os'=[])∨(l≠[]∧∃ m,r=.view 7 [] 17 0 l.length∧os'=lq 7 l m)
theorem Ql(l:List aq)(hl:l.length≤1000):cC Tryz.prog 136 [enc l] [] (Ds l):=by
 refine cC.bn Tryz.func136 S4 UZ Xb (t7 rfl) (t7 rfl) (fun m hm=>by simp[al,aj] at hm) (fun hwf W0 D0 E1 =>?_);simp only[Bw,M8,bg];refine .ao (by decide +kernel) fun K hK =>?_;simp only[F3,U];refine .done (hK _ ?_);clear hK K;refine J.seq (J.seq ?_);by_cases hn:l=[]
 ·subst hn;refine .bx (by decide +kernel) fun K hK =>?_;simp only[wP,U,Nat.reduceEqDiff,reduceIte];simp only[uQ,List.isEmpty_nil,qg];refine .any rfl fun b _ =>?_
  try simp only[U]
  generalize (b==0)=t;cases t
  ·refine .done (hK _ ?_);clear hK K;try simp only[ar]
   refine J.bM ?_;simp only[ak,U,Nat.reduceEqDiff,reduceIte];refine ⟨fun h =>?_,fun h =>?_⟩
   ·cases h
   refine J.skip ?_;try simp only[ar]
   refine .ao (by decide +kernel) fun K hK =>?_;simp only[wQ,U]
   try simp only[dj,sW,U,Nat.reduceEqDiff,reduceIte]
   refine .done (hK _ ?_);clear hK K;refine J.ret ?_;simp only[eY];exact ⟨[],[.c0 17],oM,⟨⟨.c0 17,rfl,.inl ⟨rfl,rfl,rfl⟩⟩,trivial⟩,.inl ⟨rfl,.inr rfl,rfl⟩⟩
  ·refine .done (hK _ ?_);clear hK K;refine J.bM ?_;simp only[ak,U,Nat.reduceEqDiff,reduceIte];refine ⟨fun h =>?_,fun h =>?_⟩
   ·refine .ao (by decide +kernel) fun K hK =>?_;simp only[F4,U];refine .done (hK _ ?_);clear hK K;refine J.ret ?_;simp only[ar,eY];exact ⟨[],[.nils 17],oM,⟨⟨.nils 17,rfl,.inl ⟨rfl,rfl,rfl⟩⟩,trivial⟩,.inl ⟨rfl,.inl rfl,rfl⟩⟩
   ·cases h
 ·have hu:kj (enc l)=false:=by rw[uQ];simpa using hn
  refine .bx (by decide +kernel) fun K hK =>?_;simp only[wP,U,Nat.reduceEqDiff,reduceIte]
  try simp only[hu,LK _ l hn,U]
  refine .done (hK _ ?_);clear hK K;try simp only[ar]
  refine J.bM ?_;simp only[ak,U,Nat.reduceEqDiff,reduceIte];refine ⟨fun h =>?_,fun h =>?_⟩
  ·cases h
  refine J.skip ?_;try simp only[ar]
  refine .ao (by decide +kernel) fun K hK =>?_;simp only[wQ,U]
  try simp only[dj,sW,U,Nat.reduceEqDiff,reduceIte]
  refine bt.AM ik rfl hn rfl (by omega) (by simp only[maxLen];omega) fun m =>?_
  try simp only[U,Nat.reduceEqDiff,reduceIte]
  refine .done (hK _ ?_);clear hK K;refine J.ret ?_;simp only[eY];exact ⟨lq 7 l m,[.view 7 [] 17 0 l.length],jG rfl (fun p=>yg p _),⟨⟨_,rfl,.inl ⟨rfl,rfl,rfl⟩⟩,trivial⟩,.inr ⟨hn,m,rfl,rfl⟩⟩
def K0(l:List aq)(i:Nat)(g:aq):List aq:=l.take i++g::l.drop i
theorem anN(l:List aq)(i k:Nat)(g:aq)(h:i<l.length)(hk:1≤k)(xs:List aq)(hx:xs=l++List.replicate k ik)(ys:List aq)(hy:ys=xs.take (i+1)++(((xs.drop i).take (l.length+1-i)).take (l.length-i)++xs.drop (i+1+(l.length-i)))) :
  ys.take i++([g].take 1++ys.drop (i+1))=K0 l i g++List.replicate (k-1) ik:=by
 have e1:((xs.drop i).take (l.length+1-i)).take (l.length-i)=l.drop i:=by
  rw[List.take_take,Nat.min_eq_left (by omega),hx,List.drop_append_of_le_length (by omega),zx8 (by rw[zy9];omega),zv6 (by rw[zy9];omega)]
 have e2:xs.drop (i+1+(l.length-i))=List.replicate (k-1) ik:=by
  rw[hx,List.drop_append,zw9 (by omega),zy3,List.drop_replicate]
  congr 1;omega
 have hl:(xs.take (i+1)).length=i+1:=by rw[zy7,hx,zz3];omega
 have e3:ys.take i=l.take i:=by
  rw[hy,zx8 (by omega),List.take_take,Nat.min_eq_left (by omega),hx,zx8 (by omega)]
 have e4:ys.drop (i+1)=l.drop i++List.replicate (k-1) ik:=by
  rw[hy,e1,e2];exact List.drop_left' hl
 rw[e3,e4];simp[K0]
def da(l:List aq)(i:Nat):List aq:=l.take i++l.drop (i+1)
theorem DO{l:List aq}{i:Nat}(h:i<l.length):(da l i).length=l.length-1:=by
 simp only[da,zz3,zy7,zy9];omega
def DL(l:List aq)(i:Nat):cO:=fun r os'=>∃ q,r=.view 1000000 [] 17 0 (l.length-1)∧os'=lq 1000000 (da l i) q
theorem ajJ(l:List aq)(i k:Nat)(h:i+1<l.length)(xs:List aq)(hx:xs=l++List.replicate k ik)(a:List aq)(ha:a=xs.take i++(l.drop (i+1)++xs.drop (i+(l.drop (i+1)).length))) :
  a.take (l.length-1)++(List.replicate 1 ik++a.drop (l.length-1+1))=da l i++List.replicate (k+1) ik:=by
 have e1:xs.take i=l.take i:=by rw[hx,zx8 (by omega)]
 have e0:i+(l.drop (i+1)).length=l.length-1:=by rw[zy9];omega
 have e2:a=da l i++xs.drop (l.length-1):=by rw[ha,e1,e0,da,zz5]
 have hl:=DO (l:=l) (i:=i) (by omega);have e3:a.take (l.length-1)=da l i:=by rw[e2,←hl,List.take_left]
 have e4:a.drop (l.length-1+1)=List.replicate k ik:=by
  rw[e2,List.drop_append,hl,zw9 (by omega),zy3,List.drop_drop];have:l.length-1+(l.length-1+1-(l.length-1))=l.length:=by omega
  rw[this,hx,List.drop_left]
 rw[e3,e4,List.replicate_append_replicate,Nat.add_comm 1 k]
theorem ajK(l:List aq)(k:Nat)(i:Nat)(h:i+1=l.length)(xs:List aq)(hx:xs=l++List.replicate k ik):xs.take (l.length-1)++(List.replicate 1 ik++xs.drop (l.length-1+1))=da l i++List.replicate (k+1) ik:=by
 have e1:l.length-1=i:=by omega
 have e2:xs.drop (l.length-1+1)=List.replicate k ik:=by rw[show l.length-1+1=l.length by omega,hx,List.drop_left]
 have e3:xs.take (l.length-1)=da l i:=by
  rw[e1,hx,zx8 (by omega),da,zw9 (by omega),zx7]
 rw[e2,e3,List.replicate_append_replicate,Nat.add_comm 1 k]
theorem Qk(l:List aq)(i:Nat)(k:Nat)(hi:i<l.length)(hlen:l.length≤1000) :
  cC Tryz.prog 135 [.view 1000000 [] 17 0 l.length,enc (i:Int),enc ((i+1:Nat):Int)] (lq 1000000 l k) (DL l i):=by
 refine cC.bn Tryz.func135 S3 UY Xa (t7 rfl) (t7 rfl) (fun m hm=>by rw[cE.1 hm];exact zz7 _) (fun hwf W0 D0 E1 =>?_);simp only[Bv,M7,bg,zz4,Nat.reduceAdd];simp only[lq];obtain ⟨xs,hxs⟩:∃ xs,xs=l++List.replicate k ik:=⟨_,rfl⟩
 have hxl:xs.length=l.length+k:=by rw[hxs];simp
 have htot:(xs.map (enc (α:=aq))).length=l.length+k:=by rw[zy2];exact hxl
 rw[←hxs];have hA:∀ ts,(au ts [(1000000,.box (.agg (xs.map (enc (α:=aq)))))]).o 1000000=some (.box (.agg (xs.map enc))):=fun _=>rfl;refine .ao (by decide +kernel) fun K hK =>?_;simp only[FZ,U];refine .done (hK _ ?_);clear hK K;refine .ao (by decide +kernel) fun K hK =>?_;simp only[F0,U,Nat.reduceEqDiff,reduceIte]
 try simp only[dj,htot,zy5,amJ (show i≤i+1 by omega) (show i+1≤l.length by omega) (show l.length≤l.length+k by omega),U,Nat.reduceEqDiff,reduceIte]
 refine .done (hK _ ?_);clear hK K;refine J.seq (J.seq ?_);refine .bx (by decide +kernel) fun K hK =>?_;simp only[F1,U,Nat.reduceEqDiff,reduceIte]
 try simp only[cI,bd,lh,c8,U,Nat.reduceEqDiff,reduceIte,Int.reduceBNe,Int.reduceBEq]
 refine .done (hK _ ?_);clear hK K;try simp only[ar]
 refine J.bM ?_;simp only[ak,U,Nat.reduceEqDiff,reduceIte];refine ⟨fun h =>?_,fun h =>?_⟩
 ·exfalso
  have:(i:Int)=((i+1:Nat):Int):=by simpa using h
  omega
 refine J.skip ?_;try simp only[ar]
 refine .ao (by decide +kernel) fun K hK =>?_;simp only[F2,U,Nat.reduceEqDiff,reduceIte]
 try simp only[dj,U,Nat.reduceEqDiff,reduceIte]
 refine .done (hK _ ?_);clear hK K;by_cases hl1:i+1<l.length
 ·have hd:(xs.drop (i+1)).take (l.length-(i+1))=l.drop (i+1):=by
   rw[hxs,List.drop_append_of_le_length (by omega),zx8 (by rw[zy9];omega),zv6 (by rw[zy9];omega)]
  have hdl:i+(l.drop (i+1)).length=l.length-1:=by rw[zy9];omega
  obtain ⟨b,hb⟩:∃ b,b=xs.take i++(l.drop (i+1)++xs.drop (i+(l.drop (i+1)).length)):=⟨_,rfl⟩
  have hbl:b.length=l.length+k:=by rw[hb];simp;omega
  have hcont:=ajJ l i k hl1 xs hxs b hb;refine .ao (by decide +kernel) fun K hK =>?_;simp only[wM,U,Nat.reduceEqDiff,reduceIte]
  try simp only[dj,htot,zu3,zy5,r7 (show i≤l.length+k by omega) (show 0<l.length+k by omega),qx (show i+1≤l.length by omega) (show l.length≤l.length+k by omega) (show i+1<l.length+k by omega),U,Nat.reduceEqDiff,reduceIte]
  rw[RU (esz:=17) (xs:=xs) (ys:=l.drop (i+1)) _ _ (by rw[r8 (xs:=xs) (hA _) (by omega),hd]) (by simp;omega) (hA _) (by rw[zy9];omega)];rw[←hb,hdl]
  try simp only[U,Nat.reduceEqDiff,reduceIte]
  refine .done (hK _ ?_);clear hK K;have htb:(b.map (enc (α:=aq))).length=l.length+k:=by rw[zy2];exact hbl
  have hB:∀ ts os,(au ts ((1000000,.box (.agg (b.map (enc (α:=aq)))))::os)).o 1000000=some (.box (.agg (b.map enc))):=fun _ _=>rfl;refine .ao (by decide +kernel) fun K hK =>?_;simp only[wN,U,Nat.reduceEqDiff,reduceIte]
  try simp only[dj,htb,zu3,zy5,sW,U,Nat.reduceEqDiff,reduceIte]
  rw[Pn (show l.length-1≤l.length by omega) (show l.length≤l.length+k by omega) (by omega)]
  try simp only[dj,U,Nat.reduceEqDiff,reduceIte]
  rw[qX (xs:=b) ik (hB _ _) (by omega)];have hone:l.length-(l.length-1)=1:=by omega
  try simp only[hone,hcont,U]
  refine .done (hK _ ?_);clear hK K;refine .ao (by decide +kernel) fun K hK =>?_;simp only[wO,U,Nat.reduceEqDiff,reduceIte];refine .done (hK _ ?_);clear hK K;refine J.ret ?_;simp only[eY];exact ⟨lq 1000000 (da l i) (k+1),[.view 1000000 [] 17 0 (l.length-1)],jG rfl (fun p=>yg p _),⟨⟨_,rfl,.inl ⟨rfl,rfl,rfl⟩⟩,trivial⟩,k+1,rfl,rfl⟩
 ·have hie:i+1=l.length:=by omega
  obtain ⟨b,hb⟩:∃ b,b=xs:=⟨_,rfl⟩
  have hbl:b.length=l.length+k:=by rw[hb];exact hxl
  have hcont:=ajK l k i hie xs hxs;rw[←hb] at hcont;have hi1:i=l.length-1:=by omega
  obtain ⟨y,hy⟩:=amI (n:=1000000) (p:=[]) (sz:=17) (show i+1≤l.length by omega) (show l.length≤l.length+k by omega);have hye:∀ ts,eI (au ts [(1000000,.box (.agg (xs.map (enc (α:=aq)))))]) 17 y=some []:=fun ts=>by
   by_cases hk:k=0
   ·have:iA 1000000 [] 17 0 l.length (l.length+k) (some (.int .i64 ((i+1:Nat):Int))) none none=some (.c0 17):=by
     simp only[iA,iP];rw[if_pos ⟨by omega,by omega,by omega⟩,if_pos (by omega)]
    rw[this] at hy;cases hy;rfl
   ·rw[qx (show i+1≤l.length by omega) (show l.length≤l.length+k by omega) (by omega)] at hy;cases hy;rw[r8 (xs:=xs) (hA _) (by omega),hie];simp
  refine .ao (by decide +kernel) fun K hK =>?_;simp only[wM,U,Nat.reduceEqDiff,reduceIte]
  try simp only[dj,htot,zu3,zy5,r7 (show i≤l.length+k by omega) (show 0<l.length+k by omega),hy,U,Nat.reduceEqDiff,reduceIte]
  rw[AN (esz:=17) (xs:=xs) _ _ (hye _) (hA _) (by omega)];rw[hi1,←hb]
  try simp only[U,Nat.reduceEqDiff,reduceIte]
  refine .done (hK _ ?_);clear hK K;have htb:(b.map (enc (α:=aq))).length=l.length+k:=by rw[zy2];exact hbl
  have hB:∀ ts os,(au ts ((1000000,.box (.agg (b.map (enc (α:=aq)))))::os)).o 1000000=some (.box (.agg (b.map enc))):=fun _ _=>rfl;refine .ao (by decide +kernel) fun K hK =>?_;simp only[wN,U,Nat.reduceEqDiff,reduceIte]
  try simp only[dj,htb,zu3,zy5,sW,U,Nat.reduceEqDiff,reduceIte]
  rw[Pn (show l.length-1≤l.length by omega) (show l.length≤l.length+k by omega) (by omega)]
  try simp only[dj,U,Nat.reduceEqDiff,reduceIte]
  rw[qX (xs:=b) ik (hB _ _) (by omega)];have hone:l.length-(l.length-1)=1:=by omega
  try simp only[hone,hcont,U]
  refine .done (hK _ ?_);clear hK K;refine .ao (by decide +kernel) fun K hK =>?_;simp only[wO,U,Nat.reduceEqDiff,reduceIte];refine .done (hK _ ?_);clear hK K;refine J.ret ?_;simp only[eY];exact ⟨lq 1000000 (da l i) (k+1),[.view 1000000 [] 17 0 (l.length-1)],jG rfl (fun p=>yg p _),⟨⟨_,rfl,.inl ⟨rfl,rfl,rfl⟩⟩,trivial⟩,k+1,rfl,rfl⟩
def eD(b:aD)(s:I):I:=.agg [.agg [.int .i64 b.no,.int .i64 b.dq,.int .i64 b.e7,.int .i64 b.bP,.int .i64 b.jZ,.int .i64 b.born,.int .i64 b.cV,.bool b.found,s]]
structure eJ where
 b:aD
instance:Enc eJ where
 enc x:=.agg [enc x.b]
 sz:=9
 aQ:=.ep [.ep [.one,.one,.one,.one,.one,.one,.one,.one,.one]]
 gz:=true
 done e:=by simp only[I.done,I.eS,Enc.done,zw5]
 size e:=by simp only[I.size,I.sizes,gH,D9]
 kJ e:=by simp only[I.aQ,I.cS,eL];rfl
 agg _:=rfl
def fb(B:Nat):Nat→List aD→List (Nat×ah)
 |_,[]=>[]
 |i,b::bs=>(B+2+2*i,.box (eD b (.own (B+3+2*i) b.b9.length)))::(B+3+2*i,.bY 66 6 (b.b9.map enc))::fb B (i+1) bs
def ew(B n:Nat):List I:=(List.range n).map fun i=>.ptr (B+2+2*i) []
def dx(bs:List aD):List I:=(bs.map (·.no)).map enc
def cz(B:Nat)(bs:List aD):List (Nat×ah):=(B,.box (.agg [.mref (B+1)]))::(B+1,.cB (dx bs) (ew B bs.length))::fb B 0 bs
theorem tE(B:Nat):∀ (bs:List aD) (i n:Nat),n<B+2+2*i→aj (fb B i bs) n=none
 | [],_,_,_=>rfl
 |b::bs,i,n,h=>by
  simp only[fb,aj];rw[if_neg (by omega),if_neg (by omega)];exact tE B bs (i+1) n (by omega)
theorem tC(B:Nat):∀ (bs:List aD) (i n:Nat),B+2+2*(i+bs.length)≤n→aj (fb B i bs) n=none
 | [],_,_,_=>rfl
 |b::bs,i,n,h=>by
  simp only[List.length_cons] at h;simp only[fb,aj];rw[if_neg (by omega),if_neg (by omega)];exact tC B bs (i+1) n (by omega)
theorem tD(B:Nat):∀ (bs:List aD) (i k:Nat) (h:k<bs.length),aj (fb B i bs) (B+2+2*(i+k))=some (.box (eD bs[k] (.own (B+3+2*(i+k)) (bs[k]).b9.length)))
 | [],_,_,h=>by simp at h
 |b::bs,i,0,_=>by simp[fb,aj]
 |b::bs,i,k+1,h=>by
  simp only[fb,aj];rw[if_neg (by omega),if_neg (by omega)];have:=tD B bs (i+1) k (by simpa using h);rw[show i+1+k=i+(k+1) by omega] at this;exact this
theorem tF(B:Nat):∀ (bs:List aD) (i k:Nat) (h:k<bs.length),aj (fb B i bs) (B+3+2*(i+k))=some (.bY 66 6 ((bs[k]).b9.map enc))
 | [],_,_,h=>by simp at h
 |b::bs,i,0,_=>by
  simp only[fb,aj];rw[if_neg (by omega),if_pos (by omega)];rfl
 |b::bs,i,k+1,h=>by
  simp only[fb,aj];rw[if_neg (by omega),if_neg (by omega)];have:=tF B bs (i+1) k (by simpa using h);rw[show i+1+k=i+(k+1) by omega] at this;exact this
theorem tS(B n m:Nat):n<B∨n=B∨n=B+1∨(∃ k,k<m∧n=B+2+2*k)∨(∃ k,k<m∧n=B+3+2*k)∨B+2+2*m≤n:=by
 by_cases h1:n<B
 ·exact .inl h1
 by_cases h2:n=B
 ·exact .inr (.inl h2)
 by_cases h3:n=B+1
 ·exact .inr (.inr (.inl h3))
 by_cases h4:B+2+2*m≤n
 ·exact .inr (.inr (.inr (.inr (.inr h4))))
 rcases Nat.mod_two_eq_zero_or_one (n-B) with h5 | h5
 ·exact .inr (.inr (.inr (.inl ⟨(n-B-2) / 2,by omega,by omega⟩)))
 ·exact .inr (.inr (.inr (.inr (.inl ⟨(n-B-3) / 2,by omega,by omega⟩))))
section
variable {B:Nat} {bs:List aD}
theorem kz{n:Nat}(h:n<B):aj (cz B bs) n=none:=by
 simp only[cz,aj];rw[if_neg (by omega),if_neg (by omega)];exact tE B bs 0 n (by omega)
theorem tv{n:Nat}(h:B+2+2*bs.length≤n):aj (cz B bs) n=none:=by
 simp only[cz,aj];rw[if_neg (by omega),if_neg (by omega)];exact tC B bs 0 n (by omega)
theorem ky:aj (cz B bs) B=some (.box (.agg [.mref (B+1)])):=by simp[cz,aj]
theorem kX:aj (cz B bs) (B+1)=some (.cB (dx bs) (ew B bs.length)):=by simp[cz,aj]
theorem mY{k:Nat}(h:k<bs.length):aj (cz B bs) (B+2+2*k)=some (.box (eD bs[k] (.own (B+3+2*k) (bs[k]).b9.length))):=by
 simp only[cz,aj];rw[if_neg (by omega),if_neg (by omega)];have:=tD B bs 0 k h
 rwa [zz4] at this
theorem l7{k:Nat}(h:k<bs.length):aj (cz B bs) (B+3+2*k)=some (.bY 66 6 ((bs[k]).b9.map enc)):=by
 simp only[cz,aj];rw[if_neg (by omega),if_neg (by omega)];have:=tF B bs 0 k h
 rwa [zz4] at this
theorem nR{n:Nat} : al (cz B bs) n=decide (B≤n∧n<B+2+2*bs.length):=by
 rcases tS B n bs.length with h | h | h | ⟨k,hk,h⟩ | ⟨k,hk,h⟩ | h
 ·simp only[al,kz h];simp;omega
 ·subst h;simp only[al,ky];simp;omega
 ·subst h;simp only[al,kX];simp;omega
 ·subst h;simp only[al,mY hk];simp;omega
 ·subst h;simp only[al,l7 hk];simp;omega
 ·simp only[al,tv h];simp;omega
theorem yN(p:Nat→Bool){n:Nat}(h:∀ i,i<n→p (B+2+2*i)=true):I.bT p (ew B n)=true:=by
 unfold ew
 induction n with
 |zero=>rfl
 |succ n ih =>
  rw[List.range_succ,zx5,fA,ih fun i hi=>h i (by omega)];simp[I.bT,I.only,h n (by omega)]
theorem fx{n:Nat}{x:ah}(h:aj (cz B bs) n=some x):x.only (al (cz B bs))=true∧x.eX=true:=by
 rcases tS B n bs.length with h2 | h2 | h2 | ⟨k,hk,h2⟩ | ⟨k,hk,h2⟩ | h2
 ·rw[kz h2] at h;cases h
 ·subst h2;rw[ky] at h;cases h;simp[ah.only,I.only,I.bT,nR,ah.eX];omega
 ·subst h2;rw[kX] at h;cases h;refine ⟨?_,rfl⟩;simp only[ah.only,zz2];exact ⟨dy _ _,yN _ fun i hi=>by rw[nR];simp;omega⟩
 ·subst h2;rw[mY hk] at h;cases h;simp[ah.only,I.only,I.bT,nR,ah.eX,eD];omega
 ·subst h2;rw[l7 hk] at h;cases h;exact ⟨dy _ _,rfl⟩
 ·rw[tv h2] at h;cases h
theorem KR{i:Nat}(hi:i<bs.length)(b:aD)(hno:b.no=(bs[i]).no)(n:Nat):aj (cz B (bs.set i b)) n =
  if n=B+2+2*i then some (.box (eD b (.own (B+3+2*i) b.b9.length))) else if n=B+3+2*i then some (.bY 66 6 (b.b9.map enc)) else aj (cz B bs) n:=by
 have hl:(bs.set i b).length=bs.length:=List.length_set;have hnos:dx (bs.set i b)=dx bs:=by
  simp only[dx,List.map_set,hno]
  congr 1
  exact List.ext_getElem (by simp) fun j h1 h2=>by
   simp only[List.getElem_set,List.getElem_map];split
   ·rename_i e;subst e;rfl
   ·rfl
 rcases tS B n bs.length with h2 | h2 | h2 | ⟨k,hk,h2⟩ | ⟨k,hk,h2⟩ | h2
 ·rw[kz h2,kz h2,if_neg (by omega),if_neg (by omega)]
 ·subst h2;rw[ky,ky,if_neg (by omega),if_neg (by omega)]
 ·subst h2;rw[kX,kX,hl,hnos,if_neg (by omega),if_neg (by omega)]
 ·subst h2;rw[mY (by omega),mY hk];by_cases e:k=i
  ·subst e;simp
  ·rw[if_neg (by omega),if_neg (by omega)];simp[Ne.symm e]
 ·subst h2;rw[l7 (by omega),l7 hk];by_cases e:k=i
  ·subst e;rw[if_neg (by omega),if_pos rfl];simp
  ·rw[if_neg (by omega),if_neg (by omega)];simp[Ne.symm e]
 ·rw[tv (by omega),tv h2,if_neg (by omega),if_neg (by omega)]
end
theorem MF{B n i:Nat}(h:i<n):(ew B n)[i]?=some (.ptr (B+2+2*i) []):=by simp[ew,h]
theorem wb(a b:Int):cv (.i .i64) (enc a) (enc b)=some (decide (a=b)):=Ec a b
theorem xv{bs:List aD}{no:Int} : match (bs.map (·.no)).findIdx? fun x=>decide (no=x) with
  |some i=>∃ h:i<bs.length,cw bs no=some bs[i]∧(bs[i]).no=no
  |none=>cw bs no=none:=by
 cases h:(bs.map (·.no)).findIdx? fun x=>decide (no=x) with
 |none =>
  rw[List.findIdx?_eq_none_iff] at h;simp only;rw[tp];intro hm;have:=h no hm;simp at this
 |some i =>
  obtain ⟨h1,h2,h3⟩:=zv2.1 h;have hi:i<bs.length:=by simpa using h1
  have hno:(bs[i]).no=no:=by simpa using (of_decide_eq_true h2).symm
  refine ⟨hi,?_,hno⟩;simp only[cw,List.find?_eq_some_iff_getElem];refine ⟨by simpa using hno,i,hi,rfl,fun j hj =>?_⟩;have:=h3 j hj;simp at this;simpa using fun e=>this e.symm
theorem p8(B:Nat)(bs:List aD)(no:Int):(cw bs no=none∧gA (.i .i64) .nilp (.int .i64 no) (dx bs) (ew B bs.length)=some (.nilp,false)) ∨
  ∃ i,∃ h:i<bs.length,cw bs no=some bs[i]∧(bs[i]).no=no∧gA (.i .i64) .nilp (.int .i64 no) (dx bs) (ew B bs.length)=some (.ptr (B+2+2*i) [],true):=by
 have h1:=xv (bs:=bs) (no:=no);have h2:=x5 wb .nilp no (bs.map (·.no)) (ew B bs.length);rw[gT] at h2;unfold dx;cases h:(bs.map (·.no)).findIdx? fun x=>decide (no=x) with
 |none=>rw[h] at h1 h2;exact .inl ⟨h1,h2⟩
 |some i =>
  rw[h] at h1 h2;obtain ⟨hi,g1,g2⟩:=h1;refine .inr ⟨i,hi,g1,g2,?_⟩;rw[h2];simp only[MF hi,zy5]
theorem amA{bs:List aD}(hd:(bs.map (·.no)).Nodup){i:Nat}(hi:i<bs.length){b:aD}(hno:b.no=(bs[i]).no):lx bs b=bs.set i b:=by
 refine List.ext_getElem (by simp[lx]) fun j h1 h2 =>?_;simp only[lx,List.getElem_map,List.getElem_set];have hj:j<bs.length:=by simpa using h2
 by_cases e:i=j
 ·subst e;rw[if_pos hno.symm,if_pos rfl]
 ·rw[if_neg e,if_neg];intro he;have he:=he.trans hno;have:=(List.getElem_inj (h₀:=by simpa using hj) (h₁:=by simpa using hi) hd).1 (by simpa using he);exact e this.symm
theorem Em(x:eJ):(enc x).dH=some [enc x.b]:=rfl
theorem En(b:aD)(s:I):(eD b s).dH=some [.agg [.int .i64 b.no,.int .i64 b.dq,.int .i64 b.e7,.int .i64 b.bP,.int .i64 b.jZ,.int .i64 b.born,.int .i64 b.cV,.bool b.found,s]]:=rfl
theorem Dr(b:aD)(n k:Nat):(eD b (.own n k)).bD=false:=by simp[eD,I.bD,I.bZ]
theorem mV{A:ae}{m n:Nat}{b:aD}(ho:A.o n=some (.bY 66 6 (b.b9.map enc))):ej A (m+3) (eD b (.own n b.b9.length))=some (enc (⟨b⟩:eJ)):=by
 have h1:ej A (m+1) (.own n b.b9.length)=some (enc b.b9):=by
  simp only[ej,I.bD,zz6,if_false,ho,zy2,kR,and_self,if_true];rfl
 have hi:∀ (k:IntKind) (v:Int),ej A (m+1) (.int k v)=some (.int k v):=fun _ _=>by simp[ej,I.bD]
 have hb:∀ v:Bool,ej A (m+1) (.bool v)=some (.bool v):=fun _=>by simp[ej,I.bD]
 have h2:ej A (m+2) (.agg [.int .i64 b.no,.int .i64 b.dq,.int .i64 b.e7,.int .i64 b.bP,.int .i64 b.jZ,.int .i64 b.born,.int .i64 b.cV,.bool b.found,.own n b.b9.length])=some (enc b):=by
  rw[ej];simp only[I.bD,I.bZ,Bool.and_false,Bool.and_true,zz6,if_false,ga,hi,hb,h1,zy5];rfl
 rw[eD,ej];simp only[I.bD,I.bZ,Bool.and_false,Bool.and_true,zz6,if_false,ga,h2,zy5];rfl
theorem Pv :
  (∀ (A:ae) n b s (v u:Int) rest,dR A none n [0,3] (eD b s) (.int .i64 v) rest (some (.int .i64 u))=aE rest (A.aS n (.box (eD { b with bP:=v } s)))) ∧
  (∀ (A:ae) n b s (v u:Int) rest,dR A none n [0,6] (eD b s) (.int .i64 v) rest (some (.int .i64 u))=aE rest (A.aS n (.box (eD { b with cV:=v } s)))) ∧
  (∀ (A:ae) n b s (v u:Bool) rest,dR A none n [0,7] (eD b s) (.bool v) rest (some (.bool u))=aE rest (A.aS n (.box (eD { b with found:=v } s)))) ∧
  (∀ (A:ae) n b s m k m' k' rest,dR A none n [0,8] (eD b s) (.own m k) rest (some (.own m' k'))=aE rest (A.aS n (.box (eD b (.own m k))))) :=
 ⟨fun _ _ _ _ v u _=>by rw[ez (s:=none) (v:=.int .i64 v) (old:=.int .i64 u) rfl rfl rfl];rfl,fun _ _ _ _ v u _=>by rw[ez (s:=none) (v:=.int .i64 v) (old:=.int .i64 u) rfl rfl rfl];rfl,
  fun _ _ _ _ v u _=>by rw[ez (s:=none) (v:=.bool v) (old:=.bool u) rfl rfl rfl];rfl,fun _ _ _ _ m k m' k' _=>by rw[ez (s:=none) (v:=.own m k) (old:=.own m' k') rfl rfl rfl];rfl⟩
theorem hT:(type_of% @Em)∧(type_of% @En)∧(type_of% @Dr)∧(type_of% @Pv)∧(type_of% @yC)∧(∀ n:Nat,(n=n)=True)∧(∀ rs post A,og rs post .ret A=lG rs post A):=⟨Em,En,Dr,Pv,yC,fun _=>eq_self _,eY⟩
theorem jB(b:aD):ay Tryz.prog 90 [.ref (enc (⟨b⟩:eJ))] (enc (decide (0≤b.cV))):=by
 refine ay.bn Tryz.func90 Ur Wm Yy (t7 rfl) (fun hwf W0 D0 E1 =>?_);simp only[CU,OD,bg];have R:=v6 @hT (v6 @eM (v6 @aU @U))
 repeat' ((first |(with_reducible refine .guard (fun hb =>?_) (fun hb =>?_) <;>try simp only[hb])|refine J.aL (by decide +kernel) rfl fun K hK =>?_|(refine .aG [0,2] hK ?_;clear hK K)|(with_reducible refine .done (hK _ ?_);clear hK K)|refine J.of rfl ?_|(with_reducible refine ak.aK (fun h =>?_) (fun h =>?_) <;>try simp only[h])) <;>try simp only[aM,R,simprocAttr])
 all_goals clear R
def jm(B d:Nat)(bs:List aD)(x:aq):cO:=fun r os'=>match dK c5 bs x with
 |none=>r=.bool false∧os'=cz B bs
 |some bs'=>r=.bool true∧os'=if x.kind=1∨x.kind=2 then (B+1,.cB (dx bs') (ew B bs.length++[.ptr d []]))::(d,.box (eD (fP x) (.nils 6)))::cz B bs else cz B bs'
theorem kY{bs:List aD} : ∀ m,al (cz 1000000 bs) m=true→1000000≤m:=fun m hm=>by rw[nR] at hm;simp at hm;omega
theorem gD{ts:List (Nat×I)}{os os':List (Nat×ah)}{b:Bool}{post:cO}(ht:Abs.b7 ts 4=.bool b)(ho:∀ n,al os' n=true→aj os n=aj os' n)(hg:∀ n x,aj os' n=some x→x.only (al os')=true∧x.eX=true)(hp:post (.bool b) os'):lG [.tmp 4] post (au ts os):=by
 refine ⟨os',[.bool b],fun n x hx=>⟨?_,hg n x hx⟩,⟨⟨.bool b,?_,.inl ⟨rfl,rfl,rfl⟩⟩,trivial⟩,hp⟩
 ·show aj os n=some x
  rw[ho n (by simp[al,hx])];exact hx
 ·show some (Abs.b7 ts 4)=some _
  rw[ht]
theorem l8{bs:List aD}{z:ah} : ∀ n,al (cz 1000000 bs) n=true→aj ((3,z)::cz 1000000 bs) n=aj (cz 1000000 bs) n:=fun n h=>by
 have:=kY n h;simp only[aj];rw[if_neg (by omega)]
theorem xK{bs:List aD}{i:Nat}(hi:i<bs.length){b:aD}(hno:b.no=(bs[i]).no)(hs:b.b9=(bs[i]).b9){z:ah}{nl nr:Nat}(hnl:nl=1000000+2+2*i)(hnr:nr=1000000+3+2*i) :
  ∀ n,al (cz 1000000 (bs.set i b)) n=true→aj ((nl,.box (eD b (.own nr (bs[i]).b9.length)))::(3,z)::cz 1000000 bs) n=aj (cz 1000000 (bs.set i b)) n:=fun n h=>by
 have:=kY n h;rw[KR hi b hno];simp only[aj,hs];subst hnl hnr;rw[if_neg (show ¬ n=3 by omega)];split
 ·rfl
 ·split
  ·rename_i e;subst e;exact l7 hi
  ·rfl
theorem j6{B d:Nat}{bs:List aD}{x:aq}(h:dK c5 bs x=none):jm B d bs x (.bool false) (cz B bs):=by simp[jm,h]
theorem tx{B d:Nat}{bs:List aD}{x:aq}(hd:(bs.map (·.no)).Nodup)(hk:¬ (x.kind=1∨x.kind=2)){i:Nat}(hi:i<bs.length)(hg:cw bs x.cH=some bs[i]){b:aD}(ht:eZ bs[i] x=some b)(hno:b.no=(bs[i]).no) :
  jm B d bs x (.bool true) (cz B (bs.set i b)):=by
 have:dK c5 bs x=some (bs.set i b):=by
  simp only[dK,if_neg hk,hg,ht,zy5,amA hd hi hno]
 simp only[jm,this,if_neg hk,and_self]
theorem sJ{bs:List aD}{x:aq}(hk:¬ (x.kind=1∨x.kind=2))(hg:cw bs x.cH=none):dK c5 bs x=none:=by
 simp only[dK,if_neg hk,hg]
theorem AQ{bs:List aD}{x:aq}(hk:¬ (x.kind=1∨x.kind=2)){b:aD}(hg:cw bs x.cH=some b)(ht:eZ b x=none):dK c5 bs x=none:=by
 simp only[dK,if_neg hk,hg,ht,zu3]
theorem QM(bs:List aD)(x:aq)(d:Nat)(hk:x.kind=3)(hd:(bs.map (·.no)).Nodup):cC Tryz.prog 174 [.ptr 1000000 [],enc x] (cz 1000000 bs) (jm 1000000 d bs x):=by
 refine cC.bn Tryz.func174 Tz Vu XG (t7 rfl) (t7 rfl) kY (fun hwf W0 D0 E1 =>?_);simp only[B3,NH,bg,zz4];clear hwf;have hk12:¬ (x.kind=1∨x.kind=2):=by omega
 have n3:aj (cz 1000000 bs) 3=none:=kz (by omega);have h0:aj (cz 1000000 bs) 1000000=some (.box (.agg [.mref 1000001])):=ky;have h1:aj (cz 1000000 bs) 1000001=some (.cB (dx bs) (ew 1000000 bs.length)):=kX;rcases p8 1000000 bs x.cH with ⟨hg,hlk⟩ | ⟨i,hi,hg,hno,hlk⟩
 ·have R:=v6 @n3 (v6 @h0 (v6 @h1 (v6 @hlk (v6 @eG (v6 @hT (v6 @eM (v6 @aU @U)))))))
  repeat' ((first |(with_reducible refine .guard (fun hb =>?_) (fun hb =>?_) <;>try simp only[hb])|refine J.aL (by decide +kernel) rfl fun K hK =>?_|refine .flat _ (jB _) rfl ?_|(refine .aG [0,1,3,4,5,36] hK ?_;clear hK K)|(with_reducible refine .done (hK _ ?_);clear hK K)|refine J.of rfl ?_|(with_reducible refine ak.aK (fun h =>?_) (fun h =>?_) <;>try simp only[h])) <;>try simp only[aM,R,simprocAttr])
  all_goals clear R
  exact gD rfl l8 (fun n x h=>fx h) (j6 (sJ hk12 hg))
 ·have hl:=mY (B:=1000000) hi;have hr:=l7 (B:=1000000) hi;obtain ⟨nl,hnl⟩:∃ nl,nl=1000000+2+2*i:=⟨_,rfl⟩
  obtain ⟨nr,hnr⟩:∃ nr,nr=1000000+3+2*i:=⟨_,rfl⟩
  rw[←hnl] at hl hlk;rw[←hnr] at hl hr;have e1:(nl=3)=False:=by simp;omega
  have e2:(nr=3)=False:=by simp;omega
  have e3:(3=nl)=False:=by simp;omega
  have e4:(nr=nl)=False:=by simp;omega
  have e5:(nl=nr)=False:=by simp;omega
  have e6:(3=nr)=False:=by simp;omega
  have R:=v6 @n3 (v6 @h0 (v6 @h1 (v6 @hl (v6 @hr (v6 @e1 (v6 @e2 (v6 @e3 (v6 @hlk (v6 @mV (v6 @eG (v6 @hT (v6 @eM (v6 @aU @U)))))))))))))
  repeat' ((first |(with_reducible refine .guard (fun hb =>?_) (fun hb =>?_) <;>try simp only[hb])|refine J.aL (by decide +kernel) rfl fun K hK =>?_|refine .flat _ (jB _) rfl ?_|(refine .aG [0,1,3,4,5,36] hK ?_;clear hK K)|(with_reducible refine .done (hK _ ?_);clear hK K)|refine J.of rfl ?_|(with_reducible refine ak.aK (fun h =>?_) (fun h =>?_) <;>try simp only[h])) <;>try simp only[aM,R,simprocAttr])
  all_goals clear R
  all_goals first
   |exact gD rfl l8 (fun n x h=>fx h) (j6 (AQ hk12 hg (by simp_all[eZ])))
   |exact gD rfl (xK hi (b := { bs[i] with bP:=x.bP }) rfl rfl hnl hnr) (fun n x h=>fx h) (tx hd hk12 hi hg (by simp_all[eZ]) rfl)
theorem QO(bs:List aD)(x:aq)(d:Nat)(hk:x.kind=5)(hd:(bs.map (·.no)).Nodup):cC Tryz.prog 176 [.ptr 1000000 [],enc x] (cz 1000000 bs) (jm 1000000 d bs x):=by
 refine cC.bn Tryz.func176 TB Vw XI (t7 rfl) (t7 rfl) kY (fun hwf W0 D0 E1 =>?_);simp only[B5,NJ,bg,zz4];clear hwf;have hk12:¬ (x.kind=1∨x.kind=2):=by omega
 have n3:aj (cz 1000000 bs) 3=none:=kz (by omega);have h0:aj (cz 1000000 bs) 1000000=some (.box (.agg [.mref 1000001])):=ky;have h1:aj (cz 1000000 bs) 1000001=some (.cB (dx bs) (ew 1000000 bs.length)):=kX;rcases p8 1000000 bs x.cH with ⟨hg,hlk⟩ | ⟨i,hi,hg,hno,hlk⟩
 ·have R:=v6 @n3 (v6 @h0 (v6 @h1 (v6 @hlk (v6 @eG (v6 @hT (v6 @eM (v6 @aU @U)))))))
  repeat' ((first |(with_reducible refine .guard (fun hb =>?_) (fun hb =>?_) <;>try simp only[hb])|refine J.aL (by decide +kernel) rfl fun K hK =>?_|refine .flat _ (jB _) rfl ?_|(refine .aG [0,1,3,4,5,14] hK ?_;clear hK K)|(with_reducible refine .done (hK _ ?_);clear hK K)|refine J.of rfl ?_|(with_reducible refine ak.aK (fun h =>?_) (fun h =>?_) <;>try simp only[h])) <;>try simp only[aM,R,simprocAttr])
  all_goals clear R
  exact gD rfl l8 (fun n x h=>fx h) (j6 (sJ hk12 hg))
 ·have hl:=mY (B:=1000000) hi;have hr:=l7 (B:=1000000) hi;obtain ⟨nl,hnl⟩:∃ nl,nl=1000000+2+2*i:=⟨_,rfl⟩
  obtain ⟨nr,hnr⟩:∃ nr,nr=1000000+3+2*i:=⟨_,rfl⟩
  rw[←hnl] at hl hlk;rw[←hnr] at hl hr;have e1:(nl=3)=False:=by simp;omega
  have e2:(nr=3)=False:=by simp;omega
  have e3:(3=nl)=False:=by simp;omega
  have e4:(nr=nl)=False:=by simp;omega
  have e5:(nl=nr)=False:=by simp;omega
  have e6:(3=nr)=False:=by simp;omega
  have R:=v6 @n3 (v6 @h0 (v6 @h1 (v6 @hl (v6 @hr (v6 @e1 (v6 @e2 (v6 @e3 (v6 @hlk (v6 @mV (v6 @eG (v6 @hT (v6 @eM (v6 @aU @U)))))))))))))
  repeat' ((first |(with_reducible refine .guard (fun hb =>?_) (fun hb =>?_) <;>try simp only[hb])|refine J.aL (by decide +kernel) rfl fun K hK =>?_|refine .flat _ (jB _) rfl ?_|(refine .aG [0,1,3,4,5,14] hK ?_;clear hK K)|(with_reducible refine .done (hK _ ?_);clear hK K)|refine J.of rfl ?_|(with_reducible refine ak.aK (fun h =>?_) (fun h =>?_) <;>try simp only[h])) <;>try simp only[aM,R,simprocAttr])
  all_goals clear R
  refine gD rfl (fun n h =>?_) (fun n x h=>fx h) (tx hd hk12 hi hg (b := { bs[i] with bP:=x.bP,found:=true }) (by simp[eZ,hk]) rfl);rw[←xK hi (b := { bs[i] with bP:=x.bP,found:=true }) rfl rfl (z:=.box (enc x)) hnl hnr n h];simp only[aj];split <;>rfl
theorem QP(bs:List aD)(x:aq)(d:Nat)(hk:x.kind=6)(hd:(bs.map (·.no)).Nodup):cC Tryz.prog 177 [.ptr 1000000 [],enc x] (cz 1000000 bs) (jm 1000000 d bs x):=by
 refine cC.bn Tryz.func177 TC Vx XJ (t7 rfl) (t7 rfl) kY (fun hwf W0 D0 E1 =>?_);simp only[B6,NK,bg,zz4];clear hwf;have hk12:¬ (x.kind=1∨x.kind=2):=by omega
 have n3:aj (cz 1000000 bs) 3=none:=kz (by omega);have h0:aj (cz 1000000 bs) 1000000=some (.box (.agg [.mref 1000001])):=ky;have h1:aj (cz 1000000 bs) 1000001=some (.cB (dx bs) (ew 1000000 bs.length)):=kX;rcases p8 1000000 bs x.cH with ⟨hg,hlk⟩ | ⟨i,hi,hg,hno,hlk⟩
 ·have R:=v6 @n3 (v6 @h0 (v6 @h1 (v6 @hlk (v6 @eG (v6 @hT (v6 @eM (v6 @aU @U)))))))
  repeat' ((first |(with_reducible refine .guard (fun hb =>?_) (fun hb =>?_) <;>try simp only[hb])|refine J.aL (by decide +kernel) rfl fun K hK =>?_|refine .flat _ (jB _) rfl ?_|(refine .aG [0,1,3,4,5,18] hK ?_;clear hK K)|(with_reducible refine .done (hK _ ?_);clear hK K)|refine J.of rfl ?_|(with_reducible refine ak.aK (fun h =>?_) (fun h =>?_) <;>try simp only[h])) <;>try simp only[aM,R,simprocAttr])
  all_goals clear R
  exact gD rfl l8 (fun n x h=>fx h) (j6 (sJ hk12 hg))
 ·have hl:=mY (B:=1000000) hi;have hr:=l7 (B:=1000000) hi;obtain ⟨nl,hnl⟩:∃ nl,nl=1000000+2+2*i:=⟨_,rfl⟩
  obtain ⟨nr,hnr⟩:∃ nr,nr=1000000+3+2*i:=⟨_,rfl⟩
  rw[←hnl] at hl hlk;rw[←hnr] at hl hr;have e1:(nl=3)=False:=by simp;omega
  have e2:(nr=3)=False:=by simp;omega
  have e3:(3=nl)=False:=by simp;omega
  have e4:(nr=nl)=False:=by simp;omega
  have e5:(nl=nr)=False:=by simp;omega
  have e6:(3=nr)=False:=by simp;omega
  have R:=v6 @n3 (v6 @h0 (v6 @h1 (v6 @hl (v6 @hr (v6 @e1 (v6 @e2 (v6 @e3 (v6 @hlk (v6 @mV (v6 @eG (v6 @hT (v6 @eM (v6 @aU @U)))))))))))))
  repeat' ((first |(with_reducible refine .guard (fun hb =>?_) (fun hb =>?_) <;>try simp only[hb])|refine J.aL (by decide +kernel) rfl fun K hK =>?_|refine .flat _ (jB _) rfl ?_|(refine .aG [0,1,3,4,5,18] hK ?_;clear hK K)|(with_reducible refine .done (hK _ ?_);clear hK K)|refine J.of rfl ?_|(with_reducible refine ak.aK (fun h =>?_) (fun h =>?_) <;>try simp only[h])) <;>try simp only[aM,R,simprocAttr])
  all_goals clear R
  all_goals first
   |exact gD rfl l8 (fun n x h=>fx h) (j6 (AQ hk12 hg (by simp_all[eZ])))
   |exact gD rfl (xK hi (b := { bs[i] with cV:=x.day }) rfl rfl hnl hnr) (fun n x h=>fx h) (tx hd hk12 hi hg (by simp_all[eZ]) rfl)
theorem ai8{bs:List aD}{i:Nat}(hi:i<bs.length){b:aD}(hno:b.no=(bs[i]).no){z:ah}{nl nr:Nat}(hnl:nl=1000000+2+2*i)(hnr:nr=1000000+3+2*i) :
  ∀ n,al (cz 1000000 (bs.set i b)) n=true→aj ((nl,.box (eD b (.own nr b.b9.length)))::(nr,.bY 66 6 (b.b9.map enc))::(3,z)::cz 1000000 bs) n=aj (cz 1000000 (bs.set i b)) n:=fun n h=>by
 have:=kY n h;rw[KR hi b hno];simp only[aj];subst hnl hnr;rw[if_neg (show ¬ n=3 by omega)]
theorem QN(bs:List aD)(x:aq)(d:Nat)(hk:x.kind=4)(hd:(bs.map (·.no)).Nodup)(hlen:∀ b∈bs,b.b9.length≤1000):cC Tryz.prog 175 [.ptr 1000000 [],enc x] (cz 1000000 bs) (jm 1000000 d bs x):=by
 refine cC.bn Tryz.func175 TA Vv XH (t7 rfl) (t7 rfl) kY (fun hwf W0 D0 E1 =>?_);simp only[B4,NI,bg,zz4];clear hwf;have hk12:¬ (x.kind=1∨x.kind=2):=by omega
 have n3:aj (cz 1000000 bs) 3=none:=kz (by omega);have h0:aj (cz 1000000 bs) 1000000=some (.box (.agg [.mref 1000001])):=ky;have h1:aj (cz 1000000 bs) 1000001=some (.cB (dx bs) (ew 1000000 bs.length)):=kX;rcases p8 1000000 bs x.cH with ⟨hg,hlk⟩ | ⟨i,hi,hg,hno,hlk⟩
 ·have R:=v6 @n3 (v6 @h0 (v6 @h1 (v6 @hlk (v6 @eG (v6 @hT (v6 @eM (v6 @aU @U)))))))
  repeat' ((first |(with_reducible refine .guard (fun hb =>?_) (fun hb =>?_) <;>try simp only[hb])|refine J.aL (by decide +kernel) rfl fun K hK =>?_|refine .flat _ (jB _) rfl ?_|(refine .aG [0,1,3,4,5,14] hK ?_;clear hK K)|(with_reducible refine .done (hK _ ?_);clear hK K)|refine J.of rfl ?_|(with_reducible refine ak.aK (fun h =>?_) (fun h =>?_) <;>try simp only[h])) <;>try simp only[aM,R,simprocAttr])
  all_goals clear R
  exact gD rfl l8 (fun n x h=>fx h) (j6 (sJ hk12 hg))
 ·have hl:=mY (B:=1000000) hi;have hr:=l7 (B:=1000000) hi;obtain ⟨nl,hnl⟩:∃ nl,nl=1000000+2+2*i:=⟨_,rfl⟩
  obtain ⟨nr,hnr⟩:∃ nr,nr=1000000+3+2*i:=⟨_,rfl⟩
  rw[←hnl] at hl hlk;rw[←hnr] at hl hr;have e1:(nl=3)=False:=by simp;omega
  have e2:(nr=3)=False:=by simp;omega
  have e3:(3=nl)=False:=by simp;omega
  have e4:(nr=nl)=False:=by simp;omega
  have e5:(nl=nr)=False:=by simp;omega
  have e6:(3=nr)=False:=by simp;omega
  have hle:=hlen _ (zx3 hi);have happ:=fun (A:ae) d rest=>nC (α:=aW 6 Int) (A:=A) (d:=d) 66 6 48 nr (l:=(bs[i]).b9.length) (es:=(bs[i]).b9) (ys:=[x.b9]) (rest:=rest) rfl rfl (by simp) (by simp[maxLen];omega) (by simp;omega);have hbs:=qU 6 x.b9 rfl;have R:=v6 @n3 (v6 @h0 (v6 @h1 (v6 @hl (v6 @hr (v6 @e1 (v6 @e2 (v6 @e3 (v6 @e4 (v6 @e5 (v6 @e6 (v6 @hlk (v6 @happ (v6 @hbs (v6 @mV (v6 @eG (v6 @hT (v6 @eM (v6 @aU @U))))))))))))))))))
  repeat' ((first |(with_reducible refine .guard (fun hb =>?_) (fun hb =>?_) <;>try simp only[hb])|refine J.aL (by decide +kernel) rfl fun K hK =>?_|(refine J.rV (gs:=wZ) [] [] [0,1,2,3,4,5,6,7,8,9,10,11,12,13] (by decide +kernel) (fc.of (by simp[oQ])) fun K hK =>?_;simp only[oZ,wZ,List.getD_cons_zero,List.getD_cons_succ,R,simprocAttr])|(refine .aG [0,1,3,4,5,14] hK ?_;clear hK K)|(with_reducible refine .done (hK _ ?_);clear hK K)|refine J.of rfl ?_|(with_reducible refine ak.aK (fun h =>?_) (fun h =>?_) <;>try simp only[h])) <;>try simp only[aM,R,simprocAttr])
  all_goals clear R
  refine gD rfl (fun n h =>?_) (fun n x h=>fx h) (tx hd hk12 hi hg (b := { bs[i] with b9:=(bs[i]).b9++[x.b9] }) (by simp[eZ,hk]) rfl);rw[←ai8 hi (b := { bs[i] with b9:=(bs[i]).b9++[x.b9] }) rfl (z:=.box (enc x)) hnl hnr n h];rfl
def gV(B d:Nat)(bs:List aD)(b:aD):List (Nat×ah):=(B+1,.cB (dx (bs++[b])) (ew B bs.length++[.ptr d []]))::(d,.box (eD b (.nils 6)))::cz B bs
theorem tw{B d:Nat}{bs:List aD}{x:aq}(hk:x.kind=1∨x.kind=2)(hg:cw bs x.cH=none)(hdam:gQ bs x=true):jm B d bs x (.bool true) (gV B d bs (fP x)):=by
 have:dK c5 bs x=some (bs++[fP x]):=by simp only[dK,if_pos hk,hg,hdam,c5,and_self,if_true]
 simp only[jm,this,if_pos hk,gV,and_self]
def KN(B d:Nat)(bs:List aD)(x:aq):cO:=fun r os' =>
 (cw bs x.cH≠none∧r=.bool false∧os'=cz B bs)∨(cw bs x.cH=none∧r=.bool true∧os'=gV B d bs (fP x))
theorem Su(a b c d e f g:Int):(dZ [.int .i64 0,.int .i64 0,.int .i64 0,.int .i64 0,.int .i64 0,.int .i64 0,.int .i64 0,.bool false,.nils 6] [(0,.int .i64 a),(1,.int .i64 b),(2,.int .i64 c),(3,.int .i64 d),(4,.int .i64 e),(5,.int .i64 f),(6,.int .i64 g)]).map I.agg=some (I.agg [.int .i64 a,.int .i64 b,.int .i64 c,.int .i64 d,.int .i64 e,.int .i64 f,.int .i64 g,.bool false,.nils 6]):=by
 simp[dZ,I.cm,I.size]
theorem Sv(a b c d e f g:Int):(dZ [.agg [.int .i64 0,.int .i64 0,.int .i64 0,.int .i64 0,.int .i64 0,.int .i64 0,.int .i64 0,.bool false,.nils 6]] [(0,.agg [.int .i64 a,.int .i64 b,.int .i64 c,.int .i64 d,.int .i64 e,.int .i64 f,.int .i64 g,.bool false,.nils 6])]).map I.agg=some (eD ⟨a,b,c,d,e,f,g,false,[]⟩ (.nils 6)):=by
 simp[dZ,I.cm,I.size,I.sizes];rfl
theorem ajl(b:aD)(s:I):(eD b s).cm=true:=rfl
theorem akf(B d:Nat)(bs:List aD)(x:aq)(hg:cw bs x.cH=none):gB (.i .i64) (.int .i64 x.cH) (.ptr d []) (dx bs) (ew B bs.length)=some (dx (bs++[fP x]),ew B bs.length++[.ptr d []]):=by
 have h2:=LI wb x.cH (.ptr d []) rfl (bs.map (·.no)) (ew B bs.length);rw[gT] at h2;unfold dx;rw[h2];have h1:=xv (bs:=bs) (no:=x.cH);cases h:(bs.map (·.no)).findIdx? fun y=>decide (x.cH=y) with
 |none=>simp only[zx5,zz8,zx1];rfl
 |some i=>rw[h] at h1;obtain ⟨hi,g,_⟩:=h1;rw[hg] at g;cases g
theorem nO{B d:Nat}{bs:List aD}{b:aD}{n:Nat} : al (gV B d bs b) n=(decide (n=d)||al (cz B bs) n):=by
 by_cases h1:n=B+1
 ·subst h1;have:al (cz B bs) (B+1)=true:=by simp[al,kX]
  rw[this];simp[gV,al,aj]
 ·by_cases h2:n=d
  ·subst h2;simp[gV,al,aj,h1]
  ·simp[gV,al,aj,h1,h2]
theorem nP{B d:Nat}{bs:List aD}{b:aD}{n:Nat}{x:ah}(h:aj (gV B d bs b) n=some x):x.only (al (gV B d bs b))=true∧x.eX=true:=by
 have cM:∀ m,al (cz B bs) m=true→al (gV B d bs b) m=true:=fun m hm=>by rw[nO,hm,Bool.or_true]
 simp only[gV,aj] at h;split at h
 ·cases h;refine ⟨?_,rfl⟩;simp only[ah.only,zz2,fA];refine ⟨dy _ _,yN _ fun i hi=>cM _ (by rw[nR];simp;omega),?_⟩;simp[I.bT,I.only,nO]
 ·split at h
  ·cases h;exact ⟨by simp[ah.only,I.only,I.bT,eD],rfl⟩
  ·obtain ⟨k1,k2⟩:=fx h;exact ⟨ah.js cM _ k1,k2⟩
theorem su(bs:List aD)(x:aq):cC Tryz.prog 173 [.ptr 1000000 [],enc x] (cz 1000000 bs) (KN 1000000 33 bs x):=by
 refine cC.bn Tryz.func173 Ty Vt XF (t7 rfl) (t7 rfl) kY (fun hwf W0 D0 E1 =>?_);simp only[B1,NG,bg,zz4];clear hwf;have n3:aj (cz 1000000 bs) 3=none:=kz (by omega);have n33:aj (cz 1000000 bs) 33=none:=kz (by omega);have h0:aj (cz 1000000 bs) 1000000=some (.box (.agg [.mref 1000001])):=ky;have h1:aj (cz 1000000 bs) 1000001=some (.cB (dx bs) (ew 1000000 bs.length)):=kX;rcases p8 1000000 bs x.cH with ⟨hg,hlk⟩ | ⟨i,hi,hg,hno,hlk⟩
 ·have hup:=akf 1000000 33 bs x hg;have R:=v6 @n3 (v6 @n33 (v6 @h0 (v6 @h1 (v6 @hlk (v6 @hup (v6 @Su (v6 @Sv (v6 @ajl (v6 @eG (v6 @hT (v6 @eM (v6 @aU @U))))))))))))
  repeat' ((first |(with_reducible refine .guard (fun hb =>?_) (fun hb =>?_) <;>try simp only[hb])|refine J.aL (by decide +kernel) rfl fun K hK =>?_|(refine .aG [0,1,3,4,12] hK ?_;clear hK K)|(with_reducible refine .done (hK _ ?_);clear hK K)|refine J.of rfl ?_|(with_reducible refine ak.aK (fun h =>?_) (fun h =>?_) <;>try simp only[h])) <;>try simp only[aM,R,simprocAttr])
  all_goals clear R
  refine gD (os':=gV 1000000 33 bs (fP x)) (b:=true) rfl (fun n h =>?_) (fun n x h=>nP h) (Or.inr ⟨hg,rfl,rfl⟩);rw[nO] at h;simp only[gV,aj];by_cases e:n=33
  ·subst e;simp;rfl
  ·have:=kY n (by simpa[e] using h);rw[if_neg (show ¬ n=33 by omega),if_neg (show ¬ n=3 by omega),if_neg (show ¬ n=33 by omega)]
 ·have R:=v6 @n3 (v6 @h0 (v6 @h1 (v6 @hlk (v6 @eG (v6 @hT (v6 @eM (v6 @aU @U)))))))
  repeat' ((first |(with_reducible refine .guard (fun hb =>?_) (fun hb =>?_) <;>try simp only[hb])|refine J.aL (by decide +kernel) rfl fun K hK =>?_|(refine .aG [0,1,3,4,12] hK ?_;clear hK K)|(with_reducible refine .done (hK _ ?_);clear hK K)|refine J.of rfl ?_|(with_reducible refine ak.aK (fun h =>?_) (fun h =>?_) <;>try simp only[h])) <;>try simp only[aM,R,simprocAttr])
  all_goals clear R
  exact gD (b:=false) rfl l8 (fun n x h=>fx h) (Or.inl ⟨by rw[hg];simp,rfl,rfl⟩)
theorem bt.xI{K:ae→Prop}{f:FuncId}{x:aq}{avs:List I}{a1 a2:Option (List I)}{dst:Option Nat}{rest:List aB}{ts:List (Nat×I)}{z:ah}{bs:List aD}(hc:cC Tryz.prog f [.ptr 1000000 [],enc x] (cz 1000000 bs) (KN 1000000 33 bs x))(hav:avs=[.ptr 1000000 [],enc x])
  (h1:cw bs x.cH≠none→bt Tryz.prog iV false K (aE rest ((au ts (cz 1000000 bs++((3,z)::cz 1000000 bs))).aP dst (.bool false))))
  (h2:cw bs x.cH=none→bt Tryz.prog iV false K (aE rest ((au ts (gV 1000000 33 bs (fP x)++((3,z)::cz 1000000 bs))).aP dst (.bool true)))) :
  bt Tryz.prog iV false K (.call f avs a1 a2 dst rest (au ts ((3,z)::cz 1000000 bs))):=by
 subst hav;refine .bS false [] (cz 1000000 bs) [.ptr 1000000 [],enc x] _ rfl hc ⟨fun m y hy =>?_,fun m m' _ _ h=>h⟩ ⟨.inl ⟨?_,?_,rfl⟩,.inl ⟨(j4 _ _).symm,bh _ _,dN _⟩,trivial⟩ ?_ ?_
 ·have hm:=kY (bs:=bs) m (by simp[al,hy]);rw[ah.mq (ρ:=bA []) (fun n=>rfl)];refine ⟨?_,fx hy⟩
  show aj ((3,z)::cz 1000000 bs) m=some y
  have h3:¬ m=3:=by omega
  simp only[aj,if_neg h3];exact hy
 ·simp only[I.aN,bA]
 ·simp only[I.only];simp[al,ky]
 ·rintro r os' (⟨_,rfl,rfl⟩ | ⟨_,rfl,rfl⟩)
  ·exact ⟨fun m y hy=>⟨(fx hy).1,(fx hy).2,fun h=>by cases h⟩,fun m m' _ _ h=>h,fun m hm=>hm,(fun m a b=>by rw[a] at b;cases b),rfl,(fun h=>by cases h)⟩
  ·refine ⟨fun m y hy=>⟨(nP hy).1,(nP hy).2,fun h=>by cases h⟩,fun m m' _ _ h=>h,fun m hm=>by rw[nO,hm,Bool.or_true],fun m a b =>?_,rfl,fun h=>by cases h⟩;rw[nO,b,Bool.or_false,decide_eq_true_eq] at a;subst a;have h3:¬ (33:Nat)=3:=by omega
   refine ⟨?_,by simp[bA]⟩
   show aj ((3,z)::cz 1000000 bs) 33=none
   simp only[aj,if_neg h3];exact kz (by omega)
 ·rintro r os' (⟨hg,rfl,rfl⟩ | ⟨hg,rfl,rfl⟩)
  ·rw[uy];exact h1 hg
  ·rw[uy];exact h2 hg
theorem pF{os os0:List (Nat×ah)} : ∀ n,al os n=true→aj (os++os0) n=aj os n:=fun n h=>by
 rw[kA];cases hx:aj os n with
 |none=>simp[al,hx] at h
 |some y=>rfl
theorem QL(bs:List aD)(x:aq)(hk:x.kind=1):cC Tryz.prog 172 [.ptr 1000000 [],enc x] (cz 1000000 bs) (jm 1000000 33 bs x):=by
 refine cC.bn Tryz.func172 Tx Vs XE (t7 rfl) (t7 rfl) kY (fun hwf W0 D0 E1 =>?_);simp only[BZ,NF,bg,zz4];clear hwf;have n3:aj (cz 1000000 bs) 3=none:=kz (by omega);have h0:aj (cz 1000000 bs) 1000000=some (.box (.agg [.mref 1000001])):=ky;have h1:aj (cz 1000000 bs) 1000001=some (.cB (dx bs) (ew 1000000 bs.length)):=kX;by_cases hd0:x.e7≤0
 ·have hc:decide (0<x.e7)=false:=by simp;omega
  have hdam:gQ bs x=true:=by simp[gQ,hd0]
  have R:=v6 @n3 (v6 @h0 (v6 @h1 (v6 @hc (v6 @eG (v6 @hT (v6 @eM (v6 @aU @U)))))))
  repeat' ((first |(with_reducible refine .guard (fun hb =>?_) (fun hb =>?_) <;>try simp only[hb])|refine J.aL (by decide +kernel) rfl fun K hK =>?_|(refine .aG [0,1,3,4,5,8,41] hK ?_;clear hK K)|(with_reducible refine .done (hK _ ?_);clear hK K)|refine J.of rfl ?_|(with_reducible refine ak.aK (fun h =>?_) (fun h =>?_) <;>try simp only[h])) <;>try simp only[aM,R,simprocAttr])
  all_goals clear R
  refine bt.xI (su bs x) rfl (fun hg =>?_) (fun hg =>?_)
  ·try simp only[U,simprocAttr]
   refine .done (hK _ ?_);clear hK K;refine J.ret ?_;simp only[eY];exact gD (b:=false) rfl pF (fun n x h=>fx h) (j6 (by simp[dK,hk,hg]))
  ·try simp only[U,simprocAttr]
   refine .done (hK _ ?_);clear hK K;refine J.ret ?_;simp only[eY];exact gD (b:=true) rfl pF (fun n x h=>nP h) (tw (.inl hk) hg hdam)
 have hc:decide (0<x.e7)=true:=by simp;omega
 rcases p8 1000000 bs x.e7 with ⟨hg,hlk⟩ | ⟨i,hi,hg,hno,hlk⟩
 ·have hdam:gQ bs x=false:=by simp[gQ,hg];omega
  have R:=v6 @n3 (v6 @h0 (v6 @h1 (v6 @hc (v6 @hlk (v6 @eG (v6 @hT (v6 @eM (v6 @aU @U))))))))
  repeat' ((first |(with_reducible refine .guard (fun hb =>?_) (fun hb =>?_) <;>try simp only[hb])|refine J.aL (by decide +kernel) rfl fun K hK =>?_|(refine .aG [0,1,3,4,5,8,41] hK ?_;clear hK K)|(with_reducible refine .done (hK _ ?_);clear hK K)|refine J.of rfl ?_|(with_reducible refine ak.aK (fun h =>?_) (fun h =>?_) <;>try simp only[h])) <;>try simp only[aM,R,simprocAttr])
  all_goals clear R
  exact gD (b:=false) rfl l8 (fun n x h=>fx h) (j6 (by simp[dK,hk,hdam]))
 ·have hl:=mY (B:=1000000) hi;have hr:=l7 (B:=1000000) hi;obtain ⟨nl,hnl⟩:∃ nl,nl=1000000+2+2*i:=⟨_,rfl⟩
  obtain ⟨nr,hnr⟩:∃ nr,nr=1000000+3+2*i:=⟨_,rfl⟩
  rw[←hnl] at hl hlk;rw[←hnr] at hl hr;have e1:(nl=3)=False:=by simp;omega
  have e2:(nr=3)=False:=by simp;omega
  cases hs:(bs[i]).dq != x.dq with
  |true =>
   have hdam:gQ bs x=false:=by simp at hs;simp[gQ,hg,hs];omega
   have R:=v6 @n3 (v6 @h0 (v6 @h1 (v6 @hl (v6 @hr (v6 @e1 (v6 @e2 (v6 @hc (v6 @hlk (v6 @hs (v6 @mV (v6 @eG (v6 @hT (v6 @eM (v6 @aU @U))))))))))))))
   repeat' ((first |(with_reducible refine .guard (fun hb =>?_) (fun hb =>?_) <;>try simp only[hb])|refine J.aL (by decide +kernel) rfl fun K hK =>?_|refine .flat _ (jB _) rfl ?_|(refine .aG [0,1,3,4,5,8,41] hK ?_;clear hK K)|(with_reducible refine .done (hK _ ?_);clear hK K)|refine J.of rfl ?_|(with_reducible refine ak.aK (fun h =>?_) (fun h =>?_) <;>try simp only[h])) <;>try simp only[aM,R,simprocAttr])
   all_goals clear R
   exact gD (b:=false) rfl l8 (fun n x h=>fx h) (j6 (by simp[dK,hk,hdam]))
  |false =>
   cases hdd:decide (0≤(bs[i]).cV) with
   |false =>
    have hdam:gQ bs x=true:=by simp at hs hdd;simp[gQ,hg,hs];omega
    have R:=v6 @n3 (v6 @h0 (v6 @h1 (v6 @hl (v6 @hr (v6 @e1 (v6 @e2 (v6 @hc (v6 @hlk (v6 @hs (v6 @hdd (v6 @mV (v6 @eG (v6 @hT (v6 @eM (v6 @aU @U)))))))))))))))
    repeat' ((first |(with_reducible refine .guard (fun hb =>?_) (fun hb =>?_) <;>try simp only[hb])|refine J.aL (by decide +kernel) rfl fun K hK =>?_|refine .flat _ (jB _) rfl ?_|(refine .aG [0,1,3,4,5,8,41] hK ?_;clear hK K)|(with_reducible refine .done (hK _ ?_);clear hK K)|refine J.of rfl ?_|(with_reducible refine ak.aK (fun h =>?_) (fun h =>?_) <;>try simp only[h])) <;>try simp only[aM,R,simprocAttr])
    all_goals clear R
    refine bt.xI (su bs x) rfl (fun hg =>?_) (fun hg =>?_)
    ·try simp only[U,simprocAttr]
     refine .done (hK _ ?_);clear hK K;refine J.ret ?_;simp only[eY];exact gD (b:=false) rfl pF (fun n x h=>fx h) (j6 (by simp[dK,hk,hg]))
    ·try simp only[U,simprocAttr]
     refine .done (hK _ ?_);clear hK K;refine J.ret ?_;simp only[eY];exact gD (b:=true) rfl pF (fun n x h=>nP h) (tw (.inl hk) hg hdam)
   |true =>
    cases hdy:decide ((bs[i]).cV<x.day) with
    |true =>
     have hdam:gQ bs x=false:=by simp at hs hdd hdy;simp[gQ,hg,hs];omega
     have R:=v6 @n3 (v6 @h0 (v6 @h1 (v6 @hl (v6 @hr (v6 @e1 (v6 @e2 (v6 @hc (v6 @hlk (v6 @hs (v6 @hdd (v6 @hdy (v6 @mV (v6 @eG (v6 @hT (v6 @eM (v6 @aU @U))))))))))))))))
     repeat' ((first |(with_reducible refine .guard (fun hb =>?_) (fun hb =>?_) <;>try simp only[hb])|refine J.aL (by decide +kernel) rfl fun K hK =>?_|refine .flat _ (jB _) rfl ?_|(refine .aG [0,1,3,4,5,8,41] hK ?_;clear hK K)|(with_reducible refine .done (hK _ ?_);clear hK K)|refine J.of rfl ?_|(with_reducible refine ak.aK (fun h =>?_) (fun h =>?_) <;>try simp only[h])) <;>try simp only[aM,R,simprocAttr])
     all_goals clear R
     exact gD (b:=false) rfl l8 (fun n x h=>fx h) (j6 (by simp[dK,hk,hdam]))
    |false =>
     have hdam:gQ bs x=true:=by simp at hs hdd hdy;simp[gQ,hg,hs];omega
     have R:=v6 @n3 (v6 @h0 (v6 @h1 (v6 @hl (v6 @hr (v6 @e1 (v6 @e2 (v6 @hc (v6 @hlk (v6 @hs (v6 @hdd (v6 @hdy (v6 @mV (v6 @eG (v6 @hT (v6 @eM (v6 @aU @U))))))))))))))))
     repeat' ((first |(with_reducible refine .guard (fun hb =>?_) (fun hb =>?_) <;>try simp only[hb])|refine J.aL (by decide +kernel) rfl fun K hK =>?_|refine .flat _ (jB _) rfl ?_|(refine .aG [0,1,3,4,5,8,41] hK ?_;clear hK K)|(with_reducible refine .done (hK _ ?_);clear hK K)|refine J.of rfl ?_|(with_reducible refine ak.aK (fun h =>?_) (fun h =>?_) <;>try simp only[h])) <;>try simp only[aM,R,simprocAttr])
     all_goals clear R
     refine bt.xI (su bs x) rfl (fun hg =>?_) (fun hg =>?_)
     ·try simp only[U,simprocAttr]
      refine .done (hK _ ?_);clear hK K;refine J.ret ?_;simp only[eY];exact gD (b:=false) rfl pF (fun n x h=>fx h) (j6 (by simp[dK,hk,hg]))
     ·try simp only[U,simprocAttr]
      refine .done (hK _ ?_);clear hK K;refine J.ret ?_;simp only[eY];exact gD (b:=true) rfl pF (fun n x h=>nP h) (tw (.inl hk) hg hdam)
def kS:I:=.cX [.int .i64 1,.int .i64 2,.int .i64 3,.int .i64 4,.int .i64 5,.int .i64 6] [.func 172 [],.func 173 [],.func 174 [],.func 175 [],.func 176 [],.func 177 []]
theorem aj8:gB (.i .i64) (.int .i64 1) (.func 172 []) [] []=some ([.int .i64 1],[.func 172 []]):=by simp[gB,fg,cv,I.cm]
theorem aj9:gB (.i .i64) (.int .i64 2) (.func 173 []) [.int .i64 1] [.func 172 []]=some ([.int .i64 1,.int .i64 2],[.func 172 [],.func 173 []]):=by simp[gB,fg,cv,I.cm]
theorem aka:gB (.i .i64) (.int .i64 3) (.func 174 []) [.int .i64 1,.int .i64 2] [.func 172 [],.func 173 []]=some ([.int .i64 1,.int .i64 2,.int .i64 3],[.func 172 [],.func 173 [],.func 174 []]):=by simp[gB,fg,cv,I.cm]
theorem akb:gB (.i .i64) (.int .i64 4) (.func 175 []) [.int .i64 1,.int .i64 2,.int .i64 3] [.func 172 [],.func 173 [],.func 174 []]=some ([.int .i64 1,.int .i64 2,.int .i64 3,.int .i64 4],[.func 172 [],.func 173 [],.func 174 [],.func 175 []]):=by simp[gB,fg,cv,I.cm]
theorem akc:gB (.i .i64) (.int .i64 5) (.func 176 []) [.int .i64 1,.int .i64 2,.int .i64 3,.int .i64 4] [.func 172 [],.func 173 [],.func 174 [],.func 175 []]=some ([.int .i64 1,.int .i64 2,.int .i64 3,.int .i64 4,.int .i64 5],[.func 172 [],.func 173 [],.func 174 [],.func 175 [],.func 176 []]):=by simp[gB,fg,cv,I.cm]
theorem akd:gB (.i .i64) (.int .i64 6) (.func 177 []) [.int .i64 1,.int .i64 2,.int .i64 3,.int .i64 4,.int .i64 5] [.func 172 [],.func 173 [],.func 174 [],.func 175 [],.func 176 []]=some ([.int .i64 1,.int .i64 2,.int .i64 3,.int .i64 4,.int .i64 5,.int .i64 6],[.func 172 [],.func 173 [],.func 174 [],.func 175 [],.func 176 [],.func 177 []]):=by simp[gB,fg,cv,I.cm]
theorem z8:ay Tryz.prog 139 [] kS:=by
 refine ay.bn Tryz.func139 S6 U1 Xd (t7 rfl) (fun hwf W0 D0 E1 =>?_);simp only[By,Na,bg];refine .ao (by decide +kernel) fun K hK =>?_;simp only[F6,U,simprocAttr];refine .done (hK _ ?_);clear hK K;refine .ao (by decide +kernel) fun K hK =>?_;simp only[F7,U,simprocAttr]
 try simp only[eM,aj8,aj9,aka,akb,akc,akd,U,simprocAttr]
 refine .done (hK _ ?_);clear hK K;refine J.ret ?_;simp only[U,simprocAttr];simp[kS,bl,au,cg,ej,ga,I.bZ,I.bD,lO,oh];rfl
def ec(bs:List aD):List (Nat×ah):=(43,.box (.agg [.mref 41]))::(41,.cB (dx bs) (ew 2000 bs.length))::fb 2000 0 bs
def nN(bs:List aD)(b:aD):List (Nat×ah):=(41,.cB (dx (bs++[b])) (ew 2000 bs.length++[.ptr (2002+2*bs.length) []]))::(2002+2*bs.length,.box (eD b (.nils 6)))::ec bs
def gL(n:Nat):List (Nat×Nat):=(33,2002+2*n)::(1000000,43)::(1000001,41)::(List.range' 0 200).map fun j=>(1000002+j,2002+j)
theorem O1(m:Nat):∀ k a,bA ((List.range' a k).map fun j=>(1000002+j,2002+j)) m=if 1000002+a≤m∧m<1000002+a+k then m-998000 else m
 |0,a=>by
  rw[if_neg (by omega)];rfl
 |k+1,a=>by
  rw[List.range'_succ,zz8,bA,O1 m k (a+1)];by_cases h:m=1000002+a
  ·rw[if_pos h,if_pos (by omega)];omega
  ·rw[if_neg h];by_cases h2:1000002+(a+1)≤m∧m<1000002+(a+1)+k
   ·rw[if_pos h2,if_pos (by omega)]
   ·rw[if_neg h2,if_neg (by omega)]
theorem mw(n m:Nat):bA (gL n) m=if m=33 then 2002+2*n else if m=1000000 then 43 else if m=1000001 then 41 else if 1000002≤m∧m<1000202 then m-998000 else m:=by
 simp only[gL,bA,O1]
theorem OZ{n i:Nat}(h:i≤80):bA (gL n) (1000000+2+2*i)=2000+2+2*i:=by
 rw[mw,if_neg (by omega),if_neg (by omega),if_neg (by omega),if_pos (by omega)];omega
theorem amo{n i:Nat}(h:i≤80):bA (gL n) (1000000+3+2*i)=2000+3+2*i:=by
 rw[mw,if_neg (by omega),if_neg (by omega),if_neg (by omega),if_pos (by omega)];omega
theorem OW(n:Nat):bA (gL n) 1000000=43:=by rw[mw];rfl
theorem OX(n:Nat):bA (gL n) 1000001=41:=by rw[mw];rfl
theorem OY(n:Nat):bA (gL n) 33=2002+2*n:=by rw[mw];rfl
theorem zb(ρ:List (Nat×Nat))(k:Nat)(v:ah)(os:List (Nat×ah)):dI ρ ((k,v)::os)=(bA ρ k,v.aN (bA ρ))::dI ρ os:=rfl
theorem OQ(n:Nat):∀ (bs:List aD) (i:Nat),i+bs.length≤80→dI (gL n) (fb 1000000 i bs)=fb 2000 i bs
 | [],_,_=>rfl
 |b::bs,i,h=>by
  simp only[List.length_cons] at h;have ih:=OQ n bs (i+1) (by omega);simp only[fb,zb,ih,OZ (n:=n) (i:=i) (by omega),amo (n:=n) (i:=i) (by omega),ah.aN,fB,eD,I.aN,I.cQ]
theorem OS(n:Nat){k:Nat}(h:k≤80):I.cQ (bA (gL n)) (ew 1000000 k)=ew 2000 k:=by
 simp only[ew,o9,List.map_map];refine List.map_congr_left fun i hi =>?_;have:=zw1.1 hi;simp only[Function.comp,I.aN,OZ (n:=n) (i:=i) (by omega)]
theorem OR(ρ:Nat→Nat)(bs:List aD):I.cQ ρ (dx bs)=dx bs:=by
 simp only[dx,fB]
theorem uz(n:Nat){bs:List aD}(h:bs.length≤80):dI (gL n) (cz 1000000 bs)=ec bs:=by
 have h1:=OQ n bs 0 (by omega);simp only[cz,ec,zb,h1,ah.aN,I.aN,I.cQ,OR,OS n h,OW,OX,Nat.reduceAdd]
theorem amc(ρ:Nat→Nat)(xs ys:List I):I.cQ ρ (xs++ys)=I.cQ ρ xs++I.cQ ρ ys:=by simp only[o9,zx5]
theorem ama{bs:List aD}{b:aD}(h:bs.length≤80):dI (gL bs.length) (gV 1000000 33 bs b)=nN bs b:=by
 have h1:=uz bs.length h;simp only[gV,nN,zb,h1,ah.aN,I.aN,I.cQ,OR,amc,OS bs.length h,OX,OY,eD,Nat.reduceAdd]
def tT(n m:Nat):Prop:=m=33∨(1000000≤m∧m<1000002+2*n)
theorem uD{n k m m':Nat}(hk:k≤80)(hm:1000000≤m∧m<1000002+2*k)(hm':1000000≤m'∧m'<1000002+2*k)(h:bA (gL n) m=bA (gL n) m'):m=m':=by
 rw[mw,mw] at h;rw[if_neg (by omega),if_neg (show ¬ m'=33 by omega)] at h
 (repeat' split at h) <;>omega
theorem amn{n m m':Nat}(hk:n≤80)(hm:tT n m)(hm':tT n m')(h:bA (gL n) m=bA (gL n) m'):m=m':=by
 simp only[tT] at hm hm';rw[mw,mw] at h
 (repeat' split at h) <;>omega
theorem ajO{ρ:List (Nat×Nat)}{os:List (Nat×ah)}{m:Nat}{y:ah}(inj:∀ m',al os m'=true→bA ρ m'=bA ρ m→m'=m)(h:aj os m=some y):aj (dI ρ os) (bA ρ m)=some (y.aN (bA ρ)):=by
 have h1:=rG ρ os [] (bA ρ m);rw[zx7] at h1;rw[h1];cases hp:pre ρ os (bA ρ m) with
 |none=>exact absurd rfl (yU hp (by simp[al,h]))
 |some m' =>
  obtain ⟨k1,k2⟩:=mn hp;have:=inj m' k1 k2;subst this;simp only[h,zy5]
theorem xJ{bs:List aD}{n:Nat} : al (ec bs) n=decide (n=43∨n=41∨(2002≤n∧n<2002+2*bs.length)):=by
 have h2:al (fb 2000 0 bs) n=decide (2002≤n∧n<2002+2*bs.length):=by
  by_cases h1:n<2002
  ·simp only[al,tE 2000 bs 0 n (by omega)];simp;omega
  by_cases h3:2002+2*bs.length≤n
  ·simp only[al,tC 2000 bs 0 n (by omega)];simp;omega
  ·rcases tS 2000 n bs.length with h | h | h | ⟨k,hk,h⟩ | ⟨k,hk,h⟩ | h
   ·omega
   ·omega
   ·omega
   ·have:=tD 2000 bs 0 k hk;rw[zz4] at this;rw[h];simp only[al,this];simp;omega
   ·have:=tF 2000 bs 0 k hk;rw[zz4] at this;rw[h];simp only[al,this];simp;omega
   ·omega
 simp only[al,ec,aj] at h2 ⊢;by_cases h3:n=43
 ·simp[h3]
 by_cases h4:n=41
 ·simp[h4]
 simp only[h3,h4,if_false,h2,false_or]
theorem cC.post{P:Program}{f:FuncId}{args:List I}{os:List (Nat×ah)}{post post':cO}(h:cC P f args os post)(hp:∀ r os',post r os'→post' r os'):cC P f args os post' :=
 ⟨h.1,fun w D E vs hs hD ho hv=>(h.2 w D E vs hs hD ho hv).mono fun _ _ ⟨v,D',E',r,os',k1,k2,k⟩=>⟨v,D',E',r,os',k1,hp _ _ k2,k⟩⟩
def nH:List I:=[.int .i64 1,.int .i64 2,.int .i64 3,.int .i64 4,.int .i64 5,.int .i64 6]
def nI:List I:=[.func 172 [],.func 173 [],.func 174 [],.func 175 [],.func 176 [],.func 177 []]
theorem ajp{x:aq}(h:iW x=true):0≤x.kind∧x.kind≤6∧(x.kind=2→x.e7=0):=by
 simp only[iW,zz2,decide_eq_true_eq] at h;obtain ⟨h1,h2,_⟩:=h;have h3:x.kind=2→x.e7=0:=fun hk=>by rw[h2];simp[jY,hk]
 simp only[pT] at h1;refine ⟨?_,?_,h3⟩
 all_goals
  split at h1
  ·omega
  ·simp only[zz2] at h1;obtain ⟨-,h1⟩:=h1
   repeat' split at h1
   all_goals first | omega | (simp only[decide_eq_true_eq] at h1;omega)
theorem vT{bs:List aD}{x:aq}(hok:iW x=true)(hk0:x.kind≠0)(hd:(bs.map (·.no)).Nodup)(hlen:∀ b∈bs,b.b9.length≤1000) :
  ∃ f,gA (.i .i64) .dw (.int .i64 x.kind) nH nI=some (.func f [],true)∧[172,173,174,175,176,177].contains f=true∧cC Tryz.prog f [.ptr 1000000 [],enc x] (cz 1000000 bs) (jm 1000000 33 bs x):=by
 obtain ⟨h1,h2,h3⟩:=ajp hok;have h4:x.kind=1∨x.kind=2∨x.kind=3∨x.kind=4∨x.kind=5∨x.kind=6:=by omega
 rcases h4 with h | h | h | h | h | h
 ·exact ⟨172,by rw[h];simp[gA,fg,cv,nH,nI],rfl,QL bs x h⟩
 ·refine ⟨173,by rw[h];simp[gA,fg,cv,nH,nI],rfl,cC.post (su bs x) ?_⟩;have hdam:gQ bs x=true:=by simp[gQ,h3 h]
  rintro r os' (⟨k1,rfl,rfl⟩ | ⟨k1,rfl,rfl⟩)
  ·exact j6 (by simp[dK,h,k1])
  ·exact tw (.inr h) k1 hdam
 ·exact ⟨174,by rw[h];simp[gA,fg,cv,nH,nI],rfl,QM bs x 33 h hd⟩
 ·exact ⟨175,by rw[h];simp[gA,fg,cv,nH,nI],rfl,QN bs x 33 h hd hlen⟩
 ·exact ⟨176,by rw[h];simp[gA,fg,cv,nH,nI],rfl,QO bs x 33 h hd⟩
 ·exact ⟨177,by rw[h];simp[gA,fg,cv,nH,nI],rfl,QP bs x 33 h hd⟩
theorem vl{bs bs':List aD}{x:aq}(hk:¬ (x.kind=1∨x.kind=2))(h:dK c5 bs x=some bs'):bs'.length=bs.length:=by
 simp only[dK,if_neg hk] at h;split at h
 ·cases h
 ·simp only[zz1] at h;obtain ⟨b',_,rfl⟩:=h;simp[lx]
theorem cG.vT{hs:List FuncId}{K:ae→Prop}{f:FuncId}{x:aq}{avs:List I}{a1 a2:Option (List I)}{dst:Option Nat}{rest:List aB}{ts:List (Nat×I)}{z y:ah}{bs:List aD}(hlen:bs.length≤60)(hf:hs.contains f=true)
  (hc:cC Tryz.prog f [.ptr 1000000 [],enc x] (cz 1000000 bs) (jm 1000000 33 bs x)) (hav:avs=[.ptr 43 [],enc x])
  (h1:dK c5 bs x=none→cG Tryz.prog hs K (aE rest ((au ts (ec bs++((900,z)::(ec bs++[(3,y)])))).aP dst (.bool false))))
  (h2:∀ bs',dK c5 bs x=some bs'→¬ (x.kind=1∨x.kind=2)→cG Tryz.prog hs K (aE rest ((au ts (ec bs'++((900,z)::(ec bs++[(3,y)])))).aP dst (.bool true))))
  (h3:dK c5 bs x=some (bs++[fP x])→cG Tryz.prog hs K (aE rest ((au ts (nN bs (fP x)++((900,z)::(ec bs++[(3,y)])))).aP dst (.bool true)))) :
  cG Tryz.prog hs K (.call f avs a1 a2 dst rest (au ts ((900,z)::(ec bs++[(3,y)])))):=by
 subst hav;have nm:∀ {bs:List aD} {m},al (cz 1000000 bs) m=true→1000000≤m∧m<1000002+2*bs.length:=fun {bs m} h=>by
  rw[nR] at h;simpa using h
 have hlow:∀ {bs':List aD},bs'.length≤60→∀ {m y},aj (cz 1000000 bs') m=some y→aj (ec bs') (bA (gL bs.length) m)=some (y.aN (bA (gL bs.length))):=fun {bs'} hl {m y} hy=>by
  rw[←uz bs.length (bs:=bs') (by omega)];exact ajO (fun m' hm' he=>uD (by omega) (nm hm') (nm (by simp[al,hy])) he) hy
 refine .yz false (gL bs.length) (cz 1000000 bs) [.ptr 1000000 [],enc x] _ hf hc ⟨fun m y' hy =>?_,fun m m' h h' e=>uD (n:=bs.length) (by omega) (nm h) (nm h') e⟩ ⟨.inl ⟨?_,?_,rfl⟩,.inl ⟨(j4 _ _).symm,bh _ _,dN _⟩,trivial⟩ ?_ ?_
 ·have hm:=nm (bs:=bs) (m:=m) (by simp[al,hy]);refine ⟨?_,fx hy⟩;have h9:bA (gL bs.length) m≠900:=fun e=>by
   rw[mw] at e
   (repeat' split at e) <;>omega
  simp only[aj,if_neg h9,kA,hlow hlen hy]
 ·simp only[I.aN,OW]
 ·simp only[I.only];simp[al,ky]
 ·intro r os' hp;simp only[jm] at hp;split at hp
  ·obtain ⟨rfl,rfl⟩:=hp;exact ⟨fun m y hy=>⟨(fx hy).1,(fx hy).2,fun h=>by cases h⟩,fun m m' h h' e=>uD (n:=bs.length) (k:=bs.length) (by omega) (nm h) (nm h') e,fun m hm=>hm,(fun m a b=>by rw[a] at b;cases b),rfl,(fun h=>by cases h)⟩
  ·rename_i bs' hb;obtain ⟨rfl,rfl⟩:=hp;split
   ·rename_i hk;have hbs:bs'=bs++[fP x]:=by
     simp only[dK,if_pos hk] at hb;split at hb
     ·simpa[c5] using hb.symm
     ·cases hb
    subst hbs;have hN:∀ {m},al (gV 1000000 33 bs (fP x)) m=true→tT bs.length m:=fun {m} h=>by
     rw[nO] at h;simp only[Bool.or_eq_true,decide_eq_true_eq] at h;rcases h with h | h
     ·exact .inl h
     ·exact .inr (nm h)
    refine ⟨fun m y hy=>⟨(nP hy).1,(nP hy).2,fun h=>by cases h⟩,fun m m' h h' e=>amn (by omega) (hN h) (hN h') e,fun m hm =>?_,fun m a b =>?_,rfl,fun h=>by cases h⟩
    ·show al (gV 1000000 33 bs (fP x)) m=true
     rw[nO,hm,Bool.or_true]
    ·have a':al (gV 1000000 33 bs (fP x)) m=true:=a;rw[nO,b,Bool.or_false,decide_eq_true_eq] at a';subst a';rw[OY];refine ⟨?_,by omega⟩;have h9:¬ 2002+2*bs.length=900:=by omega
     have h3:¬ 2002+2*bs.length=3:=by omega
     have hno:aj (ec bs) (2002+2*bs.length)=none:=by
      have:=xJ (bs:=bs) (n:=2002+2*bs.length);rw[decide_eq_false (by omega)] at this;simpa[al] using this
     simp only[aj,if_neg h9,kA,hno,if_neg h3]
   ·rename_i hk;have hl:=vl hk hb;refine ⟨fun m y hy=>⟨(fx hy).1,(fx hy).2,fun h=>by cases h⟩,fun m m' h h' e=>uD (n:=bs.length) (k:=bs'.length) (by omega) (nm h) (nm h') e,fun m hm =>?_,fun m a b =>?_,rfl,fun h=>by cases h⟩
    ·rw[nR] at hm ⊢;rw[hl];exact hm
    ·rw[nR] at a b;rw[hl] at a;rw[a] at b;cases b
 ·intro r os' hp;simp only[jm] at hp;split at hp
  ·rename_i hb;obtain ⟨rfl,rfl⟩:=hp;rw[uz bs.length (by omega)];exact h1 hb
  ·rename_i bs' hb;obtain ⟨rfl,rfl⟩:=hp;split
   ·rename_i hk;have hbs:bs'=bs++[fP x]:=by
     simp only[dK,if_pos hk] at hb;split at hb
     ·simpa[c5] using hb.symm
     ·cases hb
    subst hbs;have e:dI (gL bs.length) ((1000000+1,ah.cB (dx (bs++[fP x])) (ew 1000000 bs.length++[.ptr 33 []]))::(33,.box (eD (fP x) (.nils 6)))::cz 1000000 bs)=nN bs (fP x):=ama (by omega);rw[e];exact h3 hb
   ·rename_i hk;have hl:=vl hk hb;rw[uz bs.length (by omega)];exact h2 bs' hb hk
def vh(a b c d e f:Int):aW 6 Int:=⟨[a,b,c,d,e,f],rfl⟩
def a5(a b c d e:Int):aW 5 Int:=⟨[a,b,c,d,e],rfl⟩
theorem DZ(a b c d e:Int):I.agg [.int .i64 a,.int .i64 b,.int .i64 c,.int .i64 d,.int .i64 e]=enc (a5 a b c d e):=rfl
theorem D4(a b c d e f:Int):I.agg [.int .i64 a,.int .i64 b,.int .i64 c,.int .i64 d,.int .i64 e,.int .i64 f]=enc (vh a b c d e f):=rfl
theorem pf{zs:List I}{i:Nat}{v z:I}{rest:List (Nat×I)}(h:zs[i]?=some z)(h1:v.cm=true)(h2:v.size=z.size):dZ zs ((i,v)::rest)=dZ (zs.set i v) rest:=by
 simp only[dZ,h];rw[if_pos ⟨h1,h2⟩]
theorem Ss(o:Int)(m:aW 6 Int):dZ [.int .i64 0,enc (vh 0 0 0 0 0 0)] [(0,.int .i64 o),(1,enc m)]=some [.int .i64 o,enc m]:=by
 have h2:((enc m:I).cm=true∧(enc m:I).size=(enc (vh 0 0 0 0 0 0)).size):=⟨dN _,by rw[gH,gH]⟩
 have h1:((I.int .i64 o).cm=true∧(I.int .i64 o).size=(I.int .i64 0).size):=⟨rfl,rfl⟩
 rw[pf rfl h1.1 h1.2,pf rfl h2.1 h2.2];rfl
theorem Z4(o:Int)(m:aW 6 Int):I.agg [.int .i64 o,enc m]=enc (⟨o,m⟩:cq):=rfl
theorem qZ(w:aW 5 Int)(n:Int)(l:List cq):I.agg [enc w,.int .i64 n,enc l]=enc (⟨w,n,l⟩:bU):=rfl
theorem Dt(a b:Item):decide (lN a b<0)=before a b:=by
 simp only[lN,mh,jE,before]
 repeat' split
 all_goals simp_all
 all_goals omega
theorem WG(a b:Item):(lN a b==0)=decide (a=b):=by
 rw[Bool.eq_iff_iff,beq_iff_eq,decide_eq_true_eq,Item.El];simp only[lN,mh,jE]
 repeat' split
 all_goals (simp_all <;>try omega)
theorem vr{a b c:Item}(h:before a b=true)(k:before b c=true):before a c=true:=by
 simp only[before,Bool.or_eq_true,decide_eq_true_eq,zz2] at *;omega
theorem AW(a:Item):before a a=false:=by simp[before]
theorem Du(a b:Item):decide (0≤lN a b) = !before a b:=by
 rw[←Dt];by_cases h:lN a b<0
 ·have:¬ 0≤lN a b:=by omega
  simp[h,this]
 ·have:0≤lN a b:=by omega
  simp[h,this]
theorem iS{l:List aq}{i:Nat}(h:i<l.length):l[i]=ab l i:=by simp[ab,h]
theorem kZ{l:List aq}{i:Nat}(h:i<l.length)(A:ae):iF A 17 (i:Int) (enc l)=some (.ref (enc (ab l i))):=by
 rw[ft 17 h rfl,iS h]
theorem fO{i n:Nat}(h:i<n):decide ((i:Int)<(n:Int))=true:=by simp;omega
theorem gi{i n:Nat}(h:¬ i<n):decide ((i:Int)<(n:Int))=false:=by simp;omega
theorem sj{n:Nat}(h:n≤9223372036854775807):IntKind.i64.wrap (n:Int)=(n:Int):=cF _ (by omega) (by omega)
theorem eB{i:Nat}(h:i<9223372036854775807):IntKind.i64.wrap ((i:Int)+1)=((i+1:Nat):Int):=by rw[cF _ (by omega) (by omega)];rfl
theorem anx{i:Nat}(h:0<i)(h2:i<9223372036854775807):IntKind.i64.wrap ((i:Int)-1)=((i-1:Nat):Int):=by rw[cF _ (by omega) (by omega)];omega
theorem n9{l:List aq}(h:dQ l=true):l.length≤60:=by simp[dQ] at h;exact h.1
theorem yH{l:List aq}(h:dQ l=true){i:Nat}(hi:i<l.length):kD l i=true:=by
 simp only[dQ,zz2,zx2,zw1] at h;exact h.2 i hi
theorem LY{l:List aq}{i:Nat}(hi:i<l.length)(h:kD l i=false):dQ l=false:=by
 cases hk:dQ l with
 |false=>rfl
 |true=>rw[yH hk hi] at h;cases h
theorem LZ{l:List aq}(hl:l.length≤60)(h:∀ i,i<l.length→kD l i=true):dQ l=true:=by
 simp only[dQ,zz2,zx2,zw1,decide_eq_true_eq];exact ⟨hl,h⟩
theorem yI{l:List aq}(h:dQ l=true){i:Nat}(hi:i<l.length):iW (ab l i)=true:=by
 have:=yH h hi;simp only[kD,zz2] at this;exact this.1
theorem L1{l:List aq}(h:dQ l=true):∀ {j i:Nat},i<j→j<l.length→before (ab l i).bF (ab l j).bF=true
 |0,i,hij,_=>by omega
 |j+1,i,hij,hj=>by
  have h1:=yH h hj;simp only[kD,zz2,Bool.or_eq_true,decide_eq_true_eq,Nat.add_sub_cancel] at h1;have h2:=h1.2.resolve_left (by omega);by_cases e:i=j
  ·rw[e];exact h2
  ·exact vr (L1 h (j:=j) (by omega) (by omega)) h2
theorem Lt{p:Nat→Prop}{i:Nat}(h:∀ j,j<i→p j)(hi:p i):∀ j,j<i+1→p j:=fun j hj=>by
 by_cases e:j=i
 ·exact e▸hi
 ·exact h j (by omega)
theorem Au(l:List aq):ay Tryz.prog 64 [enc l] (enc (if dQ l then (0:Int) else 41)):=by
 refine ay.bn Tryz.func64 T9 V4 Yg (t7 rfl) (fun hwf W0 D0 E1 =>?_);simp only[CC,Oh,bg];have hlen:l.length≤maxLen:=((lC l).1 hwf.1).1;simp only[maxLen] at hlen;clear hwf;refine .ao (by decide +kernel) fun K hK =>?_;simp only[Jt,U,simprocAttr];refine .done (hK _ ?_);clear hK K;refine J.seq (J.seq ?_);refine .bx (by decide +kernel) fun K hK =>?_;simp only[Ju,U,simprocAttr]
 try simp only[bd,U,simprocAttr]
 refine .done (hK _ ?_);clear hK K;try simp only[ar]
 refine J.bM ?_;simp only[ak,U,simprocAttr];refine ⟨fun h =>?_,fun h =>?_⟩
 ·have R:=v6 @aU @U
  repeat' ((first |(with_reducible refine .guard (fun hb =>?_) (fun hb =>?_) <;>try simp only[hb])|refine J.aL (by decide +kernel) rfl fun K hK =>?_|(refine .aG [0,2,3,4,7,8,9,10,11,33] hK ?_;clear hK K)|(with_reducible refine .done (hK _ ?_);clear hK K)|refine J.of rfl ?_|(with_reducible refine ak.aK (fun h =>?_) (fun h =>?_) <;>try simp only[h])) <;>try simp only[aM,R,simprocAttr])
  all_goals clear R
  have:¬ l.length≤60:=by simp at h;omega
  simp[dQ,this]
 have hl6:l.length≤60:=by simp at h;omega
 refine J.skip ?_;try simp only[ar,simprocAttr]
 refine J.seq (J.seq ?_);refine .bx (by decide +kernel) fun K hK =>?_;simp only[Jv,U,simprocAttr]
 try simp only[bd,U,simprocAttr]
 refine .done (hK _ ?_);clear hK K;try simp only[ar]
 refine J.block (J.loop (fun i:Nat=>au [(0,enc l),(8,enc l),(9,.int .i64 l.length),(10,.int .i64 i)] []) (fun i=>i≤l.length∧∀ j,j<i→kD l j=true) (fun i=>l.length-i) 0 ⟨by omega,fun k h=>by omega⟩ ?_ (fun i hi =>?_))
 ·refine aC.bI ?_ ?_ ?_ ?_ <;>simp[aT,bC,bB,a6,aV,I.only,bh]
 by_cases hlt:i<l.length
 ·have he:=kZ hlt;have hc:=fO hlt;have hw:=eB (i:=i) (by omega);by_cases h0:i=0
  ·have hc0:decide ((0:Int)<(i:Int))=false:=by simp;omega
   have R:=v6 @he (v6 @hc (v6 @hw (v6 @hc0 (v6 @Du (v6 @aU @U)))))
   repeat' ((first |(with_reducible refine .guard (fun hb =>?_) (fun hb =>?_) <;>try simp only[hb])|refine J.aL (by decide +kernel) rfl fun K hK =>?_|refine .flat _ (z1 _) rfl ?_|refine .flat _ (u0 _ _) rfl ?_|(refine .aG [0,2,3,4,7,8,9,10,11,33] hK ?_;clear hK K)|(with_reducible refine .done (hK _ ?_);clear hK K)|refine J.of rfl ?_|(with_reducible refine ak.aK (fun h =>?_) (fun h =>?_) <;>try simp only[h])) <;>try simp only[aM,R,simprocAttr])
   all_goals clear R
   all_goals first
    |(refine ⟨i+1,⟨by omega,Lt hi.2 (by simp_all[kD])⟩,by omega,?_⟩;(refine aC.bI ?_ ?_ ?_ ?_ <;>simp[aT,bC,bB,a6,aV,I.only,bh]))
    |(rw[LY hlt (by simp_all[kD])];rfl)
  ·have he2:=kZ (l:=l) (i:=i-1) (by omega);have hw2:=anx (i:=i) (by omega) (by omega);have hc0:decide ((0:Int)<(i:Int))=true:=by simp;omega
   have R:=v6 @he (v6 @hc (v6 @hw (v6 @he2 (v6 @hw2 (v6 @hc0 (v6 @Du (v6 @aU @U)))))))
   repeat' ((first |(with_reducible refine .guard (fun hb =>?_) (fun hb =>?_) <;>try simp only[hb])|refine J.aL (by decide +kernel) rfl fun K hK =>?_|refine .flat _ (z1 _) rfl ?_|refine .flat _ (u0 _ _) rfl ?_|(refine .aG [0,2,3,4,7,8,9,10,11,33] hK ?_;clear hK K)|(with_reducible refine .done (hK _ ?_);clear hK K)|refine J.of rfl ?_|(with_reducible refine ak.aK (fun h =>?_) (fun h =>?_) <;>try simp only[h])) <;>try simp only[aM,R,simprocAttr])
   all_goals clear R
   all_goals first
    |(refine ⟨i+1,⟨by omega,Lt hi.2 (by simp_all[kD])⟩,by omega,?_⟩;(refine aC.bI ?_ ?_ ?_ ?_ <;>simp[aT,bC,bB,a6,aV,I.only,bh]))
    |(rw[LY hlt (by simp_all[kD])];rfl)
 ·have hc:=gi hlt;have R:=v6 @hc (v6 @aU @U)
  repeat' ((first |(with_reducible refine .guard (fun hb =>?_) (fun hb =>?_) <;>try simp only[hb])|refine J.aL (by decide +kernel) rfl fun K hK =>?_|(refine .aG [0,2,3,4,7,8,9,10,11,33] hK ?_;clear hK K)|(with_reducible refine .done (hK _ ?_);clear hK K)|refine J.of rfl ?_|(with_reducible refine ak.aK (fun h =>?_) (fun h =>?_) <;>try simp only[h])) <;>try simp only[aM,R,simprocAttr])
  all_goals clear R
  rw[LZ hl6 fun j hj=>hi.2 j (by omega)];rfl
theorem xF{l:List aq}{a:Item}{i:Nat}(hi:i<l.length)(h:(ab l i).bF=a):l6 l a=true:=by
 simp only[l6,List.any_eq_true,decide_eq_true_eq];exact ⟨ab l i,by rw[←iS hi];exact zx3 _,h⟩
def bJ(k:Nat)(ws:List Int):List (Nat×ah):=[(k,.box (.agg (ws.map enc)))]
theorem fZ(p:Nat→Bool)(l:List Int):(I.agg (l.map enc)).only p=true:=by simp only[I.only];exact dy p l
theorem ajP(l:List Int):(I.agg (l.map enc)).c6=true:=by simp only[I.c6];exact tB l
theorem my{ws:List Int} : ∀ m,al (bJ 1000000 ws) m=true→1000000≤m:=fun m hm=>by rw[cE.1 hm];exact zz7 _
def kK(ws:List Int)(i j:Nat):List Int:=(ws.set i (ws.getD j 0)).set j (ws.getD i 0)
theorem PK{A B C:List Int}{x y:Int}{i j:Nat}(hi:A.length=i)(hj:A.length+1+B.length=j):kK (A++x::B++y::C) i j=A++y::B++x::C:=by
 subst hi hj;have e1:(A++x::B++y::C).getD A.length 0=x:=by simp[zz0,zz5]
 have e2:(A++x::B++y::C).getD (A.length+1+B.length) 0=y:=by
  rw[zz0,zw0 (by simp;omega)];simp[];have:A.length+1+B.length-(A.length+(B.length+1))=0:=by omega
  rw[this];rfl
 simp only[kK,e1,e2];rw[zz5,List.set_append_right _ _ (zz7 _),Nat.sub_self,zy0,List.set_cons_zero];rw[List.set_append_right _ _ (by omega)];have:A.length+1+B.length-A.length=(B.length)+1:=by omega
 rw[this,List.set_cons_succ,List.set_append_right _ _ (zz7 _),Nat.sub_self,List.set_cons_zero];simp
theorem gW{n i:Nat}(h:i<n)(fs:List I):mb 1000000 [] 1 0 n 1 (i:Int) (some fs)=some (.ptr 1000000 [i]):=by
 have:=xW (m:=1000000) (sz:=1) (lo:=0) (l:=n) (i:=i) (fs:=fs) h
 rwa [zz4] at this
theorem km(x y:Nat)(h:x+y<9223372036854775807):IntKind.i64.wrap ((x:Int)+(y:Int))=((x+y:Nat):Int):=by rw[cF _ (by omega) (by omega)];omega
theorem je{x y:Nat}(h:y≤x)(hx:x<9223372036854775807):IntKind.i64.wrap ((x:Int)-(y:Int))=((x-y:Nat):Int):=by rw[cF _ (by omega) (by omega)];omega
def kh(p x y z q:List Int)(i:Nat):List Int:=p++(z.take i++x.drop i)++y++(x.take i++z.drop i)++q
theorem am8{p x y z q:List Int}{i a b:Nat}(hx:i<x.length)(hz:z.length=x.length)(ha:p.length=a)(hb:a+x.length+y.length=b):kK (kh p x y z q i) (a+i) (b+i)=kh p x y z q (i+1):=by
 have e1:kh p x y z q i=(p++z.take i)++x[i]::(x.drop (i+1)++y++x.take i)++z[i]::(z.drop (i+1)++q):=by
  simp only[kh];rw[zv8 hx,zv8 (l:=z) (by omega)];simp only[zz5,zy0]
 have e2:kh p x y z q (i+1)=(p++z.take i)++z[i]::(x.drop (i+1)++y++x.take i)++x[i]::(z.drop (i+1)++q):=by
  simp only[kh];rw[zy1 hx,zy1 (l:=z) (by omega)];simp only[zz5,zy0,zy3]
 rw[e1,e2];refine PK ?_ ?_
 ·simp;omega
 ·simp;omega
theorem am7(p x y z q:List Int)(i:Nat)(hz:z.length=x.length)(hi:i≤x.length):(kh p x y z q i).length=p.length+x.length+y.length+x.length+q.length:=by
 simp only[kh,zz3,zy7,zy9];omega
def zi(ws:List Int):cO:=fun r os'=>r=.tuple []∧os'=bJ 1000000 ws
theorem oe{ts:List (Nat×I)}{ws ws':List Int}{os:List (Nat×ah)}{post:cO}(hl:aj os 1000000=some (.box (.agg (ws.map enc))))(he:ws=ws')(hp:post (.tuple []) (bJ 1000000 ws')):lG [] post (au ts os):=by
 subst he;exact ⟨bJ 1000000 ws,[],jG hl (fun p=>fZ p _),trivial,hp⟩
theorem vb(p x y z q:List Int)(a b n k:Nat)(f:I)(hz:z.length=x.length)(ha:p.length=a)(hb:a+x.length+y.length=b)(hk:x.length=k)(hn:b+k≤n)(hN:n≤1000) :
  cC Tryz.prog 216 [.view 1000000 [] 1 0 n,enc (a:Int),enc (b:Int),enc (k:Int),f] (bJ 1000000 (p++x++y++z++q)) (zi (p++z++y++x++q)):=by
 refine cC.bn Tryz.func216 TS VP X1 (t7 rfl) (t7 rfl) my (fun hwf W0 D0 E1 =>?_);simp only[Co,N2,bg,zz4,Nat.reduceAdd];clear hwf;refine .ao (by decide +kernel) fun K hK =>?_;simp only[IU,U,simprocAttr];refine .done (hK _ ?_);clear hK K;refine J.block (J.loop (fun i:Nat=>au [(0,.view 1000000 [] 1 0 n),(1,.int .i64 a),(2,.int .i64 b),(3,.int .i64 k),(10,.int .i64 i)] (bJ 1000000 (kh p x y z q i))) (fun i=>i≤k) (fun i=>k-i) 0 (by omega) ?_ (fun i hi =>?_))
 ·have e:kh p x y z q 0=p++x++y++z++q:=by simp[kh]
  rw[e];simp only[bJ];refine aC.bI ?_ ?_ ?_ ?_ <;>simp[aT,bC,bB,a6,al,aV,cg,I.only,ah.only,dy,fA]
 by_cases hlt:i<k
 ·have hc:=fO hlt;have hw:=eB (i:=i) (by omega);have w1:=km a i (by omega);have w2:=km b i (by omega);have hst:=am8 (p:=p) (q:=q) (i:=i) (by omega) hz ha hb;have hl:=am7 p x y z q i hz (by omega);simp only[bJ];generalize kh p x y z q i=ws at hst hl;have v1:=gW (n:=n) (i:=a+i) (by omega);have v2:=gW (n:=n) (i:=b+i) (by omega);have l1:=fD (xs:=ws) (i:=a+i) (by omega);have l2:=fD (xs:=ws) (i:=b+i) (by omega);have s1:=fun (A:ae) v u rest=>mD (A:=A) (n:=1000000) (xs:=ws) (i:=a+i) (by omega) v u rest;obtain ⟨ws2,hws2⟩:∃ ws2,ws2=ws.set (a+i) (ws.getD (b+i) 0):=⟨_,rfl⟩
  have s2:=fun (A:ae) v u rest=>mD (A:=A) (n:=1000000) (xs:=ws2) (i:=b+i) (by rw[hws2];simp;omega) v u rest;have l3:=fD (xs:=ws2) (i:=b+i) (by rw[hws2];simp;omega);have R:=v6 @hc (v6 @hw (v6 @w1 (v6 @w2 (v6 @v1 (v6 @v2 (v6 @l1 (v6 @l2 (v6 @s1 (v6 @s2 (v6 @l3 (v6 @dj (v6 @aU @U))))))))))))
  repeat' ((first |(with_reducible refine .guard (fun hb =>?_) (fun hb =>?_) <;>try simp only[hb])|refine J.aL (by decide +kernel) rfl fun K hK =>?_|(refine .aG [0,1,2,3,10,13] hK ?_;clear hK K)|(with_reducible refine .done (hK _ ?_);clear hK K)|refine J.of rfl ?_|(with_reducible refine ak.aK (fun h =>?_) (fun h =>?_) <;>try simp only[h])) <;>try simp only[aM,R,←hws2,simprocAttr])
  all_goals clear R
  refine ⟨i+1,by omega,by omega,?_⟩;rw[←hst];simp only[kK,←hws2];generalize ws2.set _ _=ws3;refine aC.bI ?_ ?_ ?_ ?_ <;>simp[aT,bC,bB,a6,al,aV,cg,I.only,ah.only,dy]
 ·have hc:=gi hlt;have he:i=k:=by omega
  subst he;have R:=v6 @hc (v6 @aU @U)
  repeat' ((first |(with_reducible refine .guard (fun hb =>?_) (fun hb =>?_) <;>try simp only[hb])|refine J.aL (by decide +kernel) rfl fun K hK =>?_|(refine .aG [0,1,2,3,10,13] hK ?_;clear hK K)|(with_reducible refine .done (hK _ ?_);clear hK K)|refine J.of rfl ?_|(with_reducible refine ak.aK (fun h =>?_) (fun h =>?_) <;>try simp only[h])) <;>try simp only[aM,R,simprocAttr])
  all_goals clear R
  rw[mu];refine oe rfl ?_ ⟨rfl,rfl⟩;have h1:z.take i=z:=zv6 (by omega);have h2:x.take i=x:=zv6 (by omega);have h3:z.drop i=[]:=zw9 (by omega);have h4:x.drop i=[]:=zw9 (by omega);simp only[kh,h1,h2,h3,h4,zx7]
end Go.Proofs.YtcldiigclhgafaaGreat
namespace Go.Proofs.YtcldiigclhgafaaGreat
open Go Go.Abs Go.Shelf
open Go.Abs.Enc (enc)
def ajD:Go.Shelf.Ren:=⟨fun | 189=>107 | 125=>148 | 257=>147 | 128=>188 | 129=>189 | 294=>179 | 295=>180 | 296=>181 | 297=>182 | 298=>183 | 299=>184 | 216=>185 | 300=>186 | 301=>187 | 328=>205 | 329=>206 | 330=>207 | 331=>208 | 332=>209 | 215=>194 | 343=>214 | n=>n,fun | 28=>29 | 3=>3 | 46=>193 | 0=>0 | 51=>217 | 53=>219 | 4=>4 | 183=>210 | 182=>209 | 131=>150 | 5=>5 | 9=>9 | 218=>230 | 222=>234 | 228=>236 | 229=>237 | n=>n,fun | n=>n⟩
theorem Ld:Go.Proofs.Lays.n189 Tryz.prog ajD := {
 mixed:=by kernel_rfl
 f125:=Tryz.func148.trans (congrArg some (by kernel_rfl))
 f128:=Tryz.func188.trans (congrArg some (by kernel_rfl))
 f129:=Tryz.func189.trans (congrArg some (by kernel_rfl))
 f189:=Tryz.func107.trans (congrArg some (by kernel_rfl))
 f215:=Tryz.func194.trans (congrArg some (by kernel_rfl))
 f216:=Tryz.func185.trans (congrArg some (by kernel_rfl))
 f257:=Tryz.func147.trans (congrArg some (by kernel_rfl))
 f294:=Tryz.func179.trans (congrArg some (by kernel_rfl))
 f295:=Tryz.func180.trans (congrArg some (by kernel_rfl))
 f296:=Tryz.func181.trans (congrArg some (by kernel_rfl))
 f297:=Tryz.func182.trans (congrArg some (by kernel_rfl))
 f298:=Tryz.func183.trans (congrArg some (by kernel_rfl))
 f299:=Tryz.func184.trans (congrArg some (by kernel_rfl))
 f300:=Tryz.func186.trans (congrArg some (by kernel_rfl))
 f301:=Tryz.func187.trans (congrArg some (by kernel_rfl))
 f328:=Tryz.func205.trans (congrArg some (by kernel_rfl))
 f329:=Tryz.func206.trans (congrArg some (by kernel_rfl))
 f330:=Tryz.func207.trans (congrArg some (by kernel_rfl))
 f331:=Tryz.func208.trans (congrArg some (by kernel_rfl))
 f332:=Tryz.func209.trans (congrArg some (by kernel_rfl))
 f343:=Tryz.func214.trans (congrArg some (by kernel_rfl))
 t0:=Tryz.underlying0
 a0:=Tryz.isAgg0
 z0:=Tryz.sizeOf0
 v0:=Tryz.zeroValue0
 t3:=Tryz.underlying3
 a3:=Tryz.isAgg3
 z3:=Tryz.sizeOf3
 v3:=Tryz.zeroValue3
 t4:=Tryz.underlying4
 a4:=Tryz.isAgg4
 z4:=Tryz.sizeOf4
 v4:=Tryz.zeroValue4
 t5:=Tryz.underlying5
 a5:=Tryz.isAgg5
 z5:=Tryz.sizeOf5
 v5:=Tryz.zeroValue5
 t9:=Tryz.underlying9
 a9:=Tryz.isAgg9
 z9:=Tryz.sizeOf9
 v9:=Tryz.zeroValue9
 t28:=Tryz.underlying29
 a28:=Tryz.isAgg29
 z28:=Tryz.sizeOf29
 v28:=Tryz.zeroValue29
 t46:=Tryz.underlying193
 a46:=Tryz.isAgg193
 z46:=Tryz.sizeOf193
 v46:=Tryz.zeroValue193
 t51:=Tryz.underlying217
 a51:=Tryz.isAgg217
 z51:=Tryz.sizeOf217
 v51:=Tryz.zeroValue217
 t53:=Tryz.underlying219
 a53:=Tryz.isAgg219
 z53:=Tryz.sizeOf219
 v53:=Tryz.zeroValue219
 t131:=Tryz.underlying150
 a131:=Tryz.isAgg150
 z131:=Tryz.sizeOf150
 v131:=Tryz.zeroValue150
 t182:=Tryz.underlying209
 a182:=Tryz.isAgg209
 z182:=Tryz.sizeOf209
 v182:=Tryz.zeroValue209
 t183:=Tryz.underlying210
 a183:=Tryz.isAgg210
 z183:=Tryz.sizeOf210
 v183:=Tryz.zeroValue210
 t218:=Tryz.underlying230
 a218:=Tryz.isAgg230
 z218:=Tryz.sizeOf230
 v218:=Tryz.zeroValue230
 t222:=Tryz.underlying234
 a222:=Tryz.isAgg234
 z222:=Tryz.sizeOf234
 v222:=Tryz.zeroValue234
 t228:=Tryz.underlying236
 a228:=Tryz.isAgg236
 z228:=Tryz.sizeOf236
 v228:=Tryz.zeroValue236
 t229:=Tryz.underlying237
 a229:=Tryz.isAgg237
 z229:=Tryz.sizeOf237
 v229:=Tryz.zeroValue237 }
def c4(xs:List Int):List Int:=xs.mergeSort fun x y=>decide (x≤y)
theorem OL{w:World}{D:aR}{E:aZ} : ∀ {xs:List Int} {cs:List Value},aI w D E (xs.map enc) cs→cs=xs.map (Value.int .i64)∧∀ x∈xs,IntKind.i64.min≤x∧x≤IntKind.i64.max
 | [],cs,h=>by
  simp only[zx1,aI] at h;subst h;exact ⟨rfl,by simp⟩
 |x::xs,cs,h=>by
  simp only[zz8,aI] at h;obtain ⟨c1,c2,rfl,h1,h2⟩:=h;obtain ⟨rfl,h3⟩:=OL h2;have h1':c1=[.int .i64 x]∧IntKind.i64.min≤x∧x≤IntKind.i64.max:=h1;obtain ⟨rfl,h4⟩:=h1';refine ⟨rfl,fun y hy =>?_⟩;rcases zx6.1 hy with rfl | hy
  ·exact h4
  ·exact h3 y hy
theorem qq{w:World}{D:aR}{E:aZ} : ∀ {xs:List Int},(∀ x∈xs,IntKind.i64.min≤x∧x≤IntKind.i64.max)→aI w D E (xs.map enc) (xs.map (Value.int .i64))
 | [],_=>rfl
 |x::xs,h=>⟨[.int .i64 x],xs.map (Value.int .i64),rfl,⟨rfl,h x (by simp)⟩,qq fun y hy=>h y (by simp[hy])⟩
theorem qv(xs:List Int):(I.agg (xs.map enc)).aQ=.ep (List.replicate xs.length .one):=by
 show cR.ep (I.cS _)=_
 congr 1
 induction xs with
 |nil=>rfl
 |cons x xs ih=>simp only[zz8,I.cS,ih,List.length_cons,List.replicate_succ];rfl
theorem al1{xs ys q:List Int}(hl:ys.length=xs.length){cs:Array Value}(hc:cs.toList=(xs++q).map (Value.int .i64)):(Sort.putCells (Value.int .i64) 0 ys.toArray cs).toList=(ys++q).map (Value.int .i64):=by
 apply List.ext_getElem?;intro k;have h1:cs[k]?=((xs++q).map (Value.int .i64))[k]?:=by rw[←hc,zv3]
 rw[zv3,Sort.putCells,Array.getElem?_mapIdx,h1];simp only[zw6,List.size_toArray,zw7,true_and,zz4,Nat.sub_zero];by_cases hk:k<ys.length
 ·simp only[hk,if_true];rw[zy8 (by omega),zy8 hk,zz9 (by omega),zz9 hk];simp[hk]
 ·simp only[hk,if_false];rw[zw0 (by omega),zw0 (by omega),hl];cases (q[k-xs.length]?) <;>rfl
open Go.Sort Go.RowKit in
theorem uZ(xs q:List Int)(hn:xs.length≤200):cC Tryz.prog 107 [.view 1000000 [] 1 0 xs.length] (bJ 1000000 (xs++q)) (zi (c4 xs++q)):=by
 refine ⟨CZ,fun w D E vs _ hD hO hv =>?_⟩;have ho:=hO.bS 1000000;simp only[bJ,aj,if_true] at ho;obtain ⟨b,cs,T,aw,-,hb,hr,hnD⟩:=ho;have hEn:∀ n,n≠1000000→E n=none:=fun n hn=>by
  have:=hO.bS n;simpa only[bJ,aj,if_neg hn,dc] using this
 simp only[aH] at hv;obtain ⟨v,rest,cs',rfl,hp,hr',rfl⟩:=hv;obtain ⟨b',aQ,off,l,hE',hoff,hpart,rfl,hl1,hl2,hl3⟩:=hr';rw[aw] at hE';simp only[u8,bW.aA.injEq] at hE';obtain ⟨rfl,rfl⟩:=hE';have hoff':off=0:=by
  have:(some 0:Option Nat)=some off:=by rw[←hoff];rw[qv];rfl
  injection this with this;exact this.symm
 subst hoff';have hp':v=.slice (some ⟨b,0,none⟩) xs.length (l.length-0):=by
  have:[Value.slice (some ⟨b,0+0*1,none⟩) xs.length (l.length-0)]=[v]:=hp;simpa using this.symm
 subst hp';obtain ⟨hcs,hrg⟩:=OL hr;have hbs:b<w.heap.size:=(zw2.1 hb).1;have hH:Holds (Value.int .i64) w b 0 xs.toArray:=fun j hj=>by
  simp only[List.size_toArray] at hj;constructor
  ·simp only[World.cell?,hb,Option.isSome_none,zz6,if_false,zz4];rw[←zv3,hcs];rw[zx5,zy8 (by simpa using hj)];simp[hj]
  ·simp[World.frozen?,hb]
 have hlen:(c4 xs).length=xs.length:=by simp[c4]
 refine (Any.slices_Sort_int Ld b 0 (l.length-0) xs w hH hbs (by omega)).mono ?_;rintro e w' ⟨rfl,n,os,rfl⟩;have hb1:(putRow (Value.int .i64) (Sort.ahead w n) b 0 (c4 xs).toArray).heap[b]?=some (.cells (putCells (Value.int .i64) 0 (c4 xs).toArray cs) T (0,0)):=by
  simp[putRow,mapBlock,Sort.ahead,Array.getElem?_modify,hb,onCells]
 have hother:∀ k,k<w.heap.size→k≠b→(grow (putRow (Value.int .i64) (Sort.ahead w n) b 0 (c4 xs).toArray) os).heap[k]?=w.heap[k]?:=fun k hk hkb=>by
  rw[heap_grow_old _ _ (by simpa[Sort.ahead] using hk)];simp[putRow,mapBlock,Sort.ahead,Array.getElem?_modify,Ne.symm hkb]
 have hb2:(grow (putRow (Value.int .i64) (Sort.ahead w n) b 0 (c4 xs).toArray) os).heap[b]?=some (.cells (putCells (Value.int .i64) 0 (c4 xs).toArray cs) T (0,0)):=by
  rw[heap_grow_old _ _ (by simpa[Sort.ahead] using hbs)];exact hb1
 have hsz:w.heap.size≤(grow (putRow (Value.int .i64) (Sort.ahead w n) b 0 (c4 xs).toArray) os).heap.size:=by simp[Sort.ahead]
 have hshow:(grow (putRow (Value.int .i64) (Sort.ahead w n) b 0 (xs.mergeSort fun x y=>decide (x≤y)).toArray) os)=(grow (putRow (Value.int .i64) (Sort.ahead w n) b 0 (c4 xs).toArray) os):=rfl;rw[hshow];have hw1:(grow (putRow (Value.int .i64) (Sort.ahead w n) b 0 (c4 xs).toArray) os).os=w.os:=rfl;have hw2:(grow (putRow (Value.int .i64) (Sort.ahead w n) b 0 (c4 xs).toArray) os).tape=w.tape:=rfl;have hw3:(grow (putRow (Value.int .i64) (Sort.ahead w n) b 0 (c4 xs).toArray) os).output=w.output:=rfl;revert hother hb2 hsz hw1 hw2 hw3;generalize grow (putRow (Value.int .i64) (Sort.ahead w n) b 0 (c4 xs).toArray) os=w2;intro hother hb2 hsz hw1 hw2 hw3;have hmem:∀ x∈c4 xs++q,IntKind.i64.min≤x∧x≤IntKind.i64.max:=fun x hx=>hrg x (by
  rcases zy4.1 hx with h | h
  ·exact List.mem_append_left _ (by simpa[c4] using h)
  ·exact List.mem_append_right _ h)
 refine ⟨.tuple #[],D,E,.tuple [],bJ 1000000 (c4 xs++q),rfl,⟨rfl,rfl⟩,⟨[],rfl,rfl⟩,⟨fun m =>?_,hO.cZ⟩,⟨hw1,hw2,hw3,hsz,fun k hk =>?_⟩,fun _ _ h=>h,fun b0 o h=>Nat.lt_of_lt_of_le (hD b0 o h) hsz,fun _ _ h _ _=>h,fun m e h _=>⟨e,h,bW.le.refl e⟩,⟨fun b0 o u hd hc =>?_,fun b0 es ck hd hc =>?_⟩⟩
 ·by_cases hm:m=1000000
  ·subst hm;simp only[bJ,aj,if_true];refine ⟨b,_,T,?_,.inr ⟨1000000,_,aw,rfl⟩,hb2,?_,hnD⟩
   ·rw[aw,qv,qv,zz3,zz3,hlen]
   ·show aI w2 D E _ _
    rw[al1 hlen hcs];exact qq hmem
  ·simp only[bJ,aj,if_neg hm,dc];exact hEn m hm
 ·by_cases hk2:k<w.heap.size
  ·exact hother k hk2 fun e=>hk (.inr ⟨1000000,_,aw,by rw[e];rfl⟩)
  ·exact absurd (.inl (Nat.le_of_not_lt hk2)) hk
 ·have hne:b0≠b:=fun e=>hnD o (e▸hd);simp only[World.cell?,hother b0 (hD b0 o hd) hne] at hc ⊢;exact hc
 ·have hne:b0≠b:=fun e=>hnD 0 (e▸hd);rw[hother b0 (hD b0 0 hd) hne];exact hc
theorem zY(v:I)(hv0:v=.nils 1∨v=enc ([]:List Int)):ay Tryz.prog 107 [v] (.tuple []):=by
 refine ⟨CZ,fun w D vs hD hv =>?_⟩;simp only[aH] at hv;obtain ⟨u,rest,cs',rfl,hp,hr',rfl⟩:=hv;have hu:∃ a cap,u=.slice a 0 cap:=by
  rcases hv0 with rfl | rfl
  ·have h1:cs'=[.slice none 0 0]:=hr';have h2:cs'=[u]:=hp;rw[h1] at h2;exact ⟨none,0,by simpa using h2.symm⟩
  ·obtain ⟨a,cap,h1,_⟩:=hr';have h2:cs'=[u]:=hp;rw[h1] at h2;exact ⟨a,cap,by simpa using h2.symm⟩
 obtain ⟨a,cap,rfl⟩:=hu;refine (Any.slices_Sort_int_none Ld a cap w).mono ?_;rintro e w' ⟨rfl,rfl⟩;exact ⟨.tuple #[],D,rfl,⟨[],rfl,rfl⟩,⟨rfl,rfl,rfl,zz7 _,fun _ _=>rfl⟩,hD,fun _ _ h _=>h⟩
end Go.Proofs.YtcldiigclhgafaaGreat
namespace Go.Proofs.YtcldiigclhgafaaGreat
open Go Go.Abs
open Go.Abs.Enc (enc)
theorem tu{os os2 ow:List (Nat×ah)}{ts:List (Nat×I)}(h:fu os os2)(how:∀ m,al ow m=true→m<1000000):∀ n x,aj os2 n=some x→(au ts (ow++os2)).o n=some x∧x.only (al os2)=true∧x.eX=true:=fun n x hx=>by
 have hn:al os2 n=true:=by simp[al,hx]
 have hg:=h.oL n (by rw[←h.same];exact hn);refine ⟨?_,h.ok n x hx⟩;simp only[au,kA];cases hw:aj ow n with
 |none=>exact hx
 |some y=>have:=how n (by simp[al,hw]);omega
def zV:aW 5 Int:=⟨List.replicate 5 0,rfl⟩
theorem aaa:I.agg [.int .i64 0,.int .i64 0,.int .i64 0,.int .i64 0,.int .i64 0]=enc zV:=rfl
def kp(a b:Int):Int:=IntKind.i64.wrap ((BitVec.ofInt IntKind.i64.bits a ||| BitVec.ofInt IntKind.i64.bits b).toNat:Int)
def uT(c:List Int)(k:Nat)(x:aW 5 Int):aW 5 Int :=
 if bF c k%12<5 then hZ (hZ x k (shl 1 k)) k (kp ((hZ x k (shl 1 k)).g k) (shl 1 (bF c k%12).toNat)) else hZ x k (shl 1 k)
def fS(c:List Int):Nat→aW 5 Int
 |0=>zV
 |k+1=>uT c k (fS c k)
theorem Rj(c:List Int)(hc:c.length≤4611686018427387904):ay Tryz.prog 85 [enc c] (enc (fS c 5)):=by
 refine ay.bn Tryz.func85 Um Wh Yt (t7 rfl) (fun hwf W0 D0 E1 =>?_);simp only[CP,Oy,bg];refine .ao (by decide +kernel) fun K hK =>?_;simp only[JO,U,simprocAttr];refine .done (hK _ ?_);clear hK K;refine .ao (by decide +kernel) fun K hK =>?_;simp only[JP,U,simprocAttr];simp only[aaa];refine .done (hK _ ?_);clear hK K;refine J.seq (J.seq ?_);refine .bx (by decide +kernel) fun K hK =>?_;simp only[JQ,U,simprocAttr];refine .done (hK _ ?_);clear hK K;try simp only[ar]
 refine J.block (J.loop (fun k:Nat=>au [(0,enc c),(2,.ptr 2 []),(3,.ptr 3 []),(4,.int .i64 k)] [(2,.box (enc zV)),(3,.box (enc (fS c k)))]) (fun k=>k≤5) (fun k=>5-k) 0 (by omega) ?_ (fun k hk =>?_))
 ·refine aC.bI ?_ ?_ ?_ ?_ <;>simp[aT,bC,bB,a6,al,aV,cg,I.only,ah.only,bh]
  all_goals rfl
 refine J.seq (J.seq ?_);refine .bx (by decide +kernel) fun K hK =>?_;simp only[JR,U,simprocAttr];refine .done (hK _ ?_);clear hK K;try simp only[ar]
 refine J.bM ?_;simp only[ak,U,simprocAttr];refine ⟨fun h =>?_,fun h =>?_⟩
 ·have hlt:k<5:=by simp at h;omega
  refine J.skip ?_;try simp only[ar,simprocAttr]
  refine J.seq (J.block ?_);refine .ao (by decide +kernel) fun K hK =>?_;simp only[JS,U,simprocAttr]
  try simp only[bd,jH 1 (fS c k) hlt rfl,eW (fS c k) hlt,po (fS c k) hlt,U,simprocAttr]
  refine .done (hK _ ?_);clear hK K;refine .ao (by decide +kernel) fun K hK =>?_;simp only[JT,U,simprocAttr]
  try simp only[c8,U,simprocAttr]
  refine .flat _ (mH c k hc) rfl ?_
  try simp only[U,simprocAttr]
  refine .flat _ (gN (bF c k) 12 (by omega) (by omega)) rfl ?_
  try simp only[U,simprocAttr]
  refine .done (hK _ ?_);clear hK K;refine .ao (by decide +kernel) fun K hK =>?_;simp only[JU,U,simprocAttr];refine .done (hK _ ?_);clear hK K;have h0:0≤bF c k%12:=zw8 _ (by omega);refine J.bM ?_;simp only[ak,U,simprocAttr];refine ⟨fun h =>?_,fun h =>?_⟩
  ·have h5:bF c k%12<5:=by simpa using h
   have e1:IntKind.i64.wrap (1*2^min k IntKind.i64.bits)=shl 1 k:=rfl;refine .bx (by decide +kernel) fun K hK =>?_;simp only[JV,U,simprocAttr]
   try simp only[e1,bd,jH 1 (hZ (fS c k) k (shl 1 k)) hlt rfl,eW (hZ (fS c k) k (shl 1 k)) hlt,h0,U,simprocAttr]
   try simp only[po (hZ (fS c k) k (shl 1 k)) hlt,U,simprocAttr]
   refine .done (hK _ ?_);clear hK K;try simp only[ar,bO]
   refine .bx (by decide +kernel) fun K hK =>?_;simp only[xj,U,simprocAttr];refine .done (hK _ ?_);clear hK K;try simp only[ar]
   refine ⟨k+1,by omega,by omega,?_⟩;rw[cF _ (by omega) (by omega)];simp only[fS,uT,if_pos h5];refine aC.bI ?_ ?_ ?_ ?_ <;>simp[aT,bC,bB,a6,al,aV,cg,I.only,ah.only,bh]
   all_goals simp[kp,shl]
  ·have h5:¬ bF c k%12<5:=by simpa using h
   refine J.skip ?_;try simp only[ar,bO,simprocAttr]
   refine .bx (by decide +kernel) fun K hK =>?_;simp only[xj,U,simprocAttr];refine .done (hK _ ?_);clear hK K;try simp only[ar]
   refine ⟨k+1,by omega,by omega,?_⟩;rw[cF _ (by omega) (by omega)];simp only[fS,uT,if_neg h5];refine aC.bI ?_ ?_ ?_ ?_ <;>simp[aT,bC,bB,a6,al,aV,cg,I.only,ah.only,bh]
   all_goals simp[shl]
 ·have hge:k=5:=by simp at h;omega
  subst hge;refine J.exit ?_;try simp only[ar,bO,simprocAttr]
  refine .ao (by decide +kernel) fun K hK =>?_;simp only[JW,U,simprocAttr]
  try simp only[cI,U,simprocAttr]
  rw[ez (dN _) (by rw[fL];rfl) ((eL _).trans (eL _).symm)]
  try simp only[U,simprocAttr]
  refine .done (hK _ ?_);clear hK K;refine J.ret ?_;simp only[U,simprocAttr]
  try simp only[cI,c8,U,simprocAttr]
def kT(k:Nat):Nat→Int
 |0=>((k / 5 / 5 / 5 / 5 / 5%5:Nat):Int)
 |1=>((k / 5 / 5 / 5 / 5%5:Nat):Int)
 |2=>((k / 5 / 5 / 5%5:Nat):Int)
 |3=>((k / 5 / 5%5:Nat):Int)
 |4=>((k / 5%5:Nat):Int)
 |5=>((k%5:Nat):Int)
 |_=>0
def sT(k:Nat):aW 6 Int:=⟨[kT k 0,kT k 1,kT k 2,kT k 3,kT k 4,kT k 5],rfl⟩
theorem ZG(k i:Nat):0≤kT k i∧kT k i≤4:=by
 unfold kT;split <;>omega
theorem R1{n:Nat}{x y:aW n Int}(h:x.l=y.l):x=y:=by
 cases x;cases y;simp only at h;subst h;rfl
theorem alj(k:Nat):dY (sT k)=true:=by
 simp only[dY,zx2,zw1];intro i hi;have:(sT k).g i=kT k i:=by
  match i,hi with
  |0,_ | 1,_ | 2,_ | 3,_ | 4,_ | 5,_=>rfl
  |n+6,h=>exact absurd h (by omega)
 rw[this];have:=ZG k i;simp[cj,this.1,this.2]
theorem qB{A:ae}{n:Nat}{b:I}{v u:aW 6 Int}{rest:List aB} : dR A (some 6) n [] b (enc v) rest (some (enc u))=aE rest (A.aS n (.box (enc v))):=by
 rw[ez (dN _) (by rw[fL];rfl) ((eL _).trans (eL _).symm),fI]
theorem amZ{A:ae}{n:Nat}{b:I}{v u:cq}{rest:List aB} : dR A (some 7) n [] b (enc v) rest (some (enc u))=aE rest (A.aS n (.box (enc v))):=by
 rw[ez (dN _) (by rw[fL];rfl) ((eL _).trans (eL _).symm),fI]
theorem PV:∀ k j:Fin 5,(0≤shl 1 k.1∧shl 1 k.1≤31∧ig (shl 1 k.1) k.1=true)∧(0≤kp (shl 1 k.1) (shl 1 j.1)∧kp (shl 1 k.1) (shl 1 j.1)≤31∧ig (kp (shl 1 k.1) (shl 1 j.1)) k.1=true):=by decide +kernel
theorem PW(c:List Int):∀ n,n≤5→∀ j,j<n→0≤(fS c n).g j∧(fS c n).g j≤31∧ig ((fS c n).g j) j=true
 |0,_=>fun j h=>absurd h (by omega)
 |n+1,hn=>fun j hj=>by
  have ih:=PW c n (by omega);have hn5:n<5:=by omega
  simp only[fS,uT];have h0:0≤bF c n%12:=zw8 _ (by decide);split
  ·rename_i h12;rw[oK _ _ _ _ hn5];split
   ·rename_i e;subst e;rw[oK _ _ _ _ hn5,if_pos rfl];exact (PV ⟨n,hn5⟩ ⟨(bF c n%12).toNat,by omega⟩).2
   ·rw[oK _ _ _ _ hn5,if_neg (by assumption)];exact ih j (by omega)
  ·rw[oK _ _ _ _ hn5];split
   ·rename_i e;subst e;exact (PV ⟨n,hn5⟩ ⟨0,by decide⟩).1
   ·exact ih j (by omega)
theorem aln(c:List Int):iy (fS c 5)=true:=by
 simp only[iy,zx2,zw1,zz2];intro k hk;obtain ⟨h1,h2,h3⟩:=PW c 5 (zz7 _) k hk;simp[cj,h1,h2,h3]
theorem akg(k:Nat):iu (k:Int) 1=((k / 5:Nat):Int)∧iu (k:Int) 2=((k / 5 / 5:Nat):Int)∧iu (k:Int) 3=((k / 5 / 5 / 5:Nat):Int)∧iu (k:Int) 4=((k / 5 / 5 / 5 / 5:Nat):Int)∧iu (k:Int) 5=((k / 5 / 5 / 5 / 5 / 5:Nat):Int):=by
 have h:∀ n:Nat,(n:Int).tdiv 5=((n / 5:Nat):Int):=fun n=>Int.ofNat_tdiv n 5;simp only[iu,h,and_self]
theorem ZH(k:Nat):kq (k:Int) 6=sT k:=by
 obtain ⟨h1,h2,h3,h4,h5⟩:=akg k;have h:∀ n:Nat,(n:Int).tmod 5=((n%5:Nat):Int):=fun n=>Int.ofNat_tmod n 5;have h0:iu (k:Int) 0=k:=rfl;refine R1 ?_;simp only[kq,hZ,sT,kT,h0,h1,h2,h3,h4,h5,h];rfl
theorem L8(n:Int):dY (kq (n%15625) 6)=true:=by
 have h0:0≤n%15625:=zw8 _ (by decide);have e:n%15625=(((n%15625).toNat:Nat):Int):=by omega
 rw[e,ZH];exact alj _
theorem amE:∀ k:Fin 5,1≤shl 1 k.1∧shl 1 k.1≤31:=by decide +kernel
theorem LX{m:bU}{i:Nat} : gZ m i=true↔(1≤(c9 m i).bP∧(c9 m i).bP≤99)∧dY (c9 m i).mark=true∧(i=0∨(c9 m (i-1)).bP<(c9 m i).bP)∧∀ j,j<i→ki m (c9 m j).mark (c9 m i).mark=false:=by
 simp only[gZ,cj,zz2,Bool.or_eq_true,decide_eq_true_eq,beq_iff_eq,zx2,zw1,Bool.not_eq_true']
theorem pY{w:aW 5 Int}{f:Int}{l:List cq}{g:cq}{i:Nat}(h:i<l.length):c9 ⟨w,f,l++[g]⟩ i=c9 ⟨w,f,l⟩ i:=by
 simp only[c9,zz0,zy8 h]
theorem KL{w:aW 5 Int}{f:Int}{l:List cq}{g:cq} : c9 ⟨w,f,l++[g]⟩ l.length=g:=by
 simp[c9,zz0]
def me(c:List Int)(i:Nat)(o:Int):cq:=⟨o,kq (IntKind.i64.wrap (IntKind.i64.wrap (c.getD i 0*7)+i*2503)%15625) 6⟩
def rI(c:List Int)(i:Nat)(p:Int×List cq):Int×List cq :=
 (p.1+(1+c.getD i 0%4),if p.2.any (fun h=>ki ⟨fS c 5,bF c 5%2,p.2⟩ h.mark (me c i 0).mark) then p.2 else p.2++[me c i (p.1+(1+c.getD i 0%4))])
def db(c:List Int):Nat→Int×List cq
 |0=>(0,[])
 |i+1=>if i<c.length∧(db c i).2.length<9 then rI c i (db c i) else db c i
def j8(c:List Int)(n:Nat):bU:=⟨fS c 5,bF c 5%2,(db c n).2⟩
def m0(c:List Int):bU:=j8 c 12
theorem Lv{c:List Int}{i:Nat}(h:¬ (i<c.length∧(db c i).2.length<9)):∀ n,i≤n→db c n=db c i
 |0,hn=>by
   have:i=0:=by omega
   subst this;rfl
 |n+1,hn=>by
  by_cases e:i=n+1
  ·subst e;rfl
  ·have ih:=Lv h n (by omega);simp only[db,ih];rw[if_neg];intro hh;exact h ⟨by omega,hh.2⟩
theorem LF(n:Int):0≤n%4∧n%4<4:=⟨zw8 _ (by decide),zv7 _ (by decide)⟩
theorem yd(c:List Int):∀ n,(0≤(db c n).1∧(db c n).1≤4*n)∧(db c n).2.length≤9∧(db c n).2.length≤n∧(∀ i,i<(db c n).2.length→(c9 (j8 c n) i).bP≤(db c n).1)∧(n≤12→∀ i,i<(db c n).2.length→gZ (j8 c n) i=true)
 |0=>by simp[db]
 |n+1=>by
  obtain ⟨h1,h2,h3,h4,h5⟩:=yd c n;have m4:=LF (c.getD n 0);by_cases hc:n<c.length∧(db c n).2.length<9
  ·have hM:j8 c n=⟨fS c 5,bF c 5%2,(db c n).2⟩:=rfl;have hM1:j8 c (n+1)=⟨fS c 5,bF c 5%2,(db c (n+1)).2⟩:=rfl;have hU:db c (n+1)=rI c n (db c n):=by simp only[db,if_pos hc]
   rw[hM1,hU];rw[hM] at h4 h5;generalize db c n=p at h1 h2 h3 h4 h5 hc;obtain ⟨o,l⟩:=p;simp only at h1 h2 h3 h4 h5 hc;simp only[rI];split
   ·refine ⟨by omega,h2,by omega,fun i hi =>?_,fun hn i hi =>?_⟩
    ·have:=h4 i hi;omega
    ·exact h5 (by omega) i hi
   ·rename_i hany;have hnear:∀ g∈l,ki ⟨fS c 5,bF c 5%2,l⟩ g.mark (me c n 0).mark=false:=by
     intro g hg;cases hh:ki ⟨fS c 5,bF c 5%2,l⟩ g.mark (me c n 0).mark with
     |false=>rfl
     |true=>exact absurd (List.any_eq_true.2 ⟨g,hg,hh⟩) hany
    have ow:(me c n (o+(1+c.getD n 0%4))).bP=o+(1+c.getD n 0%4):=rfl;have mk:(me c n (o+(1+c.getD n 0%4))).mark=(me c n 0).mark:=rfl;generalize hg:me c n (o+(1+c.getD n 0%4))=g at ow mk;have hmk:dY g.mark=true:=by rw[mk];exact L8 _
    refine ⟨by omega,by simp;omega,by simp;omega,fun i hi =>?_,fun hn i hi =>?_⟩
    ·simp only[zz3,List.length_singleton] at hi;by_cases e:i=l.length
     ·subst e;rw[KL];omega
     ·rw[pY (by omega)];have:=h4 i (by omega);omega
    ·simp only[zz3,List.length_singleton] at hi;by_cases e:i=l.length
     ·subst e;rw[LX,KL];refine ⟨by omega,hmk,?_,fun j hj =>?_⟩
      ·by_cases e0:l.length=0
       ·exact .inl e0
       ·right
        rw[pY (by omega),ow];have:=h4 (l.length-1) (by omega);omega
      ·rw[pY hj,mk];have:=hnear (c9 ⟨fS c 5,bF c 5%2,l⟩ j) (by rw[←jF hj];exact zx3 hj);exact this
     ·have hi':i<l.length:=by omega
      have:=h5 (by omega) i hi';rw[LX] at this ⊢;rw[pY hi'];refine ⟨this.1,this.2.1,?_,fun j hj =>?_⟩
      ·rcases this.2.2.1 with h | h
       ·exact .inl h
       ·right;rw[pY (by omega)];exact h
      ·rw[pY (by omega)];exact this.2.2.2 j hj
  ·have hU:db c (n+1)=db c n:=by simp only[db,if_neg hc]
   have hM:j8 c (n+1)=j8 c n:=by simp only[j8,hU]
   rw[hU,hM];exact ⟨by omega,h2,by omega,h4,fun hn=>h5 (by omega)⟩
theorem L6(c:List Int){n:Nat}(hn:n≤12):eg (j8 c n)=true:=by
 obtain ⟨h1,h2,h3,h4,h5⟩:=yd c n;have m2:0≤bF c 5%2∧bF c 5%2<2:=⟨zw8 _ (by decide),zv7 _ (by decide)⟩
 have e1:cj 0 2 (bF c 5%2)=true:=by simp[cj,m2.1];omega
 have e2:decide ((db c n).2.length≤40)=true:=by simp;omega
 have e3:(List.range (db c n).2.length).all (gZ (j8 c n))=true:=by
  simp only[zx2,zw1];exact h5 hn
 simp only[j8] at e3;simp only[eg,j8,aln,e1,e3,Bool.true_and,Bool.and_true];exact e2
theorem L5(c:List Int):eg (m0 c)=true:=L6 c (zz7 _)
theorem Mf{α:Type}[Enc α](l:List α):b8 none (enc l)=true:=by simp[mT,nJ]
theorem qc:(∀ (x:I) xs (f:I→Bool),(x::xs).all f=(f x&&xs.all f))∧(∀ f:I→Bool,([]:List I).all f=true)∧(∀ n p,(I.ptr n p).cm=true)∧(∀ b,(true&&b)=b) :=
 ⟨fun _ _ _=>List.all_cons,fun _=>List.all_nil,fun _ _=>rfl,fun _=>rfl⟩
theorem qm:∀ m,al [] m=true→m<1000000:=fun m h=>by simp[al,aj] at h
theorem QR(l:List aq)(hl:l.length≤60):vf Tryz.prog 178 [.ref (enc l)] l.length (fun k=>[.int .i64 ((l.length-1-k:Nat):Int),enc (ab l (l.length-1-k))]):=by
 intro Y v ai Ix os hv hY hI hIx h0;have hG:=hI 0 os h0;refine kN.bn Tryz.func178 C6 Vy XK (t7 rfl) (t7 rfl) hG.oL (fun hwf W0 D0 E1 =>?_);simp only[B7,NL,bg,zz4];refine .ao (by decide +kernel) fun K hK =>?_;simp only[Hu,U,simprocAttr]
 try simp only[bd,aU,U,simprocAttr]
 rw[cF ((l.length:Int)-1) (by omega) (by omega)];refine .done (hK _ ?_);clear hK K;refine J.block (J.loop (fun s:Nat×List (Nat×ah)=>au [(0,.raw v),(1,.ref (enc l)),(3,.int .i64 ((l.length:Int)-1-s.1))] s.2) (fun s=>s.1≤l.length∧ai s.1 s.2) (fun s=>l.length-s.1) (0,os) ⟨zw7 _,h0⟩ ?_ ?_)
 ·refine aC.dh ?_ (fun n=>rfl);simp[aT,aV]
 rintro ⟨k,osk⟩ ⟨hk,hIk⟩;simp only at hk hIk ⊢;have gk:=hI k osk hIk;refine J.seq (J.seq ?_);refine .bx (by decide +kernel) fun K hK =>?_;simp only[Hv,U,simprocAttr];refine .done (hK _ ?_);clear hK K;try simp only[ar]
 refine J.bM ?_;simp only[ak,U,simprocAttr];refine ⟨fun h =>?_,fun h =>?_⟩
 ·have hlt:k<l.length:=by simp at h;omega
  have hix:((l.length:Int)-1-k)=((l.length-1-k:Nat):Int):=by omega
  rw[hix];refine J.skip ?_;try simp only[ar,simprocAttr]
  refine J.seq (J.block (J.seq ?_));refine .bx (by decide +kernel) fun K hK =>?_;simp only[Hw,U,simprocAttr]
  try simp only[aU,kZ (l:=l) (i:=l.length-1-k) (by omega),Dc,U,simprocAttr]
  refine bt.P0 (ow:=[]) (In:=ai (k+1)) (Ix:=Ix) (hY k osk _ hlt hIk (fun r os2 h=>h)) gk (hI _) hIx (by simp[I.bZ,dG,I.bD]) qm (fun os2 h2 =>?_) (fun os2 h2 =>?_)
  ·try simp only[zy3,U,simprocAttr]
   refine .done (hK _ ?_);clear hK K;try simp only[ar]
   refine J.bM ?_;simp only[ak,U,simprocAttr];refine ⟨fun h =>?_,fun h =>?_⟩
   ·cases h
   refine J.skip ?_;try simp only[ar,bO,simprocAttr]
   refine .bx (by decide +kernel) fun K hK =>?_;simp only[Hx,U,simprocAttr];refine .done (hK _ ?_);clear hK K;try simp only[ar]
   refine ⟨(k+1,os2),⟨by simp only;omega,h2⟩,by simp only;omega,?_⟩;simp only;rw[cF _ (by omega) (by omega)];have e:(((l.length-1-k:Nat):Int)-1)=((l.length:Int)-1-((k+1:Nat):Int)):=by omega
   rw[e];refine aC.dh ?_ (fun n=>rfl);simp[aT,aV]
  ·try simp only[zy3,U,simprocAttr]
   refine .done (hK _ ?_);clear hK K;try simp only[ar]
   refine J.bM ?_;simp only[ak,U,simprocAttr];refine ⟨fun h =>?_,fun h =>?_⟩
   ·refine J.ret ?_;simp only[ar,bO];rw[eY];exact ⟨os2,[],tu (ow:=[]) (hIx os2 h2) qm,trivial,rfl,.inr h2⟩
   ·cases h
 ·have he:k=l.length:=by simp at h;omega
  subst he;refine J.exit ?_;try simp only[ar,bO,simprocAttr]
  rw[mu];exact ⟨osk,[],tu (ow:=[]) gk qm,trivial,rfl,.inl hIk⟩
def iK(p:Nat→Bool)(n:Nat):List Nat:=(List.range n).filter p
theorem PQ(p:Nat→Bool)(n:Nat):iK p (n+1)=iK p n++(if p n then [n] else []):=by
 simp only[iK,List.range_succ,List.filter_append,zx4,zv5]
theorem anj{p:Nat→Bool}{i n:Nat}(hp:p i=true)(hi:i<n):(iK p i).length<(iK p n).length∧(iK p n).getD (iK p i).length 0=i:=by
 induction n with
 |zero=>omega
 |succ n ih =>
  rw[PQ];by_cases e:i=n
  ·subst e;simp[hp]
  ·obtain ⟨h1,h2⟩:=ih (by omega);refine ⟨by rw[zz3];omega,?_⟩;rw[zz0,zy8 h1,←zz0];exact h2
theorem Ab(l:List aq)(bs:List Bool)(hl:l.length≤60)(hb:bs.length=l.length) :
  vf Tryz.prog 146 [.ref (enc l),.ref (enc bs)] (iK (fun i=>bs.getD i false) l.length).length (fun k=>[.int .i64 (((iK (fun i=>bs.getD i false) l.length).getD k 0:Nat):Int)]):=by
 intro Y v ai Ix os hv hY hI hIx h0;have hG:=hI 0 os h0;refine kN.bn Tryz.func146 vE U8 Xk (t7 rfl) (t7 rfl) hG.oL (fun hwf W0 D0 E1 =>?_);simp only[BF,Ni,bg,zz4,Nat.reduceAdd];refine .ao (by decide +kernel) fun K hK =>?_;simp only[Gh,U,simprocAttr]
 try simp only[bd,aU,U,simprocAttr]
 refine .done (hK _ ?_);clear hK K;refine J.block (J.loop (fun s:Nat×List (Nat×ah)=>au [(0,.raw v),(1,.ref (enc l)),(2,.ref (enc bs)),(6,.int .i64 l.length),(7,.int .i64 s.1)] s.2) (fun s=>s.1≤l.length∧ai (iK (fun i=>bs.getD i false) s.1).length s.2) (fun s=>l.length-s.1) (0,os) ⟨zw7 _,h0⟩ ?_ ?_)
 ·refine aC.dh ?_ (fun n=>rfl);simp[aT,aV]
 rintro ⟨i,osk⟩ ⟨hi,hIk⟩;simp only at hi hIk ⊢;have gk:=hI _ osk hIk;refine .ao (by decide +kernel) fun K hK =>?_;simp only[Gi,U,simprocAttr];refine .done (hK _ ?_);clear hK K;refine J.seq ?_;by_cases hlt:i<l.length
 ·have hc:=fO hlt;have hbi:∀ A,iF A 1 (i:Int) (enc bs)=some (.ref (.bool (bs.getD i false))):=fun A=>by
   rw[ft 1 (by omega) rfl,zz0,zz9 (by omega)];rfl
  simp only[hc];refine J.bM ?_;simp only[ak,U,simprocAttr];refine ⟨fun h =>?_,fun h =>?_⟩
  case refine_2=>cases h
  refine J.skip ?_;try simp only[ar,simprocAttr]
  refine J.seq (J.block ?_);refine .ao (by decide +kernel) fun K hK =>?_;simp only[Gj,U,simprocAttr];refine .done (hK _ ?_);clear hK K;refine J.seq ?_;have hsu:=PQ (fun i=>bs.getD i false) i;cases hbv:bs.getD i false with
  |false =>
   rw[hbv] at hbi;refine .bx (by decide +kernel) fun K hK =>?_;simp only[wS,U,simprocAttr]
   try simp only[hbi,Mf,U,simprocAttr]
   refine .done (hK _ ?_);clear hK K;try simp only[ar]
   refine J.bM ?_;simp only[ak,U,simprocAttr];refine ⟨fun h =>?_,fun h =>?_⟩
   ·cases h
   refine J.skip ?_;try simp only[ar,bO,simprocAttr]
   refine .bx (by decide +kernel) fun K hK =>?_;simp only[wT,U,simprocAttr];refine .done (hK _ ?_);clear hK K;try simp only[ar]
   refine ⟨(i+1,osk),⟨by simp only;omega,?_⟩,by simp only;omega,?_⟩
   ·simp only[hsu,hbv,zz6,if_false,zx7];exact hIk
   ·simp only;rw[eB (by omega)];refine aC.dh ?_ (fun n=>rfl);simp[aT,aV]
  |true =>
   rw[hbv] at hbi;obtain ⟨g1,g2⟩:=anj (p:=fun i=>bs.getD i false) hbv hlt;have hsl:(iK (fun i=>bs.getD i false) (i+1)).length=(iK (fun i=>bs.getD i false) i).length+1:=by rw[hsu,hbv];simp
   have hy:=hY _ osk _ g1 hIk (fun r os2 h=>h);simp only at hy;rw[g2] at hy;refine .bx (by decide +kernel) fun K hK =>?_;simp only[wS,U,simprocAttr]
   try simp only[hbi,Mf,Dc,U,simprocAttr]
   refine bt.P0 (ow:=[]) (In:=ai ((iK (fun i=>bs.getD i false) i).length+1)) (Ix:=Ix) hy gk (hI _) hIx rfl qm (fun os2 h2 =>?_) (fun os2 h2 =>?_)
   ·try simp only[zy3,U,simprocAttr]
    refine .done (hK _ ?_);clear hK K;try simp only[ar]
    refine J.bM ?_;simp only[ak,U,simprocAttr];refine ⟨fun h =>?_,fun h =>?_⟩
    ·cases h
    refine J.skip ?_;try simp only[ar,bO,simprocAttr]
    refine .bx (by decide +kernel) fun K hK =>?_;simp only[wT,U,simprocAttr];refine .done (hK _ ?_);clear hK K;try simp only[ar]
    refine ⟨(i+1,os2),⟨by simp only;omega,?_⟩,by simp only;omega,?_⟩
    ·simp only[hsl];exact h2
    ·simp only;rw[eB (by omega)];refine aC.dh ?_ (fun n=>rfl);simp[aT,aV]
   ·try simp only[zy3,U,simprocAttr]
    refine .done (hK _ ?_);clear hK K;try simp only[ar]
    refine J.bM ?_;simp only[ak,U,simprocAttr];refine ⟨fun h =>?_,fun h =>?_⟩
    ·refine J.ret ?_;simp only[ar,bO];rw[eY];exact ⟨os2,[],tu (ow:=[]) (hIx os2 h2) qm,trivial,rfl,.inr h2⟩
    ·cases h
 ·have hc:=gi hlt;simp only[hc];refine J.bM ?_;simp only[ak,U,simprocAttr];refine ⟨fun h =>?_,fun h =>?_⟩
  ·cases h
  have he:i=l.length:=by omega
  subst he;refine J.exit ?_;try simp only[ar,bO,simprocAttr]
  rw[mu];exact ⟨osk,[],tu (ow:=[]) gk qm,trivial,rfl,.inl hIk⟩
theorem Qq(l:List aq):ay Tryz.prog 145 [enc l] (.func 178 [.ref (enc l)]):=by
 refine ay.bn Tryz.func145 Tc U7 Xj (t7 rfl) (fun hwf W0 D0 E1 =>?_);simp only[BE,Nh,bg];have R:=v6 @qc (v6 @aU (v6 @dG @U))
 repeat' ((first |(with_reducible refine .guard (fun hb =>?_) (fun hb =>?_) <;>try simp only[hb])|refine J.aL (by decide +kernel) rfl fun K hK =>?_|(refine .aG [0,1,2] hK ?_;clear hK K)|(with_reducible refine .done (hK _ ?_);clear hK K)|refine J.of rfl ?_|(with_reducible refine ak.aK (fun h =>?_) (fun h =>?_) <;>try simp only[h])) <;>try simp only[aM,R,simprocAttr])
 all_goals clear R
 all_goals rfl
def iI(l:List aq)(known:Int)(ks:List Item)(bs:List Bool):List (Nat×ah) :=
 [(1000002,.box (enc l)),(1000003,.box (.int .i64 known)),(1000005,.box (.mref 1000009)),(1000006,.box (.view 1000012 [] 1 0 l.length)),(1000009,.cB (ks.map enc) (List.replicate ks.length (.bool true))),(1000012,.box (.agg (bs.map enc)))]
theorem yQ(p:Nat→Bool)(n:Nat)(b:Bool):I.bT p (List.replicate n (.bool b))=true:=by
 induction n with
 |zero=>rfl
 |succ n ih=>simp[List.replicate_succ,I.bT,I.only,ih]
theorem amd(ρ:Nat→Nat)(n:Nat)(b:Bool):I.cQ ρ (List.replicate n (.bool b))=List.replicate n (.bool b):=by
 induction n with
 |zero=>rfl
 |succ n ih=>simp only[List.replicate_succ,I.cQ,I.aN,ih]
theorem amX(l:List aq)(known:Int)(ks:List Item)(bs:List Bool)(l':List aq)(known':Int)(ks':List Item)(bs':List Bool):fu (iI l known ks bs) (iI l' known' ks' bs'):=by
 refine ⟨fun n=>by simp only[iI,al,aj];(repeat' split) <;>rfl,fun n x h =>?_,fun n h =>?_⟩
 ·simp only[iI,aj] at h
  repeat' split at h
  all_goals first | (cases h;done) | (simp only[u8] at h;subst h;exact ⟨by simp[iI,al,aj,ah.only,bh,I.only,dy,yQ],rfl⟩)
 ·simp only[iI,al,aj] at h
  repeat' split at h
  all_goals first | omega | (simp at h;done)
def uL(l:List aq)(known:Int)(k:Nat)(ks:List Item)(bs:List Bool):Prop :=
 bs=List.replicate (l.length-k) false++(gM known (l.drop (l.length-k))).1∧∀ a,a∈ks↔a∈(gM known (l.drop (l.length-k))).2
theorem zB:(∀ (A:ae) n b m rest,dR A none n [] b (.mref m) rest (some (.raw (.map none)))=aE rest (A.aS n (.box (.mref m))))∧(∀ (A:ae) n b m p z lo k z2 rest,dR A none n [] b (.view m p z lo k) rest (some (.nils z2))=aE rest (A.aS n (.box (.view m p z lo k)))) ∧
  (∀ (A:ae) n b m p z lo k m' p' z' lo' k' rest,dR A none n [] b (.view m p z lo k) rest (some (.view m' p' z' lo' k'))=aE rest (A.aS n (.box (.view m p z lo k)))) :=
 ⟨fun _ _ _ _ _=>by rw[ez (s:=none) (v:=.mref _) (old:=.raw _) rfl rfl rfl,fI],fun _ _ _ _ _ _ _ _ _ _=>by rw[ez (s:=none) (v:=.view ..) (old:=.nils _) rfl rfl rfl,fI],fun _ _ _ m p z lo k m' p' z' lo' k' _=>by rw[ez (s:=none) (v:=.view m p z lo k) (old:=.view m' p' z' lo' k') rfl rfl rfl,fI]⟩
theorem zC(known:Int):∀ l:List aq,(gM known l).1.length=l.length
 | []=>rfl
 |x::l=>by simp only[gM,List.length_cons,zC known l]
theorem Pu{l:List aq}{known:Int}{k:Nat}{ks:List Item}{bs:List Bool}(h:uL l known k ks bs)(hk:k≤l.length):bs.length=l.length:=by
 rw[h.1,zz3,zv4,zC,zy9];omega
def rL(l:List aq)(known:Int)(i:Nat)(ks:List Item):Bool:=decide ((ab l i).known≤known) && !decide ((ab l i).bF∈ks)
theorem amU{l:List aq}{known:Int}{k i:Nat}{ks:List Item}{bs:List Bool}(hk:k<l.length)(hi:i=l.length-1-k)(h:uL l known k ks bs) :
  uL l known (k+1) (if (rL l known i ks&&((ab l i).kind==0))=true then nz ks (ab l i).kb else ks) (bs.set i (rL l known i ks)):=by
 have hkd:((ab l i).kind==0)=decide ((ab l i).kind=0):=rfl;rw[hkd];obtain ⟨h1,h2⟩:=h;have e1:l.length-k=i+1:=by omega
 have e2:l.length-(k+1)=i:=by omega
 rw[e1] at h1 h2;have hil:i<l.length:=by omega
 have hd:l.drop i=ab l i::l.drop (i+1):=by rw[zv8 hil,iS hil]
 have hb:rL l known i ks=(decide ((ab l i).known≤known) && !(gM known (l.drop (i+1))).2.contains (ab l i).bF):=by
  simp only[rL]
  congr 2
  rw[Bool.eq_iff_iff,decide_eq_true_eq,List.contains_iff_mem];exact h2 _
 refine ⟨?_,fun a =>?_⟩
 ·rw[e2,hd,h1];simp only[gM,←hb];rw[List.replicate_succ',zz5,List.set_append_right _ _ (by simp)];simp
 ·rw[e2,hd];simp only[gM,←hb];split
  ·rw[aj0,zx6,h2]
  ·exact h2 a
theorem P8(l:List aq)(known:Int)(hl:l.length≤60):ay Tryz.prog 105 [enc l,enc known] (.func 146 [.ref (enc l),.ref (enc (gp l known))]):=by
 refine ay.bn Tryz.func105 SJ UE WO (t7 rfl) (fun hwf W0 D0 E1 =>?_);simp only[Bb,MN,bg,zz4];clear hwf;refine .ao (by decide +kernel) fun K hK =>?_;simp only[E4,U,simprocAttr]
 try simp only[aU,U,simprocAttr]
 refine .done (hK _ ?_);clear hK K;refine .ao (by decide +kernel) fun K hK =>?_;simp only[E5,U,simprocAttr]
 try simp only[eM,zB,U,simprocAttr]
 refine .done (hK _ ?_);clear hK K;refine .ao (by decide +kernel) fun K hK =>?_;simp only[E6,U,simprocAttr]
 try simp only[eM,bd,aU,U,simprocAttr]
 rw[aj6 (by omega) (by simp[maxLen];omega)]
 try simp only[zB,U,simprocAttr]
 refine .done (hK _ ?_);clear hK K;refine J.seq (J.seq ?_);refine .bx (by decide +kernel) fun K hK =>?_;simp only[E7,U,simprocAttr]
 try simp only[aU,U,simprocAttr]
 refine .lead _ (Qq l) ?_
 try simp only[U,simprocAttr]
 refine .done (hK _ ?_);clear hK K;try simp only[ar]
 refine J.block (J.kd (osb0:=iI l known [] (List.replicate l.length false)) (tsR:=[(2,.ptr 1000002 []),(3,.ptr 1000003 []),(5,.ptr 1000005 []),(6,.ptr 1000006 [])]) (ρ:=[(1999999,999999),(1000002,2),(1000003,3),(1000005,5),(1000006,6),(1000009,9),(1000012,12)])
  (fun k os=>∃ ks bs,os=iI l known ks bs∧uL l known k ks bs)
  (fun _ _=>False)
  rfl (t7 rfl) (by simp only[U,simprocAttr]) (by simp[I.bZ,I.bD,dG]) C6 (QR l hl) (fun _=>rfl) rfl rfl rfl (fun o=>⟨?_,?_⟩) ?_ ?_ ?_ ⟨[],_,rfl,?_⟩ ?_ ?_ ?_)
 ·intro n x hx;simp only[dp,iI,aj] at hx
  repeat' split at hx
  all_goals first | (cases hx;done) | (subst_vars;simp only[u8] at hx;subst hx;simp[dp,iI,al,bA,aj,ah.aN,I.aN,I.cQ,j4,ah.only,I.only,I.bT,bh,ah.eX,yQ,amd,D5])
 ·intro a b ha hb;simp only[dp,iI,al,aj] at ha hb
  repeat' split at ha
  all_goals first | (simp at ha;done) | skip
  all_goals (repeat' split at hb)
  all_goals first | (simp at hb;done) | (subst_vars;simp[bA])
 ·simp[mB,aV,I.aN,bA,I.only,iI,al,aj]
 ·rintro k os ⟨ks,bs,rfl,_⟩;exact amX ..
 ·rintro e os h;exact h.elim
 ·exact ⟨by simp[gM],fun a=>by simp[gM]⟩
 ·rintro k osb hk ⟨ks,bs,rfl,hst⟩ W1 D1 E1 La o1 o2;have hbl:=Pu hst (Nat.le_of_lt hk);obtain ⟨i,hi⟩:∃ i,i=l.length-1-k:=⟨_,rfl⟩
  have hil:i<bs.length:=by omega
  have hil2:i<l.length:=by omega
  have hstep:=amU hk hi hst;have hv:∀ fs,mb 1000012 [] 1 0 l.length 1 (i:Int) (some fs)=some (.ptr 1000012 [i]):=fun fs=>by
   have:=xW (m:=1000012) (sz:=1) (lo:=0) (l:=l.length) (i:=i) (fs:=fs) hil2
   rwa [zz4] at this
  have hat2:∀ b,gu i [] (some ((bs.set i b).map enc))=some (.bool b):=fun b=>by
   rw[AU (by simpa using hil)];simp[zz0,hil]
  have hset:=fun (A:ae) v u rest=>am0 (A:=A) (n:=1000012) hil v u rest;have hat:=AU hil;have hlk:=ajL rf (ab l i).bF ks;simp only[qp,dp,iI,←hi];have R:=v6 @aU @U
  repeat' ((first |(with_reducible refine .guard (fun hb =>?_) (fun hb =>?_) <;>try simp only[hb])|refine J.aL (by decide +kernel) rfl fun K hK =>?_|(refine .aG [0,1,2,3,4,5,6,7,8,14,15,16,39] hK ?_;clear hK K)|(with_reducible refine .done (hK _ ?_);clear hK K)|refine J.of rfl ?_|(with_reducible refine ak.aK (fun h =>?_) (fun h =>?_) <;>try simp only[h])) <;>try simp only[aM,R,simprocAttr])
  all_goals clear R
  refine ⟨by simp[],?_⟩;rcases h1:decide ((ab l i).known≤known) <;>rcases h2:decide ((ab l i).bF∈ks) <;>rcases h3:(ab l i).kind==0
  all_goals
   simp only[rL,h1,h2,h3,Bool.not_true,Bool.not_false,Bool.and_true,Bool.and_false,zz6,if_true,if_false] at hstep;have hup:=ake rf (ab l i).kb ks
   try simp only[U,simprocAttr]
   have R:=v6 @h1 (v6 @h2 (v6 @h3 (v6 @hv (v6 @hset (v6 @hat (v6 @hat2 (v6 @hlk (v6 @hup (v6 @eG (v6 @zB (v6 @eM (v6 @dj (v6 @bd (v6 @aU @U))))))))))))))
   repeat' ((first |(with_reducible refine .guard (fun hb =>?_) (fun hb =>?_) <;>try simp only[hb])|refine J.aL (by decide +kernel) rfl fun K hK =>?_|(refine .aG [0,1,2,3,4,5,6,7,8,14,15,16,39] hK ?_;clear hK K)|(with_reducible refine .done (hK _ ?_);clear hK K)|refine J.of rfl ?_|(with_reducible refine ak.aK (fun h =>?_) (fun h =>?_) <;>try simp only[h])) <;>try simp only[aM,R,simprocAttr])
   all_goals clear R
   generalize bs.set i _=anL at hstep ⊢
   try generalize nz ks _=ks2 at hstep ⊢
   refine ⟨iI l known _ _,?_,_,_,rfl,hstep⟩;intro n x hx;simp only[dp,iI,aj] at hx
   (repeat' split at hx) <;>first
    |(cases hx;done)
    |(subst_vars;simp only[u8] at hx;subst hx;simp[iI,dp,al,au,aj,ah.only,I.only,bh,ah.eX,dy,yQ])
 ·rintro os ⟨ks,bs,rfl,hst⟩;have hbs:bs=gp l known:=by
   have:=hst.1;simpa[gp] using this
  have hbl:=Pu hst (zz7 _)
  try simp only[iI,gK,j4,fB,zy0,zy3,ar,bO,simprocAttr]
  have R:=v6 @qc (v6 @aU @U)
  repeat' ((first |(with_reducible refine .guard (fun hb =>?_) (fun hb =>?_) <;>try simp only[hb])|refine J.aL (by decide +kernel) rfl fun K hK =>?_|(refine .aG [0,1,2,3,4,5,6,7,8,14,15,16,39] hK ?_;clear hK K)|(with_reducible refine .done (hK _ ?_);clear hK K)|refine J.of rfl ?_|(with_reducible refine ak.aK (fun h =>?_) (fun h =>?_) <;>try simp only[h])) <;>try simp only[aM,R,simprocAttr])
  all_goals clear R
  have hfd:=fun A (ho:A.o 12=some (.box (.agg (bs.map enc))))=>aas (A:=A) (m:=8) (n:=12) (sz:=1) ho rfl hbl.symm
  try simp only[gv,U,simprocAttr]
  rw[hfd _ rfl]
  try simp only[hbs,U,simprocAttr]
 ·rintro e os h;exact h.elim
def gF(l:List aq)(x:Int):Int:=(ab l x.toNat).day
def jI(l:List aq)(x:Int):Prop:=0≤x∧x<l.length
def mQ(l:List aq):Prop:=∀ i,i<l.length→0≤(ab l i).day∧(ab l i).day≤100000
def dT(l:List aq)(x y:Int):Prop:=gF l x<gF l y∨(gF l x=gF l y∧x<y)
def dA(l:List aq)(s:List Int):Prop:=s.Pairwise (dT l)
theorem x8{l:List aq}{x y z:Int}(h:dT l x y)(k:dT l y z):dT l x z:=by
 simp only[dT] at *;omega
theorem tI{l:List aq}{x y:Int}(h:y<x):dT l x y↔gF l x<gF l y:=by
 simp only[dT];omega
theorem tH{l:List aq}{x y:Int}(h:y<x)(k:¬ gF l x<gF l y):dT l y x:=by
 simp only[dT];omega
theorem sr(l:List aq)(hd:mQ l)(hl:l.length≤60)(x y:Int)(hx:jI l x)(hy:jI l y):ay Tryz.prog 138 [.int .i64 x,.int .i64 y,.ref (enc l)] (.int .i64 (gF l x-gF l y)):=by
 refine ay.bn Tryz.func138 S5 U0 Xc (t7 rfl) (fun hwf W0 D0 E1 =>?_);simp only[Bx,M9,bg,zz4,Nat.reduceAdd];clear hwf;obtain ⟨i,rfl⟩:∃ i:Nat,x=i:=⟨x.toNat,by have:=hx.1;omega⟩
 obtain ⟨k,rfl⟩:∃ k:Nat,y=k:=⟨y.toNat,by have:=hy.1;omega⟩
 have hi:i<l.length:=by have:=hx.2;omega
 have hk:k<l.length:=by have:=hy.2;omega
 have v1:=kZ hi;have v2:=kZ hk;have d1:=hd i hi;have d2:=hd k hk;have hw:IntKind.i64.wrap ((ab l i).day-(ab l k).day)=(ab l i).day-(ab l k).day:=cF _ (by omega) (by omega);have R:=v6 @v1 (v6 @v2 (v6 @hw (v6 @aU @U)))
 repeat' ((first |(with_reducible refine .guard (fun hb =>?_) (fun hb =>?_) <;>try simp only[hb])|refine J.aL (by decide +kernel) rfl fun K hK =>?_|(refine .aG [0,1,2,5] hK ?_;clear hK K)|(with_reducible refine .done (hK _ ?_);clear hK K)|refine J.of rfl ?_|(with_reducible refine ak.aK (fun h =>?_) (fun h =>?_) <;>try simp only[h])) <;>try simp only[aM,R,simprocAttr])
 all_goals clear R
 simp only[gF,Int.toNat_natCast]
theorem am9{A C:List Int}{x y:Int}{i j:Nat}(hj:A.length=j)(hi:j+1=i):kK (A++y::x::C) i j=A++x::y::C:=by
 subst hj hi;have e1:(A++y::x::C).getD A.length 0=y:=by simp[zz0]
 have e2:(A++y::x::C).getD (A.length+1) 0=x:=by
  rw[zz0,zw0 (by omega)];simp
 simp only[kK,e1,e2];rw[List.set_append_right _ _ (by omega)];have:A.length+1-A.length=1:=by omega
 rw[this,List.set_append_right _ _ (by omega),Nat.sub_self];simp
theorem anb{A C:List Int}{x y:Int}{i j:Nat}(hi:A.length=i)(hj:i+1=j):kK (A++x::y::C) i j=A++y::x::C:=by
 have:=PK (A:=A) (B:=[]) (C:=C) (x:=x) (y:=y) (i:=i) (j:=j) hi (by simp;omega);simpa using this
def en(p t rest:List Int)(x:Int)(c:Nat):List Int:=p++(t.take c++x::t.drop c)++rest
theorem xQ{p t rest:List Int}{x:Int}{c:Nat}(hc:c≤t.length):(en p t rest x c).length=p.length+t.length+1+rest.length:=by
 simp only[en,zz3,zy7,List.length_cons,zy9];omega
theorem aje{p t rest:List Int}{x:Int}{c a:Nat}(ha:p.length=a)(hc:c≤t.length):(en p t rest x c).getD (a+c) 0=x:=by
 subst ha;have hl:(t.take c).length=c:=by rw[zy7];omega
 simp only[en];rw[zz0,zz5,zw0 (by omega)];have:p.length+c-p.length=c:=by omega
 rw[this,zz5,zw0 (by omega),hl,Nat.sub_self];rfl
theorem ajf{p t rest:List Int}{x:Int}{c a:Nat}(ha:p.length=a)(hc:c<t.length):(en p t rest x (c+1)).getD (a+c) 0=t[c]:=by
 subst ha;simp only[en];rw[zz0,zz5,zw0 (by omega)];have:p.length+c-p.length=c:=by omega
 rw[this,zz5,zy8 (by rw[zy7];omega),List.getElem?_take_of_lt (by omega),zz9 hc];rfl
theorem KZ{p t rest:List Int}{x:Int}{c a:Nat}(ha:p.length=a)(hc:c<t.length):kK (en p t rest x (c+1)) (a+c+1) (a+c)=en p t rest x c:=by
 have e1:en p t rest x (c+1)=(p++t.take c)++t[c]::x::(t.drop (c+1)++rest):=by
  simp only[en];rw[zy1 hc];simp only[zz5,zy0,zy3]
 have e2:en p t rest x c=(p++t.take c)++x::t[c]::(t.drop (c+1)++rest):=by
  simp only[en];rw[zv8 hc];simp only[zz5,zy0]
 rw[e1,e2];exact am9 (by rw[zz3,zy7];omega) rfl
theorem zA{l:List aq}{t:List Int}{x:Int}{c:Nat}(hs:dA l t)(h1:∀ y∈t.take c,dT l y x)(h2:∀ y∈t.drop c,dT l x y):dA l (t.take c++x::t.drop c):=by
 have h:=hs;unfold dA at *;rw[←zx0 c t,List.pairwise_append] at h;rw[List.pairwise_append];refine ⟨h.1,?_,fun y hy z hz =>?_⟩
 ·rw[zw3];exact ⟨h2,h.2.1⟩
 ·rcases zx6.1 hz with rfl | hz
  ·exact h1 y hy
  ·exact h.2.2 y hy z hz
theorem amO{l:List aq}{t:List Int}{x:Int}{c:Nat}(hs:dA l t)(hc:c<t.length)(h:dT l t[c] x):∀ y∈t.take (c+1),dT l y x:=by
 intro y hy;rw[zy1 hc,zy4,List.mem_singleton] at hy;rcases hy with hy | rfl
 ·refine x8 ?_ h;have h3:=hs;unfold dA at h3;rw[←zx0 c t,List.pairwise_append] at h3;exact h3.2.2 y hy _ (by rw[zv8 hc];exact List.mem_cons_self)
 ·exact h
def nx(l:List aq)(p s q:List Int):cO:=fun r os'=>r=.tuple []∧∃ s',s'.Perm s∧dA l s'∧os'=bJ 1000000 (p++s'++q)
structure ve where
 t:List Int
 k:Nat
theorem Ak(l:List aq)(hd:mQ l)(hl:l.length≤60)(p s q:List Int)(a b n:Nat)(ha:p.length=a)(hb:a+s.length=b)(hn:b≤n)(hnl:n≤(p++s++q).length)(hN:n≤1000)(hs:s.Pairwise (· < ·))(hS:∀ x∈s,jI l x) :
  cC Tryz.prog 203 [.view 1000000 [] 1 0 n,enc (a:Int),enc (b:Int),.func 138 [.ref (enc l)]] (bJ 1000000 (p++s++q)) (nx l p s q):=by
 refine cC.bn Tryz.func203 C9 Dk DH (t7 rfl) (t7 rfl) my (fun hwf W0 D0 E1 =>?_);simp only[vB,y8,bg,zz4,Nat.reduceAdd];clear hwf;have w1:=eB (i:=a) (by omega);refine .ao (by decide +kernel) fun K hK =>?_;simp only[xe,U,simprocAttr]
 try simp only[w1,simprocAttr]
 refine .done (hK _ ?_);clear hK K;refine J.block (J.loop (fun g:ve=>au [(0,.view 1000000 [] 1 0 n),(1,.int .i64 a),(2,.int .i64 b),(3,.func 138 [.ref (enc l)]),(8,.int .i64 ((a+g.k:Nat):Int))] (bJ 1000000 (p++g.t++s.drop g.k++q))) (fun g=>1≤g.k∧g.t.Perm (s.take g.k)∧dA l g.t∧a+g.k≤b+1) (fun g=>s.length-g.k) ⟨s.take 1,1⟩ ⟨zz7 _,.refl _,?_,by simp only;omega⟩ ?_ ?_)
 ·show dA l (s.take 1)
  cases s <;>simp[dA]
 ·have e:p++s.take 1++s.drop 1++q=p++s++q:=by rw[zz5 p,zx0]
  simp only[e];refine aC.dh ?_ (fun n=>rfl);simp[aT,aV]
 rintro ⟨t,k⟩ ⟨g1,g2,g3,g4⟩;simp only at g1 g2 g3 g4 ⊢;refine J.seq (J.seq ?_);refine .bx (by decide +kernel) fun K hK =>?_;simp only[Ie,U,simprocAttr];refine .done (hK _ ?_);clear hK K;try simp only[ar]
 refine J.bM ?_;simp only[ak,U,simprocAttr];refine ⟨fun h =>?_,fun h =>?_⟩
 rotate_left
 ·have hk:s.length≤k:=by simp at h;omega
  refine J.exit ?_;try simp only[ar,bO,simprocAttr]
  rw[mu];refine oe rfl ?_ ⟨rfl,t,?_,g3,rfl⟩
  ·rw[zw9 hk,zx7]
  ·rwa [zv6 hk] at g2
 have hk:k<s.length:=by simp at h;omega
 have htl:t.length=k:=by rw[g2.length_eq,zy7];omega
 obtain ⟨x,hx⟩:∃ x,x=s[k]:=⟨_,rfl⟩
 have hxS:jI l x:=hS x (by rw[hx];exact zx3 _);have htS:∀ y∈t,jI l y∧y<x:=fun y hy=>by
  have hy2:=g2.mem_iff.1 hy;refine ⟨hS y (List.mem_of_mem_take hy2),?_⟩;obtain ⟨j,hj,rfl⟩:=List.getElem_of_mem hy2;rw[zy7] at hj;rw[List.getElem_take,hx];exact List.pairwise_iff_getElem.1 hs j k (by omega) hk (by omega)
 obtain ⟨rest,hrest⟩:∃ rest,rest=s.drop (k+1)++q:=⟨_,rfl⟩
 have e0:p++t++s.drop k++q=en p t rest x k:=by
  rw[hrest,en,zv6 (l:=t) (by omega),show t.drop k=[] from zw9 (by omega),zv8 hk,←hx];simp only[zz5,zy0,zy3]
 have hnr:n≤p.length+t.length+1+rest.length:=by
  rw[hrest];simp only[zz3,zy9] at hnl ⊢;omega
 rw[e0];refine J.skip ?_;try simp only[ar,simprocAttr]
 refine J.seq (J.block ?_);refine .ao (by decide +kernel) fun K hK =>?_;simp only[If,U,simprocAttr];refine .done (hK _ ?_);clear hK K;refine J.block (J.loop (fun c:Nat=>au [(0,.view 1000000 [] 1 0 n),(1,.int .i64 a),(2,.int .i64 b),(3,.func 138 [.ref (enc l)]),(8,.int .i64 ((a+k:Nat):Int)),(9,.int .i64 ((a+c:Nat):Int))] (bJ 1000000 (en p t rest x c))) (fun c=>c≤k∧∀ y∈t.drop c,dT l x y) (fun c=>c) k ⟨zz7 _,?_⟩ ?_ ?_)
 ·rw[zw9 (by omega)];intro y hy;cases hy
 ·refine aC.dh ?_ (fun n=>rfl);simp[aT,aV]
 rintro c ⟨hc,hgt⟩;have bl:∀ c,c≤k→(∀ y∈t.drop c,dT l x y)→(∀ y∈t.take c,dT l y x)→∃ s':ve,(1≤s'.k∧s'.t.Perm (s.take s'.k)∧dA l s'.t∧a+s'.k≤b+1)∧s.length-s'.k<s.length-k∧s'.k=k+1∧en p t rest x c=p++s'.t++s.drop s'.k++q:=fun c hck h2 h1=>by
  refine ⟨⟨t.take c++x::t.drop c,k+1⟩,⟨by simp only;omega,?_,zA g3 h1 h2,by simp only;omega⟩,by simp only;omega,rfl,?_⟩
  ·simp only;rw[zy1 hk,←hx];refine List.perm_middle.trans ?_;rw[zx0];exact (g2.cons x).trans (List.perm_append_comm (l₁:=[x]))
  ·simp only[en,hrest,zz5]
 have hexit:∀ ts,(∀ y∈t.take c,dT l y x)→Abs.b7 ts 0=.view 1000000 [] 1 0 n→Abs.b7 ts 1=.int .i64 a→Abs.b7 ts 2=.int .i64 b→Abs.b7 ts 3=.func 138 [.ref (enc l)]→Abs.b7 ts 8=.int .i64 ((a+(k+1):Nat):Int)→∃ s':ve,(1≤s'.k∧s'.t.Perm (s.take s'.k)∧dA l s'.t∧a+s'.k≤b+1)∧s.length-s'.k<s.length-k∧Abs.aC (au ts (bJ 1000000 (en p t rest x c))) (au [(0,.view 1000000 [] 1 0 n),(1,.int .i64 a),(2,.int .i64 b),(3,.func 138 [.ref (enc l)]),(8,.int .i64 ((a+s'.k:Nat):Int))] (bJ 1000000 (p++s'.t++s.drop s'.k++q))):=fun ts h1 t0 t1 t2 t3 t8=>by
  obtain ⟨s',k1,k2,k3,k4⟩:=bl c hc hgt h1;refine ⟨s',k1,k2,?_⟩;rw[k4,k3];refine aC.dh ?_ (fun n=>rfl);simp only[aT,t0,t1,t2,t3,t8,and_self]
 have hw:=eB (i:=a+k) (by omega);have hws:(en p t rest x c).length=p.length+t.length+1+rest.length:=xQ (by omega);simp only[bJ] at hexit ⊢;cases c with
 |zero =>
  have hc0:decide ((a:Int)<((a+0:Nat):Int))=false:=by simp
  have R:=v6 @hc0 (v6 @hw (v6 @aU @U))
  repeat' ((first |(with_reducible refine .guard (fun hb =>?_) (fun hb =>?_) <;>try simp only[hb])|refine J.aL (by decide +kernel) rfl fun K hK =>?_|(refine .aG [0,1,2,3,8,9,14,34] hK ?_;clear hK K)|(with_reducible refine .done (hK _ ?_);clear hK K)|refine J.of rfl ?_|(with_reducible refine ak.aK (fun h =>?_) (fun h =>?_) <;>try simp only[h])) <;>try simp only[aM,R,simprocAttr])
  all_goals clear R
  exact hexit _ (by simp) rfl rfl rfl rfl rfl
 |succ c =>
  have hct:c<t.length:=by omega
  have hc0:decide ((a:Int)<((a+(c+1):Nat):Int))=true:=by simp;omega
  have wd:IntKind.i64.wrap (((a+(c+1):Nat):Int)-1)=((a+c:Nat):Int):=by rw[cF _ (by omega) (by omega)];omega
  have gx:=aje (p:=p) (t:=t) (rest:=rest) (x:=x) (c:=c+1) ha (by omega);have gy:=ajf (p:=p) (t:=t) (rest:=rest) (x:=x) (c:=c) ha hct;have hstep:=KZ (p:=p) (t:=t) (rest:=rest) (x:=x) (c:=c) ha hct;obtain ⟨hyS,hyx⟩:=htS t[c] (zx3 _);have hcmp:=sr l hd hl x t[c] hxS hyS;generalize hws0:en p t rest x (c+1)=ws at *;have hi1:a+(c+1)<n:=by omega
  have hj1:a+c<n:=by omega
  obtain ⟨i1,hi1e⟩:∃ i1,i1=a+(c+1):=⟨_,rfl⟩
  obtain ⟨j1,hj1e⟩:∃ j1,j1=a+c:=⟨_,rfl⟩
  have hij:a+c+1=i1:=by omega
  rw[hij] at hstep;rw[←hi1e] at hi1 gx hc0 wd ⊢;rw[←hj1e] at hj1 gy wd hstep;have v1:=gW (n:=n) (i:=i1) hi1;have v2:=gW (n:=n) (i:=j1) hj1;have l1:=fD (xs:=ws) (i:=i1) (by omega);have l2:=fD (xs:=ws) (i:=j1) (by omega);have s1:=fun (A:ae) v u rest=>mD (A:=A) (n:=1000000) (xs:=ws) (i:=i1) (by omega) v u rest;obtain ⟨ws2,hws2⟩:∃ ws2,ws2=ws.set i1 (ws.getD j1 0):=⟨_,rfl⟩
  have hw2l:ws2.length=ws.length:=by rw[hws2];simp
  have s2:=fun (A:ae) v u rest=>mD (A:=A) (n:=1000000) (xs:=ws2) (i:=j1) (by omega) v u rest;have l3:=fD (xs:=ws2) (i:=j1) (by omega);rw[gx] at l1;rw[gy] at l2;rw[gy] at hws2;have hst2:ws2.set j1 x=en p t rest x c:=by rw[←hstep];simp only[kK,gx,gy,←hws2]
  cases hlt:decide (gF l x-gF l t[c]<0) with
  |true =>
   have R:=v6 @hc0 (v6 @hw (v6 @wd (v6 @v1 (v6 @v2 (v6 @l1 (v6 @l2 (v6 @l3 (v6 @s1 (v6 @s2 (v6 @hst2 (v6 @hlt (v6 @dj (v6 @dG (v6 @aU @U))))))))))))))
   repeat' ((first |(with_reducible refine .guard (fun hb =>?_) (fun hb =>?_) <;>try simp only[hb])|refine J.aL (by decide +kernel) rfl fun K hK =>?_|refine .flat _ (hcmp) rfl ?_|(refine .aG [0,1,2,3,8,9,14,34] hK ?_;clear hK K)|(with_reducible refine .done (hK _ ?_);clear hK K)|refine J.of rfl ?_|(with_reducible refine ak.aK (fun h =>?_) (fun h =>?_) <;>try simp only[h])) <;>try simp only[aM,R,←hws2,zy0,simprocAttr])
   all_goals clear R
   refine ⟨c,⟨by omega,fun y hy =>?_⟩,by omega,?_⟩
   ·rw[zv8 hct] at hy;rcases zx6.1 hy with rfl | hy
    ·rw[tI hyx];simp at hlt;omega
    ·exact hgt y hy
   ·rw[hj1e];refine aC.dh ?_ (fun n =>?_)
    ·simp[aT,aV]
    ·simp only[aj];split <;>rfl
  |false =>
   have R:=v6 @hc0 (v6 @hw (v6 @wd (v6 @v1 (v6 @v2 (v6 @l1 (v6 @l2 (v6 @hlt (v6 @dj (v6 @dG (v6 @aU @U))))))))))
   repeat' ((first |(with_reducible refine .guard (fun hb =>?_) (fun hb =>?_) <;>try simp only[hb])|refine J.aL (by decide +kernel) rfl fun K hK =>?_|refine .flat _ (hcmp) rfl ?_|(refine .aG [0,1,2,3,8,9,14,34] hK ?_;clear hK K)|(with_reducible refine .done (hK _ ?_);clear hK K)|refine J.of rfl ?_|(with_reducible refine ak.aK (fun h =>?_) (fun h =>?_) <;>try simp only[h])) <;>try simp only[aM,R,zy0,simprocAttr])
   all_goals clear R
   exact hexit _ (amO g3 hct (tH hyx (by simp at hlt;omega))) rfl rfl rfl rfl rfl
def nV(key:Nat→Int)(a b:Nat):Prop:=key a<key b∨(key a=key b∧a<b)
theorem xP(key:Nat→Int)(i:Nat)(o:List Nat):(jn key i o).Perm (i::o):=by
 have h:(o.takeWhile fun k=>decide (key k≤key i))++(o.dropWhile fun k=>decide (key k≤key i))=o:=List.takeWhile_append_dropWhile;have:=(List.perm_middle (a:=i) (l₁:=o.takeWhile fun k=>decide (key k≤key i)) (l₂:=o.dropWhile fun k=>decide (key k≤key i)))
 rw[h] at this;exact this
theorem KY(key:Nat→Int)(i:Nat):∀ o:List Nat,o.Pairwise (nV key)→(∀ x∈o,x<i)→(jn key i o).Pairwise (nV key)
 | [],_,_=>by simp[jn]
 |a::o,hs,hi=>by
  obtain ⟨h1,h2⟩:=zw3.1 hs;by_cases ha:key a≤key i
  ·have e:jn key i (a::o)=a::jn key i o:=by simp[jn,ha]
   rw[e];refine zw3.2 ⟨fun b hb =>?_,KY key i o h2 fun x hx=>hi x (by simp[hx])⟩;rcases zx6.1 ((xP key i o).mem_iff.1 hb) with rfl | hb
   ·have:=hi a (by simp);simp only[nV];omega
   ·exact h1 b hb
  ·have e:jn key i (a::o)=i::a::o:=by simp[jn,ha]
   rw[e];refine zw3.2 ⟨fun b hb =>?_,hs⟩;rcases zx6.1 hb with rfl | hb
   ·simp only[nV];omega
   ·have:=h1 b hb;simp only[nV] at *;omega
theorem ui(key:Nat→Int):∀ (l o:List Nat),o.Pairwise (nV key)→l.Pairwise (· < ·)→(∀ x∈o,∀ y∈l,x<y)→(l.foldl (fun o i=>jn key i o) o).Perm (o++l)∧(l.foldl (fun o i=>jn key i o) o).Pairwise (nV key)
 | [],o,ho,_,_=>by simp[ho]
 |i::l,o,ho,hl,hx=>by
  obtain ⟨h1,h2⟩:=zw3.1 hl;have:=ui key l (jn key i o) (KY key i o ho fun x h=>hx x h i (by simp)) h2 fun x h y hy=>by
   rcases zx6.1 ((xP key i o).mem_iff.1 h) with rfl | h
   ·exact h1 y hy
   ·exact hx x h y (by simp[hy])
  refine ⟨this.1.trans ?_,this.2⟩;exact ((xP key i o).append_right l).trans List.perm_middle.symm
def cL(l:List Nat):List Int:=l.map fun n:Nat=>(n:Int)
def lT(l:List aq)(day known:Int):List Int:=cL (jj l day known)
def ql(l:List aq)(day known:Int):List Int:=cL (jQ l day known)
theorem am3(l:List aq)(known:Int):(eQ l known).Pairwise (· < ·):=List.Pairwise.filter _ List.pairwise_lt_range
theorem PC{l:List aq}{known:Int}{i:Nat}(h:i∈eQ l known):i<l.length:=by
 simp only[eQ,zu0,zw1] at h;exact h.1
theorem sV(l:List aq)(day known:Int):(jj l day known).Pairwise (· < ·):=List.Pairwise.filter _ (am3 l known)
theorem DX{l:List aq}{day known:Int}{i:Nat}(h:i∈jj l day known):i<l.length:=PC (zu0.1 h).1
theorem Z0(l:List aq)(day known:Int):(lT l day known).Pairwise (· < ·):=by
 refine List.pairwise_map.2 ((sV l day known).imp fun {a b} h =>?_)
 show (a:Int)<(b:Int)
 omega
theorem ZZ{l:List aq}{day known:Int} : ∀ x∈lT l day known,jI l x:=fun x hx=>by
 obtain ⟨i,hi,rfl⟩:=zx9.1 hx;have:=DX hi;exact ⟨by omega,by omega⟩
theorem vW(l:List aq)(day known:Int):(jj l day known).length≤l.length:=by
 have h1:=zv9 (fun i=>decide ((ab l i).kind≠0)&&decide ((ab l i).day≤day)) (eQ l known);have h2:=zv9 (fun i=>(gp l known).getD i false) (List.range l.length);rw[List.length_range] at h2;exact zu1 h1 h2
theorem alC{l:List aq}{day known:Int}{s:List Int}(hp:s.Perm (lT l day known))(hs:dA l s):s=ql l day known:=by
 have h0:=ui (fun i=>(ab l i).day) (jj l day known) [] (by simp) (sV l day known) (by simp);have h1:(ql l day known).Perm (lT l day known):=h0.1.map _;have h2:dA l (ql l day known):=by
  refine List.pairwise_map.2 (h0.2.imp fun {a b} h =>?_);simp only[nV] at h;simp only[dT,gF,Int.toNat_natCast];omega
 refine List.Perm.eq_of_pairwise (fun a b _ _ h k =>?_) hs h2 (hp.trans h1.symm);simp only[dT] at h k;omega
theorem alE{l:List aq}{day known:Int}{i:Nat}(h:i∈jQ l day known):i∈jj l day known:=by
 have h0:=ui (fun i=>(ab l i).day) (jj l day known) [] (by simp) (sV l day known) (by simp);exact h0.1.mem_iff.1 h
theorem Mt(l:List aq)(day known:Int):(jQ l day known).length=(jj l day known).length:=by
 have h0:=ui (fun i=>(ab l i).day) (jj l day known) [] (by simp) (sV l day known) (by simp);exact h0.1.length_eq
theorem alc{x:aq}(h:iW x=true):0≤x.day∧x.day≤100000:=by
 simp only[iW,cj,zz2,decide_eq_true_eq] at h;omega
theorem uO(l:List aq)(known:Int):(gp l known).length=l.length:=zC known l
theorem Q1(el:List aq):ay Tryz.prog 203 [enc ([]:List Int),.int .i64 0,.int .i64 0,.func 138 [.ref (enc el)]] (.tuple []):=by
 refine ay.bn Tryz.func203 C9 Dk DH (t7 rfl) (fun hwf W0 D0 E1 =>?_);simp only[vB,y8,bg,zz4,Nat.reduceAdd];clear hwf;have hc:decide ((1:Int)<0)=false:=by decide
 have hw:IntKind.i64.wrap 1=1:=by decide
 refine .ao (by decide +kernel) fun K hK =>?_;simp only[xe,U,Nat.reduceEqDiff,reduceIte];refine .done (hK _ ?_);clear hK K;refine J.block (J.loop (fun _:Unit=>au [(2,.int .i64 0),(8,.int .i64 1)] []) (fun _=>True) (fun _=>0) () trivial ?_ (fun _ _ =>?_))
 ·refine aC.bI ?_ ?_ ?_ ?_ <;>simp[*,aT,bC,bB,a6,aV,I.only]
 have R:=v6 @hc (v6 @gv (v6 @bd (v6 @aU @U)))
 repeat' ((first |(with_reducible refine .guard (fun hb =>?_) (fun hb =>?_) <;>try simp only[hb])|refine J.aL (by decide +kernel) rfl fun K hK =>?_|(refine .aG [0,1,2,3,8,9,14,34] hK ?_;clear hK K)|(with_reducible refine .done (hK _ ?_);clear hK K)|refine J.of rfl ?_|(with_reducible refine ak.aK (fun h =>?_) (fun h =>?_) <;>try simp only[h])) <;>try simp only[aM,R,Nat.reduceEqDiff,reduceIte,Nat.reduceBEq])
 all_goals clear R
 rfl
theorem QK(el:List aq):ay Tryz.prog 171 [enc ([]:List Int),.int .i64 0,.func 138 [.ref (enc el)]] (.tuple []):=by
 refine ay.bn Tryz.func171 C5 Di DF (t7 rfl) (fun hwf W0 D0 E1 =>?_);simp only[vz,y6,bg,zz4,Nat.reduceAdd];clear hwf;have hc:decide ((20:Int)≤0)=false:=by decide
 have hc2:decide ((20:Int)<0)=false:=by decide
 refine .ao (by decide +kernel) fun K hK =>?_;simp only[wW,U];refine .done (hK _ ?_);clear hK K;refine .ao (by decide +kernel) fun K hK =>?_;simp only[wX,U,Nat.reduceEqDiff,reduceIte];refine .done (hK _ ?_);clear hK K;refine J.seq (J.block (J.loop (fun _:Unit=>au [(0,enc ([]:List Int)),(1,.int .i64 0),(2,.func 138 [.ref (enc el)]),(6,.int .i64 20),(7,.int .i64 0),(8,.int .i64 20)] []) (fun _=>True) (fun _=>0) () trivial ?_ (fun _ _ =>?_)))
 ·refine aC.bI ?_ ?_ ?_ ?_ <;>simp[aT,bC,bB,a6,aV,I.only,I.bT,bh]
 have R:=v6 @hc (v6 @gv (v6 @bd (v6 @aU @U)))
 repeat' ((first |(with_reducible refine .guard (fun hb =>?_) (fun hb =>?_) <;>try simp only[hb])|refine J.aL (by decide +kernel) rfl fun K hK =>?_|refine .lead _ (Q1 el) ?_|(refine .aG [0,1,2,6,7,8,9,13,30,35,54] hK ?_;clear hK K)|(with_reducible refine .done (hK _ ?_);clear hK K)|refine J.of rfl ?_|(with_reducible refine ak.aK (fun h =>?_) (fun h =>?_) <;>try simp only[h])) <;>try simp only[aM,R,Nat.reduceEqDiff,reduceIte,Nat.reduceBEq])
 all_goals clear R
 refine J.loop (fun _:Unit=>au [(0,enc ([]:List Int)),(1,.int .i64 0),(2,.func 138 [.ref (enc el)]),(6,.int .i64 20)] []) (fun _=>True) (fun _=>0) () trivial ?_ (fun _ _ =>?_)
 ·refine aC.bI ?_ ?_ ?_ ?_ <;>simp[aT,bC,bB,a6,aV,I.only,I.bT,bh]
 have R:=v6 @hc2 (v6 @gv (v6 @bd (v6 @aU @U)))
 repeat' ((first |(with_reducible refine .guard (fun hb =>?_) (fun hb =>?_) <;>try simp only[hb])|refine J.aL (by decide +kernel) rfl fun K hK =>?_|(refine .aG [0,1,2,6,7,8,9,13,30,35,54] hK ?_;clear hK K)|(with_reducible refine .done (hK _ ?_);clear hK K)|refine J.of rfl ?_|(with_reducible refine ak.aK (fun h =>?_) (fun h =>?_) <;>try simp only[h])) <;>try simp only[aM,R,Nat.reduceEqDiff,reduceIte,Nat.reduceBEq])
 all_goals clear R
 rfl
theorem Qn(el:List aq):ay Tryz.prog 137 [enc ([]:List Int),.func 138 [.ref (enc el)]] (.tuple []):=by
 refine ay.bn Tryz.func137 C1 De DB (t7 rfl) (fun hwf W0 D0 E1 =>?_);simp only[vw,yZ,bg,zz4];clear hwf;have hz:(([]:List Int).length:Int)=0:=rfl;have R:=v6 @hz (v6 @gv (v6 @bd (v6 @aU @U)))
 repeat' ((first |(with_reducible refine .guard (fun hb =>?_) (fun hb =>?_) <;>try simp only[hb])|refine J.aL (by decide +kernel) rfl fun K hK =>?_|refine .lead _ (QK el) ?_|(refine .aG [0,1] hK ?_;clear hK K)|(with_reducible refine .done (hK _ ?_);clear hK K)|refine J.of rfl ?_|(with_reducible refine ak.aK (fun h =>?_) (fun h =>?_) <;>try simp only[h])) <;>try simp only[R,Nat.reduceEqDiff,reduceIte])
 all_goals clear R
 rfl
def amq(l:List cq):Prop:=∀ (i j:Nat) (hi:i<l.length) (hj:j<l.length),i<j→l[i].bP<l[j].bP
theorem anO{m:bU}(h:eg m=true):amq m.given:=by
 simp only[eg,zz2,zx2,zw1] at h;have h1:∀ i,i+1<m.given.length→(c9 m i).bP<(c9 m (i+1)).bP:=fun i hi=>by
  have:=h.2.2.2 (i+1) hi;simp only[gZ,zz2] at this;simpa using this.2.2.1
 intro i j hi hj hij;obtain ⟨d,rfl⟩:∃ d,j=i+1+d:=⟨j-(i+1),by omega⟩
 induction d with
 |zero=>rw[jF hi,jF hj];exact h1 i hj
 |succ d ih =>
  have hj':i+1+d<m.given.length:=by omega
  have:=ih hj' (by omega);rw[jF hi,jF hj'] at this;rw[jF hi,jF hj];have h3:=h1 (i+1+d) hj;have e:i+1+(d+1)=i+1+d+1:=by omega
  rw[e];omega
theorem L4{m:bU}(h:eg m=true):m.given.length≤40:=by
 simp only[eg,zz2,decide_eq_true_eq] at h;exact h.2.2.1
theorem L7{m:bU}(h:eg m=true):∀ g∈m.given,dY g.mark=true:=fun g hg=>by
 simp only[eg,zz2,zx2,zw1] at h;obtain ⟨i,hi,rfl⟩:=List.getElem_of_mem hg;rw[jF hi];exact yF (h.2.2.2 i hi)
theorem QZ(m:bU)(r:aW 6 Int)(g:cq)(hg:dY g.mark=true):ay Tryz.prog 201 (enc g::[.ref (enc m),.ref (enc r)]) (enc (decide (m.eT<lP m.eV g.mark r))):=by
 refine ay.bn Tryz.func201 TM VJ XV (t7 rfl) (fun hwf W0 D0 E1 =>?_);simp only[Ci,NW,bg,zz4,Nat.reduceAdd];refine .ao (by decide +kernel) fun K hK =>?_;simp only[H8,U,simprocAttr]
 try simp only[dN,U,simprocAttr]
 refine .done (hK _ ?_);clear hK K;refine .ao (by decide +kernel) fun K hK =>?_;simp only[H9,U,simprocAttr]
 try simp only[cI,c8,U,simprocAttr]
 refine .flat _ (Q0 m.eV g.mark r hg) rfl ?_
 try simp only[cI,U,simprocAttr]
 refine .done (hK _ ?_);clear hK K;refine J.ret ?_;simp only[U,simprocAttr]
def lp(m:bU)(r:aW 6 Int):List cq:=fX (fun g=>decide (m.eT<lP m.eV g.mark r)) m.given
def ME(d:Nat)(m:bU)(r:aW 6 Int):cO:=fun x os'=>(lp m r=[]∧x=enc ([]:List cq)∧os'=[])∨∃ k,x=.view d [] 7 0 (lp m r).length∧os'=ja d (lp m r) k
theorem QH(m:bU)(r:aW 6 Int)(hm:∀ g∈m.given,dY g.mark=true)(hlen:m.given.length≤1000):cC Tryz.prog 168 [enc m,enc r] [] (ME 7 m r):=by
 refine cC.bn Tryz.func168 Tv Vq XC (t7 rfl) (t7 rfl) (fun m hm=>by simp[al,aj] at hm) (fun hwf W0 D0 E1 =>?_);simp only[BX,NC,bg,zz4];refine .ao (by decide +kernel) fun K hK =>?_;simp only[Hg,U,simprocAttr]
 try simp only[dN,U,simprocAttr]
 refine .done (hK _ ?_);clear hK K;refine .ao (by decide +kernel) fun K hK =>?_;simp only[Hh,U,simprocAttr]
 try simp only[cI,c8,U,simprocAttr]
 refine .bS false [(7,7)] [] [enc m.given] (vN m.given) rfl (Af m.given hlen) fT.nil ⟨.inl ⟨(j4 _ _).symm,bh _ _,dN _⟩,trivial⟩ ?_ ?_
 ·rintro x os' (⟨_,h | h,rfl⟩ | ⟨_,k,rfl,rfl⟩)
  ·subst h;exact eh.nil (fun _=>rfl) (fun h=>by cases h)
  ·subst h;exact eh.nil (fun _=>rfl) (fun h=>by cases h)
  ·exact eh.qe (fun p=>m3 p _) (fun h=>by cases h) rfl (fun h=>by cases h) rfl (by decide)
 ·have hd:I.eS [.ref (enc m),.ref (enc r)]=true:=by simp only[I.eS,I.done,dG,zw5]
  rintro x os' (⟨hn,h,rfl⟩ | ⟨hn,k,rfl,rfl⟩)
  ·have hp:lp m r=[]:=by simp[lp,fX,hn]
   have key:∀ x,(x=.nils 7∨x=.c0 7)→bl true (au [] []) x=some (enc ([]:List cq)):=by rintro x (rfl | rfl) <;>rfl
   have hren:∀ x:I,(x=.nils 7∨x=.c0 7)→x.aN (bA [(7,7)])=x∧x.cm=true:=by rintro x (rfl | rfl) <;>exact ⟨by simp only[I.aN],rfl⟩
   rw[(hren x h).1]
   try simp only[gK,zy3,List.all_cons,List.all_nil,I.cm,zw5,U,simprocAttr]
   have hfx:∀ A,bl true A x=some (enc ([]:List cq)):=fun A=>by rcases h with rfl | rfl <;>simp only[bl,gG,zx1] <;>rfl
   refine .iE [2,3] (enc ([]:List cq)) rfl (QY 201 [.ref (enc m),.ref (enc r)] hd) ?_ ?_ ?_
   ·try simp only[hfx,iU,zx4,zv5,List.contains_cons,Nat.reduceBEq,Bool.or_true,Bool.true_or,BEq.rfl,dG,U,simprocAttr]
   ·simp[cW,a6]
   ·try simp only[gU,cW,zx4,zv5,List.contains_cons,Nat.reduceBEq,Bool.or_true,Bool.true_or,BEq.rfl,zz8,zx1,U,simprocAttr]
    refine .done (hK _ ?_);clear hK K;refine J.ret ?_;simp only[eY];exact ⟨[],[enc ([]:List cq)],oM,⟨⟨_,rfl,.inl ⟨rfl,rfl,rfl⟩⟩,trivial⟩,.inl ⟨hp,rfl,rfl⟩⟩
  ·try simp only[ja,gK,fB,zy0,zy3,List.all_cons,List.all_nil,I.cm,zw5,U,simprocAttr]
   refine .bS true [(1000000,7)] (ja 1000000 m.given k) [.view 1000000 [] 7 0 m.given.length,.func 201 [.ref (enc m),.ref (enc r)]] (DM 1000000 (lp m r)) rfl
    (QX m.given 201 [.ref (enc m),.ref (enc r)] hd (fun g=>decide (m.eT<lP m.eV g.mark r)) (fun g hg=>QZ m r g (hm g hg)) hlen k) ⟨?_,?_⟩ ⟨.inl ⟨?_,?_,rfl⟩,.inr ?_,trivial⟩ ?_ ?_
   ·intro n x h;simp only[ja,aj] at h;split at h
    ·rename_i hn';subst hn';simp only[u8] at h;subst h;exact ⟨by simp only[gK,fB,U,simprocAttr],m3 _ _,rfl⟩
    ·cases h
   ·intro a b ha hb _;rw[cE.1 ha,cE.1 hb]
   ·try simp only[gK,simprocAttr]
   ·exact cE.2 rfl
   ·try simp only[jM,ja,bA,cW,zx4,zv5,zz8,zx1,List.contains_cons,List.contains_nil,Nat.reduceBEq,Bool.or_false,BEq.rfl,dG,U,simprocAttr]
   ·rintro x os' ⟨k',rfl,rfl⟩;exact eh.one (fun p=>m3 p _) (fun _=>ajV _) (cE.2 rfl) (fun _=>rfl)
   ·rintro x os' ⟨k',rfl,rfl⟩
    try simp only[ja,gK,fB,zy0,zy3,U,simprocAttr]
    refine .done (hK _ ?_);clear hK K;refine J.ret ?_;simp only[eY];exact ⟨ja 7 (lp m r) k',[.view 7 [] 7 0 (lp m r).length],jG rfl (fun p=>m3 p _),⟨⟨_,rfl,.inl ⟨rfl,rfl,rfl⟩⟩,trivial⟩,.inr ⟨k',rfl,rfl⟩⟩
end Go.Proofs.YtcldiigclhgafaaGreat
