/-
  A part of the proof that the law MarchTexts returns true for every input; seven variables of Go's library start as the text lays them (the card ties them); conditions: none beyond the statement's own. (part 3 of 7)
-/
import Derived.Test.YthbdbocionnfgaaGreatDoorChecked
import Derived.KernelRfl
import Derived.RangeFuncIn
import Derived.Laws.Externs
import Derived.RecoverIn
import Derived.Test.YthbdbocionnfgaaGreatDoorNgb
set_option linter.unusedSimpArgs false
set_option linter.unusedVariables false
set_option maxHeartbeats 16000000
set_option maxRecDepth 100000
namespace Go.Abs.C
open Go Go.Abs
abbrev o(a:Nat)(x:bW):aJ:=⟨some a,x,none⟩
abbrev bZ(a:Nat)(x:bW)(k:Nat):aJ:=⟨some a,x,some (k,true)⟩
abbrev on(a:Nat)(x:bW)(k:Nat):aJ:=⟨some a,x,some (k,false)⟩
abbrev p(x:bW):aJ:=⟨none,x,none⟩
abbrev aQ(n:Int):aM:=.c (.int .i64 n)
abbrev T:aM:=.c (.bool true)
abbrev bB:aM:=.c (.bool false)
abbrev m(a b:Nat):aJ:=⟨some a,.mv (.t b),none⟩
abbrev dp(a b k:Nat):aJ:=⟨some a,.mv (.t b),some (k,true)⟩
abbrev eQ(a b k:Nat):aJ:=⟨some a,.mv (.t b),some (k,false)⟩
abbrev bN(a:Nat)(n:Int):aJ:=⟨some a,.mv (.c (.int .i64 n)),none⟩
abbrev l(a b:Nat):aJ:=⟨some a,.ld none (.t b),none⟩
abbrev dV(a b k:Nat):aJ:=⟨some a,.ld none (.t b),some (k,true)⟩
abbrev da(a b k:Nat):aJ:=⟨some a,.ld none (.t b),some (k,false)⟩
abbrev L(a s b:Nat):aJ:=⟨some a,.ld (some s) (.t b),none⟩
abbrev f(a b c d:Nat):aJ:=⟨some a,.fa b c (.t d),none⟩
abbrev eg(a b c d k:Nat):aJ:=⟨some a,.fa b c (.t d),some (k,true)⟩
abbrev fn(a b c d k:Nat):aJ:=⟨some a,.fa b c (.t d),some (k,false)⟩
abbrev ad(a b:Nat)(n:Int):aJ:=⟨some a,.bin .add (.t b) (.c (.int .i64 n)),none⟩
abbrev lt(a b c:Nat):aJ:=⟨some a,.bin .lss (.t b) (.t c),none⟩
abbrev and(a b c:Nat):aJ:=⟨some a,.pick (.t b) (.t c) (.c (.bool false)),none⟩
abbrev or(a b c:Nat):aJ:=⟨some a,.pick (.t b) (.c (.bool true)) (.t c),none⟩
abbrev no(a b:Nat):aJ:=⟨some a,.un .not (.t b),none⟩
abbrev b(a c:Nat):aJ:=⟨some a,.box (.t c),none⟩
abbrev s(x y:bx):bx:=.seq x y
abbrev r(g:List aJ):bx:=.cg none g
abbrev cC(P:Program)(f:Func)(c:bx):Prop:=f.body.bind (eN P f.ntmps)=some c
abbrev cA(P:Program)(f:Func)(r:List bQ):Prop:=h3 P f.results.toList=some r
abbrev cq(P:Program)(n:FuncId):Prop:=fy P n=true
theorem e{α:Type}{a b:α}(h:a=b):a=b:=h
end Go.Abs.C
namespace Go.Proofs.YthbdbocionnfgaaGreatDoor
open Go Go.Abs Go.Abs.C
def Y3:=[b 2 0,o 4 (.mv bB)]
def Y4:=[L 19 3 2,o 20 (.call 53 [.t 19]),m 18 20,o 21 (.ext (.t 18) 0),o 22 (.ext (.t 18) 1),m 5 21,m 6 22]
def Y6:=[L 24 3 2,o 25 (.call 54 [.t 24]),m 23 25,o 26 (.ext (.t 23) 0),o 27 (.ext (.t 23) 1),m 7 26,m 8 27]
def Y7:=[m 29 1,o 30 (.call 55 [.t 29]),m 28 30,o 31 (.ext (.t 28) 0),o 32 (.ext (.t 28) 1),o 33 (.ext (.t 28) 2),o 9 (.alloc (.agg [.int .i64 0,.nils 4,.int .i64 0])),p (.bh (some 3) (.t 9) (.t 31)),m 10 32,m 11 33]
def Y8:=[m 35 1,o 36 (.call 56 [.t 35]),m 34 36,o 37 (.ext (.t 34) 0),o 38 (.ext (.t 34) 1),o 39 (.ext (.t 34) 2),o 12 (.alloc (.agg [.int .i64 0,.nils 4,.int .i64 0])),p (.bh (some 3) (.t 12) (.t 37)),m 13 38,m 14 39]
def Y9:=[m 40 5,m 41 7,o 42 (.bin .neq (.t 40) (.t 41)),m 43 42,eQ 44 6 43,eQ 45 8 43,on 46 (.bin .neq (.t 44) (.t 45)) 43,or 47 43 46,m 48 47,on 49 (.ld (some 3) (.t 9)) 48,on 50 (.ld (some 3) (.t 12)) 48,on 51 (.call 16 [.t 49,.t 50]) 48,on 52 (.un .not (.t 51)) 48,or 53 48 52,m 54 53,eQ 55 10 54,eQ 56 13 54,on 57 (.bin .neq (.t 55) (.t 56)) 54,or 58 54 57,m 59 58,eQ 60 11 59,eQ 61 14 59,on 62 (.bin .neq (.t 60) (.t 61)) 59,or 63 59 62]
def Za:=[o 4 (.mv bB)]
def Zb:=[m 64 6,o 65 (.bin .neq (.t 64) (aQ 0))]
def Zc:=[o 66 (.call 18 []),m 4 66]
def Zd:=[m 68 5,o 69 (.call 55 [.t 68]),m 67 69,o 70 (.ext (.t 67) 0),o 71 (.ext (.t 67) 1),o 72 (.ext (.t 67) 2),o 15 (.alloc (.agg [.int .i64 0,.nils 4,.int .i64 0])),p (.bh (some 3) (.t 15) (.t 70)),m 16 71,m 17 72]
def Y5:=[L 73 3 2,L 74 3 15,o 75 (.call 16 [.t 73,.t 74]),m 76 75,dp 77 16 76,bZ 78 (.bin .eql (.t 77) (aQ 0)) 76,and 79 76 78,m 80 79,dp 81 17 80,bZ 82 (.bin .eql (.t 81) (aQ 0)) 80,and 83 80 82,m 84 83,bZ 85 (.call 18 []) 84,and 86 84 85,m 4 86]
def c9:bx:=(s (r Y3) (s (r Y4) (s (r Y6) (s (r Y7) (s (r Y8) (s (s (r Y9) (.cond (.t 63) (s (r Za) .ret) .skip)) (s (s (r Zb) (.cond (.t 65) (s (r Zc) .ret) .skip)) (s (r Zd) (s (r Y5) .ret)))))))))
def GU:List bQ:=[.tmp 4]
theorem ME:cC Tryz.prog Tryz.f9 c9:=e (by kernel_rfl)
theorem N3:cA Tryz.prog Tryz.f9 GU:=e (by kernel_rfl)
theorem Lx:cq Tryz.prog 9:=e (by kernel_rfl)
def RS:=[b 1 0,o 2 (.alloc (.agg [.int .i64 0,.nils 4,.int .i64 0])),bN 3 0]
def RT:=[L 5 3 1,o 6 (.call 23 [.t 5]),m 4 6]
def RU:=[m 7 4,o 8 (.bin .neq (.t 7) (aQ 0))]
def RV:=[o 9 (.bld [.int .i64 0,.nils 4,.int .i64 0] []),m 10 4,p (.bh (some 3) (.t 2) (.t 9)),m 3 10]
def RW:=[L 11 3 1,o 12 (.call 57 [.t 11]),p (.bh (some 3) (.t 1) (.t 12))]
def RX:=[f 13 1 1 1,l 14 13,o 15 (.len (.t 14)),f 16 2 2 1,p (.bh none (.t 16) (.t 15))]
def RY:=[L 17 3 1,p (.bh (some 3) (.t 2) (.t 17)),bN 3 0]
def AQ:bx:=(s (r RS) (s (s (r RT) (s (r RU) (.cond (.t 8) (s (r RV) .ret) .skip))) (s (r RW) (s (r RX) (s (r RY) .ret)))))
def FQ:List bQ:=[.cell 2 (some 3),.tmp 3]
theorem LM:cC Tryz.prog Tryz.f10 AQ:=e (by kernel_rfl)
theorem MX:cA Tryz.prog Tryz.f10 FQ:=e (by kernel_rfl)
theorem KE:cq Tryz.prog 10:=e (by kernel_rfl)
def SF:=[b 2 0,o 4 (.mv (.c (.nils 5))),bN 5 0]
def SG:=[L 11 3 2,o 12 (.call 23 [.t 11]),m 6 12]
def SK:=[m 13 6,o 14 (.bin .neq (.t 13) (aQ 0))]
def SL:=[m 15 6,o 4 (.mv (.c (.nils 5))),m 5 15]
def SM:=[m 16 1,o 17 (.call 61 [.t 16]),no 18 17,m 19 18,eQ 20 1 19,fn 21 0 0 2 19,da 22 21 19,on 23 (.bin .eql (.t 20) (.t 22)) 19,or 24 19 23]
def SN:=[o 4 (.mv (.c (.nils 5))),bN 5 90]
def SO:=[f 26 0 0 2,l 27 26,f 28 1 1 2,l 29 28,f 30 2 2 2,l 31 30,f 32 2 2 2,l 33 32,o 34 (.sl 4 (.t 29) none (some (.t 31)) (some (.t 33))),o 35 (.call 62 [.t 27,.t 34]),m 25 35,o 36 (.ext (.t 25) 0),o 37 (.ext (.t 25) 1),m 7 36,m 8 37]
def OC:=some [[],[0],[],[2],[],[4],[],[6],[3,5,7],[1,8],[9],[10],[10],[11,9,0,1,2,3,4,5,6,7,8,9,10,11],[12,13,0,1,2,3,4,5,6,7,8,9,10,11,12,13]]
def SP:=[o 9 (.alloc (.nils 5))]
def SQ:=[m 38 7,m 39 1,o 40 (.call 63 [.t 38,.t 39])]
def SR:=[o 10 (.alloc (.agg [.int .i64 0,.int .i64 0,.int .i64 0,.int .i64 0,.int .i64 0])),p (.bh (some 5) (.t 10) (.t 41))]
def SH:=[l 42 9,o 43 (.len (.t 42)),o 44 (.bin .eql (.t 43) (aQ 0)),m 45 44,da 46 9 45,da 47 9 45,on 48 (.len (.t 47)) 45,on 49 (.bin .sub (.t 48) (aQ 1)) 45,on 50 (.is 5 (.t 46) (.t 49)) 45,on 51 (.ld (some 5) (.t 50)) 45,on 52 (.ld (some 5) (.t 10)) 45,on 53 (.eqv (.bh [(.i .i64),(.i .i64),(.i .i64),(.i .i64),(.i .i64)]) true (.t 51) (.t 52)) 45,or 54 45 53]
def OB:=some [[],[0],[1],[2],[3],[3],[5,3],[6,3],[4,7,3],[8,3],[3],[9,10,3],[3,11]]
def SI:=[l 55 9,L 56 5 10,o 57 (.bs 39 5 [.t 56]),o 58 (.dk 39 5 40 (.agg [.int .i64 0,.int .i64 0,.int .i64 0,.int .i64 0,.int .i64 0]) (.t 55) (.t 57)),p (.bh none (.t 9) (.t 58))]
def SJ:=[l 59 9,m 4 59,bN 5 0]
def A8:bx:=(s (r SF) (s (s (r SG) (s (r SK) (.cond (.t 14) (s (r SL) .ret) .skip))) (s (s (r SM) (.cond (.t 24) (s (r SN) .ret) .skip)) (s (.cg OC SO) (s (r SP) (s (s (r SQ) (.block 0 (.mS (.t 40) [41] (r SR) (.block 1 (s (.cg OB SH) (.cond (.t 54) (r SI) .skip)))))) (s (r SJ) .ret)))))))
def Gf:List bQ:=[.tmp 4,.tmp 5]
theorem L3:cC Tryz.prog Tryz.f14 A8:=e (by kernel_rfl)
theorem Np:cA Tryz.prog Tryz.f14 Gf:=e (by kernel_rfl)
theorem KV:cq Tryz.prog 14:=e (by kernel_rfl)
def SZ:=[b 2 0,b 3 1,o 4 (.mv bB)]
def S0:=[f 5 0 0 2,l 6 5,f 7 0 0 3,l 8 7,o 9 (.bin .eql (.t 6) (.t 8)),m 10 9,eg 11 2 2 2 10,dV 12 11 10,eg 13 2 2 3 10,dV 14 13 10,bZ 15 (.bin .eql (.t 12) (.t 14)) 10,and 16 10 15,m 17 16,eg 18 1 1 2 17,dV 19 18 17,eg 20 1 1 3 17,dV 21 20 17,bZ 22 (.call 52 [.t 19,.t 21]) 17,and 23 17 22,m 4 23]
def Ba:bx:=(s (r SZ) (s (r S0) .ret))
def Gi:List bQ:=[.tmp 4]
theorem L5:cC Tryz.prog Tryz.f16 Ba:=e (by kernel_rfl)
theorem Ns:cA Tryz.prog Tryz.f16 Gi:=e (by kernel_rfl)
theorem KX:cq Tryz.prog 16:=e (by kernel_rfl)
def S1:=[o 4 (.mv bB)]
def S2:=[m 6 0,o 7 (.len (.t 6)),m 8 1,o 9 (.len (.t 8)),o 10 (.bin .neq (.t 7) (.t 9))]
def S3:=[o 4 (.mv bB)]
def S4:=[m 11 0,o 12 (.len (.t 11)),bN 13 0]
def S5:=[lt 14 13 12]
def S6:=[m 15 13,m 5 15]
def S7:=[m 16 0,m 17 5,o 18 (.is 5 (.t 16) (.t 17)),L 19 5 18,m 20 1,m 21 5,o 22 (.is 5 (.t 20) (.t 21)),L 23 5 22,o 24 (.eqv (.bh [(.i .i64),(.i .i64),(.i .i64),(.i .i64),(.i .i64)]) true (.t 19) (.t 23))]
def OH:=some [[],[],[0,1],[2],[],[],[4,5],[6],[3,7]]
def S8:=[o 4 (.mv bB)]
def S9:=[ad 25 13 1,m 13 25]
def Ta:=[o 4 (.mv T)]
def Bb:bx:=(s (r S1) (s (s (r S2) (.cond (.t 10) (s (r S3) .ret) .skip)) (s (s (r S4) (.block 0 (.loop (s (r S5) (s (.cond (.t 14) .skip (.exit 0)) (s (.block 1 (s (r S6) (s (.cg OH S7) (.cond (.t 24) (s (r S8) .ret) .skip)))) (r S9))))))) (s (r Ta) .ret))))
def Gj:List bQ:=[.tmp 4]
theorem L6:cC Tryz.prog Tryz.f17 Bb:=e (by kernel_rfl)
theorem Nt:cA Tryz.prog Tryz.f17 Gj:=e (by kernel_rfl)
theorem KY:cq Tryz.prog 17:=e (by kernel_rfl)
def Tb:=[o 0 (.mv bB)]
def Tc:=[o 28 (.call 19 [(aQ 0)]),m 27 28,o 29 (.ext (.t 27) 0),o 30 (.ext (.t 27) 1),o 1 (.alloc (.agg [.int .i64 0,.nils 4,.int .i64 0])),p (.bh (some 3) (.t 1) (.t 29)),m 2 30]
def Tm:=[o 32 (.call 19 [(aQ 1)]),m 31 32,o 33 (.ext (.t 31) 0),o 34 (.ext (.t 31) 1),o 3 (.alloc (.agg [.int .i64 0,.nils 4,.int .i64 0])),p (.bh (some 3) (.t 3) (.t 33)),m 4 34]
def Tn:=[L 36 3 1,o 37 (.call 27 [.t 36,(aQ 7)]),m 35 37,o 38 (.ext (.t 35) 0),o 39 (.ext (.t 35) 1),p (.bh (some 3) (.t 1) (.t 38)),m 5 39]
def Tp:=[L 41 3 1,o 42 (.call 10 [.t 41]),m 40 42,o 43 (.ext (.t 40) 0),o 44 (.ext (.t 40) 1),p (.bh (some 3) (.t 1) (.t 43)),m 6 44]
def Tq:=[L 46 3 1,o 47 (.call 31 [.t 46,(aQ 7),(aQ 1)]),m 45 47,o 48 (.ext (.t 45) 0),o 49 (.ext (.t 45) 1),o 50 (.ext (.t 45) 2),o 7 (.alloc (.agg [.int .i64 0,.int .i64 0,.int .i64 0,.bool false])),p (.bh (some 3) (.t 1) (.t 48)),p (.bh (some 4) (.t 7) (.t 49)),m 8 50]
def Tr:=[L 52 3 1,o 53 (.call 14 [.t 52,(aQ 1)]),m 51 53,o 54 (.ext (.t 51) 0),o 55 (.ext (.t 51) 1),m 9 54,m 10 55]
def Ts:=[L 57 3 1,o 58 (.call 53 [.t 57]),m 56 58,o 59 (.ext (.t 56) 0),o 60 (.ext (.t 56) 1),m 11 59,m 12 60]
def Tt:=[L 62 3 1,o 63 (.call 10 [.t 62]),m 61 63,o 64 (.ext (.t 61) 0),o 65 (.ext (.t 61) 1),p (.bh (some 3) (.t 1) (.t 64)),m 13 65]
def Tu:=[L 67 3 1,o 68 (.call 14 [.t 67,(aQ 1)]),m 66 68,o 69 (.ext (.t 66) 0),o 70 (.ext (.t 66) 1),m 14 69,m 15 70]
def Td:=[o 71 (.bld [.int .i64 0,.int .i64 0,.int .i64 0,.int .i64 0,.int .i64 0] [(0,(aQ 1)),(2,(aQ 1)),(3,(aQ 7)),(4,(aQ 1))]),o 16 (.alloc (.agg [.int .i64 0,.int .i64 0,.int .i64 0,.int .i64 0,.int .i64 0])),p (.bh (some 5) (.t 16) (.t 71))]
def Te:=[L 73 3 3,L 74 5 16,o 75 (.call 35 [.t 73,.t 74]),m 72 75,o 76 (.ext (.t 72) 0),o 77 (.ext (.t 72) 1),p (.bh (some 3) (.t 3) (.t 76)),m 17 77]
def Tf:=[L 79 3 1,L 80 3 3,o 81 (.bs 24 3 [.t 79,.t 80]),o 82 (.call 37 [.t 81,(aQ 7)]),m 78 82,o 83 (.ext (.t 78) 0),o 84 (.ext (.t 78) 1),m 18 83,m 19 84]
def Tg:=[L 86 3 3,o 87 (.call 10 [.t 86]),m 85 87,o 88 (.ext (.t 85) 0),o 89 (.ext (.t 85) 1),p (.bh (some 3) (.t 3) (.t 88)),m 20 89]
def Th:=[L 91 3 3,o 92 (.call 14 [.t 91,(aQ 0)]),m 90 92,o 93 (.ext (.t 90) 0),o 94 (.ext (.t 90) 1),m 21 93,m 22 94]
def Ti:=[L 96 3 1,o 97 (.bld [.int .i64 0,.int .i64 0,.int .i64 0,.int .i64 0,.int .i64 0] [(0,(aQ 2)),(1,(aQ 1)),(3,(aQ 7)),(4,(aQ 1))]),o 98 (.call 35 [.t 96,.t 97]),m 95 98,o 99 (.ext (.t 95) 0),o 100 (.ext (.t 95) 1),p (.bh (some 3) (.t 1) (.t 99)),m 23 100]
def Tj:=[L 102 3 1,o 103 (.call 46 [.t 102]),m 101 103,o 104 (.ext (.t 101) 0),o 105 (.ext (.t 101) 1),m 24 104,m 25 105]
def Tk:=[m 106 2,o 107 (.bin .eql (.t 106) (aQ 0)),m 108 107,dp 109 4 108,bZ 110 (.bin .eql (.t 109) (aQ 0)) 108,and 111 108 110,m 112 111,dp 113 5 112,bZ 114 (.bin .eql (.t 113) (aQ 0)) 112,and 115 112 114,m 116 115,dp 117 6 116,bZ 118 (.bin .eql (.t 117) (aQ 0)) 116,and 119 116 118,m 120 119,dp 121 8 120,bZ 122 (.bin .eql (.t 121) (aQ 0)) 120,and 123 120 122,m 124 123,dp 125 10 124,bZ 126 (.bin .eql (.t 125) (aQ 0)) 124,and 127 124 126,m 128 127,dp 129 12 128,bZ 130 (.bin .eql (.t 129) (aQ 0)) 128,and 131 128 130,m 132 131,dp 133 13 132,bZ 134 (.bin .eql (.t 133) (aQ 0)) 132,and 135 132 134,m 136 135,dp 137 15 136,bZ 138 (.bin .eql (.t 137) (aQ 0)) 136,and 139 136 138,m 140 139,dp 141 17 140,bZ 142 (.bin .eql (.t 141) (aQ 0)) 140,and 143 140 142,m 144 143,dp 145 19 144,bZ 146 (.bin .eql (.t 145) (aQ 0)) 144,and 147 144 146,m 148 147,dp 149 20 148,bZ 150 (.bin .eql (.t 149) (aQ 0)) 148,and 151 148 150,m 152 151,dp 153 22 152,bZ 154 (.bin .eql (.t 153) (aQ 0)) 152,and 155 152 154,m 156 155,dp 157 23 156,bZ 158 (.bin .eql (.t 157) (aQ 0)) 156,and 159 156 158,m 160 159,dp 161 25 160,bZ 162 (.bin .eql (.t 161) (aQ 0)) 160,and 163 160 162,m 26 163]
def Tl:=[m 164 26,m 165 164,bZ 166 (.ld (some 4) (.t 7)) 165,bZ 167 (.bld [.int .i64 0,.int .i64 0,.int .i64 0,.bool false] [(0,(aQ 1)),(1,(aQ 1)),(2,(aQ 7))]) 165,bZ 168 (.eqv (.bh [(.i .i64),(.i .i64),(.i .i64),.b]) false (.t 166) (.t 167)) 165,and 169 165 168,m 170 169,dp 171 9 170,bZ 172 (.len (.t 171)) 170,bZ 173 (.bin .eql (.t 172) (aQ 0)) 170,and 174 170 173,m 175 174,dp 176 11 175,bZ 177 (.bin .eql (.t 176) (.c (.bm ⟨#[112,111,117,110,100,32,48,32,49,10,112,111,117,110,100,32,55,10,115,101,110,100,32,55,32,49,32,49,10]⟩))) 175,and 178 175 177,m 179 178,dp 180 14 179,bZ 181 (.ld (some 5) (.t 16)) 179,bZ 182 (.bs 39 5 [.t 181]) 179,bZ 183 (.call 17 [.t 180,.t 182]) 179,and 184 179 183,m 185 184,dp 186 18 185,bZ 187 (.bs 3 1 [(aQ 1)]) 185,bZ 188 (.call 41 [.t 186,.t 187]) 185,and 189 185 188,m 190 189,dp 191 21 190,bZ 192 (.bld [.int .i64 0,.int .i64 0,.int .i64 0,.int .i64 0,.int .i64 0] [(0,(aQ 2)),(1,(aQ 1)),(3,(aQ 7)),(4,(aQ 1))]) 190,bZ 193 (.bs 39 5 [.t 192]) 190,bZ 194 (.call 17 [.t 191,.t 193]) 190,and 195 190 194,m 196 195,dp 197 24 196,bZ 198 (.len (.t 197)) 196,bZ 199 (.bin .eql (.t 198) (aQ 0)) 196,and 200 196 199,m 0 200]
def Bc:bx:=(s (r Tb) (s (r Tc) (s (r Tm) (s (r Tn) (s (r Tp) (s (r Tq) (s (r Tr) (s (r Ts) (s (r Tt) (s (r Tu) (s (r Td) (s (r Te) (s (r Tf) (s (r Tg) (s (r Th) (s (r Ti) (s (r Tj) (s (r Tk) (s (r Tl) .ret)))))))))))))))))))
def Gk:List bQ:=[.tmp 0]
theorem L7:cC Tryz.prog Tryz.f18 Bc:=e (by kernel_rfl)
theorem Nu:cA Tryz.prog Tryz.f18 Gk:=e (by kernel_rfl)
theorem KZ:cq Tryz.prog 18:=e (by kernel_rfl)
def Tv:=[o 2 (.alloc (.agg [.int .i64 0,.nils 4,.int .i64 0])),bN 3 0]
def Tw:=[m 4 0,o 5 (.call 61 [.t 4]),no 6 5]
def Tx:=[o 7 (.bld [.int .i64 0,.nils 4,.int .i64 0] []),p (.bh (some 3) (.t 2) (.t 7)),bN 3 90]
def Ty:=[m 8 0,o 9 (.bld [.int .i64 0,.nils 4,.int .i64 0] [(0,(.t 8))]),p (.bh (some 3) (.t 2) (.t 9)),bN 3 0]
def Bd:bx:=(s (r Tv) (s (s (r Tw) (.cond (.t 6) (s (r Tx) .ret) .skip)) (s (r Ty) .ret)))
def Gl:List bQ:=[.cell 2 (some 3),.tmp 3]
theorem L8:cC Tryz.prog Tryz.f19 Bd:=e (by kernel_rfl)
theorem Nv:cA Tryz.prog Tryz.f19 Gl:=e (by kernel_rfl)
theorem K0:cq Tryz.prog 19:=e (by kernel_rfl)
def Tz:=[b 1 0,bN 2 0]
def TA:=[f 3 0 0 1,l 4 3]
def TG:=[o 6 (.bin .eql (.t 4) (aQ 1)),m 5 6]
def TH:=[o 7 (.bin .eql (.t 4) (aQ 2)),m 5 7]
def TI:=[f 8 1 1 1,l 9 8,o 10 (.call 67 [.t 9]),m 11 10,eg 12 2 2 1 11,dV 13 12 11,bZ 14 (.bin .eql (.t 13) (aQ 0)) 11,and 15 11 14,m 16 15,eg 17 3 3 1 16,dV 18 17 16,bZ 19 (.bin .eql (.t 18) (aQ 0)) 16,and 20 16 19]
def TJ:=[bN 2 0]
def TK:=[o 22 (.bin .eql (.t 4) (aQ 3)),m 21 22]
def TL:=[o 23 (.bin .eql (.t 4) (aQ 4)),m 21 23]
def TM:=[o 24 (.bin .eql (.t 4) (aQ 5)),m 21 24]
def TN:=[o 25 (.bin .eql (.t 4) (aQ 6)),m 21 25]
def TB:=[o 26 (.bin .eql (.t 4) (aQ 7)),m 21 26]
def TC:=[o 27 (.bin .eql (.t 4) (aQ 8)),m 21 27]
def TD:=[f 28 1 1 1,l 29 28,o 30 (.call 67 [.t 29]),m 31 30,eg 32 2 2 1 31,dV 33 32 31,bZ 34 (.call 64 [.t 33]) 31,and 35 31 34,m 36 35,eg 37 3 3 1 36,dV 38 37 36,bZ 39 (.call 68 [.t 38,(aQ 1),(aQ 200)]) 36,and 40 36 39]
def TE:=[bN 2 0]
def TF:=[bN 2 1]
def Be:bx:=(s (r Tz) (s (s (r TA) (.block 0 (s (s (r TG) (.cond (.t 5) .skip (r TH))) (.cond (.t 5) (s (r TI) (.cond (.t 20) (s (r TJ) .ret) .skip)) (s (s (r TK) (.cond (.t 21) .skip (s (r TL) (.cond (.t 21) .skip (s (r TM) (.cond (.t 21) .skip (s (r TN) (.cond (.t 21) .skip (s (r TB) (.cond (.t 21) .skip (r TC))))))))))) (.cond (.t 21) (s (r TD) (.cond (.t 40) (s (r TE) .ret) .skip)) .skip)))))) (s (r TF) .ret)))
def Gm:List bQ:=[.tmp 2]
theorem L9:cC Tryz.prog Tryz.f22 Be:=e (by kernel_rfl)
theorem Nw:cA Tryz.prog Tryz.f22 Gm:=e (by kernel_rfl)
theorem K1:cq Tryz.prog 22:=e (by kernel_rfl)
def TO:=[b 1 0,bN 2 0]
def TP:=[L 6 3 1,o 7 (.call 69 [.t 6]),m 5 7,o 8 (.ext (.t 5) 0),o 9 (.ext (.t 5) 1),m 3 8,m 4 9]
def TQ:=[m 10 4,m 2 10]
def Bf:bx:=(s (r TO) (s (r TP) (s (r TQ) .ret)))
def Gn:List bQ:=[.tmp 2]
theorem Ma:cC Tryz.prog Tryz.f23 Bf:=e (by kernel_rfl)
theorem Nx:cA Tryz.prog Tryz.f23 Gn:=e (by kernel_rfl)
theorem K2:cq Tryz.prog 23:=e (by kernel_rfl)
def TR:=[b 1 0,bN 2 0]
def TS:=[f 5 0 0 1,l 6 5,o 7 (.call 64 [.t 6]),no 8 7,m 9 8,fn 10 1 1 1 9,da 11 10 9,on 12 (.len (.t 11)) 9,on 13 (.bin .gtr (.t 12) (aQ 200)) 9,or 14 9 13,m 15 14,fn 16 2 2 1 15,da 17 16 15,fn 18 1 1 1 15,da 19 18 15,on 20 (.len (.t 19)) 15,on 21 (.call 68 [.t 17,(aQ 0),.t 20]) 15,on 22 (.un .not (.t 21)) 15,or 23 15 22]
def TT:=[bN 2 91]
def TU:=[L 25 3 1,f 26 1 1 1,l 27 26,o 28 (.len (.t 27)),o 29 (.call 65 [.t 25,.t 28]),m 24 29,o 30 (.ext (.t 24) 0),o 31 (.ext (.t 24) 1),o 3 (.alloc (.agg [.int .i64 0,.nils 1,.int .i64 0,.nils 4,.nils 4])),p (.bh (some 5) (.t 3) (.t 30)),m 4 31]
def TV:=[m 32 4,no 33 32]
def TW:=[bN 2 91]
def TX:=[bN 2 0]
def Bg:bx:=(s (r TR) (s (s (r TS) (.cond (.t 23) (s (r TT) .ret) .skip)) (s (s (r TU) (s (r TV) (.cond (.t 33) (s (r TW) .ret) .skip))) (s (r TX) .ret))))
def Gp:List bQ:=[.tmp 2]
theorem Mb:cC Tryz.prog Tryz.f24 Bg:=e (by kernel_rfl)
theorem Ny:cA Tryz.prog Tryz.f24 Gp:=e (by kernel_rfl)
theorem K3:cq Tryz.prog 24:=e (by kernel_rfl)
def TY:=[b 2 0,o 4 (.alloc (.agg [.int .i64 0,.nils 4,.int .i64 0])),bN 5 0]
def TZ:=[L 9 3 2,o 10 (.call 69 [.t 9]),m 8 10,o 11 (.ext (.t 8) 0),o 12 (.ext (.t 8) 1),m 6 11,m 7 12]
def T0:=[m 14 7,o 15 (.bin .neq (.t 14) (aQ 0)),m 13 15]
def T1:=[o 16 (.bld [.int .i64 0,.nils 4,.int .i64 0] []),m 17 7,p (.bh (some 3) (.t 4) (.t 16)),m 5 17]
def T2:=[m 19 1,o 20 (.call 71 [.t 19]),no 21 20,m 18 21]
def T3:=[o 22 (.bld [.int .i64 0,.nils 4,.int .i64 0] []),p (.bh (some 3) (.t 4) (.t 22)),bN 5 1]
def T4:=[m 24 6,o 25 (.nilC (.t 24)),f 26 1 1 25,l 27 26,m 28 1,o 29 (.lk (.i .i64) (.bool false) false (.t 27) (.t 28)),m 30 29,eQ 31 6 30,eQ 32 1 30,on 33 (.call 72 [.t 31,.t 32]) 30,or 34 30 33,m 23 34]
def T5:=[o 35 (.bld [.int .i64 0,.nils 4,.int .i64 0] []),p (.bh (some 3) (.t 4) (.t 35)),bN 5 92]
def T6:=[L 36 3 2,m 37 1,o 38 (.bld [.int .i64 0,.int .i64 0,.int .i64 0,.int .i64 0] [(0,(aQ 1)),(1,(.t 37))]),o 39 (.call 73 [.t 36,.t 38]),o 40 (.ext (.t 39) 0),o 41 (.ext (.t 39) 1),p (.bh (some 3) (.t 4) (.t 40)),m 5 41]
def Bh:bx:=(s (r TY) (s (r TZ) (s (.block 0 (s (r T0) (.cond (.t 13) (s (r T1) .ret) (s (r T2) (.cond (.t 18) (s (r T3) .ret) (s (r T4) (.cond (.t 23) (s (r T5) .ret) .skip))))))) (s (r T6) .ret))))
def Gq:List bQ:=[.cell 4 (some 3),.tmp 5]
theorem Mc:cC Tryz.prog Tryz.f27 Bh:=e (by kernel_rfl)
theorem Nz:cA Tryz.prog Tryz.f27 Gq:=e (by kernel_rfl)
theorem K4:cq Tryz.prog 27:=e (by kernel_rfl)
def T7:=[b 3 0,o 6 (.alloc (.agg [.int .i64 0,.nils 4,.int .i64 0])),o 7 (.alloc (.agg [.int .i64 0,.int .i64 0,.int .i64 0,.bool false])),bN 8 0]
def T8:=[L 13 3 3,o 14 (.call 69 [.t 13]),m 12 14,o 15 (.ext (.t 12) 0),o 16 (.ext (.t 12) 1),m 9 15,m 10 16]
def Ud:=[m 18 10,o 19 (.bin .neq (.t 18) (aQ 0)),m 17 19]
def Ue:=[o 20 (.bld [.int .i64 0,.nils 4,.int .i64 0] []),o 21 (.bld [.int .i64 0,.int .i64 0,.int .i64 0,.bool false] []),m 22 10,p (.bh (some 3) (.t 6) (.t 20)),p (.bh (some 4) (.t 7) (.t 21)),m 8 22]
def Uf:=[m 24 1,o 25 (.call 71 [.t 24]),no 26 25,m 23 26]
def Ug:=[o 27 (.bld [.int .i64 0,.nils 4,.int .i64 0] []),o 28 (.bld [.int .i64 0,.int .i64 0,.int .i64 0,.bool false] []),p (.bh (some 3) (.t 6) (.t 27)),p (.bh (some 4) (.t 7) (.t 28)),bN 8 1]
def Uh:=[m 30 2,o 31 (.call 61 [.t 30]),no 32 31,m 33 32,eQ 34 2 33,fn 35 0 0 3 33,da 36 35 33,on 37 (.bin .eql (.t 34) (.t 36)) 33,or 38 33 37,m 29 38]
def Ui:=[o 39 (.bld [.int .i64 0,.nils 4,.int .i64 0] []),o 40 (.bld [.int .i64 0,.int .i64 0,.int .i64 0,.bool false] []),p (.bh (some 3) (.t 6) (.t 39)),p (.bh (some 4) (.t 7) (.t 40)),bN 8 90]
def Uj:=[m 42 9,o 43 (.nilC (.t 42)),f 44 1 1 43,l 45 44,m 46 1,o 47 (.lk (.i .i64) (.bool false) false (.t 45) (.t 46)),no 48 47,m 41 48]
def Uk:=[o 49 (.bld [.int .i64 0,.nils 4,.int .i64 0] []),o 50 (.bld [.int .i64 0,.int .i64 0,.int .i64 0,.bool false] []),p (.bh (some 3) (.t 6) (.t 49)),p (.bh (some 4) (.t 7) (.t 50)),bN 8 93]
def T9:=[m 51 9,o 52 (.nilC (.t 51)),f 53 3 3 52,l 54 53,ad 55 54 1,m 56 2,m 57 1,o 58 (.bld [.int .i64 0,.int .i64 0,.int .i64 0,.bool false] [(0,(.t 55)),(1,(.t 56)),(2,(.t 57))]),o 11 (.alloc (.agg [.int .i64 0,.int .i64 0,.int .i64 0,.bool false])),p (.bh (some 4) (.t 11) (.t 58))]
def Ua:=[L 60 3 3,m 61 1,m 62 2,f 63 0 0 11,l 64 63,o 65 (.bld [.int .i64 0,.int .i64 0,.int .i64 0,.int .i64 0] [(0,(aQ 3)),(1,(.t 61)),(2,(.t 62)),(3,(.t 64))]),o 66 (.call 73 [.t 60,.t 65]),m 59 66,o 67 (.ext (.t 59) 0),o 68 (.ext (.t 59) 1),p (.bh (some 3) (.t 3) (.t 67)),m 10 68]
def Ub:=[m 69 10,o 70 (.bin .neq (.t 69) (aQ 0))]
def Uc:=[o 71 (.bld [.int .i64 0,.nils 4,.int .i64 0] []),o 72 (.bld [.int .i64 0,.int .i64 0,.int .i64 0,.bool false] []),m 73 10,p (.bh (some 3) (.t 6) (.t 71)),p (.bh (some 4) (.t 7) (.t 72)),m 8 73]
def xD:=[L 74 3 3,L 75 4 11,p (.bh (some 3) (.t 6) (.t 74)),p (.bh (some 4) (.t 7) (.t 75)),bN 8 0]
def OI:=some [[],[],[0,0],[1,2,0,1,2],[3,0,1,2,3]] -- DRAW BAD
def Bi:bx:=(s (r T7) (s (r T8) (s (.block 0 (s (r Ud) (.cond (.t 17) (s (r Ue) .ret) (s (r Uf) (.cond (.t 23) (s (r Ug) .ret) (s (r Uh) (.cond (.t 29) (s (r Ui) .ret) (s (r Uj) (.cond (.t 41) (s (r Uk) .ret) .skip))))))))) (s (r T9) (s (r Ua) (s (s (r Ub) (.cond (.t 70) (s (r Uc) .ret) .skip)) (s (.cg OI xD) .ret)))))))
def Gr:List bQ:=[.cell 6 (some 3),.cell 7 (some 4),.tmp 8]
theorem Md:cC Tryz.prog Tryz.f31 Bi:=e (by kernel_rfl)
theorem NA:cA Tryz.prog Tryz.f31 Gr:=e (by kernel_rfl)
theorem K5:cq Tryz.prog 31:=e (by kernel_rfl)
def Ul:=[b 2 0,b 3 1,o 4 (.alloc (.agg [.int .i64 0,.nils 4,.int .i64 0])),bN 5 0]
def Um:=[L 10 3 2,o 11 (.call 69 [.t 10]),m 9 11,o 12 (.ext (.t 9) 0),o 13 (.ext (.t 9) 1),m 6 12,m 7 13]
def Un:=[m 15 7,o 16 (.bin .neq (.t 15) (aQ 0)),m 14 16]
def Uo:=[o 17 (.bld [.int .i64 0,.nils 4,.int .i64 0] []),m 18 7,p (.bh (some 3) (.t 4) (.t 17)),m 5 18]
def Up:=[L 20 5 3,o 21 (.call 70 [.t 20]),no 22 21,m 23 22,fn 24 2 2 3 23,da 25 24 23,fn 26 0 0 2 23,da 27 26 23,on 28 (.bin .neq (.t 25) (.t 27)) 23,or 29 23 28,m 19 29]
def Uq:=[o 30 (.bld [.int .i64 0,.nils 4,.int .i64 0] []),p (.bh (some 3) (.t 4) (.t 30)),bN 5 95]
def Ur:=[f 31 0 0 3,l 32 31,o 33 (.call 80 [.t 32]),f 34 3 3 3,l 35 34,f 36 1 1 3,l 37 36,f 38 4 4 3,l 39 38,o 40 (.bld [.int .i64 0,.int .i64 0,.int .i64 0,.int .i64 0] [(0,(.t 33)),(1,(.t 35)),(2,(.t 37)),(3,(.t 39))]),o 8 (.alloc (.agg [.int .i64 0,.int .i64 0,.int .i64 0,.int .i64 0])),p (.bh (some 4) (.t 8) (.t 40))]
def OJ:=some [[],[0],[1],[],[3],[],[5],[],[7],[2,4,6,8],[],[10,9,2,0,1,2,3,4,5,6,7,8,9,10]]
def Us:=[m 41 6,L 42 4 8,o 43 (.call 81 [.t 41,.t 42]),no 44 43]
def Ut:=[L 45 3 2,o 46 (.call 57 [.t 45]),p (.bh (some 3) (.t 4) (.t 46)),bN 5 0]
def Uu:=[L 47 3 2,L 48 4 8,o 49 (.call 73 [.t 47,.t 48]),o 50 (.ext (.t 49) 0),o 51 (.ext (.t 49) 1),p (.bh (some 3) (.t 4) (.t 50)),m 5 51]
def Bj:bx:=(s (r Ul) (s (r Um) (s (.block 0 (s (r Un) (.cond (.t 14) (s (r Uo) .ret) (s (r Up) (.cond (.t 19) (s (r Uq) .ret) .skip))))) (s (.cg OJ Ur) (s (s (r Us) (.cond (.t 44) (s (r Ut) .ret) .skip)) (s (r Uu) .ret))))))
def Gs:List bQ:=[.cell 4 (some 3),.tmp 5]
theorem Me:cC Tryz.prog Tryz.f35 Bj:=e (by kernel_rfl)
theorem NB:cA Tryz.prog Tryz.f35 Gs:=e (by kernel_rfl)
theorem K6:cq Tryz.prog 35:=e (by kernel_rfl)
def Uv:=[o 4 (.mv (.c (.nils 1))),bN 5 0]
def Uw:=[m 12 0,m 13 1,o 14 (.call 83 [.t 12,.t 13]),m 11 14,o 15 (.ext (.t 11) 0),o 16 (.ext (.t 11) 1),m 6 15,m 7 16]
def Ux:=[o 8 (.mv (.c (.nils 1)))]
def Uy:=[m 17 6,o 18 (.len (.t 17)),bN 19 0]
def Uz:=[lt 20 19 18]
def UA:=[o 21 (.is 1 (.t 17) (.t 19)),l 22 21,m 10 22]
def UB:=[m 23 10,o 24 (.nilC (.t 23)),f 25 1 1 24,l 26 25,m 27 1,o 28 (.lk (.i .i64) (.bool false) false (.t 26) (.t 27))]
def UC:=[m 29 8,m 30 10,o 31 (.nilC (.t 30)),f 32 0 0 31,l 33 32,o 34 (.bs 3 1 [.t 33]),o 35 (.dk 3 1 8 (.int .i64 0) (.t 29) (.t 34)),m 8 35]
def UD:=[ad 36 19 1,m 19 36]
def UE:=[m 37 8,m 38 7,m 4 37,m 5 38]
def c37:bx:=(s (r Uv) (s (r Uw) (s (r Ux) (s (s (r Uy) (.block 0 (.loop (s (r Uz) (s (.cond (.t 20) .skip (.exit 0)) (s (.block 1 (s (r UA) (s (r UB) (.cond (.t 28) (r UC) .skip)))) (r UD))))))) (s (r UE) .ret)))))
def Gt:List bQ:=[.tmp 4,.tmp 5]
theorem Mf:cC Tryz.prog Tryz.f37 c37:=e (by kernel_rfl)
theorem NC:cA Tryz.prog Tryz.f37 Gt:=e (by kernel_rfl)
theorem K7:cq Tryz.prog 37:=e (by kernel_rfl)
def UF:=[o 4 (.mv bB)]
def UG:=[m 6 0,o 7 (.len (.t 6)),m 8 1,o 9 (.len (.t 8)),o 10 (.bin .neq (.t 7) (.t 9))]
def UH:=[o 4 (.mv bB)]
def UI:=[m 11 0,o 12 (.len (.t 11)),bN 13 0]
def UJ:=[lt 14 13 12]
def UK:=[m 15 13,m 5 15]
def UL:=[m 16 0,m 17 5,o 18 (.is 1 (.t 16) (.t 17)),l 19 18,m 20 1,m 21 5,o 22 (.is 1 (.t 20) (.t 21)),l 23 22,o 24 (.bin .neq (.t 19) (.t 23))]
def OK:=some [[],[],[0,1],[2],[],[],[4,5],[6],[3,7]]
def UM:=[o 4 (.mv bB)]
def UN:=[ad 25 13 1,m 13 25]
def UO:=[o 4 (.mv T)]
def Bk:bx:=(s (r UF) (s (s (r UG) (.cond (.t 10) (s (r UH) .ret) .skip)) (s (s (r UI) (.block 0 (.loop (s (r UJ) (s (.cond (.t 14) .skip (.exit 0)) (s (.block 1 (s (r UK) (s (.cg OK UL) (.cond (.t 24) (s (r UM) .ret) .skip)))) (r UN))))))) (s (r UO) .ret))))
def Gu:List bQ:=[.tmp 4]
theorem Mg:cC Tryz.prog Tryz.f41 Bk:=e (by kernel_rfl)
theorem ND:cA Tryz.prog Tryz.f41 Gu:=e (by kernel_rfl)
theorem K8:cq Tryz.prog 41:=e (by kernel_rfl)
def UP:=[b 1 0,o 2 (.mv (.c (.nils 4))),bN 3 0]
def UQ:=[L 10 3 1,o 11 (.call 69 [.t 10]),m 9 11,o 12 (.ext (.t 9) 0),o 13 (.ext (.t 9) 1),m 4 12,m 5 13]
def US:=[m 14 5,o 15 (.bin .neq (.t 14) (aQ 0))]
def UT:=[m 16 5,o 2 (.mv (.c (.nils 4))),m 3 16]
def UU:=[o 6 (.mv (.c (.nils 4)))]
def UW:=[m 17 4,o 18 (.call 85 [.t 17]),o 19 (.len (.t 18)),bN 20 0]
def UX:=[lt 21 20 19]
def UY:=[o 22 (.is 1 (.t 18) (.t 20)),l 23 22,m 8 23]
def UZ:=[m 24 6,m 25 4,o 26 (.nilC (.t 25)),f 27 2 2 26,l 28 27,m 29 8,o 30 (.lk (.i .i64) (.nilp) false (.t 28) (.t 29)),o 31 (.nilC (.t 30)),L 32 4 31,o 33 (.bs 48 4 [.t 32]),o 34 (.dk 48 4 32 (.agg [.int .i64 0,.int .i64 0,.int .i64 0,.bool false]) (.t 24) (.t 33)),m 6 34]
def U0:=[ad 35 20 1,m 20 35]
def UR:=[m 36 6,m 2 36,bN 3 0]
def c46:bx:=(s (r UP) (s (r UQ) (s (s (r US) (.cond (.t 15) (s (r UT) .ret) .skip)) (s (r UU) (s (s (r UW) (.block 0 (.loop (s (r UX) (s (.cond (.t 21) .skip (.exit 0)) (s (.block 1 (s (r UY) (r UZ))) (r U0))))))) (s (r UR) .ret))))))
def Gv:List bQ:=[.tmp 2,.tmp 3]
theorem Mh:cC Tryz.prog Tryz.f46 c46:=e (by kernel_rfl)
theorem NF:cA Tryz.prog Tryz.f46 Gv:=e (by kernel_rfl)
theorem K9:cq Tryz.prog 46:=e (by kernel_rfl)
def U1:=[o 4 (.mv bB)]
def U2:=[m 6 0,o 7 (.len (.t 6)),m 8 1,o 9 (.len (.t 8)),o 10 (.bin .neq (.t 7) (.t 9))]
def U3:=[o 4 (.mv bB)]
def U4:=[m 11 0,o 12 (.len (.t 11)),bN 13 0]
def U5:=[lt 14 13 12]
def U6:=[m 15 13,m 5 15]
def U7:=[m 16 0,m 17 5,o 18 (.is 4 (.t 16) (.t 17)),L 19 4 18,m 20 1,m 21 5,o 22 (.is 4 (.t 20) (.t 21)),L 23 4 22,o 24 (.eqv (.bh [(.i .i64),(.i .i64),(.i .i64),(.i .i64)]) true (.t 19) (.t 23))]
def OL:=some [[],[],[0,1],[2],[],[],[4,5],[6],[3,7]]
def U8:=[o 4 (.mv bB)]
def U9:=[ad 25 13 1,m 13 25]
def Va:=[o 4 (.mv T)]
def Bl:bx:=(s (r U1) (s (s (r U2) (.cond (.t 10) (s (r U3) .ret) .skip)) (s (s (r U4) (.block 0 (.loop (s (r U5) (s (.cond (.t 14) .skip (.exit 0)) (s (.block 1 (s (r U6) (s (.cg OL U7) (.cond (.t 24) (s (r U8) .ret) .skip)))) (r U9))))))) (s (r Va) .ret))))
def Gw:List bQ:=[.tmp 4]
theorem Mi:cC Tryz.prog Tryz.f52 Bl:=e (by kernel_rfl)
theorem NG:cA Tryz.prog Tryz.f52 Gw:=e (by kernel_rfl)
theorem La:cq Tryz.prog 52:=e (by kernel_rfl)
def Vb:=[b 1 0,o 2 (.mv (.c (.bm ⟨#[]⟩))),bN 3 0]
def Vc:=[L 8 3 1,o 9 (.call 23 [.t 8]),m 4 9]
def Vg:=[m 10 4,o 11 (.bin .neq (.t 10) (aQ 0))]
def Vh:=[m 12 4,o 2 (.mv (.c (.bm ⟨#[]⟩))),m 3 12]
def Vi:=[f 13 0 0 1,l 14 13,f 15 2 2 1,l 16 15,o 17 (.bs 3 1 [.t 14,.t 16]),o 18 (.call 93 [(.c (.bm ⟨#[112,111,117,110,100]⟩)),.t 17]),m 5 18]
def Vj:=[f 19 1 1 1,l 20 19,o 21 (.len (.t 20)),bN 22 0]
def Vk:=[lt 23 22 21]
def Vl:=[o 24 (.is 4 (.t 20) (.t 22)),L 25 4 24,o 7 (.alloc (.agg [.int .i64 0,.int .i64 0,.int .i64 0,.int .i64 0])),p (.bh (some 4) (.t 7) (.t 25))]
def Vm:=[f 26 0 0 7,l 27 26,o 28 (.bin .leq (.t 27) (aQ 2))]
def Vn:=[m 29 5,o 30 (.call 94 []),f 31 0 0 7,l 32 31,o 33 (.is 1 (.t 30) (.t 32)),l 34 33,f 35 1 1 7,l 36 35,o 37 (.bs 3 1 [.t 36]),o 38 (.call 93 [.t 34,.t 37]),o 39 (.bin .add (.t 29) (.t 38)),m 5 39]
def ON:=some [[],[],[],[2],[1,3],[4],[],[6],[7],[5,8,1],[0,9],[10,9,0,1,2,3,4,5,6,7,8,9,10]]
def Vd:=[m 40 5,o 41 (.call 94 []),f 42 0 0 7,l 43 42,o 44 (.is 1 (.t 41) (.t 43)),l 45 44,f 46 1 1 7,l 47 46,f 48 2 2 7,l 49 48,f 50 3 3 7,l 51 50,o 52 (.bs 3 1 [.t 47,.t 49,.t 51]),o 53 (.call 93 [.t 45,.t 52]),o 54 (.bin .add (.t 40) (.t 53)),m 5 54]
def OM:=some [[],[],[],[2],[1,3],[4],[],[6],[],[8],[],[10],[7,9,11],[5,12,1],[0,13],[14,13,0,1,2,3,4,5,6,7,8,9,10,11,12,13,14]]
def Ve:=[ad 55 22 1,m 22 55]
def Vf:=[m 56 5,m 2 56,bN 3 0]
def c53:bx:=(s (r Vb) (s (s (r Vc) (s (r Vg) (.cond (.t 11) (s (r Vh) .ret) .skip))) (s (r Vi) (s (s (r Vj) (.block 0 (.loop (s (r Vk) (s (.cond (.t 23) .skip (.exit 0)) (s (.block 1 (s (r Vl) (s (r Vm) (.cond (.t 28) (.cg ON Vn) (.cg OM Vd))))) (r Ve))))))) (s (r Vf) .ret)))))
def Gx:List bQ:=[.tmp 2,.tmp 3]
theorem Mj:cC Tryz.prog Tryz.f53 c53:=e (by kernel_rfl)
theorem NH:cA Tryz.prog Tryz.f53 Gx:=e (by kernel_rfl)
theorem Lb:cq Tryz.prog 53:=e (by kernel_rfl)
def Vo:=[b 1 0,o 2 (.mv (.c (.bm ⟨#[]⟩))),bN 3 0]
def Vp:=[L 8 3 1,o 9 (.call 24 [.t 8]),m 4 9]
def Vr:=[m 10 4,o 11 (.bin .neq (.t 10) (aQ 0))]
def Vs:=[m 12 4,o 2 (.mv (.c (.bm ⟨#[]⟩))),m 3 12]
def Vt:=[f 13 0 0 1,l 14 13,f 15 2 2 1,l 16 15,o 17 (.bs 3 1 [.t 14,.t 16]),o 18 (.call 95 [(.c (.bm ⟨#[112,111,117,110,100]⟩)),.t 17]),m 5 18]
def Vu:=[f 19 1 1 1,l 20 19,o 21 (.len (.t 20)),bN 22 0]
def Vv:=[lt 23 22 21]
def Vw:=[o 24 (.is 4 (.t 20) (.t 22)),L 25 4 24,o 7 (.alloc (.agg [.int .i64 0,.int .i64 0,.int .i64 0,.int .i64 0])),p (.bh (some 4) (.t 7) (.t 25))]
def Vx:=[m 26 5,L 27 4 7,o 28 (.call 96 [.t 27]),o 29 (.bin .add (.t 26) (.t 28)),m 5 29]
def Vy:=[ad 30 22 1,m 22 30]
def Vq:=[m 31 5,m 2 31,bN 3 0]
def Bm:bx:=(s (r Vo) (s (s (r Vp) (s (r Vr) (.cond (.t 11) (s (r Vs) .ret) .skip))) (s (r Vt) (s (s (r Vu) (.block 0 (.loop (s (r Vv) (s (.cond (.t 23) .skip (.exit 0)) (s (.block 1 (s (r Vw) (r Vx))) (r Vy))))))) (s (r Vq) .ret)))))
def Gy:List bQ:=[.tmp 2,.tmp 3]
theorem Mk:cC Tryz.prog Tryz.f54 Bm:=e (by kernel_rfl)
theorem NI:cA Tryz.prog Tryz.f54 Gy:=e (by kernel_rfl)
theorem Lc:cq Tryz.prog 54:=e (by kernel_rfl)
def Dj:=[o 2 (.alloc (.agg [.int .i64 0,.nils 4,.int .i64 0])),bN 3 0,bN 4 0]
def Dk:=[m 16 0,o 17 (.lenT (.t 16)),o 18 (.bin .gtr (.t 17) (aQ 8000))]
def Dl:=[o 19 (.bld [.int .i64 0,.nils 4,.int .i64 0] []),p (.bh (some 3) (.t 2) (.t 19)),bN 3 0,bN 4 2]
def Dm:=[o 5 (.alloc (.agg [.int .i64 0,.nils 4,.int .i64 0]))]
def Dn:=[m 20 0,o 21 (.call 97 [.t 20,(.c (.bm ⟨#[10]⟩))]),m 6 21]
def Dp:=[m 22 6,o 23 (.len (.t 22)),o 24 (.bin .gtr (.t 23) (aQ 1)),m 25 24,dp 26 6 25,dp 27 6 25,bZ 28 (.len (.t 27)) 25,bZ 29 (.bin .sub (.t 28) (aQ 1)) 25,bZ 30 (.is 1 (.t 26) (.t 29)) 25,dV 31 30 25,bZ 32 (.bin .eql (.t 31) (.c (.bm ⟨#[]⟩))) 25,and 33 25 32]
def Dq:=[m 34 6,m 35 6,o 36 (.len (.t 35)),o 37 (.bin .sub (.t 36) (aQ 1)),o 38 (.sl 1 (.t 34) none (some (.t 37)) none),m 6 38]
def VT:=[m 39 6,o 40 (.len (.t 39)),bN 41 0]
def VU:=[lt 42 41 40]
def VV:=[m 43 41,o 44 (.is 1 (.t 39) (.t 41)),l 45 44,m 7 43,m 8 45]
def Vz:=[m 47 8,o 48 (.call 98 [.t 47,(.c (.bm ⟨#[10]⟩))]),m 46 48,o 49 (.ext (.t 46) 0),o 50 (.ext (.t 46) 1),m 9 49,m 10 50]
def VA:=[m 51 9,o 52 (.call 99 [.t 51,(.c (.bm ⟨#[32]⟩))]),m 11 52]
def VB:=[o 53 (.call 94 []),m 54 11,o 55 (.is 1 (.t 54) (aQ 0)),l 56 55,o 57 (.call 100 [.t 53,.t 56]),m 12 57]
def OO:=some [[],[],[1],[2],[0,3,0],[4,4,0,1,2,3,4]]
def VC:=[bN 13 3]
def VD:=[m 58 7,o 59 (.bin .eql (.t 58) (aQ 0))]
def VE:=[bN 13 2]
def VF:=[m 60 12,o 61 (.bin .leq (.t 60) (aQ 2))]
def VG:=[bN 13 1]
def VH:=[m 63 11,m 64 13,o 65 (.call 101 [.t 63,.t 64]),m 62 65,o 66 (.ext (.t 62) 0),o 67 (.ext (.t 62) 1),m 14 66,m 15 67]
def VI:=[m 68 10,no 69 68,m 70 69,eQ 71 15 70,on 72 (.un .not (.t 71)) 70,or 73 70 72,m 74 73,eQ 75 12 74,on 76 (.bin .leq (.t 75) (aQ 0)) 74,or 77 74 76,m 78 77,eQ 79 7 78,on 80 (.bin .eql (.t 79) (aQ 0)) 78,eQ 81 80 78,dp 82 12 81,bZ 83 (.bin .neq (.t 82) (aQ 1)) 81,on 84 (.pick (.t 81) (.t 83) bB) 78,or 85 78 84]
def VJ:=[o 86 (.bld [.int .i64 0,.nils 4,.int .i64 0] []),m 87 7,ad 88 87 1,p (.bh (some 3) (.t 2) (.t 86)),m 3 88,bN 4 5]
def VK:=[m 89 13]
def VL:=[o 107 (.bin .eql (.t 89) (aQ 2)),m 106 107]
def xE:=[m 108 14,o 109 (.is 1 (.t 108) (aQ 0)),l 110 109,m 111 14,o 112 (.is 1 (.t 111) (aQ 1)),l 113 112,f 114 0 0 5,p (.bh none (.t 114) (.t 110)),f 115 2 2 5,p (.bh none (.t 115) (.t 113))]
def OP:=some [[],[0],[1],[],[3],[4],[0,1,2],[6,2,0,1,2],[0,1,2,3,4,5,6,7],[8,5,7,0,1,2,3,4,5,6,7]] -- DRAW BAD
def VM:=[o 117 (.bin .eql (.t 89) (aQ 1)),m 116 117]
def VN:=[f 118 1 1 5,l 119 118,m 120 12,m 121 14,o 122 (.is 1 (.t 121) (aQ 0)),l 123 122,o 124 (.bld [.int .i64 0,.int .i64 0,.int .i64 0,.int .i64 0] [(0,(.t 120)),(1,(.t 123))]),o 125 (.bs 37 4 [.t 124]),o 126 (.dk 37 4 32 (.agg [.int .i64 0,.int .i64 0,.int .i64 0,.int .i64 0]) (.t 119) (.t 125)),f 127 1 1 5,p (.bh none (.t 127) (.t 126))]
def OQ:=some [[],[0],[],[],[3],[4],[2,5],[6],[1,7],[0,1,2,3,4,5,6,7,8],[9,8,8,0,1,2,3,4,5,6,7,8]]
def VO:=[f 90 1 1 5,l 91 90,m 92 12,m 93 14,o 94 (.is 1 (.t 93) (aQ 0)),l 95 94,m 96 14,o 97 (.is 1 (.t 96) (aQ 1)),l 98 97,m 99 14,o 100 (.is 1 (.t 99) (aQ 2)),l 101 100,o 102 (.bld [.int .i64 0,.int .i64 0,.int .i64 0,.int .i64 0] [(0,(.t 92)),(1,(.t 95)),(2,(.t 98)),(3,(.t 101))]),o 103 (.bs 37 4 [.t 102]),o 104 (.dk 37 4 32 (.agg [.int .i64 0,.int .i64 0,.int .i64 0,.int .i64 0]) (.t 91) (.t 103)),f 105 1 1 5,p (.bh none (.t 105) (.t 104))]
def OR:=some [[],[0],[],[],[3],[4],[],[6],[7],[],[9],[10],[2,5,8,11],[12],[1,13],[0,1,2,3,4,5,6,7,8,9,10,11,12,13,14],[15,14,14,0,1,2,3,4,5,6,7,8,9,10,11,12,13,14]]
def VP:=[ad 128 41 1,m 41 128]
def VQ:=[L 129 3 5,o 130 (.call 23 [.t 129]),o 131 (.bin .neq (.t 130) (aQ 0))]
def VR:=[o 132 (.bld [.int .i64 0,.nils 4,.int .i64 0] []),p (.bh (some 3) (.t 2) (.t 132)),bN 3 0,bN 4 91]
def VS:=[L 133 3 5,p (.bh (some 3) (.t 2) (.t 133)),bN 3 0,bN 4 0]
def Bn:bx:=(s (r Dj) (s (s (r Dk) (.cond (.t 18) (s (r Dl) .ret) .skip)) (s (r Dm) (s (r Dn) (s (s (r Dp) (.cond (.t 33) (r Dq) .skip)) (s (s (r VT) (.block 0 (.loop (s (r VU) (s (.cond (.t 42) .skip (.exit 0)) (s (.block 1 (s (r VV) (s (r Vz) (s (r VA) (s (.cg OO VB) (s (r VC) (s (s (r VD) (.cond (.t 59) (r VE) (s (r VF) (.cond (.t 61) (r VG) .skip)))) (s (r VH) (s (s (r VI) (.cond (.t 85) (s (r VJ) .ret) .skip)) (s (r VK) (.block 2 (s (r VL) (.cond (.t 106) (.cg OP xE) (s (r VM) (.cond (.t 116) (.cg OQ VN) (.cg OR VO)))))))))))))))) (r VP))))))) (s (s (r VQ) (.cond (.t 131) (s (r VR) .ret) .skip)) (s (r VS) .ret))))))))
def Gz:List bQ:=[.cell 2 (some 3),.tmp 3,.tmp 4]
theorem Ml:cC Tryz.prog Tryz.f55 Bn:=e (by kernel_rfl)
theorem NJ:cA Tryz.prog Tryz.f55 Gz:=e (by kernel_rfl)
theorem Ld:cq Tryz.prog 55:=e (by kernel_rfl)
def VW:=[o 2 (.alloc (.agg [.int .i64 0,.nils 4,.int .i64 0])),bN 3 0,bN 4 0]
def VX:=[m 15 0,o 16 (.lenT (.t 15)),o 17 (.bin .gtr (.t 16) (aQ 8000))]
def V8:=[o 18 (.bld [.int .i64 0,.nils 4,.int .i64 0] []),p (.bh (some 3) (.t 2) (.t 18)),bN 3 0,bN 4 2]
def Wi:=[o 5 (.alloc (.agg [.int .i64 0,.nils 4,.int .i64 0]))]
def Wj:=[bN 6 0]
def Wk:=[bN 7 0]
def Wl:=[bN 8 0]
def Wm:=[m 19 8,m 20 0,o 21 (.lenT (.t 20)),lt 22 19 21]
def Wn:=[m 25 0,m 26 8,o 27 (.prim .eZ [.t 25,.t 26]),o 28 (.bin .neq (.t 27) (.c (.int .u8 10)))]
def Wo:=[m 29 0,m 30 6,m 31 8,o 32 (.prim (.ss true true) [.t 29,.t 30,.t 31]),m 9 32]
def VY:=[m 33 8,ad 34 33 1,m 6 34]
def VZ:=[m 35 7,ad 36 35 1,m 7 36]
def V0:=[m 37 7,o 38 (.bin .eql (.t 37) (aQ 1))]
def V1:=[m 39 9,o 40 (.call 102 [.t 39]),m 10 40]
def V2:=[m 42 10,o 43 (.sl 1 (.t 42) (some (aQ 1)) none none),o 44 (.call 103 [.t 43]),m 41 44,o 45 (.ext (.t 41) 0),o 46 (.ext (.t 41) 1),m 11 45,m 12 46]
def V3:=[m 47 10,o 48 (.is 1 (.t 47) (aQ 0)),l 49 48,o 50 (.bin .neq (.t 49) (.c (.bm ⟨#[112,111,117,110,100]⟩))),m 51 50,eQ 52 12 51,on 53 (.un .not (.t 52)) 51,or 54 51 53,m 55 54,eQ 56 11 55,on 57 (.len (.t 56)) 55,on 58 (.bin .neq (.t 57) (aQ 2)) 55,or 59 55 58]
def V4:=[o 60 (.bld [.int .i64 0,.nils 4,.int .i64 0] []),p (.bh (some 3) (.t 2) (.t 60)),bN 3 1,bN 4 5]
def V5:=[m 61 11,o 62 (.is 1 (.t 61) (aQ 0)),l 63 62,f 64 0 0 5,p (.bh none (.t 64) (.t 63))]
def V6:=[m 65 11,o 66 (.is 1 (.t 65) (aQ 1)),l 67 66,f 68 2 2 5,p (.bh none (.t 68) (.t 67))]
def V7:=[m 70 9,o 71 (.call 104 [.t 70]),m 69 71,o 72 (.ext (.t 69) 0),o 73 (.ext (.t 69) 1),o 13 (.alloc (.agg [.int .i64 0,.int .i64 0,.int .i64 0,.int .i64 0])),p (.bh (some 4) (.t 13) (.t 72)),m 14 73]
def V9:=[m 74 14,no 75 74]
def Wa:=[o 76 (.bld [.int .i64 0,.nils 4,.int .i64 0] []),m 77 7,p (.bh (some 3) (.t 2) (.t 76)),m 3 77,bN 4 5]
def Wb:=[f 78 1 1 5,l 79 78,L 80 4 13,o 81 (.bs 37 4 [.t 80]),o 82 (.dk 37 4 32 (.agg [.int .i64 0,.int .i64 0,.int .i64 0,.int .i64 0]) (.t 79) (.t 81)),f 83 1 1 5,p (.bh none (.t 83) (.t 82))]
def Wc:=[m 23 8,ad 24 23 1,m 8 24]
def Wd:=[m 84 6,m 85 0,o 86 (.lenT (.t 85)),lt 87 84 86,m 88 87,eQ 89 7 88,on 90 (.bin .eql (.t 89) (aQ 0)) 88,or 91 88 90]
def We:=[o 92 (.bld [.int .i64 0,.nils 4,.int .i64 0] []),m 93 7,ad 94 93 1,p (.bh (some 3) (.t 2) (.t 92)),m 3 94,bN 4 5]
def Wf:=[L 95 3 5,o 96 (.call 24 [.t 95]),o 97 (.bin .neq (.t 96) (aQ 0))]
def Wg:=[o 98 (.bld [.int .i64 0,.nils 4,.int .i64 0] []),p (.bh (some 3) (.t 2) (.t 98)),bN 3 0,bN 4 91]
def Wh:=[L 99 3 5,p (.bh (some 3) (.t 2) (.t 99)),bN 3 0,bN 4 0]
def Bo:bx:=(s (r VW) (s (s (r VX) (.cond (.t 17) (s (r V8) .ret) .skip)) (s (r Wi) (s (r Wj) (s (r Wk) (s (s (r Wl) (.block 0 (.loop (s (s (r Wm) (.cond (.t 22) .skip (.exit 0))) (s (.block 1 (s (s (r Wn) (.cond (.t 28) (.exit 1) .skip)) (s (r Wo) (s (r VY) (s (r VZ) (s (s (r V0) (.cond (.t 38) (s (r V1) (s (r V2) (s (s (r V3) (.cond (.t 59) (s (r V4) .ret) .skip)) (s (r V5) (s (r V6) (.exit 1)))))) .skip)) (s (r V7) (s (s (r V9) (.cond (.t 75) (s (r Wa) .ret) .skip)) (r Wb))))))))) (r Wc)))))) (s (s (r Wd) (.cond (.t 91) (s (r We) .ret) .skip)) (s (s (r Wf) (.cond (.t 97) (s (r Wg) .ret) .skip)) (s (r Wh) .ret)))))))))
def GA:List bQ:=[.cell 2 (some 3),.tmp 3,.tmp 4]
theorem Mm:cC Tryz.prog Tryz.f56 Bo:=e (by kernel_rfl)
theorem NK:cA Tryz.prog Tryz.f56 GA:=e (by kernel_rfl)
theorem Le:cq Tryz.prog 56:=e (by kernel_rfl)
def Wp:=[b 1 0,o 2 (.alloc (.agg [.int .i64 0,.nils 4,.int .i64 0]))]
def Wq:=[f 3 1 1 1,l 4 3,o 5 (.call 59 [.t 4]),f 6 1 1 1,p (.bh none (.t 6) (.t 5))]
def Wr:=[L 7 3 1,p (.bh (some 3) (.t 2) (.t 7))]
def wC:bx:=(s (r Wp) (s (r Wq) (s (r Wr) .ret)))
def yX:List bQ:=[.cell 2 (some 3)]
theorem Cj:cC Tryz.prog Tryz.f57 wC:=e (by kernel_rfl)
theorem Ct:cA Tryz.prog Tryz.f57 yX:=e (by kernel_rfl)
theorem BZ:cq Tryz.prog 57:=e (by kernel_rfl)
def xF:=[o 2 (.mv (.c (.nils 4)))]
def rv:=[m 3 0,o 4 (.nilS false (.t 3))]
def xG:=[o 2 (.mv (.c (.nils 4)))]
def ry:=[o 5 (.bs0 4),m 6 0,o 7 (.dk 37 4 32 (.agg [.int .i64 0,.int .i64 0,.int .i64 0,.int .i64 0]) (.t 5) (.t 6)),m 2 7]
def wD:bx:=(s (r xF) (s (s (r rv) (.cond (.t 4) (s (r xG) .ret) .skip)) (s (r ry) .ret)))
def yY:List bQ:=[.tmp 2]
theorem Ck:cC Tryz.prog Tryz.f59 wD:=e (by kernel_rfl)
theorem Cu:cA Tryz.prog Tryz.f59 yY:=e (by kernel_rfl)
theorem B1:cq Tryz.prog 59:=e (by kernel_rfl)
def Ws:=[o 2 (.mv bB)]
def Wt:=[m 3 0,o 4 (.call 105 [.t 3,(aQ 0),(aQ 5)]),m 2 4]
def Bp:bx:=(s (r Ws) (s (r Wt) .ret))
def GB:List bQ:=[.tmp 2]
theorem Mn:cC Tryz.prog Tryz.f61 Bp:=e (by kernel_rfl)
theorem NL:cA Tryz.prog Tryz.f61 GB:=e (by kernel_rfl)
theorem Lf:cq Tryz.prog 61:=e (by kernel_rfl)
def Wu:=[o 4 (.mv (.c (.nilp))),o 5 (.mv bB)]
def Wv:=[m 9 0,o 10 (.call 106 [.t 9]),m 6 10]
def Ww:=[m 11 1,o 12 (.len (.t 11)),bN 13 0]
def Wx:=[lt 14 13 12]
def Wy:=[o 15 (.is 4 (.t 11) (.t 13)),L 16 4 15,o 8 (.alloc (.agg [.int .i64 0,.int .i64 0,.int .i64 0,.int .i64 0])),p (.bh (some 4) (.t 8) (.t 16))]
def Wz:=[m 17 6,L 18 4 8,o 19 (.call 81 [.t 17,.t 18]),no 20 19]
def WA:=[o 4 (.mv (.c (.nilp))),o 5 (.mv bB)]
def WB:=[ad 21 13 1,m 13 21]
def WC:=[m 22 6,m 4 22,o 5 (.mv T)]
def wE:bx:=(s (r Wu) (s (r Wv) (s (s (r Ww) (.block 0 (.loop (s (r Wx) (s (.cond (.t 14) .skip (.exit 0)) (s (.block 1 (s (r Wy) (s (r Wz) (.cond (.t 20) (s (r WA) .ret) .skip)))) (r WB))))))) (s (r WC) .ret))))
def yZ:List bQ:=[.tmp 4,.tmp 5]
theorem Cl:cC Tryz.prog Tryz.f62 wE:=e (by kernel_rfl)
theorem Cv:cA Tryz.prog Tryz.f62 yZ:=e (by kernel_rfl)
theorem B3:cq Tryz.prog 62:=e (by kernel_rfl)
def WD:=[b 2 0,b 3 1,o 4 (.mv (.c (.dK)))]
def WE:=[o 5 (.mk 107 [.t 2,.t 3]),m 4 5]
def Bq:bx:=(s (r WD) (s (r WE) .ret))
def GC:List bQ:=[.tmp 4]
theorem Mo:cC Tryz.prog Tryz.f63 Bq:=e (by kernel_rfl)
theorem NM:cA Tryz.prog Tryz.f63 GC:=e (by kernel_rfl)
theorem Lg:cq Tryz.prog 63:=e (by kernel_rfl)
def WG:=[o 2 (.mv bB)]
def WH:=[m 3 0,o 4 (.call 68 [.t 3,(aQ 0),(aQ 5)]),m 2 4]
def Br:bx:=(s (r WG) (s (r WH) .ret))
def GD:List bQ:=[.tmp 2]
theorem Mp:cC Tryz.prog Tryz.f64 Br:=e (by kernel_rfl)
theorem NN:cA Tryz.prog Tryz.f64 GD:=e (by kernel_rfl)
theorem Lh:cq Tryz.prog 64:=e (by kernel_rfl)
def WI:=[b 2 0,o 4 (.alloc (.agg [.int .i64 0,.nils 1,.int .i64 0,.nils 4,.nils 4])),o 5 (.mv bB)]
def WJ:=[f 10 0 0 2,l 11 10,o 12 (.bld [.int .i64 0,.nils 1,.int .i64 0,.nils 4,.nils 4] [(0,(.t 11))]),o 6 (.alloc (.agg [.int .i64 0,.nils 1,.int .i64 0,.nils 4,.nils 4])),p (.bh (some 5) (.t 6) (.t 12))]
def WM:=[bN 7 0]
def WN:=[m 13 7,m 14 1,lt 15 13 14]
def WO:=[f 18 1 1 2,l 19 18,m 20 7,o 21 (.is 4 (.t 19) (.t 20)),L 22 4 21,o 23 (.call 22 [.t 22]),o 24 (.bin .neq (.t 23) (aQ 0))]
def WQ:=[L 25 5 6,p (.bh (some 5) (.t 4) (.t 25)),o 5 (.mv bB)]
def WR:=[L 27 5 6,f 28 1 1 2,l 29 28,m 30 7,o 31 (.is 4 (.t 29) (.t 30)),L 32 4 31,o 33 (.call 76 [.t 27,.t 32]),m 26 33,o 34 (.ext (.t 26) 0),o 35 (.ext (.t 26) 1),o 8 (.alloc (.agg [.int .i64 0,.nils 1,.int .i64 0,.nils 4,.nils 4])),p (.bh (some 5) (.t 8) (.t 34)),m 9 35]
def OS:=some [[],[],[1],[],[2,3],[4],[0,5],[6],[7],[7],[],[10,8,6,0,1,2,3,4,5,6,7,8,10],[9,11,0,1,2,3,4,5,6,7,8,9,10,11]]
def WS:=[m 36 9,no 37 36]
def WT:=[L 38 5 6,p (.bh (some 5) (.t 4) (.t 38)),o 5 (.mv bB)]
def WU:=[L 39 5 8,p (.bh (some 5) (.t 6) (.t 39))]
def WK:=[m 16 7,ad 17 16 1,m 7 17]
def WL:=[L 40 5 6,p (.bh (some 5) (.t 4) (.t 40)),o 5 (.mv T)]
def Bt:bx:=(s (r WI) (s (r WJ) (s (s (r WM) (.block 0 (.loop (s (s (r WN) (.cond (.t 15) .skip (.exit 0))) (s (.block 1 (s (s (r WO) (.cond (.t 24) (s (r WQ) .ret) .skip)) (s (.cg OS WR) (s (s (r WS) (.cond (.t 37) (s (r WT) .ret) .skip)) (r WU))))) (r WK)))))) (s (r WL) .ret))))
def GF:List bQ:=[.cell 4 (some 5),.tmp 5]
theorem Mq:cC Tryz.prog Tryz.f65 Bt:=e (by kernel_rfl)
theorem NO:cA Tryz.prog Tryz.f65 GF:=e (by kernel_rfl)
theorem Li:cq Tryz.prog 65:=e (by kernel_rfl)
def WV:=[b 1 0,o 2 (.mv bB)]
def WW:=[f 3 0 0 1,l 4 3]
def W2:=[o 6 (.bin .eql (.t 4) (aQ 1)),m 5 6]
def W3:=[o 7 (.bin .eql (.t 4) (aQ 2)),m 5 7]
def W4:=[f 8 1 1 1,l 9 8,o 10 (.call 71 [.t 9]),m 11 10,eg 12 2 2 1 11,dV 13 12 11,bZ 14 (.bin .eql (.t 13) (aQ 0)) 11,and 15 11 14,m 16 15,eg 17 3 3 1 16,dV 18 17 16,bZ 19 (.bin .eql (.t 18) (aQ 0)) 16,and 20 16 19,m 2 20]
def W5:=[o 22 (.bin .eql (.t 4) (aQ 3)),m 21 22]
def W6:=[o 23 (.bin .eql (.t 4) (aQ 4)),m 21 23]
def W7:=[o 24 (.bin .eql (.t 4) (aQ 5)),m 21 24]
def W8:=[o 25 (.bin .eql (.t 4) (aQ 6)),m 21 25]
def W9:=[o 26 (.bin .eql (.t 4) (aQ 7)),m 21 26]
def WX:=[o 27 (.bin .eql (.t 4) (aQ 8)),m 21 27]
def WY:=[f 28 1 1 1,l 29 28,o 30 (.call 71 [.t 29]),m 31 30,eg 32 2 2 1 31,dV 33 32 31,bZ 34 (.call 61 [.t 33]) 31,and 35 31 34,m 36 35,eg 37 3 3 1 36,dV 38 37 36,bZ 39 (.call 90 [.t 38]) 36,and 40 36 39,m 2 40]
def WZ:=[o 2 (.mv bB)]
def Bu:bx:=(s (r WV) (s (s (r WW) (.block 0 (s (s (r W2) (.cond (.t 5) .skip (r W3))) (.cond (.t 5) (s (r W4) .ret) (s (s (r W5) (.cond (.t 21) .skip (s (r W6) (.cond (.t 21) .skip (s (r W7) (.cond (.t 21) .skip (s (r W8) (.cond (.t 21) .skip (s (r W9) (.cond (.t 21) .skip (r WX))))))))))) (.cond (.t 21) (s (r WY) .ret) .skip)))))) (s (r WZ) .ret)))
def GG:List bQ:=[.tmp 2]
theorem Mr:cC Tryz.prog Tryz.f66 Bu:=e (by kernel_rfl)
theorem NP:cA Tryz.prog Tryz.f66 GG:=e (by kernel_rfl)
theorem Lj:cq Tryz.prog 66:=e (by kernel_rfl)
def Xa:=[o 2 (.mv bB)]
def Xb:=[m 3 0,o 4 (.call 68 [.t 3,(aQ 1),(aQ 9999)]),m 2 4]
def Bv:bx:=(s (r Xa) (s (r Xb) .ret))
def GH:List bQ:=[.tmp 2]
theorem Ms:cC Tryz.prog Tryz.f67 Bv:=e (by kernel_rfl)
theorem NQ:cA Tryz.prog Tryz.f67 GH:=e (by kernel_rfl)
theorem Lk:cq Tryz.prog 67:=e (by kernel_rfl)
def Xc:=[o 6 (.mv bB)]
def Xd:=[m 7 1,m 8 0,o 9 (.bin .leq (.t 7) (.t 8)),m 10 9,dp 11 0 10,dp 12 2 10,bZ 13 (.bin .leq (.t 11) (.t 12)) 10,and 14 10 13,m 6 14]
def Bw:bx:=(s (r Xc) (s (r Xd) .ret))
def GI:List bQ:=[.tmp 6]
theorem Mt:cC Tryz.prog Tryz.f68 Bw:=e (by kernel_rfl)
theorem NR:cA Tryz.prog Tryz.f68 GI:=e (by kernel_rfl)
theorem Ll:cq Tryz.prog 68:=e (by kernel_rfl)
def Xe:=[b 1 0,o 2 (.mv (.c (.nilp))),bN 3 0]
def Xf:=[f 6 0 0 1,l 7 6,o 8 (.call 61 [.t 7]),no 9 8,m 10 9,fn 11 1 1 1 10,da 12 11 10,on 13 (.len (.t 12)) 10,on 14 (.bin .gtr (.t 13) (aQ 200)) 10,or 15 10 14,m 16 15,fn 17 2 2 1 16,da 18 17 16,fn 19 1 1 1 16,da 20 19 16,on 21 (.len (.t 20)) 16,on 22 (.call 105 [.t 18,(aQ 0),.t 21]) 16,on 23 (.un .not (.t 22)) 16,or 24 16 23]
def Xg:=[o 2 (.mv (.c (.nilp))),bN 3 91]
def Xh:=[f 26 0 0 1,l 27 26,f 28 1 1 1,l 29 28,o 30 (.call 62 [.t 27,.t 29]),m 25 30,o 31 (.ext (.t 25) 0),o 32 (.ext (.t 25) 1),m 4 31,m 5 32]
def Xi:=[m 33 5,no 34 33]
def Xj:=[o 2 (.mv (.c (.nilp))),bN 3 91]
def Xk:=[m 35 4,m 2 35,bN 3 0]
def wF:bx:=(s (r Xe) (s (s (r Xf) (.cond (.t 24) (s (r Xg) .ret) .skip)) (s (r Xh) (s (s (r Xi) (.cond (.t 34) (s (r Xj) .ret) .skip)) (s (r Xk) .ret)))))
def y5:List bQ:=[.tmp 2,.tmp 3]
theorem Cm:cC Tryz.prog Tryz.f69 wF:=e (by kernel_rfl)
theorem Cw:cA Tryz.prog Tryz.f69 y5:=e (by kernel_rfl)
theorem B4:cq Tryz.prog 69:=e (by kernel_rfl)
def Xl:=[b 1 0,o 2 (.mv bB)]
def Xm:=[f 3 0 0 1,l 4 3,o 5 (.call 105 [.t 4,(aQ 1),(aQ 4)]),m 6 5,eg 7 1 1 1 6,dV 8 7 6,bZ 9 (.call 61 [.t 8]) 6,and 10 6 9,m 11 10,eg 12 2 2 1 11,dV 13 12 11,bZ 14 (.call 61 [.t 13]) 11,and 15 11 14,m 16 15,eg 17 1 1 1 16,dV 18 17 16,eg 19 2 2 1 16,dV 20 19 16,bZ 21 (.bin .neq (.t 18) (.t 20)) 16,and 22 16 21,m 23 22,eg 24 3 3 1 23,dV 25 24 23,bZ 26 (.call 71 [.t 25]) 23,and 27 23 26,m 28 27,eg 29 4 4 1 28,dV 30 29 28,bZ 31 (.call 90 [.t 30]) 28,and 32 28 31,m 2 32]
def Bx:bx:=(s (r Xl) (s (r Xm) .ret))
def GJ:List bQ:=[.tmp 2]
theorem Mu:cC Tryz.prog Tryz.f70 Bx:=e (by kernel_rfl)
theorem NS:cA Tryz.prog Tryz.f70 GJ:=e (by kernel_rfl)
theorem Lm:cq Tryz.prog 70:=e (by kernel_rfl)
def Xn:=[o 2 (.mv bB)]
def Xo:=[m 3 0,o 4 (.call 105 [.t 3,(aQ 1),(aQ 9999)]),m 2 4]
def By:bx:=(s (r Xn) (s (r Xo) .ret))
def GK:List bQ:=[.tmp 2]
theorem Mv:cC Tryz.prog Tryz.f71 By:=e (by kernel_rfl)
theorem NT:cA Tryz.prog Tryz.f71 GK:=e (by kernel_rfl)
theorem Ln:cq Tryz.prog 71:=e (by kernel_rfl)
def Dr:=[o 4 (.mv bB)]
def Ds:=[m 7 0,o 8 (.nilC (.t 7)),f 9 2 2 8,l 10 9,o 11 (.j9 (.t 10))]
def xH:=[o 12 (.iW (.t 11)),o 13 (.ext (.t 12) 0)]
def Xp:=[o 14 (.ent (.t 11)),o 15 (.ext (.t 14) 1),m 6 15]
def Xq:=[m 16 6,o 17 (.nilC (.t 16)),f 18 2 2 17,l 19 18,m 20 1,o 21 (.bin .eql (.t 19) (.t 20))]
def Xr:=[o 4 (.mv T)]
def Xs:=[o 4 (.mv bB)]
def Bz:bx:=(s (r Dr) (s (s (r Ds) (.block 0 (.loop (s (r xH) (s (.cond (.t 13) .skip (.exit 0)) (.block 1 (s (r Xp) (s (r Xq) (.cond (.t 21) (s (r Xr) .ret) .skip))))))))) (s (r Xs) .ret)))
def GL:List bQ:=[.tmp 4]
theorem Mw:cC Tryz.prog Tryz.f72 Bz:=e (by kernel_rfl)
theorem NU:cA Tryz.prog Tryz.f72 GL:=e (by kernel_rfl)
theorem Lo:cq Tryz.prog 72:=e (by kernel_rfl)
def Xt:=[b 2 0,b 3 1,o 4 (.alloc (.agg [.int .i64 0,.nils 4,.int .i64 0])),bN 5 0]
def Xu:=[f 6 1 1 2,l 7 6,o 8 (.len (.t 7)),o 9 (.bin .eql (.t 8) (aQ 200))]
def Xv:=[o 10 (.bld [.int .i64 0,.nils 4,.int .i64 0] []),p (.bh (some 3) (.t 4) (.t 10)),bN 5 2]
def Xw:=[L 11 3 2,o 12 (.call 57 [.t 11]),p (.bh (some 3) (.t 2) (.t 12))]
def Xx:=[f 13 1 1 2,l 14 13,L 15 4 3,o 16 (.bs 37 4 [.t 15]),o 17 (.dk 37 4 32 (.agg [.int .i64 0,.int .i64 0,.int .i64 0,.int .i64 0]) (.t 14) (.t 16)),f 18 1 1 2,p (.bh none (.t 18) (.t 17))]
def Xy:=[L 19 3 2,p (.bh (some 3) (.t 4) (.t 19)),bN 5 0]
def BA:bx:=(s (r Xt) (s (s (r Xu) (.cond (.t 9) (s (r Xv) .ret) .skip)) (s (r Xw) (s (r Xx) (s (r Xy) .ret)))))
def GM:List bQ:=[.cell 4 (some 3),.tmp 5]
theorem Mx:cC Tryz.prog Tryz.f73 BA:=e (by kernel_rfl)
theorem NV:cA Tryz.prog Tryz.f73 GM:=e (by kernel_rfl)
theorem Lp:cq Tryz.prog 73:=e (by kernel_rfl)
def Dt:=[b 2 0,b 3 1,o 4 (.alloc (.agg [.int .i64 0,.nils 1,.int .i64 0,.nils 4,.nils 4])),o 5 (.mv bB)]
def Du:=[f 9 1 1 2,l 10 9,f 11 1 1 3,l 12 11,o 13 (.call 78 [.t 10,.t 12]),m 6 13]
def Dv:=[L 14 5 2,f 15 3 3 3,l 16 15,o 17 (.call 79 [.t 14,.t 16]),m 7 17]
def Dw:=[m 18 7,o 19 (.bin .geq (.t 18) (aQ 0)),m 20 19,eg 21 3 3 2 20,dV 22 21 20,dp 23 7 20,bZ 24 (.max2 (.t 23) (aQ 0)) 20,bZ 25 (.is 4 (.t 22) (.t 24)) 20,eg 26 1 1 25 20,dV 27 26 20,eg 28 2 2 3 20,dV 29 28 20,bZ 30 (.bin .eql (.t 27) (.t 29)) 20,and 31 20 30,m 32 31,eg 33 3 3 2 32,dV 34 33 32,dp 35 7 32,bZ 36 (.max2 (.t 35) (aQ 0)) 32,bZ 37 (.is 4 (.t 34) (.t 36)) 32,eg 38 2 2 37 32,dV 39 38 32,eg 40 1 1 3 32,dV 41 40 32,bZ 42 (.bin .eql (.t 39) (.t 41)) 32,and 43 32 42,m 8 43]
def Cz:=some [[],[0],[1],[2],[3,2],[2],[5,2],[4,6,2],[7,2],[8,2],[2],[10,2],[9,11,2],[2,12],[13,2],[14],[15,14],[14],[17,14],[16,18,14],[19,14],[20,14],[14],[22,14],[21,23,14],[14,24],[25,14,0,1,2,3,4,5,6,7,8,9,10,11,12,13,14,15,16,17,18,19,20,21,22,23,24,25]]
def X2:=[f 44 0 0 3,l 45 44]
def X6:=[o 47 (.bin .eql (.t 45) (aQ 1)),m 46 47]
def X7:=[m 48 6,m 49 48,on 50 (.ld (some 5) (.t 2)) 49,fn 51 1 1 3 49,da 52 51 49,on 53 (.call 108 [.t 50,.t 52]) 49,or 54 49 53]
def X8:=[L 55 5 2,p (.bh (some 5) (.t 4) (.t 55)),o 5 (.mv bB)]
def X9:=[f 56 1 1 2,l 57 56,f 58 1 1 3,l 59 58,o 60 (.call 109 [.t 57,.t 59]),f 61 1 1 2,p (.bh none (.t 61) (.t 60))]
def Ya:=[L 62 5 2,p (.bh (some 5) (.t 4) (.t 62)),o 5 (.mv T)]
def Xz:=[o 64 (.bin .eql (.t 45) (aQ 2)),m 63 64]
def XA:=[f 65 1 1 2,l 66 65,f 67 1 1 3,l 68 67,o 69 (.call 110 [.t 66,.t 68]),f 70 1 1 2,p (.bh none (.t 70) (.t 69))]
def XB:=[L 71 5 2,m 72 6,p (.bh (some 5) (.t 4) (.t 71)),m 5 72]
def XC:=[o 74 (.bin .eql (.t 45) (aQ 3)),m 73 74]
def XD:=[m 75 6,no 76 75,m 77 76,fn 78 2 2 3 77,da 79 78 77,fn 80 0 0 2 77,da 81 80 77,on 82 (.bin .eql (.t 79) (.t 81)) 77,or 83 77 82,m 84 83,fn 85 3 3 3 84,da 86 85 84,fn 87 2 2 2 84,da 88 87 84,on 89 (.bin .add (.t 88) (aQ 1)) 84,on 90 (.bin .neq (.t 86) (.t 89)) 84,or 91 84 90]
def XE:=[L 92 5 2,p (.bh (some 5) (.t 4) (.t 92)),o 5 (.mv bB)]
def XF:=[f 93 1 1 2,l 94 93,f 95 1 1 3,l 96 95,o 97 (.call 110 [.t 94,.t 96]),f 98 1 1 2,p (.bh none (.t 98) (.t 97))]
def XG:=[f 99 3 3 3,l 100 99,f 101 2 2 2,p (.bh none (.t 101) (.t 100))]
def xI:=[o 102 (.bs0 4),f 103 3 3 2,l 104 103,o 105 (.dk 48 4 32 (.agg [.int .i64 0,.int .i64 0,.int .i64 0,.bool false]) (.t 102) (.t 104)),f 106 3 3 3,l 107 106,f 108 2 2 3,l 109 108,f 110 1 1 3,l 111 110,o 112 (.bld [.int .i64 0,.int .i64 0,.int .i64 0,.bool false] [(0,(.t 107)),(1,(.t 109)),(2,(.t 111))]),o 113 (.bs 48 4 [.t 112]),o 114 (.dk 48 4 32 (.agg [.int .i64 0,.int .i64 0,.int .i64 0,.bool false]) (.t 105) (.t 113)),f 115 3 3 2,p (.bh none (.t 115) (.t 114))]
def OT:=some [[],[],[1],[0,2],[],[4],[],[6],[],[8],[5,7,9],[10],[3,11,3],[0,1,2,3,4,5,6,7,8,9,10,11,12],[13,12,12,0,1,2,3,4,5,6,7,8,9,10,11,12]] -- DRAW BAD
def XH:=[L 116 5 2,p (.bh (some 5) (.t 4) (.t 116)),o 5 (.mv T)]
def XI:=[o 118 (.bin .eql (.t 45) (aQ 4)),m 117 118]
def XJ:=[m 119 8,no 120 119,m 121 120,fn 122 3 3 2 121,da 123 122 121,eQ 124 7 121,on 125 (.is 4 (.t 123) (.t 124)) 121,fn 126 3 3 125 121,da 127 126 121,or 128 121 127]
def XK:=[L 129 5 2,p (.bh (some 5) (.t 4) (.t 129)),o 5 (.mv bB)]
def XL:=[o 130 (.bs0 4),f 131 3 3 2,l 132 131,o 133 (.dk 48 4 32 (.agg [.int .i64 0,.int .i64 0,.int .i64 0,.bool false]) (.t 130) (.t 132)),f 134 3 3 2,p (.bh none (.t 134) (.t 133))]
def XM:=[f 135 3 3 2,l 136 135,m 137 7,o 138 (.is 4 (.t 136) (.t 137)),f 139 3 3 138,p (.bh none (.t 139) T)]
def XN:=[L 140 5 2,p (.bh (some 5) (.t 4) (.t 140)),o 5 (.mv T)]
def XO:=[o 142 (.bin .eql (.t 45) (aQ 5)),m 141 142]
def XP:=[m 143 8,no 144 143]
def XQ:=[L 145 5 2,p (.bh (some 5) (.t 4) (.t 145)),o 5 (.mv bB)]
def XR:=[L 146 5 2,m 147 7,o 148 (.call 111 [.t 146,.t 147]),p (.bh (some 5) (.t 4) (.t 148)),o 5 (.mv T)]
def XS:=[o 150 (.bin .eql (.t 45) (aQ 6)),m 149 150]
def XT:=[m 151 8,no 152 151,m 153 152,fn 154 3 3 2 153,da 155 154 153,eQ 156 7 153,on 157 (.is 4 (.t 155) (.t 156)) 153,fn 158 3 3 157 153,da 159 158 153,on 160 (.un .not (.t 159)) 153,or 161 153 160]
def XU:=[L 162 5 2,p (.bh (some 5) (.t 4) (.t 162)),o 5 (.mv bB)]
def XV:=[L 163 5 2,m 164 7,o 165 (.call 111 [.t 163,.t 164]),p (.bh (some 5) (.t 2) (.t 165))]
def XW:=[f 166 1 1 2,l 167 166,f 168 1 1 3,l 169 168,o 170 (.call 109 [.t 167,.t 169]),f 171 1 1 2,p (.bh none (.t 171) (.t 170))]
def XX:=[L 172 5 2,p (.bh (some 5) (.t 4) (.t 172)),o 5 (.mv T)]
def XY:=[f 173 2 2 3,l 174 173,f 175 0 0 2,l 176 175,o 177 (.bin .eql (.t 174) (.t 176)),m 178 177,on 179 (.ld (some 5) (.t 2)) 178,fn 180 2 2 3 178,da 181 180 178,fn 182 3 3 3 178,da 183 182 178,on 184 (.call 88 [.t 179,.t 181,.t 183]) 178,on 185 (.bin .neq (.t 184) (aQ 0)) 178,or 186 178 185]
def XZ:=[L 187 5 2,p (.bh (some 5) (.t 4) (.t 187)),o 5 (.mv bB)]
def X0:=[f 188 0 0 3,l 189 188,o 190 (.bin .eql (.t 189) (aQ 7))]
def X1:=[m 191 6,m 192 191,on 193 (.ld (some 5) (.t 2)) 192,fn 194 1 1 3 192,da 195 194 192,on 196 (.call 108 [.t 193,.t 195]) 192,or 197 192 196]
def X3:=[L 198 5 2,p (.bh (some 5) (.t 4) (.t 198)),o 5 (.mv bB)]
def X4:=[f 199 1 1 2,l 200 199,f 201 1 1 3,l 202 201,o 203 (.call 109 [.t 200,.t 202]),f 204 1 1 2,p (.bh none (.t 204) (.t 203))]
def X5:=[L 205 5 2,L 206 4 3,o 207 (.call 112 [.t 205,.t 206]),p (.bh (some 5) (.t 4) (.t 207)),o 5 (.mv T)]
def c76:bx:=(s (r Dt) (s (r Du) (s (r Dv) (s (.cg Cz Dw) (s (s (r X2) (.block 0 (s (r X6) (.cond (.t 46) (s (s (r X7) (.cond (.t 54) (s (r X8) .ret) .skip)) (s (r X9) (s (r Ya) .ret))) (s (r Xz) (.cond (.t 63) (s (r XA) (s (r XB) .ret)) (s (r XC) (.cond (.t 73) (s (s (r XD) (.cond (.t 91) (s (r XE) .ret) .skip)) (s (r XF) (s (r XG) (s (.cg OT xI) (s (r XH) .ret))))) (s (r XI) (.cond (.t 117) (s (s (r XJ) (.cond (.t 128) (s (r XK) .ret) .skip)) (s (r XL) (s (r XM) (s (r XN) .ret)))) (s (r XO) (.cond (.t 141) (s (s (r XP) (.cond (.t 144) (s (r XQ) .ret) .skip)) (s (r XR) .ret)) (s (r XS) (.cond (.t 149) (s (s (r XT) (.cond (.t 161) (s (r XU) .ret) .skip)) (s (r XV) (s (r XW) (s (r XX) .ret)))) .skip)))))))))))))) (s (s (r XY) (.cond (.t 186) (s (r XZ) .ret) .skip)) (s (s (r X0) (.cond (.t 190) (s (s (r X1) (.cond (.t 197) (s (r X3) .ret) .skip)) (r X4)) .skip)) (s (r X5) .ret))))))))
def mL:List bQ:=[.cell 4 (some 5),.tmp 5]
theorem nl:cC Tryz.prog Tryz.f76 c76:=e (by kernel_rfl)
theorem nm:cA Tryz.prog Tryz.f76 mL:=e (by kernel_rfl)
theorem nk:cq Tryz.prog 76:=e (by kernel_rfl)
def Yb:=[o 4 (.mv bB)]
def Yc:=[m 7 0,o 8 (.len (.t 7)),bN 9 0]
def Yd:=[lt 10 9 8]
def Ye:=[o 11 (.is 1 (.t 7) (.t 9)),l 12 11,m 6 12]
def Yf:=[m 13 6,m 14 1,o 15 (.bin .eql (.t 13) (.t 14))]
def Yg:=[o 4 (.mv T)]
def Yh:=[ad 16 9 1,m 9 16]
def Yi:=[o 4 (.mv bB)]
def BB:bx:=(s (r Yb) (s (s (r Yc) (.block 0 (.loop (s (r Yd) (s (.cond (.t 10) .skip (.exit 0)) (s (.block 1 (s (r Ye) (s (r Yf) (.cond (.t 15) (s (r Yg) .ret) .skip)))) (r Yh))))))) (s (r Yi) .ret)))
def GN:List bQ:=[.tmp 4]
theorem My:cC Tryz.prog Tryz.f78 BB:=e (by kernel_rfl)
theorem NW:cA Tryz.prog Tryz.f78 GN:=e (by kernel_rfl)
theorem Lq:cq Tryz.prog 78:=e (by kernel_rfl)
def Yj:=[b 2 0,bN 4 0]
def Yk:=[f 7 3 3 2,l 8 7,o 9 (.len (.t 8)),bN 10 0]
def Yl:=[lt 11 10 9]
def Ym:=[m 12 10,o 13 (.is 4 (.t 8) (.t 10)),L 14 4 13,o 6 (.alloc (.agg [.int .i64 0,.int .i64 0,.int .i64 0,.bool false])),m 5 12,p (.bh (some 4) (.t 6) (.t 14))]
def Yn:=[f 15 0 0 6,l 16 15,m 17 1,o 18 (.bin .eql (.t 16) (.t 17))]
def Yo:=[m 19 5,m 4 19]
def Yp:=[ad 20 10 1,m 10 20]
def Yq:=[bN 4 (-1)]
def BC:bx:=(s (r Yj) (s (s (r Yk) (.block 0 (.loop (s (r Yl) (s (.cond (.t 11) .skip (.exit 0)) (s (.block 1 (s (r Ym) (s (r Yn) (.cond (.t 18) (s (r Yo) .ret) .skip)))) (r Yp))))))) (s (r Yq) .ret)))
def GO:List bQ:=[.tmp 4]
theorem Mz:cC Tryz.prog Tryz.f79 BC:=e (by kernel_rfl)
theorem NX:cA Tryz.prog Tryz.f79 GO:=e (by kernel_rfl)
theorem Lr:cq Tryz.prog 79:=e (by kernel_rfl)
def Yr:=[bN 2 0]
def Ys:=[o 3 (.jo),p (.fj (.i .i64) (.t 3) (aQ 1) (aQ 7)),p (.fj (.i .i64) (.t 3) (aQ 2) (aQ 5)),p (.fj (.i .i64) (.t 3) (aQ 3) (aQ 8)),p (.fj (.i .i64) (.t 3) (aQ 4) (aQ 6)),m 4 3,m 5 0,o 6 (.lk (.i .i64) (.int .i64 0) false (.t 4) (.t 5)),m 2 6]
def c80:bx:=(s (r Yr) (s (r Ys) .ret))
def GP:List bQ:=[.tmp 2]
theorem MA:cC Tryz.prog Tryz.f80 c80:=e (by kernel_rfl)
theorem NY:cA Tryz.prog Tryz.f80 GP:=e (by kernel_rfl)
theorem Ls:cq Tryz.prog 80:=e (by kernel_rfl)
def Dy:=[b 3 1,o 4 (.alloc (.bool false))]
def Dz:=[L 6 4 3,o 7 (.call 66 [.t 6]),o 8 (.call 114 [.t 7])]
def rz:=[m 9 0,o 10 (.nilC (.t 9)),f 11 5 5 10,l 12 11,f 13 0 0 3,l 14 13,o 15 (.lk (.i .i64) (.dK) false (.t 12) (.t 14)),L 16 4 3,o 17 (.gi (.t 15) [.t 16])]
def OU:=some [[],[0],[1],[2],[],[4],[3,5],[],[6,7]]
def Yt:=[p (.bh none (.t 4) T)]
def ac3:List bQ:=[.cell 4 none]
theorem NZ:cA Tryz.prog Tryz.f81 ac3:=e (by kernel_rfl)
theorem Lt:cq Tryz.prog 81:=e (by kernel_rfl)
def Yu:=[o 4 (.mv (.c (.nils 1))),bN 5 0]
def Yv:=[o 6 (.mv (.c (.nils 1)))]
def Yz:=[m 11 0,o 12 (.len (.t 11)),bN 13 0]
def YA:=[lt 14 13 12]
def YB:=[m 15 13,o 16 (.is 3 (.t 11) (.t 13)),L 17 3 16,o 8 (.alloc (.agg [.int .i64 0,.nils 4,.int .i64 0])),m 7 15,p (.bh (some 3) (.t 8) (.t 17))]
def YC:=[L 19 3 8,o 20 (.call 69 [.t 19]),m 18 20,o 21 (.ext (.t 18) 0),o 22 (.ext (.t 18) 1),m 9 21,m 10 22]
def YD:=[m 23 10,o 24 (.bin .neq (.t 23) (aQ 0)),m 25 24,eQ 26 7 25,on 27 (.bin .gtr (.t 26) (aQ 0)) 25,eQ 28 27 25,dp 29 0 28,dp 30 7 28,bZ 31 (.bin .sub (.t 30) (aQ 1)) 28,bZ 32 (.is 3 (.t 29) (.t 31)) 28,eg 33 0 0 32 28,dV 34 33 28,eg 35 0 0 8 28,dV 36 35 28,bZ 37 (.bin .geq (.t 34) (.t 36)) 28,on 38 (.pick (.t 28) (.t 37) bB) 25,or 39 25 38]
def OV:=some [[],[0],[1],[2],[3,2],[4,2,2],[5],[5],[7,5],[6,8,5],[9,5],[10,5],[5],[12,5],[11,13,5],[5,14,2],[2,15]]
def YE:=[o 4 (.mv (.c (.nils 1))),bN 5 96]
def YF:=[m 40 6,m 41 9,o 42 (.bs 80 1 [.t 41]),o 43 (.dk 80 1 8 (.nilp) (.t 40) (.t 42)),m 6 43]
def YG:=[ad 44 13 1,m 13 44]
def Yw:=[m 45 1,o 46 (.call 71 [.t 45]),no 47 46]
def Yx:=[o 4 (.mv (.c (.nils 1))),bN 5 1]
def Yy:=[m 48 6,m 4 48,bN 5 0]
def BD:bx:=(s (r Yu) (s (r Yv) (s (s (r Yz) (.block 0 (.loop (s (r YA) (s (.cond (.t 14) .skip (.exit 0)) (s (.block 1 (s (r YB) (s (r YC) (s (s (.cg OV YD) (.cond (.t 39) (s (r YE) .ret) .skip)) (r YF))))) (r YG))))))) (s (s (r Yw) (.cond (.t 47) (s (r Yx) .ret) .skip)) (s (r Yy) .ret)))))
def GQ:List bQ:=[.tmp 4,.tmp 5]
theorem MB:cC Tryz.prog Tryz.f83 BD:=e (by kernel_rfl)
theorem N0:cA Tryz.prog Tryz.f83 GQ:=e (by kernel_rfl)
theorem Lu:cq Tryz.prog 83:=e (by kernel_rfl)
def DA:=[o 2 (.mv (.c (.nils 1)))]
def DB:=[o 3 (.mv (.c (.nils 1)))]
def DC:=[m 5 0,o 6 (.nilC (.t 5)),f 7 2 2 6,l 8 7,o 9 (.j9 (.t 8))]
def xJ:=[o 10 (.iW (.t 9)),o 11 (.ext (.t 10) 0)]
def YH:=[o 12 (.ent (.t 9)),o 13 (.ext (.t 12) 0),m 4 13]
def YI:=[m 14 3,m 15 4,o 16 (.bs 3 1 [.t 15]),o 17 (.dk 3 1 8 (.int .i64 0) (.t 14) (.t 16)),m 3 17]
def YJ:=[m 18 3,o 19 (.call 89 [.t 18])]
def YK:=[m 20 3,m 2 20]
def c85:bx:=(s (r DA) (s (r DB) (s (s (r DC) (.block 0 (.loop (s (r xJ) (s (.cond (.t 11) .skip (.exit 0)) (.block 1 (s (r YH) (r YI)))))))) (s (r YJ) (s (r YK) .ret)))))
def GR:List bQ:=[.tmp 2]
theorem MC:cC Tryz.prog Tryz.f85 c85:=e (by kernel_rfl)
theorem N1:cA Tryz.prog Tryz.f85 GR:=e (by kernel_rfl)
theorem Lv:cq Tryz.prog 85:=e (by kernel_rfl)
def YL:=[b 3 0,bN 6 0]
def YM:=[f 9 4 4 3,l 10 9,o 11 (.len (.t 10)),bN 12 0]
def YN:=[lt 13 12 11]
def YO:=[o 14 (.is 4 (.t 10) (.t 12)),L 15 4 14,o 8 (.alloc (.agg [.int .i64 0,.int .i64 0,.int .i64 0,.int .i64 0])),p (.bh (some 4) (.t 8) (.t 15))]
def YP:=[f 16 1 1 8,l 17 16,m 18 1,o 19 (.bin .eql (.t 17) (.t 18)),m 20 19,eg 21 2 2 8 20,dV 22 21 20,dp 23 2 20,bZ 24 (.bin .eql (.t 22) (.t 23)) 20,and 25 20 24]
def YQ:=[f 26 0 0 8,l 27 26,m 6 27]
def YR:=[ad 28 12 1,m 12 28]
def YS:=[bN 6 0]
def BE:bx:=(s (r YL) (s (s (r YM) (.block 0 (.loop (s (r YN) (s (.cond (.t 13) .skip (.exit 0)) (s (.block 1 (s (r YO) (s (r YP) (.cond (.t 25) (s (r YQ) .ret) .skip)))) (r YR))))))) (s (r YS) .ret)))
def GS:List bQ:=[.tmp 6]
theorem MD:cC Tryz.prog Tryz.f88 BE:=e (by kernel_rfl)
theorem N2:cA Tryz.prog Tryz.f88 GS:=e (by kernel_rfl)
theorem Lw:cq Tryz.prog 88:=e (by kernel_rfl)
theorem B5:cq Tryz.prog 89:=e (by kernel_rfl)
def YT:=[o 2 (.mv bB)]
def YU:=[m 3 0,o 4 (.call 105 [.t 3,(aQ 1),(aQ 200)]),m 2 4]
def BF:bx:=(s (r YT) (s (r YU) .ret))
def GV:List bQ:=[.tmp 2]
theorem MF:cC Tryz.prog Tryz.f90 BF:=e (by kernel_rfl)
theorem N4:cA Tryz.prog Tryz.f90 GV:=e (by kernel_rfl)
theorem Ly:cq Tryz.prog 90:=e (by kernel_rfl)
def DE:=[o 4 (.mv (.c (.bm ⟨#[]⟩)))]
def DF:=[m 7 1,o 8 (.len (.t 7)),bN 9 0]
def DG:=[lt 10 9 8]
def DH:=[o 11 (.is 1 (.t 7) (.t 9)),l 12 11,m 6 12]
def DI:=[m 13 0,m 14 6,o 15 (.call 119 [.t 14]),o 16 (.bin .add (.c (.bm ⟨#[32]⟩)) (.t 15)),o 17 (.bin .add (.t 13) (.t 16)),m 0 17]
def DJ:=[ad 18 9 1,m 9 18]
def DK:=[m 19 0,o 20 (.bin .add (.t 19) (.c (.bm ⟨#[10]⟩))),m 4 20]
def BG:bx:=(s (r DE) (s (s (r DF) (.block 0 (.loop (s (r DG) (s (.cond (.t 10) .skip (.exit 0)) (s (.block 1 (s (r DH) (r DI))) (r DJ))))))) (s (r DK) .ret)))
def GW:List bQ:=[.tmp 4]
theorem MG:cC Tryz.prog Tryz.f93 BG:=e (by kernel_rfl)
theorem N5:cA Tryz.prog Tryz.f93 GW:=e (by kernel_rfl)
theorem Lz:cq Tryz.prog 93:=e (by kernel_rfl)
def YV:=[o 0 (.mv (.c (.nils 1)))]
def YW:=[o 1 (.bs 9 1 [(.c (.bm ⟨#[]⟩)),(.c (.bm ⟨#[112,111,117,110,100]⟩)),(.c (.bm ⟨#[114,101,108,101,97,115,101]⟩)),(.c (.bm ⟨#[115,101,110,100]⟩)),(.c (.bm ⟨#[99,97,108,108]⟩)),(.c (.bm ⟨#[100,111,110,101]⟩)),(.c (.bm ⟨#[98,97,99,107]⟩)),(.c (.bm ⟨#[116,97,107,101]⟩)),(.c (.bm ⟨#[114,101,102,117,115,101]⟩))]),m 0 1]
def BH:bx:=(s (r YV) (s (r YW) .ret))
def GX:List bQ:=[.tmp 0]
theorem MH:cC Tryz.prog Tryz.f94 BH:=e (by kernel_rfl)
theorem N6:cA Tryz.prog Tryz.f94 GX:=e (by kernel_rfl)
theorem LA:cq Tryz.prog 94:=e (by kernel_rfl)
def DL:=[o 4 (.mv (.c (.bm ⟨#[]⟩)))]
def DM:=[m 7 1,o 8 (.len (.t 7)),bN 9 0]
def DN:=[lt 10 9 8]
def DO:=[o 11 (.is 1 (.t 7) (.t 9)),l 12 11,m 6 12]
def DP:=[m 13 0,o 14 (.bin .add (.t 13) (.c (.bm ⟨#[32]⟩))),m 15 6,o 16 (.call 120 [.t 15]),o 17 (.bin .add (.t 14) (.t 16)),m 0 17]
def DQ:=[ad 18 9 1,m 9 18]
def DR:=[m 19 0,o 20 (.bin .add (.t 19) (.c (.bm ⟨#[10]⟩))),m 4 20]
def BI:bx:=(s (r DL) (s (s (r DM) (.block 0 (.loop (s (r DN) (s (.cond (.t 10) .skip (.exit 0)) (s (.block 1 (s (r DO) (r DP))) (r DQ))))))) (s (r DR) .ret)))
def GY:List bQ:=[.tmp 4]
theorem MI:cC Tryz.prog Tryz.f95 BI:=e (by kernel_rfl)
theorem N7:cA Tryz.prog Tryz.f95 GY:=e (by kernel_rfl)
theorem LB:cq Tryz.prog 95:=e (by kernel_rfl)
def YX:=[b 1 0,o 2 (.mv (.c (.bm ⟨#[]⟩)))]
def YY:=[f 3 0 0 1,l 4 3,o 5 (.bin .eql (.t 4) (aQ 1)),m 6 5,fn 7 0 0 1 6,da 8 7 6,on 9 (.bin .eql (.t 8) (aQ 2)) 6,or 10 6 9]
def YZ:=[o 11 (.call 121 []),f 12 0 0 1,l 13 12,o 14 (.is 1 (.t 11) (.t 13)),l 15 14,f 16 1 1 1,l 17 16,o 18 (.bs 3 1 [.t 17]),o 19 (.call 95 [.t 15,.t 18]),m 2 19]
def OW:=some [[],[],[1],[0,2],[3],[],[5],[6],[4,7,0],[8,8,0,1,2,3,4,5,6,7,8]]
def Y0:=[o 20 (.call 121 []),f 21 0 0 1,l 22 21,o 23 (.is 1 (.t 20) (.t 22)),l 24 23,f 25 1 1 1,l 26 25,f 27 2 2 1,l 28 27,f 29 3 3 1,l 30 29,o 31 (.bs 3 1 [.t 26,.t 28,.t 30]),o 32 (.call 95 [.t 24,.t 31]),m 2 32]
def OX:=some [[],[],[1],[0,2],[3],[],[5],[],[7],[],[9],[6,8,10],[4,11,0],[12,12,0,1,2,3,4,5,6,7,8,9,10,11,12]]
def tr:bx:=(s (r YX) (s (s (r YY) (.cond (.t 10) (s (.cg OW YZ) .ret) .skip)) (s (.cg OX Y0) .ret)))
def uT:List bQ:=[.tmp 2]
theorem wI:cC Tryz.prog Tryz.f96 tr:=e (by kernel_rfl)
theorem wP:cA Tryz.prog Tryz.f96 uT:=e (by kernel_rfl)
theorem wG:cq Tryz.prog 96:=e (by kernel_rfl)
def Y1:=[o 4 (.mv (.c (.nils 1)))]
def Y2:=[m 5 0,m 6 1,m 7 1,o 8 (.lenT (.t 7)),o 9 (.call 122 [.t 5,.t 6,.t 8,(.c (.int .i64 (-1)))]),m 4 9]
def BJ:bx:=(s (r Y1) (s (r Y2) .ret))
def GZ:List bQ:=[.tmp 4]
theorem MJ:cC Tryz.prog Tryz.f97 BJ:=e (by kernel_rfl)
theorem N8:cA Tryz.prog Tryz.f97 GZ:=e (by kernel_rfl)
theorem LC:cq Tryz.prog 97:=e (by kernel_rfl)
theorem LD:cq Tryz.prog 98:=e (by kernel_rfl)
theorem LF:cq Tryz.prog 99:=e (by kernel_rfl)
def Qa:=[bN 4 0]
def Qb:=[m 6 0,o 7 (.len (.t 6)),bN 8 0]
def Qc:=[lt 9 8 7]
def Qd:=[m 10 8,m 5 10]
def Qe:=[m 11 1,m 12 0,m 13 5,o 14 (.is 1 (.t 12) (.t 13)),l 15 14,o 16 (.bin .eql (.t 11) (.t 15))]
def Qf:=[m 17 5,m 4 17]
def Qg:=[ad 18 8 1,m 8 18]
def Qh:=[bN 4 (-1)]
def AR:bx:=(s (r Qa) (s (s (r Qb) (.block 0 (.loop (s (r Qc) (s (.cond (.t 9) .skip (.exit 0)) (s (.block 1 (s (r Qd) (s (r Qe) (.cond (.t 16) (s (r Qf) .ret) .skip)))) (r Qg))))))) (s (r Qh) .ret)))
def FR:List bQ:=[.tmp 4]
theorem LN:cC Tryz.prog Tryz.f100 AR:=e (by kernel_rfl)
theorem MY:cA Tryz.prog Tryz.f100 FR:=e (by kernel_rfl)
theorem KF:cq Tryz.prog 100:=e (by kernel_rfl)
def Qi:=[o 4 (.mv (.c (.nils 1))),o 5 (.mv bB)]
def Qj:=[m 11 0,o 12 (.len (.t 11)),m 13 1,ad 14 13 1,o 15 (.bin .neq (.t 12) (.t 14))]
def Qn:=[o 4 (.mv (.c (.nils 1))),o 5 (.mv bB)]
def Qo:=[o 6 (.mv (.c (.nils 1)))]
def Qp:=[m 16 0,o 17 (.sl 1 (.t 16) (some (aQ 1)) none none),o 18 (.len (.t 17)),bN 19 0]
def Qq:=[lt 20 19 18]
def Qr:=[o 21 (.is 1 (.t 17) (.t 19)),l 22 21,m 8 22]
def Qs:=[m 24 8,o 25 (.call 124 [.t 24]),m 23 25,o 26 (.ext (.t 23) 0),o 27 (.ext (.t 23) 1),m 9 26,m 10 27]
def Qt:=[m 28 10,o 29 (.prim (.oI true) [.t 28]),m 30 29,eQ 31 9 30,on 32 (.bin .lss (.t 31) (aQ 0)) 30,or 33 30 32,m 34 33,eQ 35 8 34,on 36 (.lenT (.t 35)) 34,on 37 (.bin .gtr (.t 36) (aQ 5)) 34,or 38 34 37,m 39 38,eQ 40 9 39,on 41 (.call 119 [.t 40]) 39,eQ 42 8 39,on 43 (.bin .neq (.t 41) (.t 42)) 39,or 44 39 43]
def Qu:=[o 4 (.mv (.c (.nils 1))),o 5 (.mv bB)]
def Qk:=[m 45 6,m 46 9,o 47 (.bs 3 1 [.t 46]),o 48 (.dk 3 1 8 (.int .i64 0) (.t 45) (.t 47)),m 6 48]
def Ql:=[ad 49 19 1,m 19 49]
def Qm:=[m 50 6,m 4 50,o 5 (.mv T)]
def AS:bx:=(s (r Qi) (s (s (r Qj) (.cond (.t 15) (s (r Qn) .ret) .skip)) (s (r Qo) (s (s (r Qp) (.block 0 (.loop (s (r Qq) (s (.cond (.t 20) .skip (.exit 0)) (s (.block 1 (s (r Qr) (s (r Qs) (s (s (r Qt) (.cond (.t 44) (s (r Qu) .ret) .skip)) (r Qk))))) (r Ql))))))) (s (r Qm) .ret)))))
def FT:List bQ:=[.tmp 4,.tmp 5]
theorem LO:cC Tryz.prog Tryz.f101 AS:=e (by kernel_rfl)
theorem MZ:cA Tryz.prog Tryz.f101 FT:=e (by kernel_rfl)
theorem KG:cq Tryz.prog 101:=e (by kernel_rfl)
def Qv:=[o 2 (.mv (.c (.nils 1)))]
def Qw:=[o 3 (.mv (.c (.nils 1)))]
def Qx:=[bN 4 0]
def Qy:=[bN 5 0]
def Qz:=[m 6 5,m 7 0,o 8 (.lenT (.t 7)),o 9 (.bin .leq (.t 6) (.t 8))]
def QA:=[m 12 5,m 13 0,o 14 (.lenT (.t 13)),o 15 (.bin .eql (.t 12) (.t 14)),m 16 15,eQ 17 0 16,eQ 18 5 16,on 19 (.prim .eZ [.t 17,.t 18]) 16,on 20 (.bin .eql (.t 19) (.c (.int .u8 32))) 16,or 21 16 20]
def QB:=[m 22 3,m 23 0,m 24 4,m 25 5,o 26 (.prim (.ss true true) [.t 23,.t 24,.t 25]),o 27 (.bs 9 1 [.t 26]),o 28 (.dk 9 1 16 (.bm ⟨#[]⟩) (.t 22) (.t 27)),m 3 28]
def QC:=[m 29 5,ad 30 29 1,m 4 30]
def QD:=[m 10 5,ad 11 10 1,m 5 11]
def QE:=[m 31 3,m 2 31]
def AT:bx:=(s (r Qv) (s (r Qw) (s (r Qx) (s (s (r Qy) (.block 0 (.loop (s (s (r Qz) (.cond (.t 9) .skip (.exit 0))) (s (.block 1 (s (r QA) (.cond (.t 21) (s (r QB) (r QC)) .skip))) (r QD)))))) (s (r QE) .ret)))))
def FU:List bQ:=[.tmp 2]
theorem LP:cC Tryz.prog Tryz.f102 AT:=e (by kernel_rfl)
theorem M0:cA Tryz.prog Tryz.f102 FU:=e (by kernel_rfl)
theorem KH:cq Tryz.prog 102:=e (by kernel_rfl)
def QF:=[o 2 (.mv (.c (.nils 1))),o 3 (.mv bB)]
def QG:=[o 4 (.mv (.c (.nils 1)))]
def QO:=[m 9 0,o 10 (.len (.t 9)),bN 11 0]
def QP:=[lt 12 11 10]
def QR:=[o 13 (.is 1 (.t 9) (.t 11)),l 14 13,m 6 14]
def QS:=[m 15 6,o 16 (.bin .eql (.t 15) (.c (.bm ⟨#[]⟩))),m 17 16,eQ 18 6 17,on 19 (.lenT (.t 18)) 17,on 20 (.bin .gtr (.t 19) (aQ 5)) 17,or 21 17 20,m 22 21,eQ 23 6 22,on 24 (.prim .eZ [.t 23,(aQ 0)]) 22,on 25 (.bin .eql (.t 24) (.c (.int .u8 48))) 22,eQ 26 25 22,dp 27 6 26,bZ 28 (.lenT (.t 27)) 26,bZ 29 (.bin .gtr (.t 28) (aQ 1)) 26,on 30 (.pick (.t 26) (.t 29) bB) 22,or 31 22 30]
def QT:=[o 2 (.mv (.c (.nils 1))),o 3 (.mv bB)]
def QU:=[bN 7 0]
def QV:=[bN 8 0]
def QW:=[m 32 8,m 33 6,o 34 (.lenT (.t 33)),lt 35 32 34]
def QH:=[m 38 6,m 39 8,o 40 (.prim .eZ [.t 38,.t 39]),o 41 (.bin .lss (.t 40) (.c (.int .u8 48))),m 42 41,eQ 43 6 42,eQ 44 8 42,on 45 (.prim .eZ [.t 43,.t 44]) 42,on 46 (.bin .gtr (.t 45) (.c (.int .u8 57))) 42,or 47 42 46]
def QI:=[o 2 (.mv (.c (.nils 1))),o 3 (.mv bB)]
def QJ:=[m 48 7,o 49 (.bin .mul (aQ 10) (.t 48)),m 50 6,m 51 8,o 52 (.prim .eZ [.t 50,.t 51]),o 53 (.bin .sub (.t 52) (.c (.int .u8 48))),o 54 (.conv .i64 (.t 53)),o 55 (.bin .add (.t 49) (.t 54)),m 7 55]
def QK:=[m 36 8,ad 37 36 1,m 8 37]
def QL:=[m 56 4,m 57 7,o 58 (.bs 3 1 [.t 57]),o 59 (.dk 3 1 8 (.int .i64 0) (.t 56) (.t 58)),m 4 59]
def QM:=[ad 60 11 1,m 11 60]
def QN:=[m 61 4,m 2 61,o 3 (.mv T)]
def AU:bx:=(s (r QF) (s (r QG) (s (s (r QO) (.block 0 (.loop (s (r QP) (s (.cond (.t 12) .skip (.exit 0)) (s (.block 1 (s (r QR) (s (s (r QS) (.cond (.t 31) (s (r QT) .ret) .skip)) (s (r QU) (s (s (r QV) (.block 2 (.loop (s (s (r QW) (.cond (.t 35) .skip (.exit 2))) (s (.block 3 (s (s (r QH) (.cond (.t 47) (s (r QI) .ret) .skip)) (r QJ))) (r QK)))))) (r QL)))))) (r QM))))))) (s (r QN) .ret))))
def FV:List bQ:=[.tmp 2,.tmp 3]
theorem LQ:cC Tryz.prog Tryz.f103 AU:=e (by kernel_rfl)
theorem M2:cA Tryz.prog Tryz.f103 FV:=e (by kernel_rfl)
theorem KI:cq Tryz.prog 103:=e (by kernel_rfl)
def QX:=[o 2 (.alloc (.agg [.int .i64 0,.int .i64 0,.int .i64 0,.int .i64 0])),o 3 (.mv bB)]
def QY:=[m 9 0,o 10 (.call 102 [.t 9]),m 4 10]
def Q7:=[m 12 4,o 13 (.sl 1 (.t 12) (some (aQ 1)) none none),o 14 (.call 103 [.t 13]),m 11 14,o 15 (.ext (.t 11) 0),o 16 (.ext (.t 11) 1),m 5 15,m 6 16]
def Q8:=[m 17 6,no 18 17]
def Q9:=[o 19 (.bld [.int .i64 0,.int .i64 0,.int .i64 0,.int .i64 0] []),p (.bh (some 4) (.t 2) (.t 19)),o 3 (.mv bB)]
def Ra:=[o 20 (.call 121 []),o 21 (.len (.t 20)),bN 22 0]
def Rb:=[lt 23 22 21]
def Rc:=[m 24 22,o 25 (.is 1 (.t 20) (.t 22)),l 26 25,m 7 24,m 8 26]
def Re:=[m 27 8,o 28 (.bin .eql (.t 27) (.c (.bm ⟨#[]⟩))),m 29 28,eQ 30 8 29,eQ 31 4 29,on 32 (.is 1 (.t 31) (aQ 0)) 29,da 33 32 29,on 34 (.bin .neq (.t 30) (.t 33)) 29,or 35 29 34]
def Rf:=[m 36 7,o 37 (.bin .leq (.t 36) (aQ 2))]
def QZ:=[m 38 5,o 39 (.len (.t 38)),o 40 (.bin .neq (.t 39) (aQ 1))]
def Q0:=[o 41 (.bld [.int .i64 0,.int .i64 0,.int .i64 0,.int .i64 0] []),p (.bh (some 4) (.t 2) (.t 41)),o 3 (.mv bB)]
def Q1:=[m 42 7,m 43 5,o 44 (.is 1 (.t 43) (aQ 0)),l 45 44,o 46 (.bld [.int .i64 0,.int .i64 0,.int .i64 0,.int .i64 0] [(0,(.t 42)),(1,(.t 45))]),p (.bh (some 4) (.t 2) (.t 46)),o 3 (.mv T)]
def Q2:=[m 47 5,o 48 (.len (.t 47)),o 49 (.bin .neq (.t 48) (aQ 3))]
def Q3:=[o 50 (.bld [.int .i64 0,.int .i64 0,.int .i64 0,.int .i64 0] []),p (.bh (some 4) (.t 2) (.t 50)),o 3 (.mv bB)]
def Q4:=[m 51 7,m 52 5,o 53 (.is 1 (.t 52) (aQ 0)),l 54 53,m 55 5,o 56 (.is 1 (.t 55) (aQ 1)),l 57 56,m 58 5,o 59 (.is 1 (.t 58) (aQ 2)),l 60 59,o 61 (.bld [.int .i64 0,.int .i64 0,.int .i64 0,.int .i64 0] [(0,(.t 51)),(1,(.t 54)),(2,(.t 57)),(3,(.t 60))]),p (.bh (some 4) (.t 2) (.t 61)),o 3 (.mv T)]
def Oa:=some [[],[],[1],[2],[],[4],[5],[],[7],[8],[0,3,6,9],[10,0,1,2,3,4,5,6,7,8,9,10],[11,0,1,2,3,4,5,6,7,8,9,10,11]]
def Q5:=[ad 62 22 1,m 22 62]
def Q6:=[o 63 (.bld [.int .i64 0,.int .i64 0,.int .i64 0,.int .i64 0] []),p (.bh (some 4) (.t 2) (.t 63)),o 3 (.mv bB)]
def AV:bx:=(s (r QX) (s (r QY) (s (r Q7) (s (s (r Q8) (.cond (.t 18) (s (r Q9) .ret) .skip)) (s (s (r Ra) (.block 0 (.loop (s (r Rb) (s (.cond (.t 23) .skip (.exit 0)) (s (.block 1 (s (r Rc) (s (s (r Re) (.cond (.t 35) (.exit 1) .skip)) (s (s (r Rf) (.cond (.t 37) (s (s (r QZ) (.cond (.t 40) (s (r Q0) .ret) .skip)) (s (r Q1) .ret)) .skip)) (s (s (r Q2) (.cond (.t 49) (s (r Q3) .ret) .skip)) (s (.cg Oa Q4) .ret)))))) (r Q5))))))) (s (r Q6) .ret))))))
def FW:List bQ:=[.cell 2 (some 4),.tmp 3]
theorem LR:cC Tryz.prog Tryz.f104 AV:=e (by kernel_rfl)
theorem M3:cA Tryz.prog Tryz.f104 FW:=e (by kernel_rfl)
theorem KJ:cq Tryz.prog 104:=e (by kernel_rfl)
def Rg:=[o 6 (.mv bB)]
def Rh:=[m 7 0,m 8 1,o 9 (.bin .geq (.t 7) (.t 8)),m 10 9,dp 11 0 10,dp 12 2 10,bZ 13 (.bin .leq (.t 11) (.t 12)) 10,and 14 10 13,m 6 14]
def AW:bx:=(s (r Rg) (s (r Rh) .ret))
def FX:List bQ:=[.tmp 6]
theorem LS:cC Tryz.prog Tryz.f105 AW:=e (by kernel_rfl)
theorem M4:cA Tryz.prog Tryz.f105 FX:=e (by kernel_rfl)
theorem KK:cq Tryz.prog 105:=e (by kernel_rfl)
def Ri:=[o 2 (.mv (.c (.nilp)))]
def Rj:=[m 4 0,o 5 (.jo),o 6 (.jo),o 7 (.jo),o 8 (.bld [.int .i64 0,.raw (.map none),.raw (.map none),.int .i64 0,.raw (.map none),.raw (.map none)] [(0,(.t 4)),(1,(.t 5)),(2,(.t 6)),(4,(.t 7))]),b 9 8,m 3 9]
def Rk:=[m 10 3,o 11 (.jo),m 12 3,o 13 (.mk 1000125 [.t 12]),p (.fj (.i .i64) (.t 11) (aQ 1) (.t 13)),m 14 3,o 15 (.mk 1000126 [.t 14]),p (.fj (.i .i64) (.t 11) (aQ 2) (.t 15)),m 16 3,o 17 (.mk 1000127 [.t 16]),p (.fj (.i .i64) (.t 11) (aQ 3) (.t 17)),m 18 3,o 19 (.mk 1000128 [.t 18]),p (.fj (.i .i64) (.t 11) (aQ 4) (.t 19)),m 20 3,o 21 (.mk 1000129 [.t 20]),p (.fj (.i .i64) (.t 11) (aQ 5) (.t 21)),m 22 3,o 23 (.mk 1000130 [.t 22]),p (.fj (.i .i64) (.t 11) (aQ 6) (.t 23)),m 24 3,o 25 (.mk 1000131 [.t 24]),p (.fj (.i .i64) (.t 11) (aQ 7) (.t 25)),m 26 3,o 27 (.mk 1000132 [.t 26]),p (.fj (.i .i64) (.t 11) (aQ 8) (.t 27)),m 28 11,o 29 (.nilC (.t 10)),f 30 5 5 29,p (.bh none (.t 30) (.t 28))]
def Rl:=[m 31 3,m 2 31]
def AX:bx:=(s (r Ri) (s (r Rj) (s (r Rk) (s (r Rl) .ret))))
def FY:List bQ:=[.tmp 2]
theorem LU:cC Tryz.prog Tryz.f106 AX:=e (by kernel_rfl)
theorem M5:cA Tryz.prog Tryz.f106 FY:=e (by kernel_rfl)
theorem KL:cq Tryz.prog 106:=e (by kernel_rfl)
def Rm:=[l 12 1,o 13 (.call 85 [.t 12]),o 14 (.len (.t 13)),bN 15 0]
def Rn:=[lt 16 15 14]
def Rv:=[o 17 (.is 1 (.t 13) (.t 15)),l 18 17,m 5 18]
def Rw:=[l 19 1,o 20 (.nilC (.t 19)),f 21 2 2 20,l 22 21,m 23 5,o 24 (.lk (.i .i64) (.nilp) false (.t 22) (.t 23)),m 6 24]
def Rx:=[l 25 1,o 26 (.nilC (.t 25)),f 27 0 0 26,l 28 27,l 29 2,m 30 6,o 31 (.nilC (.t 30)),f 32 2 2 31,l 33 32,m 34 5,o 35 (.bld [.int .i64 0,.int .i64 0,.int .i64 0,.int .i64 0,.int .i64 0] [(0,(aQ 1)),(1,(.t 28)),(2,(.t 29)),(3,(.t 33)),(4,(.t 34))]),o 7 (.alloc (.agg [.int .i64 0,.int .i64 0,.int .i64 0,.int .i64 0,.int .i64 0])),p (.bh (some 5) (.t 7) (.t 35))]
def Od:=some [[],[0],[1],[2],[],[],[5],[6],[7],[],[3,4,8,9],[],[11,10,0,1,2,3,4,5,6,7,8,9,10,11]]
def Ry:=[m 36 6,o 37 (.nilC (.t 36)),f 38 3 3 37,l 39 38]
def Rz:=[f 40 0 0 7,p (.bh none (.t 40) (aQ 3))]
def ov:=[m 41 6,o 42 (.nilC (.t 41)),f 43 1 1 42,l 44 43,l 45 2,o 46 (.bin .eql (.t 44) (.t 45)),m 47 46,dp 48 0 47,bZ 49 (.ld (some 5) (.t 7)) 47,bZ 50 (.gi (.t 48) [.t 49]) 47,bZ 51 (.un .not (.t 50)) 47,and 52 47 51]
def Oe:=some [[],[0],[1],[2],[],[3,4],[5],[6],[6],[7,8,6,6],[9,6],[6,10]]
def RA:=[ad 53 15 1,m 15 53]
def RB:=[bN 8 1]
def Ro:=[m 54 8,o 55 (.bin .leq (.t 54) (aQ 200))]
def Rp:=[l 59 1,o 60 (.nilC (.t 59)),f 61 4 4 60,l 62 61,l 63 2,m 64 8,o 65 (.bld [.int .i64 0,.int .i64 0] [(0,(.t 63)),(1,(.t 64))]),o 66 (.lk (.bh [(.i .i64),(.i .i64)]) (.agg [.int .i64 0,.int .i64 0,.int .i64 0,.int .i64 0]) true (.t 62) (.t 65)),m 58 66,o 67 (.ext (.t 58) 0),o 68 (.ext (.t 58) 1),o 9 (.alloc (.agg [.int .i64 0,.int .i64 0,.int .i64 0,.int .i64 0])),p (.bh (some 4) (.t 9) (.t 67)),m 10 68]
def Ob:=some [[],[0],[1],[2],[],[],[4,5],[3,6],[7],[8],[8],[],[11,9,0,1,2,3,4,5,6,7,8,9,11],[10,12,0,1,2,3,4,5,6,7,8,9,10,11,12]]
def Rq:=[l 69 1,o 70 (.nilC (.t 69)),f 71 0 0 70,l 72 71,l 73 2,f 74 1 1 9,l 75 74,m 76 8,o 77 (.bld [.int .i64 0,.int .i64 0,.int .i64 0,.int .i64 0,.int .i64 0] [(0,(aQ 2)),(1,(.t 72)),(2,(.t 73)),(3,(.t 75)),(4,(.t 76))]),o 11 (.alloc (.agg [.int .i64 0,.int .i64 0,.int .i64 0,.int .i64 0,.int .i64 0])),p (.bh (some 5) (.t 11) (.t 77))]
def Oc:=some [[],[0],[1],[2],[],[],[5],[],[3,4,6,7],[],[9,8,0,1,2,3,4,5,6,7,8,9]]
def Rr:=[f 78 0 0 9,l 79 78,o 80 (.bin .eql (.t 79) (aQ 8))]
def Rs:=[f 81 0 0 11,p (.bh none (.t 81) (aQ 4))]
def Rt:=[m 82 10,m 83 82,dp 84 0 83,bZ 85 (.ld (some 5) (.t 11)) 83,bZ 86 (.gi (.t 84) [.t 85]) 83,bZ 87 (.un .not (.t 86)) 83,and 88 83 87]
def Ru:=[m 56 8,ad 57 56 1,m 8 57]
def AY:bx:=(s (s (r Rm) (.block 0 (.loop (s (r Rn) (s (.cond (.t 16) .skip (.exit 0)) (s (.block 1 (s (r Rv) (s (r Rw) (s (.cg Od Rx) (s (s (r Ry) (.cond (.t 39) (r Rz) .skip)) (s (.cg Oe ov) (.cond (.t 52) .ret .skip))))))) (r RA))))))) (s (r RB) (.block 2 (.loop (s (s (r Ro) (.cond (.t 55) .skip (.exit 2))) (s (.block 3 (s (.cg Ob Rp) (s (.cg Oc Rq) (s (s (r Rr) (.cond (.t 80) (r Rs) .skip)) (s (r Rt) (.cond (.t 88) .ret .skip)))))) (r Ru)))))))
def FZ:List bQ:=[]
theorem LV:cC Tryz.prog Tryz.f107 AY:=e (by kernel_rfl)
theorem M6:cA Tryz.prog Tryz.f107 FZ:=e (by kernel_rfl)
theorem BM:cq Tryz.prog 107:=e (by kernel_rfl)
def RC:=[b 2 0,o 4 (.mv bB)]
def RD:=[f 7 3 3 2,l 8 7,o 9 (.len (.t 8)),bN 10 0]
def RE:=[lt 11 10 9]
def RF:=[o 12 (.is 4 (.t 8) (.t 10)),L 13 4 12,o 6 (.alloc (.agg [.int .i64 0,.int .i64 0,.int .i64 0,.bool false])),p (.bh (some 4) (.t 6) (.t 13))]
def RG:=[f 14 2 2 6,l 15 14,m 16 1,o 17 (.bin .eql (.t 15) (.t 16))]
def RH:=[o 4 (.mv T)]
def RI:=[ad 18 10 1,m 10 18]
def RJ:=[o 4 (.mv bB)]
def AZ:bx:=(s (r RC) (s (s (r RD) (.block 0 (.loop (s (r RE) (s (.cond (.t 11) .skip (.exit 0)) (s (.block 1 (s (r RF) (s (r RG) (.cond (.t 17) (s (r RH) .ret) .skip)))) (r RI))))))) (s (r RJ) .ret)))
def F0:List bQ:=[.tmp 4]
theorem LW:cC Tryz.prog Tryz.f108 AZ:=e (by kernel_rfl)
theorem M7:cA Tryz.prog Tryz.f108 F0:=e (by kernel_rfl)
theorem KM:cq Tryz.prog 108:=e (by kernel_rfl)
def RL:=[o 4 (.mv (.c (.nils 1)))]
def RM:=[bN 5 0]
def RN:=[m 6 5,m 7 0,o 8 (.len (.t 7)),lt 9 6 8,m 10 9,dp 11 0 10,dp 12 5 10,bZ 13 (.is 1 (.t 11) (.t 12)) 10,dV 14 13 10,dp 15 1 10,bZ 16 (.bin .lss (.t 14) (.t 15)) 10,and 17 10 16]
def RO:=[m 18 5,ad 19 18 1,m 5 19]
def RP:=[m 20 5,m 21 0,o 22 (.len (.t 21)),lt 23 20 22,m 24 23,dp 25 0 24,dp 26 5 24,bZ 27 (.is 1 (.t 25) (.t 26)) 24,dV 28 27 24,dp 29 1 24,bZ 30 (.bin .eql (.t 28) (.t 29)) 24,and 31 24 30]
def RQ:=[m 32 0,m 4 32]
def rq:=[o 33 (.bs0 1),m 34 0,m 35 5,o 36 (.sl 1 (.t 34) none (some (.t 35)) none),o 37 (.dk 3 1 8 (.int .i64 0) (.t 33) (.t 36)),m 38 1,o 39 (.bs 3 1 [.t 38]),o 40 (.dk 3 1 8 (.int .i64 0) (.t 37) (.t 39)),m 41 0,m 42 5,o 43 (.sl 1 (.t 41) (some (.t 42)) none none),o 44 (.dk 3 1 8 (.int .i64 0) (.t 40) (.t 43)),m 4 44]
def Of:=some [[],[],[],[1,2],[0,3],[],[5],[4,6,4],[],[],[8,9],[7,10,7],[11,11,0,1,2,3,4,5,6,7,8,9,10,11]] -- DRAW BAD
def A1:bx:=(s (r RL) (s (r RM) (s (.block 0 (.loop (s (s (r RN) (.cond (.t 17) .skip (.exit 0))) (.block 1 (r RO))))) (s (s (r RP) (.cond (.t 31) (s (r RQ) .ret) .skip)) (s (.cg Of rq) .ret)))))
def F1:List bQ:=[.tmp 4]
theorem LX:cC Tryz.prog Tryz.f109 A1:=e (by kernel_rfl)
theorem M8:cA Tryz.prog Tryz.f109 F1:=e (by kernel_rfl)
theorem KN:cq Tryz.prog 109:=e (by kernel_rfl)
def RZ:=[o 4 (.mv (.c (.nils 1)))]
def R0:=[o 5 (.mv (.c (.nils 1)))]
def R1:=[m 8 0,o 9 (.len (.t 8)),bN 10 0]
def R2:=[lt 11 10 9]
def R3:=[o 12 (.is 1 (.t 8) (.t 10)),l 13 12,m 7 13]
def R4:=[m 14 7,m 15 1,o 16 (.bin .neq (.t 14) (.t 15))]
def R5:=[m 17 5,m 18 7,o 19 (.bs 3 1 [.t 18]),o 20 (.dk 3 1 8 (.int .i64 0) (.t 17) (.t 19)),m 5 20]
def R6:=[ad 21 10 1,m 10 21]
def R7:=[m 22 5,m 4 22]
def A2:bx:=(s (r RZ) (s (r R0) (s (s (r R1) (.block 0 (.loop (s (r R2) (s (.cond (.t 11) .skip (.exit 0)) (s (.block 1 (s (r R3) (s (r R4) (.cond (.t 16) (r R5) .skip)))) (r R6))))))) (s (r R7) .ret))))
def F2:List bQ:=[.tmp 4]
theorem LY:cC Tryz.prog Tryz.f110 A2:=e (by kernel_rfl)
theorem M9:cA Tryz.prog Tryz.f110 F2:=e (by kernel_rfl)
theorem KO:cq Tryz.prog 110:=e (by kernel_rfl)
def R8:=[b 2 0,o 4 (.alloc (.agg [.int .i64 0,.nils 1,.int .i64 0,.nils 4,.nils 4]))]
def xz:=[o 5 (.bs0 4),f 6 3 3 2,l 7 6,m 8 1,o 9 (.sl 4 (.t 7) none (some (.t 8)) none),o 10 (.dk 48 4 32 (.agg [.int .i64 0,.int .i64 0,.int .i64 0,.bool false]) (.t 5) (.t 9)),f 11 3 3 2,l 12 11,m 13 1,ad 14 13 1,o 15 (.sl 4 (.t 12) (some (.t 14)) none none),o 16 (.dk 48 4 32 (.agg [.int .i64 0,.int .i64 0,.int .i64 0,.bool false]) (.t 10) (.t 15)),f 17 3 3 2,p (.bh none (.t 17) (.t 16))]
def Og:=some [[],[],[1],[],[2,3],[0,4],[],[6],[],[8],[7,9],[5,10,5],[0,1,2,3,4,5,6,7,8,9,10,11],[12,11,11,0,1,2,3,4,5,6,7,8,9,10,11]] -- DRAW BAD
def R9:=[L 18 5 2,p (.bh (some 5) (.t 4) (.t 18))]
def A4:bx:=(s (r R8) (s (.cg Og xz) (s (r R9) .ret)))
def F3:List bQ:=[.cell 4 (some 5)]
theorem LZ:cC Tryz.prog Tryz.f111 A4:=e (by kernel_rfl)
theorem Na:cA Tryz.prog Tryz.f111 F3:=e (by kernel_rfl)
theorem KP:cq Tryz.prog 111:=e (by kernel_rfl)
def Sa:=[b 2 0,b 3 1,o 4 (.alloc (.agg [.int .i64 0,.nils 1,.int .i64 0,.nils 4,.nils 4]))]
def xA:=[o 5 (.bs0 4),f 6 4 4 2,l 7 6,o 8 (.dk 91 4 32 (.agg [.int .i64 0,.int .i64 0,.int .i64 0,.int .i64 0]) (.t 5) (.t 7)),f 9 0 0 3,l 10 9,f 11 2 2 3,l 12 11,f 13 3 3 3,l 14 13,f 15 1 1 3,l 16 15,o 17 (.bld [.int .i64 0,.int .i64 0,.int .i64 0,.int .i64 0] [(0,(.t 10)),(1,(.t 12)),(2,(.t 14)),(3,(.t 16))]),o 18 (.bs 91 4 [.t 17]),o 19 (.dk 91 4 32 (.agg [.int .i64 0,.int .i64 0,.int .i64 0,.int .i64 0]) (.t 8) (.t 18)),f 20 4 4 2,p (.bh none (.t 20) (.t 19))]
def Oh:=some [[],[],[1],[0,2],[],[4],[],[6],[],[8],[],[10],[5,7,9,11],[12],[3,13,3],[0,1,2,3,4,5,6,7,8,9,10,11,12,13,14],[15,14,14,0,1,2,3,4,5,6,7,8,9,10,11,12,13,14]] -- DRAW BAD
def Sb:=[L 21 5 2,p (.bh (some 5) (.t 4) (.t 21))]
def A5:bx:=(s (r Sa) (s (.cg Oh xA) (s (r Sb) .ret)))
def F4:List bQ:=[.cell 4 (some 5)]
theorem L0:cC Tryz.prog Tryz.f112 A5:=e (by kernel_rfl)
theorem Nb:cA Tryz.prog Tryz.f112 F4:=e (by kernel_rfl)
theorem KQ:cq Tryz.prog 112:=e (by kernel_rfl)
theorem BN:cq Tryz.prog 113:=e (by kernel_rfl)
def Sc:=[m 2 0,no 3 2]
def A6:bx:=(s (r Sc) (.cond (.t 3) .wg .skip))
def F5:List bQ:=[]
theorem L1:cC Tryz.prog Tryz.f114 A6:=e (by kernel_rfl)
theorem Nc:cA Tryz.prog Tryz.f114 F5:=e (by kernel_rfl)
theorem BO:cq Tryz.prog 114:=e (by kernel_rfl)
theorem KR:cq Tryz.prog 119:=e (by kernel_rfl)
def Sd:=[o 2 (.mv (.c (.bm ⟨#[]⟩)))]
def Se:=[m 3 0,o 4 (.bin .lss (.t 3) (aQ 10))]
def Sf:=[m 5 0,o 6 (.bin .add (aQ 48) (.t 5)),o 7 (.conv .u8 (.t 6)),o 8 (.bs 5 1 [.t 7]),o 9 (.b2s (.t 8)),m 2 9]
def Sg:=[m 10 0,o 11 (.bin .quo (.t 10) (aQ 10)),o 12 (.call 120 [.t 11]),m 13 0,o 14 (.bin .rem (.t 13) (aQ 10)),o 15 (.bin .add (aQ 48) (.t 14)),o 16 (.conv .u8 (.t 15)),o 17 (.bs 5 1 [.t 16]),o 18 (.b2s (.t 17)),o 19 (.bin .add (.t 12) (.t 18)),m 2 19]
def Oi:=some [[],[0],[1],[],[3],[4],[5],[6],[7],[2,8],[9,2,0,1,2,3,4,5,6,7,8,9]]
def wm:bx:=(s (r Sd) (s (s (r Se) (.cond (.t 4) (s (r Sf) .ret) .skip)) (s (.cg Oi Sg) .ret)))
def yW:List bQ:=[.tmp 2]
theorem B9:cC Tryz.prog Tryz.f120 wm:=e (by kernel_rfl)
theorem Cs:cA Tryz.prog Tryz.f120 yW:=e (by kernel_rfl)
theorem BP:cq Tryz.prog 120:=e (by kernel_rfl)
def Sh:=[o 0 (.mv (.c (.nils 1)))]
def Si:=[o 1 (.bs 9 1 [(.c (.bm ⟨#[]⟩)),(.c (.bm ⟨#[112,111,117,110,100]⟩)),(.c (.bm ⟨#[114,101,108,101,97,115,101]⟩)),(.c (.bm ⟨#[115,101,110,100]⟩)),(.c (.bm ⟨#[99,97,108,108]⟩)),(.c (.bm ⟨#[100,111,110,101]⟩)),(.c (.bm ⟨#[98,97,99,107]⟩)),(.c (.bm ⟨#[116,97,107,101]⟩)),(.c (.bm ⟨#[114,101,102,117,115,101]⟩))]),m 0 1]
def A7:bx:=(s (r Sh) (s (r Si) .ret))
def F6:List bQ:=[.tmp 0]
theorem L2:cC Tryz.prog Tryz.f121 A7:=e (by kernel_rfl)
theorem Nd:cA Tryz.prog Tryz.f121 F6:=e (by kernel_rfl)
theorem KS:cq Tryz.prog 121:=e (by kernel_rfl)
theorem KT:cq Tryz.prog 122:=e (by kernel_rfl)
theorem KU:cq Tryz.prog 124:=e (by kernel_rfl)
def Sj:=[b 3 1]
def ru:=[m 4 0,o 5 (.nilC (.t 4)),f 6 1 1 5,l 7 6,f 8 1 1 3,l 9 8,o 10 (.lk (.i .i64) (.bool false) false (.t 7) (.t 9)),no 11 10,m 12 11,dp 13 0 12,eg 14 1 1 3 12,dV 15 14 12,bZ 16 (.call 72 [.t 13,.t 15]) 12,bZ 17 (.un .not (.t 16)) 12,and 18 12 17,o 19 (.call 114 [.t 18])]
def Oj:=some [[],[0],[1],[2],[],[4],[3,5],[6],[7],[8],[8],[10,8],[9,11,8,8],[12,8],[8,13],[14,12]]
def Sk:=[m 20 0,o 21 (.nilC (.t 20)),f 22 1 1 21,l 23 22,f 24 1 1 3,l 25 24,p (.fj (.i .i64) (.t 23) (.t 25) T)]
def Ol:=some [[],[0],[1],[2],[],[4],[3,5,0,1,2,3,4,5]]
def wo:bx:=(s (r Sj) (s (.cg Oj ru) (.cg Ol Sk)))
def F7:List bQ:=[]
theorem Ca:cC Tryz.prog Tryz.f125 wo:=e (by kernel_rfl)
theorem Nf:cA Tryz.prog Tryz.f125 F7:=e (by kernel_rfl)
theorem BQ:cq Tryz.prog 125:=e (by kernel_rfl)
def Sl:=[b 3 1]
def xB:=[m 4 0,o 5 (.nilC (.t 4)),f 6 1 1 5,l 7 6,f 8 1 1 3,l 9 8,o 10 (.lk (.i .i64) (.bool false) false (.t 7) (.t 9)),o 11 (.call 114 [.t 10])]
def Om:=some [[],[0],[1],[2],[],[4],[3,5],[6]]
def Sm:=[m 12 0,o 13 (.nilC (.t 12)),f 14 1 1 13,l 15 14,f 16 1 1 3,l 17 16,p (.jn (.i .i64) (.t 15) (.t 17))]
def On:=some [[],[0],[1],[2],[],[4],[3,5]]
def wq:bx:=(s (r Sl) (s (.cg Om xB) (.cg On Sm)))
def F8:List bQ:=[]
theorem Cb:cC Tryz.prog Tryz.f126 wq:=e (by kernel_rfl)
theorem Ng:cA Tryz.prog Tryz.f126 F8:=e (by kernel_rfl)
theorem BR:cq Tryz.prog 126:=e (by kernel_rfl)
def Sn:=[b 3 1]
def ox:=[m 4 0,o 5 (.nilC (.t 4)),f 6 1 1 5,l 7 6,f 8 1 1 3,l 9 8,o 10 (.lk (.i .i64) (.bool false) false (.t 7) (.t 9)),m 11 10,eg 12 2 2 3 11,dV 13 12 11,dp 14 0 11,bZ 15 (.nilC (.t 14)) 11,eg 16 0 0 15 11,dV 17 16 11,bZ 18 (.bin .neq (.t 13) (.t 17)) 11,and 19 11 18,m 20 19,eg 21 3 3 3 20,dV 22 21 20,dp 23 0 20,bZ 24 (.nilC (.t 23)) 20,eg 25 3 3 24 20,dV 26 25 20,bZ 27 (.bin .add (.t 26) (aQ 1)) 20,bZ 28 (.bin .eql (.t 22) (.t 27)) 20,and 29 20 28,o 30 (.call 114 [.t 29])]
def Oo:=some [[],[0],[1],[2],[],[4],[3,5],[6],[7],[8,7],[7],[10,7],[11,7],[12,7],[9,13,7],[7,14],[15,7],[16],[17,16],[16],[19,16],[20,16],[21,16],[22,16],[18,23,16],[16,24],[25,16]]
def Sp:=[m 31 0,o 32 (.nilC (.t 31)),f 33 1 1 32,l 34 33,f 35 1 1 3,l 36 35,p (.jn (.i .i64) (.t 34) (.t 36))]
def Oq:=some [[],[0],[1],[2],[],[4],[3,5]]
def Sq:=[m 37 0,o 38 (.nilC (.t 37)),f 39 3 3 38,l 40 39,ad 41 40 1,o 42 (.nilC (.t 37)),f 43 3 3 42,p (.bh none (.t 43) (.t 41))]
def Sr:=[m 44 0,o 45 (.nilC (.t 44)),f 46 2 2 45,l 47 46,f 48 3 3 3,l 49 48,f 50 3 3 3,l 51 50,f 52 2 2 3,l 53 52,f 54 1 1 3,l 55 54,o 56 (.bld [.int .i64 0,.int .i64 0,.int .i64 0,.bool false] [(0,(.t 51)),(1,(.t 53)),(2,(.t 55))]),b 57 56,p (.fj (.i .i64) (.t 47) (.t 49) (.t 57))]
def Ot:=some [[],[0],[1],[2],[],[4],[],[6],[],[8],[],[10],[7,9,11],[12],[3,5,13,0,1,2,3,4,5,6,7,8,9,10,11,12,13]]
def c127:bx:=(s (r Sn) (s (.cg Oo ox) (s (.cg Oq Sp) (s (r Sq) (.cg Ot Sr)))))
def F9:List bQ:=[]
theorem Cc:cC Tryz.prog Tryz.f127 c127:=e (by kernel_rfl)
theorem Nh:cA Tryz.prog Tryz.f127 F9:=e (by kernel_rfl)
theorem BS:cq Tryz.prog 127:=e (by kernel_rfl)
def St:=[b 3 1]
def De:=[m 5 0,L 6 4 3,o 7 (.call 151 [.t 5,.t 6]),m 4 7]
def Df:=[m 8 4,o 9 (.nilC (.t 8)),f 10 3 3 9,l 11 10,no 12 11,o 13 (.call 114 [.t 12])]
def Su:=[m 14 4,o 15 (.nilC (.t 14)),f 16 3 3 15,p (.bh none (.t 16) T)]
def wu:bx:=(s (r St) (s (r De) (s (r Df) (r Su))))
def Ga:List bQ:=[]
theorem Cd:cC Tryz.prog Tryz.f128 wu:=e (by kernel_rfl)
theorem Ni:cA Tryz.prog Tryz.f128 Ga:=e (by kernel_rfl)
theorem BT:cq Tryz.prog 128:=e (by kernel_rfl)
def Sv:=[b 3 1]
def Dg:=[m 4 0,L 5 4 3,o 6 (.call 151 [.t 4,.t 5])]
def Sw:=[m 7 0,o 8 (.nilC (.t 7)),f 9 2 2 8,l 10 9,f 11 3 3 3,l 12 11,p (.jn (.i .i64) (.t 10) (.t 12))]
def Ou:=some [[],[0],[1],[2],[],[4],[3,5]]
def wv:bx:=(s (r Sv) (s (r Dg) (.cg Ou Sw)))
def Gb:List bQ:=[]
theorem Ce:cC Tryz.prog Tryz.f129 wv:=e (by kernel_rfl)
theorem Nj:cA Tryz.prog Tryz.f129 Gb:=e (by kernel_rfl)
theorem BU:cq Tryz.prog 129:=e (by kernel_rfl)
def Sx:=[b 3 1]
def xC:=[m 4 0,L 5 4 3,o 6 (.call 151 [.t 4,.t 5]),o 7 (.nilC (.t 6)),f 8 3 3 7,l 9 8,o 10 (.call 114 [.t 9])]
def Sy:=[m 11 0,o 12 (.nilC (.t 11)),f 13 2 2 12,l 14 13,f 15 3 3 3,l 16 15,p (.jn (.i .i64) (.t 14) (.t 16))]
def Ov:=some [[],[0],[1],[2],[],[4],[3,5]]
def Sz:=[m 17 0,o 18 (.nilC (.t 17)),f 19 1 1 18,l 20 19,f 21 1 1 3,l 22 21,p (.fj (.i .i64) (.t 20) (.t 22) T)]
def Ow:=some [[],[0],[1],[2],[],[4],[3,5,0,1,2,3,4,5]]
def wy:bx:=(s (r Sx) (s (r xC) (s (.cg Ov Sy) (.cg Ow Sz))))
def Gc:List bQ:=[]
theorem Cf:cC Tryz.prog Tryz.f130 wy:=e (by kernel_rfl)
theorem Nk:cA Tryz.prog Tryz.f130 Gc:=e (by kernel_rfl)
theorem BV:cq Tryz.prog 130:=e (by kernel_rfl)
def SA:=[b 3 1]
def oy:=[m 4 0,L 5 4 3,o 6 (.call 152 [.t 4,.t 5]),m 7 6,dp 8 0 7,bZ 9 (.nilC (.t 8)) 7,eg 10 1 1 9 7,dV 11 10 7,eg 12 1 1 3 7,dV 13 12 7,bZ 14 (.lk (.i .i64) (.bool false) false (.t 11) (.t 13)) 7,bZ 15 (.un .not (.t 14)) 7,and 16 7 15,m 17 16,dp 18 0 17,eg 19 1 1 3 17,dV 20 19 17,bZ 21 (.call 72 [.t 18,.t 20]) 17,bZ 22 (.un .not (.t 21)) 17,and 23 17 22,o 24 (.call 114 [.t 23])]
def Ox:=some [[],[],[0,1],[2,2],[3],[4,3],[5,3],[6,3],[3],[8,3],[7,9,3],[10,3],[3,11],[12,3],[13],[13],[15,13],[14,16,13,13],[17,13],[13,18],[19,17]]
def SB:=[m 25 0,o 26 (.nilC (.t 25)),f 27 4 4 26,l 28 27,f 29 2 2 3,l 30 29,f 31 3 3 3,l 32 31,o 33 (.bld [.int .i64 0,.int .i64 0] [(0,(.t 30)),(1,(.t 32))]),L 34 4 3,p (.fj (.bh [(.i .i64),(.i .i64)]) (.t 28) (.t 33) (.t 34))]
def Oy:=some [[],[0],[1],[2],[],[4],[],[6],[5,7],[],[3,8,9,0,1,2,3,4,5,6,7,8,9]]
def SC:=[m 35 0,o 36 (.nilC (.t 35)),f 37 1 1 36,l 38 37,f 39 1 1 3,l 40 39,p (.fj (.i .i64) (.t 38) (.t 40) T)]
def Oz:=some [[],[0],[1],[2],[],[4],[3,5,0,1,2,3,4,5]]
def wz:bx:=(s (r SA) (s (.cg Ox oy) (s (.cg Oy SB) (.cg Oz SC))))
def Gd:List bQ:=[]
theorem Cg:cC Tryz.prog Tryz.f131 wz:=e (by kernel_rfl)
theorem Nl:cA Tryz.prog Tryz.f131 Gd:=e (by kernel_rfl)
theorem BW:cq Tryz.prog 131:=e (by kernel_rfl)
def SD:=[b 3 1]
def Di:=[m 4 0,L 5 4 3,o 6 (.call 152 [.t 4,.t 5]),o 7 (.call 114 [.t 6])]
def SE:=[m 8 0,o 9 (.nilC (.t 8)),f 10 4 4 9,l 11 10,f 12 2 2 3,l 13 12,f 14 3 3 3,l 15 14,o 16 (.bld [.int .i64 0,.int .i64 0] [(0,(.t 13)),(1,(.t 15))]),L 17 4 3,p (.fj (.bh [(.i .i64),(.i .i64)]) (.t 11) (.t 16) (.t 17))]
def OA:=some [[],[0],[1],[2],[],[4],[],[6],[5,7],[],[3,8,9,0,1,2,3,4,5,6,7,8,9]]
def wA:bx:=(s (r SD) (s (r Di) (.cg OA SE)))
def Ge:List bQ:=[]
theorem Ch:cC Tryz.prog Tryz.f132 wA:=e (by kernel_rfl)
theorem Nn:cA Tryz.prog Tryz.f132 Ge:=e (by kernel_rfl)
theorem BX:cq Tryz.prog 132:=e (by kernel_rfl)
def SS:=[b 3 1,o 4 (.mv (.c (.nilp)))]
def SU:=[m 8 0,o 9 (.nilC (.t 8)),f 10 2 2 9,l 11 10,f 12 3 3 3,l 13 12,o 14 (.lk (.i .i64) (.nilp) true (.t 11) (.t 13)),m 7 14,o 15 (.ext (.t 7) 0),o 16 (.ext (.t 7) 1),m 5 15,m 6 16]
def OD:=some [[],[0],[1],[2],[],[4],[3,5],[6],[7],[7],[8,0,1,2,3,4,5,6,7,8],[9,10,0,1,2,3,4,5,6,7,8,9,10]]
def oz:=[m 17 6,m 18 17,dp 19 5 18,bZ 20 (.nilC (.t 19)) 18,eg 21 1 1 20 18,dV 22 21 18,eg 23 2 2 3 18,dV 24 23 18,bZ 25 (.bin .eql (.t 22) (.t 24)) 18,and 26 18 25,m 27 26,dp 28 5 27,bZ 29 (.nilC (.t 28)) 27,eg 30 2 2 29 27,dV 31 30 27,eg 32 1 1 3 27,dV 33 32 27,bZ 34 (.bin .eql (.t 31) (.t 33)) 27,and 35 27 34,o 36 (.call 114 [.t 35])]
def OE:=some [[],[0],[1],[2,1],[3,1],[4,1],[1],[6,1],[5,7,1],[1,8],[9,1],[10],[11,10],[12,10],[13,10],[10],[15,10],[14,16,10],[10,17],[18,10]]
def SV:=[m 37 5,m 4 37]
def wB:bx:=(s (r SS) (s (.cg OD SU) (s (.cg OE oz) (s (r SV) .ret))))
def Gg:List bQ:=[.tmp 4]
theorem Ci:cC Tryz.prog Tryz.f151 wB:=e (by kernel_rfl)
theorem Nq:cA Tryz.prog Tryz.f151 Gg:=e (by kernel_rfl)
theorem BY:cq Tryz.prog 151:=e (by kernel_rfl)
def SW:=[b 3 1,o 4 (.mv bB)]
def SX:=[m 8 0,o 9 (.nilC (.t 8)),f 10 4 4 9,l 11 10,f 12 2 2 3,l 13 12,f 14 3 3 3,l 15 14,o 16 (.bld [.int .i64 0,.int .i64 0] [(0,(.t 13)),(1,(.t 15))]),o 17 (.lk (.bh [(.i .i64),(.i .i64)]) (.agg [.int .i64 0,.int .i64 0,.int .i64 0,.int .i64 0]) true (.t 11) (.t 16)),m 7 17,o 18 (.ext (.t 7) 0),o 19 (.ext (.t 7) 1),o 5 (.alloc (.agg [.int .i64 0,.int .i64 0,.int .i64 0,.int .i64 0])),p (.bh (some 4) (.t 5) (.t 18)),m 6 19]
def OF:=some [[],[0],[1],[2],[],[4],[],[6],[5,7],[3,8],[9],[10],[10],[],[13,11,0,1,2,3,4,5,6,7,8,9,10,11,13],[12,14,0,1,2,3,4,5,6,7,8,9,10,11,12,13,14]]
def SY:=[f 20 2 2 3,l 21 20,m 22 0,o 23 (.nilC (.t 22)),f 24 0 0 23,l 25 24,o 26 (.bin .neq (.t 21) (.t 25)),m 27 26,dp 28 6 27,bZ 29 (.un .not (.t 28)) 27,and 30 27 29,m 4 30]
def OG:=some [[],[0],[],[2],[3],[4],[1,5],[6],[7],[8,7],[7,9],[10,7,0,1,2,3,4,5,6,7,8,9,10]]
def A9:bx:=(s (r SW) (s (.cg OF SX) (s (.cg OG SY) .ret)))
def Gh:List bQ:=[.tmp 4]
theorem L4:cC Tryz.prog Tryz.f152 A9:=e (by kernel_rfl)
theorem Nr:cA Tryz.prog Tryz.f152 Gh:=e (by kernel_rfl)
theorem KW:cq Tryz.prog 152:=e (by kernel_rfl)
end Go.Proofs.YthbdbocionnfgaaGreatDoor
namespace Go.Abs
open Go Go.RowKit
open Enc (enc)
def av(x:I)(p q:Prop):Prop:=match x with
 | .bool t=>(t=true→p)∧(t=false→q)
 |_=>False
theorem ae.jZ{c:cV}{A:ai}{Q:Exit→ai→Prop}{b:aM}{x y:bx}(h:av (aj A b) (ae c x Q A) (ae c y Q A)):ae c (.cond b x y) Q A:=by
 generalize hb:aj A b=v at h;unfold av at h;split at h
 ·exact ae.cond hb h.1 h.2
 ·exact h.elim
def oV(r:I):Option (List I)→Prop
 |some xs=>kB xs=r
 |none=>False
theorem ads(rs:List bQ)(r:I)(A:ai):lb rs r .ret A=oV r (fC A rs):=by
 simp only[lb,oV];cases fC A rs <;>simp
theorem adr(rs:List bQ)(r:I)(A:ai):lb rs r .normal A=oV r (fC A rs):=by
 simp only[lb,oV];cases fC A rs <;>simp
def sn(s:Option Nat)(A:ai):Option I→Option I
 |some x=>if ca s x=true then br true A x else none
 |none=>none
def kP:Option I→Option (List I)→Option (List I)
 |some x,some xs=>some (x::xs)
 |_,_=>none
theorem adl(A:ai):fC A []=some []:=rfl
theorem adm(A:ai)(t:Nat)(rs:List bQ):fC A (.tmp t::rs)=kP (br true A (A.t t)) (fC A rs):=by
 simp only[fC,u4];cases br true A (A.t t) <;>cases fC A rs <;>rfl
theorem adk(A:ai)(a:Nat)(s:Option Nat)(rs:List bQ):fC A (.cell a s::rs)=kP (sn s A (h4 A (A.t a))) (fC A rs):=by
 simp only[fC,u4,mj];cases h4 A (A.t a) with
 |none=>cases fC A rs <;>rfl
 |some x =>
  by_cases h:ca s x=true
  ·simp only[sn,if_pos h];cases br true A x <;>cases fC A rs <;>rfl
  ·simp only[sn,if_neg h];cases fC A rs <;>rfl
def tN(aP:Bool)(A:ai):Option I→Option I
 |some x=>if x.bG=true then some (.ref x) else (c8 A 9 x).map .ref
 |none=>none
theorem P3(A:ai)(n:Nat)(p:List Nat):br true A (.ptr n p)=tN true A (fI p (A.o n)):=by
 simp only[br,mj,h4,if_true,tN];cases fI p (A.o n) <;>rfl
open Classical in
noncomputable def mu(sz lo k:Nat):Option (List I)→Option I
 |some fs=>if I.cv ((fs.drop lo).take k)=true then some (.slice sz ((fs.drop lo).take k)) else none
 |none=>none
theorem xt(A:ai)(n:Nat)(p:List Nat)(sz lo k:Nat):br true A (.view n p sz lo k)=mu sz lo k (fW (fI p (A.o n))):=by
 simp only[br,mj,h4,if_true];cases fI p (A.o n) with
 |none=>rfl
 |some c=>cases c <;>simp only[fW,I.ea,mu] <;>(split <;>simp_all)
open Classical in
noncomputable def kl(k:Nat):Option aq→Option I
 |some (.bV _ sz es)=>if k=es.length∧I.cv es=true then some (.slice sz es) else none
 |_=>none
theorem P2(aP:Bool)(A:ai)(n k:Nat):br aP A (.own n k)=kl k (A.o n):=by
 simp only[br];cases A.o n with
 |none=>rfl
 |some y=>cases y <;>simp only[kl] <;>(split <;>simp_all)
theorem xr(aP:Bool)(A:ai)(fs:List I):br aP A (.agg fs)=(cm aP A fs).map .agg:=by simp only[br]
theorem PY(aP:Bool)(A:ai)(f:FuncId)(fs:List I):br aP A (.func f fs)=if f<1000000 then (cm aP A fs).map (.func f) else some .any:=by simp only[br]
theorem PZ(aP:Bool)(A:ai)(k:IntKind)(n:Int):br aP A (.int k n)=some (.int k n):=by simp only[br]
theorem PX(aP:Bool)(A:ai)(n:Bool):br aP A (.bool n)=some (.bool n):=by simp only[br]
theorem P6(aP:Bool)(A:ai)(n:ByteArray):br aP A (.bm n)=some (.bm n):=by simp only[br]
theorem P1(aP:Bool)(A:ai)(n:Nat):br aP A (.nils n)=some (.slice n []):=by simp only[br]
theorem P5(aP:Bool)(A:ai)(n:Nat)(es:List I):br aP A (.slice n es)=if I.cv es=true then some (.slice n es) else none:=by simp only[br]
theorem P4(aP:Bool)(A:ai)(x:I):br aP A (.ref x)=if x.bG=true then some (.ref x) else none:=by simp only[br]
theorem xw(aP:Bool)(A:ai):cm aP A []=some []:=by simp only[cm]
theorem xu(aP:Bool)(A:ai)(x:I)(xs:List I):cm aP A (x::xs)=kP (br aP A x) (cm aP A xs):=by
 simp only[cm];cases br aP A x <;>cases cm aP A xs <;>rfl
theorem MN(fs:List I):(I.agg fs).bG=I.cv fs:=by simp only[I.bG]
theorem MS(n:Nat)(fs:List I):(I.slice n fs).bG=I.cv fs:=by simp only[I.bG]
theorem MR(x:I):(I.ref x).bG=x.bG:=by simp only[I.bG]
theorem MQ(k:IntKind)(n:Int):(I.int k n).bG=true:=by simp only[I.bG]
theorem MO(n:Bool):(I.bool n).bG=true:=by simp only[I.bG]
theorem MT(n:ByteArray):(I.bm n).bG=true:=by simp only[I.bG]
theorem MP(f:FuncId)(fs:List I):(I.func f fs).bG=I.cv fs:=by simp only[I.bG]
theorem MV:I.cv []=true:=by simp only[I.cv]
theorem MU(x:I)(xs:List I):I.cv (x::xs)=(x.bG&&I.cv xs):=by simp only[I.cv]
theorem Ka(k:IntKind)(a b:Int):cu .add (.int k a) (.int k b)=some (.int k (k.wrap (a+b))):=by simp[cu]
theorem Kq(k:IntKind)(a b:Int):cu .sub (.int k a) (.int k b)=some (.int k (k.wrap (a-b))):=by simp[cu]
theorem Ki(k:IntKind)(a b:Int):cu .mul (.int k a) (.int k b)=some (.int k (k.wrap (a*b))):=by simp[cu]
theorem Km(k:IntKind)(a b:Int):cu .quo (.int k a) (.int k b)=if b=0 then none else some (.int k (k.wrap (a.tdiv b))):=by simp[cu]
theorem Kn(k:IntKind)(a b:Int):cu .rem (.int k a) (.int k b)=if b=0 then none else some (.int k (a.tmod b)):=by simp[cu]
theorem Kb(k:IntKind)(a b:Int):cu .and (.int k a) (.int k b)=some (.int k (k.wrap ((BitVec.ofInt k.bits a &&& BitVec.ofInt k.bits b).toNat:Int))):=by simp[cu]
theorem Kl(k:IntKind)(a b:Int):cu .or (.int k a) (.int k b)=some (.int k (k.wrap ((BitVec.ofInt k.bits a ||| BitVec.ofInt k.bits b).toNat:Int))):=by simp[cu]
theorem Kr(k:IntKind)(a b:Int):cu .xor (.int k a) (.int k b)=some (.int k (k.wrap ((BitVec.ofInt k.bits a ^^^ BitVec.ofInt k.bits b).toNat:Int))):=by simp[cu]
theorem Kc(k:IntKind)(a b:Int):cu .andNot (.int k a) (.int k b)=some (.int k (k.wrap ((BitVec.ofInt k.bits a &&& ~~~ BitVec.ofInt k.bits b).toNat:Int))):=by simp[cu]
theorem Ko(k k':IntKind)(a b:Int):cu .shl (.int k a) (.int k' b)=if 0≤b then some (.int k (k.wrap (a*2^(min b.toNat k.bits)))) else none:=by simp[cu]
theorem Kp(k k':IntKind)(a b:Int):cu .shr (.int k a) (.int k' b)=if 0≤b then some (.int k (a.fdiv (2^(min b.toNat k.bits)))) else none:=by simp[cu]
theorem Kd(k:IntKind)(a b:Int):cu .eql (.int k a) (.int k b)=some (.bool (a==b)):=by simp[cu]
theorem Kj(k:IntKind)(a b:Int):cu .neq (.int k a) (.int k b)=some (.bool (a != b)):=by simp[cu]
theorem Kh(k:IntKind)(a b:Int):cu .lss (.int k a) (.int k b)=some (.bool (decide (a<b))):=by simp[cu]
theorem Kg(k:IntKind)(a b:Int):cu .leq (.int k a) (.int k b)=some (.bool (decide (a≤b))):=by simp[cu]
theorem Kf(k:IntKind)(a b:Int):cu .gtr (.int k a) (.int k b)=some (.bool (decide (b<a))):=by simp[cu]
theorem Ke(k:IntKind)(a b:Int):cu .geq (.int k a) (.int k b)=some (.bool (decide (b≤a))):=by simp[cu]
theorem Au :
  (∀ ts os d v,(aw ts os).put d v=aw ((d,v)::ts) os)∧(∀ ts os d v,(aw ts os).aW (some d) v=aw ((d,v)::ts) os)∧(∀ (A:ai) v,A.aW none v=A) ∧
  (∀ ts os d x,(aw ts os).aT d x=aw ts ((d,x)::os))∧(∀ ts os k,(aw ts os).t k=b9 ts k)∧(∀ ts os k,(aw ts os).o k=ak os k) ∧
  (∀ j v r k,b9 ((j,v)::r) k=if k=j then v else b9 r k)∧(∀ j v r k,ak ((j,v)::r) k=if k=j then some v else ak r k)∧(∀ k,ak [] k=none) ∧
  (∀ A k,aj A (.t k)=A.t k)∧(∀ A x,aj A (.c x)=x)∧(∀ d rest A v,dn d rest A v=aE rest (A.aW d v))∧(∀ v k,cT (some v) k=k v)∧(∀ A,aE [] A=.done A) :=
 ⟨uu,E6,abo,rU,abp,abn,bY,cQ,rR,Pz,Py,aaM,Ks,JM⟩
theorem Fx :
  (∀ d rest A op,aE (⟨d,op,none⟩::rest) A=bO A d op rest)∧(∀ d rest A op t b,aE (⟨d,op,some (t,b)⟩::rest) A=ic (A.t t) b d op rest A) ∧
  (∀ d rest A op,ic (.bool true) true d op rest A=bO A d op rest)∧(∀ d rest A op,ic (.bool false) false d op rest A=bO A d op rest) ∧
  (∀ d rest A op,ic (.bool true) false d op rest A=aE rest (A.aW d .undef))∧(∀ d rest A op,ic (.bool false) true d op rest A=aE rest (A.aW d .undef))∧(∀ d rest A op b,ic .undef b d op rest A=aE rest (A.aW d .undef)) ∧
  (∀ d rest A x,bO A d (.mv x) rest=aE rest (A.aW d (aj A x)))∧(∀ d rest A c a b,bO A d (.pick c a b) rest=r6 A d a b rest (aj A c)) ∧
  (∀ A d a b rest,r6 A d a b rest (.bool true)=aE rest (A.aW d (aj A a)))∧(∀ A d a b rest,r6 A d a b rest (.bool false)=aE rest (A.aW d (aj A b))) ∧
  (∀ d rest A op x y,bO A d (.bin op x y) rest=cT (cu op (aj A x) (aj A y)) (dn d rest A)) ∧
  (∀ d rest A ty neg x y,bO A d (.eqv ty neg x y) rest=cT ((cj ty (aj A x) (aj A y)).map fun b=>.bool (if neg then !b else b)) (dn d rest A)) ∧
  (∀ d rest A op x,bO A d (.un op x) rest=cT (sI op (aj A x)) (dn d rest A))∧(∀ b,sI .not (.bool b)=some (.bool !b))∧(∀ k n,sI .neg (.int k n)=some (.int k (k.wrap (0-n))))∧(∀ k n,sI .xor (.int k n)=some (.int k (pG k n))) ∧
  (∀ d rest A k x,bO A d (.conv k x) rest=cT (wO k (aj A x)) (dn d rest A))∧(∀ k k' n,wO k (.int k' n)=some (.int k (k.wrap n))) ∧
  (∀ d rest A s x,bO A d (.ld s x) rest=cT (oL s (h4 A (aj A x))) (dn d rest A))∧(∀ d rest A f off x,bO A d (.fa f off x) rest=cT (jJ A f off (aj A x)) (dn d rest A)) ∧
  (∀ d rest A f off s x,bO A d (.fl f off s x) rest=cT (tS f off s (aj A x).ea) (dn d rest A))∧(∀ d rest A n esz x i,bO A d (.ia n esz x i) rest=cT (rC A n esz (aj A x) (aj A i)) (dn d rest A)) ∧
  (∀ d rest A esz x i,bO A d (.is esz x i) rest=cT (rF A esz (aj A x) (aj A i)) (dn d rest A))∧(∀ d rest A n esz s x i,bO A d (.ix n esz s x i) rest=cT (rI n esz s (aj A x) (aj A i)) (dn d rest A)) ∧
  (∀ d rest A x,bO A d (.len x) rest=cT (j0 A (aj A x)) (dn d rest A))∧(∀ d rest A n esz x,bO A d (.va n esz x) rest=cT (pj A n esz (aj A x)) (dn d rest A)) ∧
  (∀ d rest A zs ps,bO A d (.bld zs ps) rest=cT ((dS zs (ps.map fun p=>(p.1,aj A p.2))).map .agg) (dn d rest A))∧(∀ d rest A x i,bO A d (.ext x i) rest=cT (xf i (aj A x)) (dn d rest A))∧(∀ i fs,xf i (.tuple fs)=fs[i]?) ∧
  (∀ d rest A f caps,bO A d (.mk f caps) rest=cT (if ((caps.map (aj A)).all fun y=>y.bX)=true then some (.func f (caps.map (aj A))) else none) (dn d rest A)) ∧
  (∀ rest A d z,bO A (some d) (.alloc z) rest=v8 A d z rest (A.o d))∧(∀ A d z rest,v8 A d z rest none=aE rest ((A.aT d (.box z)).put d (.ptr d []))) ∧
  (∀ rest A d x,bO A (some d) (.box x) rest=tn A d (aj A x) rest (A.o d))∧(∀ A d z rest,tn A d z rest none=tp A d z rest z.bX)∧(∀ A d z rest,tp A d z rest true=aE rest ((A.aT d (.box z)).put d (.ptr d []))) ∧
  (∀ rest A s x v,bO A none (.bh s x v) rest=dP A s (aj A v) rest (aj A x))∧(∀ A s v rest n p,dP A s v rest (.ptr n p)=vm A s n p v rest (A.o n))∧(∀ A s n p v rest b,vm A s n p v rest (some (.box b))=c7 A s n p b v rest (b.at p)) ∧
  (∀ d rest A f args,bO A d (.call f args) rest=.call f (args.map (aj A)) (cm true A (args.map (aj A))) (cm false A (args.map (aj A))) d rest A) ∧
  (∀ d rest A x args,bO A d (.gi x args) rest=qY A d (args.map (aj A)) rest (aj A x))∧(∀ A d args rest f caps,qY A d args rest (.func f caps)=if f<1000000 then .call f (args++caps) (cm true A (args++caps)) (cm false A (args++caps)) d rest A else .call (lP f) (caps++args) (cm true A (caps++args)) (cm false A (caps++args)) d rest A) :=
 ⟨Jy,Jz,ZG,ZD,ZF,ZE,ZH,ab5,ab9,fun _ _ _ _ _=>rfl,fun _ _ _ _ _=>rfl,abG,abP,acf,fun _=>rfl,fun _ _=>rfl,fun _ _=>rfl,abN,fun _ _ _=>rfl,abW,abR,abS,abT,abU,abV,abX,acg,abH,abQ,fun _ _=>rfl,ab1,
  abE,fun _ _ _ _=>rfl,abI,fun _ _ _ _=>rfl,fun _ _ _ _=>rfl,ace,fun _ _ _ _ _ _=>rfl,fun _ _ _ _ _ _ _=>rfl,abK,abL,fun A d args rest f caps=>by
   simp only[qY];split
   ·rename_i h;rw[xj h,xi h]
   ·rename_i h;simp only[iS,if_neg h]⟩
theorem dI{A:ai}{s:Option Nat}{n:Nat}{p:List Nat}{b v old:I}{rest:List aJ}(J:v.bX=true)(U:ca s v=true)(af:v.bg=old.bg):c7 A s n p b v rest (some old)=aE rest (A.aT n (.box (b.ev p v))):=by
 simp only[c7];rw[if_pos ⟨J,U,af⟩]
theorem Ic :
  (∀ A x,h4 A (.ref x)=some x)∧(∀ A n p,h4 A (.ptr n p)=fI p (A.o n))∧(∀ p c,fI p (some (.box c))=c.at p)∧(∀ c:I,c.at []=some c)∧(∀ (c:I) i p,c.at (i::p)=nj i p c.ea) ∧
  (∀ i p fs,nj i p (some fs)=py p fs[i]?)∧(∀ p f,py p (some f)=f.at p)∧(∀ c v:I,c.ev [] v=v)∧(∀ (c:I) i p v,c.ev (i::p) v=vg c i p v c.ea)∧(∀ c i p v fs,vg c i p v (some fs)=zw fs i p v fs[i]?) ∧
  (∀ fs i p v f,zw fs i p v (some f)=.agg (fs.set i (f.ev p v)))∧(∀ fs,(I.agg fs).ea=some fs)∧(∀ x:I,fW (some x)=x.ea) ∧
  (∀ s x,oL s (some x)=if ca s x=true then some x else none) ∧
  (∀ A f off c,jJ A f off (.ref c)=rl f off c.ea)∧(∀ A f off n p,jJ A f off (.ptr n p)=rj n p f off (fW (fI p (A.o n))))∧(∀ f off fs,rl f off (some fs)=pP fs f off fs[f]?)∧(∀ fs f off v,pP fs f off (some v)=du fs f off (.ref v)) ∧
  (∀ n p f off fs,rj n p f off (some fs)=du fs f off (.ptr n (p++[f])))∧(∀ A n esz x kk k,rC A n esz x (.int kk k)=oA A n esz k x)∧(∀ A n esz k c,oA A n esz k (.ref c)=mC k n (ub n esz k c.ea)) ∧
  (∀ A n esz k m p,oA A n esz k (.ptr m p)=mC k n (rD n esz m p k (fW (fI p (A.o m)))))∧(∀ n esz k fs,ub n esz k (some fs)=mB n esz fs ((fs[k.toNat]?).map .ref))∧(∀ n esz m p k fs,rD n esz m p k (some fs)=mB n esz fs (some (.ptr m (p++[k.toNat])))) ∧
  (∀ A esz x kk k,rF A esz x (.int kk k)=fi A esz k x)∧(∀ n esz s x kk k,rI n esz s x (.int kk k)=uf n esz s k x.ea)∧(∀ n esz s k fs,uf n esz s k (some fs)=mC k n (mB n esz fs (oL s fs[k.toNat]?))) ∧
  (∀ A n esz m p,pj A n esz (.ptr m p)=sL n esz m p (fW (fI p (A.o m))))∧(∀ n esz m p fs,sL n esz m p (some fs)=sK n esz fs (.view m p esz 0 n)) ∧
  (∀ A sz es,j0 A (.slice sz es)=some (.int .i64 es.length))∧(∀ A n,j0 A (.nils n)=some (.int .i64 0))∧(∀ A n,j0 A (.c0 n)=some (.int .i64 0)) :=
 ⟨fun _ _=>rfl,fun _ _ _=>rfl,fun _ _=>rfl,AB,J1,fun _ _ _=>rfl,fun _ _=>rfl,oZ,adK,fun _ _ _ _ _=>rfl,fun _ _ _ _ _=>rfl,fun _=>rfl,fun _=>rfl,fun _ _=>rfl,fun _ _ _ _=>rfl,fun _ _ _ _ _=>rfl,fun _ _ _=>rfl,fun _ _ _ _=>rfl,
  fun _ _ _ _ _=>rfl,fun _ _ _ _ _ _=>rfl,fun _ _ _ _ _=>rfl,fun _ _ _ _ _ _=>rfl,fun _ _ _ _=>rfl,fun _ _ _ _ _ _=>rfl,fun _ _ _ _ _=>rfl,fun _ _ _ _ _ _=>rfl,fun _ _ _ _ _=>rfl,fun _ _ _ _ _=>rfl,fun _ _ _ _ _=>rfl,fun _ _ _=>rfl,fun _ _=>rfl,fun _ _=>rfl⟩
theorem C0 :
  (∀ A n p,br true A (.ptr n p)=tN true A (fI p (A.o n)))∧(∀ A x,tN true A (some x)=if x.bG=true then some (.ref x) else (c8 A 9 x).map .ref)∧(∀ A n p sz lo k,br true A (.view n p sz lo k)=mu sz lo k (fW (fI p (A.o n)))) ∧
  (∀ A n p,br false A (.ptr n p)=none)∧(∀ A n p sz lo k,br false A (.view n p sz lo k)=none)∧(∀ x,kP none x=none)∧(∀ x,kP x none=none) ∧
  (∀ aP A n k,br aP A (.own n k)=kl k (A.o n))∧(∀ aP A fs,br aP A (.agg fs)=(cm aP A fs).map .agg)∧(∀ aP A f fs,br aP A (.func f fs)=if f<1000000 then (cm aP A fs).map (.func f) else some .any)∧(∀ aP A k n,br aP A (.int k n)=some (.int k n))∧(∀ aP A b,br aP A (.bool b)=some (.bool b)) ∧
  (∀ aP A s,br aP A (.bm s)=some (.bm s))∧(∀ aP A n,br aP A (.nils n)=some (.slice n []))∧(∀ aP A n es,br aP A (.slice n es)=if I.cv es=true then some (.slice n es) else none)∧(∀ aP A x,br aP A (.ref x)=if x.bG=true then some (.ref x) else none) ∧
  (∀ aP A,cm aP A []=some [])∧(∀ aP A x xs,cm aP A (x::xs)=kP (br aP A x) (cm aP A xs))∧(∀ x xs,kP (some x) (some xs)=some (x::xs)) ∧
  (∀ fs,(I.agg fs).bG=I.cv fs)∧(∀ n fs,(I.slice n fs).bG=I.cv fs)∧(∀ x,(I.ref x).bG=x.bG)∧(∀ k n,(I.int k n).bG=true)∧(∀ n,(I.bool n).bG=true)∧(∀ n,(I.bm n).bG=true)∧(∀ f fs,(I.func f fs).bG=I.cv fs) ∧
  I.cv []=true∧(∀ x xs,I.cv (x::xs)=(x.bG&&I.cv xs)) ∧
  (∀ rs r A,lb rs r .ret A=oV r (fC A rs))∧(∀ rs r A,lb rs r .normal A=oV r (fC A rs))∧(∀ r xs,oV r (some xs)=(kB xs=r))∧(∀ A,fC A []=some [])∧(∀ A t rs,fC A (.tmp t::rs)=kP (br true A (A.t t)) (fC A rs)) ∧
  (∀ A a s rs,fC A (.cell a s::rs)=kP (sn s A (h4 A (A.t a))) (fC A rs))∧(∀ s A x,sn s A (some x)=if ca s x=true then br true A x else none)∧(∀ x,kB [x]=x)∧(∀ x y xs,kB (x::y::xs)=.tuple (x::y::xs)) :=
 ⟨P3,fun _ _=>rfl,xt,fun _ _ _=>rfl,fun _ _ _ _ _ _=>rfl,fun _=>rfl,fun x=>by cases x <;>rfl,P2,xr,PY,PZ,PX,P6,P1,P5,P4,xw,xu,fun _ _=>rfl,MN,MS,MR,MQ,MO,MT,MP,MV,MU,
  ads,adr,fun _ _=>rfl,adl,adm,adk,fun _ _ _=>rfl,fun _=>rfl,fun _ _ _=>rfl⟩
theorem AH :
  (∀ k a b,cu .add (.int k a) (.int k b)=some (.int k (k.wrap (a+b))))∧(∀ k a b,cu .sub (.int k a) (.int k b)=some (.int k (k.wrap (a-b))))∧(∀ k a b,cu .mul (.int k a) (.int k b)=some (.int k (k.wrap (a*b)))) ∧
  (∀ k a b,cu .quo (.int k a) (.int k b)=if b=0 then none else some (.int k (k.wrap (a.tdiv b))))∧(∀ k a b,cu .rem (.int k a) (.int k b)=if b=0 then none else some (.int k (a.tmod b))) ∧
  (∀ k a b,cu .and (.int k a) (.int k b)=some (.int k (k.wrap ((BitVec.ofInt k.bits a &&& BitVec.ofInt k.bits b).toNat:Int))))∧(∀ k a b,cu .or (.int k a) (.int k b)=some (.int k (k.wrap ((BitVec.ofInt k.bits a ||| BitVec.ofInt k.bits b).toNat:Int)))) ∧
  (∀ k a b,cu .xor (.int k a) (.int k b)=some (.int k (k.wrap ((BitVec.ofInt k.bits a ^^^ BitVec.ofInt k.bits b).toNat:Int))))∧(∀ k a b,cu .andNot (.int k a) (.int k b)=some (.int k (k.wrap ((BitVec.ofInt k.bits a &&& ~~~ BitVec.ofInt k.bits b).toNat:Int)))) ∧
  (∀ k k' a b,cu .shl (.int k a) (.int k' b)=if 0≤b then some (.int k (k.wrap (a*2^(min b.toNat k.bits)))) else none)∧(∀ k k' a b,cu .shr (.int k a) (.int k' b)=if 0≤b then some (.int k (a.fdiv (2^(min b.toNat k.bits)))) else none) ∧
  (∀ k a b,cu .eql (.int k a) (.int k b)=some (.bool (a==b)))∧(∀ k a b,cu .neq (.int k a) (.int k b)=some (.bool (a != b)))∧(∀ k a b,cu .lss (.int k a) (.int k b)=some (.bool (decide (a<b))))∧(∀ k a b,cu .leq (.int k a) (.int k b)=some (.bool (decide (a≤b)))) ∧
  (∀ k a b,cu .gtr (.int k a) (.int k b)=some (.bool (decide (b<a))))∧(∀ k a b,cu .geq (.int k a) (.int k b)=some (.bool (decide (b≤a)))) :=
 ⟨Ka,Kq,Ki,Km,Kn,Kb,Kl,Kr,Kc,Ko,Kp,Kd,Kj,Kh,Kg,Kf,Ke⟩
end Go.Abs
namespace Go.Abs
open Go Go.RowKit
open Enc (enc)
section
variable {α:Type} [Enc α]
theorem aa1(A:ai)(l:List α):j0 A (enc l)=some (.int .i64 l.length):=by simp[hh,j0]
theorem aat{A:ai}(esz:Nat){k:Int}{l:List α}(h:0≤k∧k.toNat<l.length)(ab:Enc.sz α=esz):fi A esz k (enc l)=some (.ref (enc l[k.toNat])):=by
 simp only[hh,fi,ab,zz6,true_and];rw[if_pos ⟨h.1,by omega⟩];simp[h.2]
theorem eK{A:ai}(esz:Nat){k:Nat}{l:List α}(h:k<l.length)(ab:Enc.sz α=esz):fi A esz k (enc l)=some (.ref (enc l[k])):=by
 have:=aat (A:=A) esz (k:=(k:Int)) (l:=l) ⟨by omega,by simpa using h⟩ ab;simpa using this
end
mutual
/-- What every value in memory keeps to: whole numbers within their kind,slices no longer than a slice can be. -/
def I.wf:I→Prop
 | .agg fs=>I.gE fs
 | .int k n=>k.min≤n∧n≤k.max
 | .bm s=>s.size≤maxLen
 | .slice _ es=>es.length≤maxLen∧I.gE es
 | .ref c=>c.wf
 | .func _ caps=>I.gE caps
 | .iface _ v=>v.wf
 |_=>True
def I.gE:List I→Prop
 | []=>True
 |x::xs=>x.wf∧I.gE xs
end
mutual
theorem uV{w:World}{D:aS}{E:bf} : ∀ (x:I) (cs:List Value),al w D E x cs→x.wf
 | .agg fs,cs,h=>by simp only[al,I.wf] at *;exact y8 fs cs h
 | .int k n,cs,h=>by simp only[al,I.wf] at *;exact h.2
 | .bm s,cs,h=>by simp only[al,I.wf] at *;exact h.2
 | .slice sz es,cs,h=>by
  simp only[al,I.wf] at *;obtain ⟨a,cap,_,J,U,af,_⟩:=h;refine ⟨by omega,?_⟩;rcases af with rfl | ⟨b,off,cs',_,_,ar⟩
  ·simp[I.gE]
  ·exact y8 es cs' ar
 | .ref c,cs,h=>by simp only[al,I.wf] at *;obtain ⟨b,off,cs',_,_,h⟩:=h;exact uV c cs' h
 | .func f caps,cs,h=>by simp only[al,I.wf] at *;obtain ⟨vs,_,h⟩:=h;exact qC caps vs h
 | .iface t v,cs,h=>by simp only[al,I.wf] at *;obtain ⟨u,cs',_,_,h⟩:=h;exact uV v cs' h
 | .bool _,_,_ | .nilp,_,_ | .dK,_,_ | .dL,_,_ | .any,_,_ | .raw _,_,_ | .nils _,_,_ | .c0 _,_,_ | .ptr _ _,_,_ | .own _ _,_,_ | .view _ _ _ _ _,_,_ | .mref _,_,_ | .dC _,_,_ | .dx _ _,_,_ | .undef,_,_ | .dF,_,_ | .tuple _,_,_=>by simp[I.wf]
theorem y8{w:World}{D:aS}{E:bf} : ∀ (xs:List I) (cs:List Value),aN w D E xs cs→I.gE xs
 | [],_,_=>by simp[I.gE]
 |x::xs,cs,h=>by
  simp only[aN,I.gE] at *;obtain ⟨c1,c2,_,J,U⟩:=h;exact ⟨uV x c1 J,y8 xs c2 U⟩
theorem qC{w:World}{D:aS}{E:bf} : ∀ (xs:List I) (vs:List Value),aH w D E xs vs→I.gE xs
 | [],_,_=>by simp[I.gE]
 |x::xs,vs,h=>by
  simp only[aH,I.gE] at *;obtain ⟨v,rest,cs,_,_,J,U⟩:=h;exact ⟨uV x cs J,qC xs rest U⟩
end
theorem aep{α:Type}[Enc α](l:List α):I.gE (l.map enc)↔∀ x∈l,(enc x:I).wf:=by
 induction l with
 |nil=>simp[I.gE]
 |cons x l ih=>simp[I.gE,ih]
theorem kI{α:Type}[Enc α](l:List α):(enc l:I).wf↔l.length≤maxLen∧∀ x∈l,(enc x:I).wf:=by
 simp only[hh,I.wf,zz6,aep]
theorem bd.wf{P:Program}{f:FuncId}{args:List I}{r:I}(hc:fy P f=true)(h:I.gE args→bd P f args r):bd P f args r :=
 ⟨hc,fun w D vs ao J U=>(h (qC _ _ U)).2 w D vs ao J U⟩
theorem bd.b5{P:Program}{f:FuncId}{fn:Func}{x:bx}{rs:List bQ}{args:List I}{r:I}(hf:P.funcs[f]?=some fn)(hcall:fy P f=true)(hc:(fn.body.bind (eN P fn.ntmps))=some x)
  (hrs:h3 P fn.results.toList=some rs) (hn:args.length≤fn.ntmps) (h:I.gE args→∀ (w:World) (D:aS) (E:bf),ae ⟨P,w,D,fn.ntmps,cN E,E,dA,none,none⟩ x (lb rs r) (aw (bM 0 args) [])):bd P f args r :=
 bd.wf hcall fun hw=>bd.mk hf hcall hc hrs hn (h hw)
theorem kH{α:Type}[Enc α] :
  (∀ A (l:List α),j0 A (enc l)=some (.int .i64 l.length))∧(∀ n (x:zP n α),(enc x).ea=some (x.l.map enc)) :=
 ⟨aa1,fun _ _=>rfl⟩
end Go.Abs
namespace Go.Abs
open Go Go.RowKit
open Enc (enc)
def qd(neg:Bool):I→Option I
 | .nils _=>some (.bool (!neg))
 | .slice _ es=>if es.isEmpty then none else some (.bool neg)
 | .view _ _ _ _ _=>some (.bool neg)
 |_=>none
def uj:I→Option I
 | .bm s=>some (.int .i64 s.size)
 |_=>none
open Classical in
noncomputable def mZ(n:Nat)(p:List Nat)(sz l0 k esz:Nat)(lo hi mx:Option I):Option (List I)→Option I
 |some fs=>if sz=esz then nQ n p sz l0 k fs.length lo hi mx else none
 |none=>none
noncomputable def jb(A:ai)(esz:Nat)(lo hi mx:Option I):I→Option I
 | .slice sz es=>if sz=esz then iN sz es lo hi mx else none
 | .nils sz=>if sz=esz then iN sz [] lo hi mx else none
 | .c0 sz=>if sz=esz then iN sz [] lo hi mx else none
 | .view n p sz l0 k=>mZ n p sz l0 k esz lo hi mx (fW (fI p (A.o n)))
 |_=>none
open Classical in
noncomputable def eW(esz:Nat):Option (List I)→Option I
 |some es=>if (es.all fun e=>e.size==esz)=true∧I.cv es=true then some (.slice esz es) else none
 |none=>none
open Classical in
noncomputable def qR(A:ai)(d:Option Nat)(e esz bytes n l T sz':Nat)(es:List I)(rest:List aJ):I→cS
 | .slice sz ys=>if yD e esz bytes l sz ys T sz' es then aE rest ((A.aT n (.bV e esz (es++ys))).aW d (.own n (es.length+ys.length))) else .fail
 |_=>.fail
open Classical in
noncomputable def px(A:ai)(d:Option Nat)(e esz bytes:Nat)(z:I)(n l T:Nat)(xs:List Int)(rest:List aJ):I→cS
 | .slice _ ys=>if yE e esz bytes l ys T xs z then aE rest ((A.aT n (.dT e (xs++rE ys))).aW d (.own n (xs.length+ys.length))) else .fail
 |_=>.fail
noncomputable def qQ(A:ai)(d:Option Nat)(e esz bytes:Nat)(z:I)(n l:Nat)(x:I)(rest:List aJ):Option aq→cS
 |some (.bV T sz' es)=>qR A d e esz bytes n l T sz' es rest x
 |some (.dT T xs)=>px A d e esz bytes z n l T xs rest x
 |_=>.fail
noncomputable def gf(A:ai)(d:Option Nat)(e esz bytes:Nat)(z x:I)(rest:List aJ):I→cS
 | .own n l=>qQ A d e esz bytes z n l x rest (A.o n)
 |s=>fw A d esz bytes z s (dX A esz s) (dX A esz x) (aE rest)
section
variable (d:Option Nat) (rest:List aJ) (A:ai)
noncomputable def qe(neg:Bool)(x:I):Bool→cS
 |true=>.any (fun m=>m<2) (fun m=>aE rest (A.aW d (.bool (m==0))))
 |false=>cT (qd neg x) (dn d rest A)
theorem ab7(neg:Bool)(x:aM):bO A d (.nilS neg x) rest=qe d rest A neg (aj A x) (kc (aj A x)):=by
 simp only[bO,bt,bo];cases kc (aj A x)
 ·simp only[zz2,if_false,qe,qd];cases aj A x <;>rfl
 ·rfl
theorem abY(x:aM):bO A d (.lenT x) rest=cT (uj (aj A x)) (dn d rest A):=by
 simp only[bO,bt,bo];cases aj A x <;>rfl
theorem acd(esz:Nat)(x:aM)(lo hi mx:Option aM):bO A d (.sl esz x lo hi mx) rest=cT (jb A esz (lo.map (aj A)) (hi.map (aj A)) (mx.map (aj A)) (aj A x)) (dn d rest A):=by
 simp only[bO,bt,bo];cases aj A x <;>try rfl
 rename_i n p sz l0 k;simp only[jb,mj,h4];cases fI p (A.o n) with
 |none=>rfl
 |some c=>cases c <;>simp only[fW,I.ea,mZ] <;>(first | rfl | (split <;>rfl))
theorem abJ(T esz:Nat)(ps:List aM):bO A d (.bs T esz ps) rest=cT (eW esz (cm false A (ps.map (aj A)))) (dn d rest A):=by
 simp only[bO,bt,bo];cases cm false A (ps.map (aj A)) <;>simp only[eW] <;>rfl
theorem abF(e esz bytes:Nat)(z:I)(s x:aM):bO A d (.dk e esz bytes z s x) rest=gf A d e esz bytes z (aj A x) rest (aj A s):=by
 simp only[bO,bt];generalize aj A s=s';generalize aj A x=x';cases s' <;>simp only[gf]
 rename_i n l;cases x' <;>simp only <;>generalize A.o n=z <;>(cases z with
  |none=>rfl
  |some y=>cases y <;>simp only[qQ,qR,px])
end
theorem Fy :
  (∀ d rest A neg x,bO A d (.nilS neg x) rest=qe d rest A neg (aj A x) (kc (aj A x)))∧(∀ d rest A neg x,qe d rest A neg x false=cT (qd neg x) (dn d rest A))∧(∀ z,kc (.nils z)=false)∧(∀ n p sz lo k,kc (.view n p sz lo k)=false)∧(∀ d rest A x,bO A d (.lenT x) rest=cT (uj (aj A x)) (dn d rest A)) ∧
  (∀ d rest A esz x lo hi mx,bO A d (.sl esz x lo hi mx) rest=cT (jb A esz (lo.map (aj A)) (hi.map (aj A)) (mx.map (aj A)) (aj A x)) (dn d rest A)) ∧
  (∀ d rest A T esz ps,bO A d (.bs T esz ps) rest=cT (eW esz (cm false A (ps.map (aj A)))) (dn d rest A))∧(∀ d rest A e esz bytes z s x,bO A d (.dk e esz bytes z s x) rest=gf A d e esz bytes z (aj A x) rest (aj A s)) ∧
  (∀ A d e esz bytes z x rest n l,gf A d e esz bytes z x rest (.own n l)=qQ A d e esz bytes z n l x rest (A.o n))∧(∀ A d e esz bytes z n l x rest T sz es,qQ A d e esz bytes z n l x rest (some (.bV T sz es))=qR A d e esz bytes n l T sz es rest x)∧(∀ A d e esz bytes z n l x rest T xs,qQ A d e esz bytes z n l x rest (some (.dT T xs))=px A d e esz bytes z n l T xs rest x) ∧
  (∀ neg z,qd neg (.nils z)=some (.bool (!neg))) :=
 ⟨ab7,fun _ _ _ _ _=>rfl,fun _=>rfl,fun _ _ _ _ _=>rfl,abY,acd,abJ,abF,fun _ _ _ _ _ _ _ _ _ _=>rfl,fun _ _ _ _ _ _ _ _ _ _ _ _ _=>rfl,fun _ _ _ _ _ _ _ _ _ _ _ _=>rfl,fun _ _=>rfl⟩
theorem kz(p:Nat→Bool)(xs ys:List I):I.b8 p (xs++ys)=(I.b8 p xs&&I.b8 p ys):=by
 induction xs with
 |nil=>simp[I.b8]
 |cons x xs ih=>simp[I.b8,ih,Bool.and_assoc]
section
variable {α:Type} [Enc α]
theorem lD{A:ai}{d:Option Nat}(e:Nat)(esz bytes n:Nat){l:Nat}{es ys:List α}{rest:List aJ}(ao:l=es.length)(ab:Enc.sz α=esz)(hy:ys≠[])(J:es.length+ys.length≤maxLen)(U:(es.length+ys.length)*bytes≤140737488355328) :
  qR A d e esz bytes n l e esz (es.map enc) rest (enc ys)=aE rest ((A.aT n (.bV e esz ((es++ys).map enc))).aW d (.own n (es++ys).length)):=by
 simp only[hh,qR];rw[if_pos ⟨by simpa using ao,ab,rfl,rfl,by simpa using hy,by simpa using J,by simpa using U⟩];simp
theorem qV(esz:Nat){ys:List α}(ab:Enc.sz α=esz):eW esz (some (ys.map enc))=some (enc ys):=by
 have J:((ys.map enc).all fun e:I=>e.size==esz)=true:=by
  simp only[zx5,zy9];rintro x ⟨y,_,rfl⟩;simp[Enc.size,ab]
 simp only[eW,hh];rw[if_pos ⟨J,ji ys⟩,ab]
theorem h2(esz:Nat)(y:α)(ab:Enc.sz α=esz):eW esz (some [enc y])=some (enc [y]):=qV (ys:=[y]) esz ab
theorem ot(sz:Nat){T k:Nat}{es:List α}(hk:k=es.length)(ab:Enc.sz α=sz):kl k (some (.bV T sz (es.map enc)))=some (enc es):=by
 simp only[kl,zz6];rw[if_pos ⟨hk,ji es⟩,hh,ab]
theorem e8(p:Nat→Bool)(l:List α):I.b8 p (l.map enc)=true:=by
 induction l with
 |nil=>rfl
 |cons x l ih=>simp only[zz5,I.b8,b7,ih,Bool.and_self]
theorem aa2(A:ai)(n k T sz:Nat)(es:List α)(ho:A.o n=some (.bV T sz (es.map enc)))(hk:k=es.length):j0 A (.own n k)=some (.int .i64 es.length):=by
 simp only[j0,ho,zz6,hk,if_true]
end
theorem Ej :
  (∀ n:Int,eW 1 (some [.int .i64 n])=some (enc [n]))∧(∀ (T:Nat) (es:List Int),kl es.length (some (.bV T 1 (es.map enc)))=some (enc es)) :=
 ⟨fun n=>h2 1 n rfl,fun _ _=>ot 1 rfl rfl⟩
theorem bp.JB{A:ai}{d n T sz z:Nat}(ah:A.t d=.nils z)(hn:A.o n=none)(hlt:n<1000000):bp A ((A.aT n (.bV T sz [])).put d (.own n 0)):=by
 rintro c a w ⟨D,E,h⟩;have aF:E n=none:=by have:=h.bU n;rw[hn] at this;exact this
 have ao:ef w D E w D (fun m=>if m=n then some (.rw none 0) else E m):=by
  have e9:∀ {m:Nat} {e:bR},E m=some e→(if m=n then some (.rw none 0) else E m)=some e:=fun {m e} he=>by
   have:m≠n:=fun e=>by rw[e,aF] at he;cases he
   rw[if_neg this];exact he
  refine ⟨fun _ _ h=>h,fun _ _ _ _ h=>h,fun m b bg he=>e9 he,fun m aK l he =>?_,fun m b he=>e9 he,fun m b he=>e9 he,fun _ _ _ _ h=>h⟩
  ·have:m≠n:=fun e=>by rw[e,aF] at he;cases he
   exact ⟨aK,l,by simp only[if_neg this];exact he,zz3 _,fun _=>rfl⟩
 refine ⟨D,fun m=>if m=n then some (.rw none 0) else E m,h.sz,h.eS,fun t =>?_,h.dZ,h.dh,h.aU,fun m =>?_,fun m m' e e' b J U af ar =>?_,fun m e hm =>?_,h.fe,h.cX,h.fp,h.fO⟩
 ·simp only[ai.put,ai.aT];by_cases ht:t=d
  ·subst ht;simp only[if_true];have hv:=h.eb t;rw[ah] at hv;obtain ⟨cs,q1,q2⟩:=hv;simp only[al] at q2;subst q2;refine ⟨[.slice none 0 0],by simpa[bC,I.isAgg] using q1,?_⟩;simp only[al,if_true];exact ⟨none,0,rfl,zz3 _,⟨_,_,_,rfl⟩,fun _=>trivial⟩
  ·simp only[if_neg ht];exact a8.later ao (h.eb t)
 ·simp only[ai.put,ai.aT];by_cases hm:m=n
  ·subst hm;simp only[if_true,dc];exact ⟨none,by simp,by simp,trivial⟩
  ·simp only[if_neg hm];exact (h.bU m).later ao (by simp only[if_neg hm]) fun _ _ _ _=>⟨rfl,fun _ ho=>ho⟩
 ·by_cases hm:m=n <;>by_cases hm':m'=n
  ·rw[hm,hm']
  ·simp only[if_pos hm,v6] at J;subst J;simp[bR.aK] at af
  ·simp only[if_pos hm',v6] at U;subst U;simp[bR.aK] at ar
  ·simp only[if_neg hm] at J;simp only[if_neg hm'] at U;exact h.cU m m' e e' b J U af ar
 ·have hmn:m≠n:=fun e=>by rw[e,h.jK (.inr hlt)] at hm;cases hm
  simp only[if_neg hmn];exact h.ec m e hm
theorem bp.n5{ts:List (Nat×I)}{os:List (Nat×aq)}(d n T sz z:Nat)(ah:b9 ts d=.nils z)(hn:ak os n=none){B:ai}(h:bp (aw ((d,.own n 0)::ts) ((n,.bV T sz [])::os)) B)(hlt:n<1000000:=by decide):bp (aw ts os) B :=
 ((bp.JB (A:=aw ts os) (T:=T) (sz:=sz) ah hn hlt).trans (by rw[rU,uu];exact bp.refl _)).trans h
theorem Fp:(∀ k n,ca none (.int k n)=true)∧(∀ b,ca none (.bool b)=true)∧(∀ z es,ca none (.slice z es)=true)∧(∀ f es,ca none (.func f es)=true)∧(∀ z,ca none (.nils z)=true)∧(∀ n k,ca none (.own n k)=true) :=
 ⟨fun _ _=>rfl,fun _=>rfl,fun _ _=>rfl,fun _ _=>rfl,fun _=>rfl,fun _ _=>rfl⟩
theorem bF:(type_of% @Au)∧(type_of% @Fx)∧(type_of% @Fy)∧(type_of% @Ej)∧(type_of% @Fp)∧(type_of% @Ic)∧(type_of% @C0)∧(type_of% @AH)∧(∀ n:Int,(enc n:I)=.int .i64 n)∧(∀ n:Bool,(enc n:I)=.bool n) ∧
  (∀ {α β:Type} (f:α→β) (x:α) (xs:List α),List.map f (x::xs)=f x::List.map f xs)∧(∀ {α β:Type} (f:α→β),List.map f []=[])∧(∀ {α:Type} (xs:List α),[]++xs=xs)∧(∀ n:Nat,(n:Int).toNat=n)∧(∀ {α β:Type} (f:α→β) (x:α),Option.map f (some x)=some (f x)) ∧
  (∀ n:Nat,0≤(n:Int))∧((!true)=false)∧((!false)=true)∧((false=true)=False)∧((true=false)=False) :=
 ⟨@Au,@Fx,@Fy,@Ej,@Fp,@Ic,@C0,@AH,eP,Pn,fun _ _ _=>rfl,fun _=>rfl,fun _=>rfl,fun _=>rfl,fun _ _=>rfl,fun n=>Int.natCast_nonneg n,rfl,rfl,by simp,by simp⟩
end Go.Abs
namespace Go.Abs
open Go Go.RowKit
open Enc (enc)
theorem lu.b5{P:Program}{f:FuncId}{fn:Func}{x:bx}{rs:List bQ}{Y:Value→List I→List (Nat×aq)→cL→Prop}{args:List I}{os:List (Nat×aq)}{post:cL}(hf:P.funcs[f]?=some fn)(hcall:fy P f=true)(hc:(fn.body.bind (eN P fn.ntmps))=some x)
  (hrs:h3 P fn.results.toList=some rs) (hn:args.length≤fn.ntmps) (hn2:fn.ntmps≤1000000) (hos:∀ m,ay os m=true→1000000≤m) (h:I.gE args→∀ (w:World) (D:aS) (E:bf),ae ⟨P,w,D,fn.ntmps,cN E,E,Y,none,none⟩ x (oT rs post) (aw (bM 0 args) os)):lu P f Y args os post:=by
 obtain ⟨body,hb,hc'⟩:=zv6.1 hc;refine ⟨hcall,fun w D E vs hy hD ho hv =>?_⟩;exact (lu.uC hf hb hcall hc' hrs hn (fun m hm=>⟨zu0 hn2 (hos m hm),hos m hm⟩) (fun w D E=>(h (qC _ _ hv) w D E).sub (vq args os))).2 w D E vs hy hD ho hv
theorem cY.b5{P:Program}{f:FuncId}{fn:Func}{x:bx}{rs:List bQ}{args:List I}{os:List (Nat×aq)}{post:cL}(hf:P.funcs[f]?=some fn)(hcall:fy P f=true)(hc:(fn.body.bind (eN P fn.ntmps))=some x)
  (hrs:h3 P fn.results.toList=some rs) (hn:args.length≤fn.ntmps) (hn2:fn.ntmps≤1000000) (hos:∀ m,ay os m=true→1000000≤m) (h:I.gE args→∀ (w:World) (D:aS) (E:bf),ae ⟨P,w,D,fn.ntmps,cN E,E,dA,none,none⟩ x (oT rs post) (aw (bM 0 args) os)):cY P f args os post :=
 cY.Fj (lu.b5 hf hcall hc hrs hn hn2 hos h)
theorem Ea{A:ai} : ∀ n x,ak [] n=some x→A.o n=some x∧x.only (ay [])=true∧x.eG=true:=fun n x h=>by simp[ak] at h
theorem aan{A:ai}{k:Nat}{c:I}(J:A.o k=some (.box c))(U:∀ p,c.only p=true):∀ n x,ak [(k,.box c)] n=some x→A.o n=some x∧x.only (ay [(k,.box c)])=true∧x.eG=true:=fun n x h=>by
 simp only[ak] at h;split at h
 ·rename_i hn;subst hn;simp only[v6] at h;subst h;exact ⟨J,U _,rfl⟩
 ·cases h
theorem nv{k:Nat}{x:aq}{m:Nat} : ay [(k,x)] m=true↔m=k:=by
 simp only[ay,ak];split <;>simp_all
mutual
theorem sh(ρ:Nat→Nat):∀ x:I,x.bG=true→x.bu ρ=x
 | .agg fs,h=>by simp only[I.bu,I.bG] at *;rw[nL ρ fs h]
 | .slice _ es,h=>by simp only[I.bu,I.bG] at *;rw[nL ρ es h]
 | .ref x,h=>by simp only[I.bu,I.bG] at *;rw[sh ρ x h]
 | .func _ caps,h=>by simp only[I.bu,I.bG] at *;rw[nL ρ caps h]
 | .iface _ v,h=>by simp only[I.bu,I.bG] at *;rw[sh ρ v h]
 | .bool _,_ | .int _ _,_ | .bm _,_ | .nilp,_ | .dK,_ | .dL,_ | .any,_ | .raw _,_ | .nils _,_ | .c0 _,_=>by simp only[I.bu]
 | .dx ks vs,h=>by simp only[I.bu,I.bG,zz0] at *;rw[nL ρ ks h.1,nL ρ vs h.2]
 | .ptr _ _,h | .own _ _,h | .view _ _ _ _ _,h | .mref _,h | .dC _,h | .undef,h | .dF,h | .tuple _,h=>by simp[I.bG] at h
theorem nL(ρ:Nat→Nat):∀ xs:List I,I.cv xs=true→I.ee ρ xs=xs
 | [],_=>rfl
 |x::xs,h=>by
  simp only[I.cv,zz0] at h;simp only[I.ee,sh ρ x h.1,nL ρ xs h.2]
end
section
variable {α:Type} [Enc α]
theorem lM(ρ:Nat→Nat)(x:α):(enc x).bu ρ=enc x:=sh ρ _ (lL x)
theorem u3(ρ:Nat→Nat)(l:List α):I.ee ρ (l.map enc)=l.map enc:=nL ρ _ (ji l)
theorem nS(A:ai)(esz:Nat)(l:List α)(ab:Enc.sz α=esz):dX A esz (enc l)=some (l.map enc):=by
 simp only[hh,dX,ab,if_true]
theorem vu(l:List α):kc (enc l)=l.isEmpty:=by
 simp only[hh,kc];cases l <;>rfl
theorem Fe(neg:Bool)(l:List α)(h:l≠[]):qd neg (enc l)=some (.bool neg):=by
 simp only[hh,qd];cases l with
 |nil=>exact absurd rfl h
 |cons=>rfl
section
variable {P:Program} {Y:Value→List I→List (Nat×aq)→cL→Prop} {K:ai→Prop} {A:ai} {rest:List aJ} {d:Nat} {e esz bytes:Nat} {q:Nat}
theorem aV.wa(z:α){l:List α}(ab:Enc.sz α=esz)(ao:l≠[])(hf:A.o d=none)(hb:l.length*bytes≤140737488355328)(hml:l.length≤maxLen)
  (h:∀ m,aV P Y false K (aE rest ((A.aT d (.box (.agg ((l++List.replicate m z).map enc)))).aW (some d) (.view d [] esz 0 l.length)))):aV P Y false K (gf A (some d) e esz bytes (enc z) (enc l) rest (.c0 q)):=by
 have hne:l.map (enc (α:=α))≠[]:=by simpa using ao
 have J:dX A esz (.c0 q)=some []:=rfl;simp only[gf,J,nS A esz l ab,fw,if_neg hne,gv,hf,List.length_nil,zz4,zz6,if_pos (y6 hb hml),List.nil_append];refine .any rfl fun m _ =>?_;have:=h m;simp only[zy5,List.map_replicate] at this;exact this
theorem JW(z:I)(ab:Enc.sz α=esz):gf A (some d) e esz bytes z (enc ([]:List α)) rest (.c0 q)=aE rest (A.aW (some d) (.c0 q)):=by
 have J:dX A esz (.c0 q)=some []:=rfl;simp only[gf,J,nS A esz ([]:List α) ab,fw,zx7,if_true]
theorem abM(esz:Nat)(z:I)(x:aM)(rest:List aJ)(A:ai):bO A none (.kj esz z x) rest=pF A esz z (aE rest) (aj A x):=rfl
theorem aey{n:Nat}{p:List Nat}{sz k total i:Nat}(h:i≤total)(aR:0<total):nQ n p sz 0 k total none (some (.int .i64 i)) none=some (.view n p sz 0 i):=by
 simp only[nQ,jf];rw[if_pos ⟨by omega,by omega,by omega⟩,if_neg (by omega)];simp
theorem aax{m:Nat}{p:List Nat}{sz lo l j:Nat}{fs:List I}(h:j<l):nw m p sz lo l sz (j:Int) (some fs)=some (.ptr m (p++[lo+j])):=by
 simp only[nw,true_and];rw[if_pos ⟨by omega,by omega⟩];simp
theorem xq{sz k:Nat}{xs:List α}(ab:Enc.sz α=sz):mu sz 0 k (some (xs.map enc))=some (enc (xs.take k)):=by
 have h:((xs.map (enc (α:=α))).drop 0).take k=(xs.take k).map enc:=by rw[List.drop_zero,List.map_take]
 simp only[mu,h];rw[if_pos (ji _),hh,ab]
end
end
theorem aau(A:ai)(esz m:Nat)(p:List Nat)(sz lo l:Nat)(k:Int):fi A esz k (.view m p sz lo l)=nw m p sz lo l esz k (fW (fI p (A.o m))):=rfl
theorem aa3(A:ai)(m:Nat)(p:List Nat)(sz lo l:Nat):j0 A (.view m p sz lo l)=some (.int .i64 l):=rfl
theorem adQ(A:ai)(esz:Nat)(lo hi mx:Option I)(n:Nat)(p:List Nat)(l0 k:Nat):jb A esz lo hi mx (.view n p esz l0 k)=mZ n p esz l0 k esz lo hi mx (fW (fI p (A.o n))):=rfl
theorem adR(n:Nat)(p:List Nat)(sz l0 k:Nat)(lo hi mx:Option I)(fs:List I):mZ n p sz l0 k sz lo hi mx (some fs)=nQ n p sz l0 k fs.length lo hi mx:=by simp[mZ]
theorem lr :
  (∀ A esz m p sz lo l k,fi A esz k (.view m p sz lo l)=nw m p sz lo l esz k (fW (fI p (A.o m))))∧(∀ A m p sz lo l,j0 A (.view m p sz lo l)=some (.int .i64 l)) ∧
  (∀ A esz lo hi mx n p l0 k,jb A esz lo hi mx (.view n p esz l0 k)=mZ n p esz l0 k esz lo hi mx (fW (fI p (A.o n))))∧(∀ n p sz l0 k lo hi mx fs,mZ n p sz l0 k sz lo hi mx (some fs)=nQ n p sz l0 k fs.length lo hi mx) ∧
  (∀ esz z x rest A,bO A none (.kj esz z x) rest=pF A esz z (aE rest) (aj A x))∧(∀ rest A d esz,bO A d (.bs0 esz) rest=aE rest (A.aW d (.c0 esz))) :=
 ⟨aau,aa3,adQ,adR,abM,fun _ _ _ _=>rfl⟩
theorem oU(rs:List bQ)(post:cL)(A:ai):oT rs post .ret A=jD rs post A:=rfl
theorem bp.km{ts:List (Nat×I)}{os0:List (Nat×aq)}(ns:List Nat)(d:Nat){x y:I}(ah:b9 ts d=x)(h:br true (aw ts (nx ns os0)) x=some y)(ho:ct (fun n => !ns.contains n) (e7 ns os0)) :
  bp (aw ts os0) (aw ((d,y)::mr ns ts) (e7 ns os0)):=by
 rintro c a w ⟨D,E,ab⟩;obtain ⟨D1,E1,hs1,hw⟩:=ab.Db ns ho;have hu:eE (aw ts (nx ns os0)) (aw ts os0):=fun n z hz=>by
  simp only[aw,p7] at hz ⊢;split at hz
  ·exact hz
  ·cases hz
 have hx:x.bX=true:=by cases x <;>first | rfl | simp[br] at h
 have hv:=ab.eb d;simp only[aw] at hv;rw[ah] at hv;have J:aH w D E [x] [a.tmps.getD d undef]:=l6 [x] _ (.cons hv .nil) (by intro z hz;simp only[zx1] at hz;subst hz;exact hx);have U:=mw (E':=E1) ab hu hw [x] [y] _ J (by simp only[cm,h]);have af:a8 w D1 E1 y (a.tmps.getD d undef):=by
  simp only[aH] at U;obtain ⟨v',rest,cs,e,k1,k2,_⟩:=U;simp only[zw3] at e;obtain ⟨e1,_⟩:=e;rw[e1];exact gL k1 k2
 refine ⟨D1,E1,hs1.sz,hs1.eS,fun t =>?_,hs1.dZ,hs1.dh,hs1.aU,hs1.bU,hs1.cU,hs1.ec,hs1.fe,hs1.cX,hs1.fp,hs1.fO⟩;simp only[aw,b9];split
 ·rename_i ht;subst ht;exact af
 ·exact hs1.eb t
theorem ac4{w:World}{D:aS}{E:bf}{p:List Nat}{c x y:I}{cs:List Value}(hr:al w D E c cs)(h:c.at p=some x)(hxy:∀ ds,al w D E x ds→al w D E y ds)(ab:y.bg=x.bg):al w D E (c.ev p y) cs∧(c.ev p y).bg=c.bg:=by
 obtain ⟨off,c1,c2,c3,J,rfl,U,af⟩:=y7 p c x cs hr h;obtain ⟨off',k1,k2,k3,k4⟩:=uU p c x y _ c2 hr h (hxy c2 af) ab;rw[J,v6] at k1;subst k1;refine ⟨?_,k4⟩;have e:(c1++c2++c3).take off++c2++(c1++c2++c3).drop (off+c2.length)=c1++c2++c3:=by
  rw[zy3 c1 c2 c3,←U,List.take_left,List.drop_length_add_append,List.drop_left,zy3]
 rw[←e];exact k3
theorem bp.JC{A:ai}{m n T sz z:Nat}{p:List Nat}{b:I}(hm:A.o m=some (.box b))(hp:b.at p=some (.nils z))(hn:A.o n=none)(hlt:n<1000000):bp A ((A.aT n (.bV T sz [])).aT m (.box (b.ev p (.own n 0)))):=by
 rintro c a w ⟨D,E,h⟩;have aF:E n=none:=by have:=h.bU n;rw[hn] at this;exact this
 have hmn:m≠n:=fun e=>by rw[e,hn] at hm;cases hm
 have ao:ef w D E w D (fun m=>if m=n then some (.rw none 0) else E m):=by
  have e9:∀ {m:Nat} {e:bR},E m=some e→(if m=n then some (.rw none 0) else E m)=some e:=fun {m e} he=>by
   have:m≠n:=fun e=>by rw[e,aF] at he;cases he
   rw[if_neg this];exact he
  refine ⟨fun _ _ h=>h,fun _ _ _ _ h=>h,fun m b bg he=>e9 he,fun m aK l he =>?_,fun m b he=>e9 he,fun m b he=>e9 he,fun _ _ _ _ h=>h⟩
  ·have:m≠n:=fun e=>by rw[e,aF] at he;cases he
   exact ⟨aK,l,by simp only[if_neg this];exact he,zz3 _,fun _=>rfl⟩
 refine ⟨D,fun m=>if m=n then some (.rw none 0) else E m,h.sz,h.eS,fun t=>a8.later ao (h.eb t),h.dZ,h.dh,h.aU,fun k =>?_,fun m m' e e' b J U af ar =>?_,fun m e hm =>?_,h.fe,h.cX,h.fp,h.fO⟩
 ·simp only[ai.aT];by_cases hk:k=m
  ·subst hk;have ho:=h.bU k;rw[hm] at ho;obtain ⟨b',cs,T',J,U,af,ar,h5⟩:=ho;obtain ⟨q1,q2⟩:=ac4 (y:=.own n 0) (al.later ao _ _ ar) hp (fun ds ah=>by
    simp only[al] at ah;subst ah;simp only[al,if_true];exact ⟨none,0,rfl,zz3 _,⟨_,_,_,rfl⟩,fun _=>trivial⟩) rfl
   simp only[if_true,dc];exact ⟨b',cs,T',by rw[q2];simp only[if_neg hmn];exact J,U,af,q1,h5⟩
  ·simp only[if_neg hk];by_cases hkn:k=n
   ·subst hkn;simp only[if_true,dc];exact ⟨none,by simp,by simp,trivial⟩
   ·simp only[if_neg hkn];exact (h.bU k).later ao (by simp only[if_neg hkn]) fun _ _ _ _=>⟨rfl,fun _ ho=>ho⟩
 ·by_cases hm:m=n <;>by_cases hm':m'=n
  ·rw[hm,hm']
  ·simp only[if_pos hm,v6] at J;subst J;simp[bR.aK] at af
  ·simp only[if_pos hm',v6] at U;subst U;simp[bR.aK] at ar
  ·simp only[if_neg hm] at J;simp only[if_neg hm'] at U;exact h.cU m m' e e' b J U af ar
 ·have hmn:m≠n:=fun e=>by rw[e,h.jK (.inr hlt)] at hm;cases hm
  simp only[if_neg hmn];exact h.ec m e hm
theorem bp.vZ{ts:List (Nat×I)}{os:List (Nat×aq)}(m n T sz z:Nat)(p:List Nat)(b:I)(hm:ak os m=some (.box b))(hp:b.at p=some (.nils z))(hn:ak os n=none){B:ai}(h:bp (aw ts ((m,.box (b.ev p (.own n 0)))::(n,.bV T sz [])::os)) B)(hlt:n<1000000:=by decide):bp (aw ts os) B :=
 ((bp.JC (A:=aw ts os) (T:=T) (sz:=sz) hm hp hn hlt).trans (by rw[rU,rU];exact bp.refl _)).trans h
mutual
theorem iI{p q:Nat→Bool}(h:∀ n,p n=true→q n=true):∀ x:I,x.only p=true→x.only q=true
 | .agg fs,hx | .tuple fs,hx=>by simp only[I.only] at *;exact iX h fs hx
 | .slice _ es,hx=>by simp only[I.only] at *;exact iX h es hx
 | .ref x,hx=>by simp only[I.only] at *;exact iI h x hx
 | .func _ caps,hx=>by simp only[I.only] at *;exact iX h caps hx
 | .iface _ v,hx=>by simp only[I.only] at *;exact iI h v hx
 | .ptr _ _,hx | .own _ _,hx | .view _ _ _ _ _,hx | .mref _,hx | .dC _,hx=>by simp only[I.only] at *;exact h _ hx
 | .dx ks vs,hx=>by simp only[I.only,zz0] at *;exact ⟨iX h ks hx.1,iX h vs hx.2⟩
 | .bool _,_ | .int _ _,_ | .bm _,_ | .nilp,_ | .dK,_ | .dL,_ | .any,_ | .raw _,_ | .nils _,_ | .c0 _,_ | .undef,_ | .dF,_=>by simp[I.only]
theorem iX{p q:Nat→Bool}(h:∀ n,p n=true→q n=true):∀ xs:List I,I.b8 p xs=true→I.b8 q xs=true
 | [],_=>rfl
 |x::xs,hx=>by
  simp only[I.b8,zz0] at *;exact ⟨iI h x hx.1,iX h xs hx.2⟩
end
theorem aq.iI{p q:Nat→Bool}(h:∀ n,p n=true→q n=true)(x:aq)(hx:x.only p=true):x.only q=true:=by
 cases x with
 |box y=>simp only[aq.only] at *;exact Abs.iI h y hx
 |bV T sz es=>simp only[aq.only] at *;exact iX h es hx
 |dR o=>rfl
 |dT T xs=>rfl
 |bD ks vs=>simp only[aq.only,zz0] at *;exact ⟨iX h ks hx.1,iX h vs hx.2⟩
 |it ks vs left cur=>simp only[aq.only,zz0] at *;exact ⟨iX h ks hx.1,iX h vs hx.2⟩
theorem En{x:I}(h:x.bG=true):x.bX=true:=by
 cases x <;>first | rfl | simp[I.bG] at h
theorem th{aP:Bool}{A0:ai}{ρ:List (Nat×Nat)}{os:List (Nat×aq)} : ∀ xs:List I,I.cv xs=true→h1 aP A0 ρ os xs xs
 | [],_=>trivial
 |x::xs,h=>by
  simp only[I.cv,zz0] at h;exact ⟨.inl ⟨(sh _ x h.1).symm,kW _ x h.1,En h.1⟩,th xs h.2⟩
structure fq (os os':List (Nat×aq)):Prop where
 same:∀ m,ay os' m=ay os m
 ok:∀ m x,ak os' m=some x→x.only (ay os')=true∧x.eG=true
 mA:∀ m,ay os m=true→1000000≤m
def Al(P:Program)(g:FuncId)(caps:List I)(N:Nat)(item:Nat→List I):Prop :=
 ∀ (Y:Value→List I→List (Nat×aq)→cL→Prop) (v:Value) (aQ:Nat→List (Nat×aq)→Prop) (Ix:List (Nat×aq)→Prop) (os:List (Nat×aq)),v.oneCell'=true →
  (∀ k os' post,k<N→aQ k os'→(∀ r os2,(r=.bool true∧aQ (k+1) os2)∨(r=.bool false∧Ix os2)→post r os2)→Y v (item k) os' post) →
  (∀ k os',aQ k os'→fq os os')→(∀ os',Ix os'→fq os os')→aQ 0 os→lu P g Y (.raw v::caps) os (fun r os'=>r=.tuple []∧(aQ N os'∨Ix os'))
def eI(o:Obj)(os:List (Nat×aq)):List (Nat×aq):=(1999999,.dR o)::os
theorem lS(o:Obj)(os:List (Nat×aq))(m:Nat):ay (eI o os) m=(decide (m=1999999)||ay os m):=by
 simp only[eI,ay,ak];by_cases h:m=1999999 <;>simp[h]
theorem p8(o:Obj)(os:List (Nat×aq))(m:Nat):ak (eI o os) m=if m=1999999 then some (.dR o) else ak os m:=rfl
theorem fq.eI{os os':List (Nat×aq)}(h:fq os os')(o o':Obj):fq (eI o os) (eI o' os'):=by
 refine ⟨fun m=>by rw[lS,lS,h.same],fun m x hx =>?_,fun m hm =>?_⟩
 ·rw[p8] at hx;split at hx
  ·cases hx;exact ⟨rfl,rfl⟩
  ·obtain ⟨J,U⟩:=h.ok m x hx;exact ⟨x.iI (fun n hn=>by rw[lS,hn];simp) J,U⟩
 ·rw[lS] at hm;simp only[Bool.or_eq_true,decide_eq_true_eq] at hm;rcases hm with rfl | hm
  ·decide
  ·exact h.mA m hm
def uR:List Nat→List I→List (Nat×I)→List (Nat×I)
 |p::ps,v::vs,ts=>uR ps vs ((p,v)::ts)
 |_,_,ts=>ts
def nR(ρ:List (Nat×Nat))(p:Nat→Bool)(ts:List (Nat×I)):List (Nat×I)→Prop
 | []=>True
 |(k,v)::r=>b9 ts k=v.bu (bP ρ)∧v.only p=true∧nR ρ p ts r
theorem HP{ρ:List (Nat×Nat)}{p:Nat→Bool}{ts:List (Nat×I)} : ∀ {tsR:List (Nat×I)},nR ρ p ts tsR→∀ k,b9 tsR k=.dF∨(b9 ts k=(b9 tsR k).bu (bP ρ)∧(b9 tsR k).only p=true)
 | [],_,k=>.inl rfl
 |(j,v)::r,h,k=>by
  simp only[nR] at h;simp only[b9];split
  ·rename_i hk;subst hk;exact .inr ⟨h.1,h.2.1⟩
  ·exact HP h.2.2 k
section
variable {c:cV} {a:Act} {w:World} {D:aS} {E:bf}
theorem aX.zx{A:ai}(h:aX c A a w D E){n b:Nat}{o o':Obj}(hn:A.o n=some (.dR o))(aF:E n=some (.op b))(ho:pX o'=true):aX c (A.aT n (.dR o')) a (w.putObj b o') D E:=by
 have hob:=h.bU n;rw[hn] at hob;obtain ⟨b',k1,k2,k3,k4,k5⟩:=hob;rw[aF] at k1;cases k1;have hnc:o.isCells=false:=by cases o <;>first | rfl | cases k4
 have hlt:b<w.heap.size:=fX k3;have ao:ef w D E (w.putObj b o') D E:=⟨fun _ _ h=>h,fun b1 o1 v _ hv=>wK k3 hnc hv,fun _ _ _ h=>h,fun _ aK l h=>⟨aK,l,h,zz3 _,fun _=>rfl⟩,fun _ _ h=>h,fun _ _ h=>h,fun b1 es ck ah hm=>(World.putObj_heap_other (fun e1=>k5 0 (by rw[←e1];exact ah))).trans hm⟩
 refine ⟨h.sz,h.eS.mono fun B _ hB=>(World.putObj_heap_other (fun e=>by rw[e,k3] at hB;cases hB;cases k4)).trans hB,fun t=>a8.later ao (h.eb t),h.dZ.trans ⟨rfl,rfl,rfl,by simp,fun k hk=>World.putObj_heap_other (fun e=>hk (e▸k2))⟩,h.dh,
  fun b1 o1 ah=>by have:=h.aU b1 o1 ah;simpa using this,fun m =>?_,h.cU,h.ec,h.fe,h.cX,h.fp,h.lp ao⟩
 simp only[ai.aT];by_cases hm:m=n
 ·subst hm;simp only[if_true,dc];exact ⟨b,aF,k2,World.putObj_heap_same hlt,ho,k5⟩
 ·simp only[if_neg hm];exact (h.bU m).later ao rfl fun e b1 he hb=>⟨World.putObj_heap_other (fun e1=>hm (h.cU m n e _ b1 he aF hb (by rw[e1];rfl))),fun _ ho=>ho⟩
theorem aX.Pm{A:ai}(h:aX c A a w D E){n b:Nat}(aF:E n=some (.op b)):aX c ⟨A.t,fun m=>if m=n then none else A.o m⟩ a w D (fun m=>if m=n then none else E m):=by
 have hne:∀ {m:Nat} {e:bR},E m=some e→(∀ b,e≠.op b)→m≠n:=fun he U e'=>by
  subst e';rw[aF] at he;cases he;exact U _ rfl
 have ao:ef w D E w D (fun m=>if m=n then none else E m):=by
  refine ⟨fun _ _ h=>h,fun _ _ _ _ h=>h,fun m b bg he =>?_,fun m aK l he=>⟨aK,l,?_,zz3 _,fun _=>rfl⟩,fun m b he =>?_,fun m b he =>?_,fun _ _ _ _ h=>h⟩
  ·simp only[if_neg (hne he (fun b=>by simp))];exact he
  ·simp only[if_neg (hne he (fun b=>by simp))];exact he
  ·simp only[if_neg (hne he (fun b=>by simp))];exact he
  ·simp only[if_neg (hne he (fun b=>by simp))];exact he
 refine ⟨h.sz,h.eS,fun t=>a8.later ao (h.eb t),h.dZ,h.dh,h.aU,fun m =>?_,fun m m' e e' b J U af ar =>?_,fun m e hm =>?_,h.fe,h.cX,h.fp,h.fO⟩
 ·by_cases hm:m=n
  ·simp only[hm,if_true,dc]
  ·simp only[if_neg hm];exact (h.bU m).later ao (by simp only[if_neg hm]) fun _ _ _ _=>⟨rfl,fun _ ho=>ho⟩
 ·split at J
  ·cases J
  ·split at U
   ·cases U
   ·exact h.cU m m' e e' b J U af ar
 ·by_cases hmn:m=n
  ·left;simp only[hmn,if_true]
  ·simp only[if_neg hmn];exact h.ec m e hm
theorem aX.enter{ts:List (Nat×I)}{os0:List (Nat×aq)}(h:aX c (aw ts os0) a w D E)(hbase:c.fx=none)(hfree:ak os0 999999=none)(hE0:c.cP 999999=none){o:Obj}(ho:pX o=true) :
  ∃ E1,aX c (aw ts ((999999,.dR o)::os0)) { a with defers := { target:=.collected w.heap.size,args := #[] } :: a.defers } ((w.alloc (.deferred (some []))).alloc o) D E1∧E1 999999=some (.op (w.heap.size+1))∧∀ xs vs,aH w D E xs vs→aH ((w.alloc (.deferred (some []))).alloc o) D E1 xs vs:=by
 have hb:Below w.heap.size w ((w.alloc (.deferred (some []))).alloc o):=((Below.refl _ w).alloc (zz3 _) _).alloc (by simp) _;have J:=h.grow (D':=D) hb (fun _ _ h=>h) (fun _ _ h _=>h) (fun b o' ah=>by have:=h.aU b o' ah;simp;omega);obtain ⟨W,hW⟩:∃ W,W=(w.alloc (.deferred (some []))).alloc o:=⟨_,rfl⟩
 have hL:W.heap[w.heap.size+1]?=some o:=by
  rw[hW];have:=World.alloc_heap_new (w.alloc (.deferred (some []))) o;rwa [World.size_alloc] at this
 have hK:W.heap[w.heap.size]?=some (.deferred (some [])):=by
  rw[hW];exact (Below.heap_alloc _ _ _ (by simp)).trans (World.alloc_heap_new w _)
 rw[←hW] at J hb ⊢;have hEn:E 999999=none:=by have:=h.bU 999999;simp only[aw,hfree] at this;exact this
 have ao:ef W D E W D (fun m=>if m=999999 then some (.op (w.heap.size+1)) else E m):=by
  refine ⟨fun _ _ h=>h,fun _ _ _ _ h=>h,fun m b bg he =>?_,fun m aK l he=>⟨aK,l,?_,zz3 _,fun _=>rfl⟩,fun m b he =>?_,fun m b he =>?_,fun _ _ _ _ h=>h⟩
  all_goals
   have:m≠999999:=fun e=>by rw[e,hEn] at he;cases he
   simp only[if_neg this];exact he
 have hsz:c.eM.heap.size≤w.heap.size:=h.dZ.size;have nb:∀ {m:Nat} {e:bR} {b:Nat},E m=some e→e.aK=some b→b<w.heap.size:=fun he hb'=>h.gw he hb';refine ⟨fun m=>if m=999999 then some (.op (w.heap.size+1)) else E m,⟨J.sz,?_,fun t=>a8.later ao (J.eb t),J.dZ,J.dh,J.aU,fun m =>?_,fun m m' e e' b g1 g2 g3 g4 =>?_,fun m e hm =>?_,J.fe,J.cX,J.fp,J.fO⟩,by simp,fun xs vs hx=>aH.later ao xs vs (aH.later (ef.grow hb fun _ _ h=>h) xs vs hx)⟩
 ·have hdf:=J.eS;rw[hbase] at hdf ⊢;obtain ⟨Bs,k1,k2,k3⟩:=hdf;refine ⟨w.heap.size::Bs,by simp only[zz5];rw[←k1],List.nodup_cons.2 ⟨fun hin =>?_,k2⟩,fun B hB =>?_⟩
  ·have hdf':=h.eS;rw[hbase] at hdf';obtain ⟨Bs',j1,_,j3⟩:=hdf';have e1:Bs=Bs':=by
    have:Bs.map (fun B=>({ target:=.collected B,args := #[] } : Deferred))=Bs'.map (fun B => { target:=.collected B,args := #[] }):=by rw[←k1,←j1]
    exact (List.map_inj_right (fun x y hxy=>by simpa using hxy)).1 this
   rw[e1] at hin;have:=fX (j3 _ hin).2;omega
  ·rcases zx3.1 hB with rfl | hB
   ·exact ⟨hsz,hK⟩
   ·exact k3 B hB
 ·simp only[aw,ak];by_cases hm:m=999999
  ·subst hm;simp only[if_true,dc];exact ⟨_,rfl,.inl (by omega),hL,ho,fun o' ah=>by have:=h.aU _ o' ah;omega⟩
  ·simp only[if_neg hm];exact (J.bU m).later ao (by simp only[if_neg hm]) fun _ _ _ _=>⟨rfl,fun _ ho=>ho⟩
 ·by_cases hm:m=999999 <;>by_cases hm':m'=999999
  ·rw[hm,hm']
  ·simp only[if_pos hm,v6] at g1;simp only[if_neg hm'] at g2;subst g1;simp only[bR.aK,v6] at g3;have:=nb g2 g4;omega
  ·simp only[if_neg hm] at g1;simp only[if_pos hm',v6] at g2;subst g2;simp only[bR.aK,v6] at g4;have:=nb g1 g3;omega
  ·simp only[if_neg hm] at g1;simp only[if_neg hm'] at g2;exact h.cU m m' e e' b g1 g2 g3 g4
 ·have hmn:m≠999999:=fun e=>by rw[e,hE0] at hm;cases hm
  simp only[if_neg hmn];exact h.ec m e hm
theorem dc.iV{M M':Nat→Prop}{n:Nat}{x:Option aq}(h:dc M w D E n x)(hM:∀ e b,E n=some e→e.aK=some b→M' b):dc M' w D E n x:=by
 unfold dc at *;split
 ·exact h
 ·obtain ⟨b,cs,T,J,_,af⟩:=h;exact ⟨b,cs,T,J,hM _ b J rfl,af⟩
 ·obtain ⟨aK,J,U,af⟩:=h;refine ⟨aK,J,U,?_⟩;split
  ·exact af
  ·obtain ⟨cs,pre,rest,_,ar⟩:=af;exact ⟨cs,pre,rest,hM _ _ J rfl,ar⟩
 ·obtain ⟨b,J,_,af⟩:=h;exact ⟨b,J,hM _ b J rfl,af⟩
 ·obtain ⟨b,es,ck,J,_,af⟩:=h;exact ⟨b,es,ck,J,hM _ b J rfl,af⟩
 ·obtain ⟨r,b,es,ck,eZ,se,la,J,_,af⟩:=h;exact ⟨r,b,es,ck,eZ,se,la,J,hM _ r J rfl,af⟩
 ·obtain ⟨aK,J,U,af⟩:=h;refine ⟨aK,J,U,?_⟩;split
  ·exact af
  ·obtain ⟨cs,m,_,ar⟩:=af;exact ⟨cs,m,hM _ _ J rfl,ar⟩
theorem aX.FP{os:List (Nat×aq)} : ∀ (ps:List Nat) (vs:List Value) (xs:List I) (ts:List (Nat×I)) (a:Act),aX c (aw ts os) a w D E→(∀ p∈ps,p<c.n)→aH w D E xs vs→ps.length=vs.length →
  aX c (aw (uR ps xs ts) os) { a with tmps:=(ps.zip vs).foldl (fun t q=>t.setIfInBounds q.1 q.2) a.tmps } w D E
 | [],[],xs,ts,a,h,_,hv,_=>by
  cases xs with
  |nil=>exact h
  |cons x xs=>simp[aH] at hv
 | [],_::_,_,_,_,_,_,_,ao=>by simp at ao
 |_::_,[],_,_,_,_,_,_,ao=>by simp at ao
 |p::ps,v::vs,xs,ts,a,h,hp,hv,ao=>by
  cases xs with
  |nil=>simp[aH] at hv
  |cons x xs =>
   simp only[aH] at hv;obtain ⟨v',rest,cs,e,J,U,af⟩:=hv;simp only[zw3] at e;obtain ⟨rfl,rfl⟩:=e;have ar:=h.put (hp p (by simp)) (gL J U);rw[uu] at ar;have:=aX.FP ps vs xs ((p,x)::ts) (a.put (some p) v) ar (fun q hq=>hp q (by simp[hq])) af (by simpa using ao);exact this
end
end Go.Abs
namespace Go.Abs
open Go Go.RowKit
def jz:bW→Bool
 | .mv _ | .pick .. | .bin .. | .eqv .. | .conv .. | .un .. | .fl .. | .ix .. | .lenT _ | .bld .. | .ext .. | .mk .. | .nilC _ | .ptrE .. | .max2 .. | .prim .. =>true
 | .ld .. | .fa .. | .ia .. | .is .. | .len _ | .va .. | .bs .. | .sl .. | .cap _ | .bs0 _ | .lk .. | .b2s _=>true
 |_=>false
def nC:bW→Bool
 | .alloc _ | .box _ | .bh .. | .call .. | .gi .. | .dk .. =>true
 |op=>jz op
def p6(ab:List FuncId):bW→Bool
 | .alloc _ | .box _=>true
 | .call f _ => !ab.contains f
 |op=>jz op
abbrev ep:=List (Nat×List Nat)
def iF(L:ep)(s:Nat):Option (List Nat):=(L.find? fun q=>q.1==s).map (·.2)
def cZ(L:ep)(A:ai):Prop:=∀ s ns,iF L s=some ns→(A.t s).only (fun n=>ns.contains n)=true
def pZ(L:ep):aM→Option (List Nat)
 | .t s=>iF L s
 | .c x=>if x.bG then some [] else none
def sD(a:Option (List Nat))(ns:List Nat):Bool:=match a with
 |some ms=>ms.all fun m=>ns.contains m
 |none=>false
def iH(L:ep)(g:aJ):Bool:=match g.dst with
 |none=>true
 |some d=>match iF L d with
  |none=>true
  |some ns=>match g.op with
   | .mv x | .nilC x | .fa _ _ x | .ia _ _ x _=>sD (pZ L x) ns
   | .bin .. | .len _ | .bs .. | .bs0 _ | .conv .. | .lenT _ | .prim .. | .b2s _=>true
   | .box _ | .alloc _=>ns.contains d
   | .is _ x _ | .ld _ x=>sD (pZ L x) []
   |_=>false
def nA:bW→Option (List Nat)
 | .ld _ (.t x) | .fa _ _ (.t x) | .ia _ _ (.t x) _ | .is _ (.t x) _ | .len (.t x) | .va _ _ (.t x) | .sl _ (.t x) _ _ _ | .cap (.t x) | .lk _ _ _ (.t x) _ | .b2s (.t x)=>some [x]
 | .bs _ _ ps=>if (ps.all fun x=>match x with | .t _=>true | .c _=>false)=true then some (jR ps) else none
 | .bs0 _=>some []
 |op=>if op.gZ=0∧jz op=true then some [] else none
def tf(L:ep)(g:aJ)(p:Nat→Bool):Bool:=match nA g.op with
 |some xs=>xs.all fun s=>match iF L s with | some ns=>ns.all p | none=>false
 |none=>false
def oN(ab:List FuncId)(L:ep)(g h:aJ):Bool:=p6 ab h.op||match h.op with
 | .bh _ (.t y) _=>match nA g.op with
  |some []=>true
  |_=>match iF L y with
   |some ms=>tf L g fun n => !ms.contains n
   |none=>false
 | .bh .. =>match nA g.op with
  |some []=>true
  |_=>false
 | .dk _ _ _ _ s _=>tf L g (fun _=>false)||sD (pZ L s) []
 |_=>false
def nu(ab:List FuncId)(L:ep)(g h:aJ):Bool:=jz g.op&&(oN ab L g h&&((match g.dst with
  |some d => !h.dj.contains d&&h.dst != some d
  |none=>true)&&(match h.dst with
  |some d => !g.dj.contains d
  |none=>true)))
theorem xK{op:bW}(h:jz op=true)(A:ai)(dst:Option Nat)(rest:List aJ)(k:ai→cS):bt A dst op rest k=cT (bo A op) fun v=>k (A.aW dst v):=by
 cases op <;>first | rfl | cases h
inductive bT (P:Program) (Y:Value→List I→List (Nat×aq)→cL→Prop) (ab:List FuncId) (K:ai→Prop):cS→Prop where
 |done {A:ai} : K A→bT P Y ab K (.done A)
 |flat {f:FuncId} {avs cargs:List I} {a2:Option (List I)} {dst:Option Nat} {rest:List aJ} {A:ai} (r:I):bd P f cargs r→r.flat=true→bT P Y ab K (aE rest (A.aW dst r))→bT P Y ab K (.call f avs (some cargs) a2 dst rest A)
 |lead {f:FuncId} {avs cargs:List I} {a1:Option (List I)} {dst:Option Nat} {rest:List aJ} {A:ai} (r:I):bd P f cargs r→bT P Y ab K (aE rest (A.aW dst r))→bT P Y ab K (.call f avs a1 (some cargs) dst rest A)
 |bU {f:FuncId} {avs:List I} {a1 a2:Option (List I)} {dst:Option Nat} {rest:List aJ} {ts:List (Nat×I)} {os0:List (Nat×aq)} (ρ:List (Nat×Nat)) (cargs:List I) (post:cL):cY P f cargs [] post →
   gG ρ [] os0→h1 false (aw ts os0) ρ [] avs cargs→(∀ r os',post r os'→gX false ρ [] os0 r os') →
   (∀ r os',post r os'→bT P Y ab K (aE rest ((aw ts (dN ρ os'++os0)).aW dst (r.bu (bP ρ)))))→bT P Y ab K (.call f avs a1 a2 dst rest (aw ts os0))
 |any {p:Nat→Prop} {k:Nat→cS} : (∀ m,p m→bT P Y ab K (k m))→bT P Y ab K (.any p k)
 |yB {f:FuncId} {avs:List I} {a1 a2:Option (List I)} {dst:Option Nat} {rest:List aJ} {ts:List (Nat×I)} {os0:List (Nat×aq)} (aP:Bool) (ρ:List (Nat×Nat)) (os:List (Nat×aq)) (cargs:List I) (post:cL):ab.contains f=true→cY P f cargs os post →
   gG ρ os os0→h1 aP (aw ts (e7 (jq ρ os) os0)) ρ os avs cargs→(∀ r os',post r os'→gX aP ρ os os0 r os') →
   (∀ r os',post r os'→bT P Y ab K (aE rest ((aw ts (dN ρ os'++os0)).aW dst (r.bu (bP ρ)))))→bT P Y ab K (.call f avs a1 a2 dst rest (aw ts os0))
 |Ig {v:Value} {avs:List I} {dst:Option Nat} {rest:List aJ} {ts:List (Nat×I)} {os0:List (Nat×aq)} (os:List (Nat×aq)) (cargs:List I) (post:cL):Y v cargs os post →
   gG [] os os0→h1 false (aw ts (e7 (jq [] os) os0)) [] os avs cargs→(∀ r os',post r os'→gX false [] os os0 r os') →
   (∀ r os',post r os'→bT P Y ab K (aE rest ((aw ts (dN [] os'++os0)).aW dst (r.bu (bP [])))))→bT P Y ab K (.lG v avs dst rest (aw ts os0))
theorem CH(os:List (Nat×aq)):e7 [] os=os:=by simp[e7]
section
variable {P:Program} {ab:List FuncId} {K:ai→Prop} {Y:Value→List I→List (Nat×aq)→cL→Prop}
theorem bT.Av{p:Nat→Prop}{k:Nat→cS}(h:bT P Y ab K (.any p k)):∀ m,p m→bT P Y ab K (k m):=by cases h;assumption
theorem cZ.put{L:ep}{A B:ai}(h:cZ L A)(ht:∀ k,B.t k=A.t k){dst:Option Nat}{v:I}(hv:∀ d,dst=some d→∀ ns,iF L d=some ns→v.only (fun n=>ns.contains n)=true):cZ L (B.aW dst v):=by
 intro s ns hs';cases dst with
 |none=>exact (ht s).symm▸h s ns hs'
 |some d =>
  simp only[ai.aW,ai.put];by_cases ah:s=d
  ·rw[if_pos ah];exact hv d rfl ns (ah▸hs')
  ·rw[if_neg ah,ht];exact h s ns hs'
theorem ph{L:ep}{A:ai}(h:cZ L A){x:aM}{ns:List Nat}(hx:sD (pZ L x) ns=true):(aj A x).only (fun n=>ns.contains n)=true:=by
 cases x with
 |c x =>
  simp only[pZ] at hx;split at hx
  ·rename_i hc;exact kW _ x hc
  ·cases hx
 |t s =>
  simp only[pZ] at hx;cases ao:iF L s with
  |none=>rw[ao] at hx;cases hx
  |some ms =>
   rw[ao] at hx;simp only[sD,zx5] at hx;exact iI (fun n hn=>hx n (by simpa using hn)) _ (h s ms ao)
theorem Kk{op:BinOp}{x y v:I}(p:Nat→Bool)(h:cu op x y=some v):v.only p=true:=by
 unfold cu at h
 (repeat' split at h) <;>first | (cases h;done) | (simp only[v6] at h;subst h;rfl)
theorem acQ{q:vN}{xs:List I}{v:I}(p:Nat→Bool)(h:iv q xs=some v):v.only p=true:=by
 unfold iv at h
 (repeat' split at h) <;>first | (cases h;done) | (simp only[v6] at h;subst h;rfl) | (simp only[t8] at h;obtain ⟨_,_,rfl⟩:=h;rfl)
theorem J4{x:Option (List I)}{v:I}(p:Nat→Bool)(h:oc x=some v):v.only p=true:=by
 unfold oc at h;split at h
 ·simp only[t8] at h;obtain ⟨_,_,rfl⟩:=h;rfl
 ·cases h
theorem uI{p:Nat→Bool} : ∀ {xs:List I} {i:Nat} {x:I},I.b8 p xs=true→xs[i]?=some x→x.only p=true
 | [],_,_,_,h=>by simp at h
 |a::xs,0,x,h,e=>by
  simp only[I.b8,zz0] at h;simp only[List.getElem?_cons_zero,v6] at e;exact e▸h.1
 |a::xs,i+1,x,h,e=>by
  simp only[I.b8,zz0] at h;exact uI (xs:=xs) h.2 (by simpa using e)
theorem Fm{L:ep}{A:ai}{g:aJ}(h:cZ L A)(hg:iH L g=true){v:I}(hv:bo A g.op=some v):∀ d,g.dst=some d→∀ ns,iF L d=some ns→v.only (fun n=>ns.contains n)=true:=by
 intro d ah ns hn;obtain ⟨dst,op,gd⟩:=g;simp only at ah hv;subst ah;simp only[iH,hn] at hg;cases op <;>simp only at hg <;>(try (cases hg;done)) <;>simp only[bo] at hv <;>(try (cases hv;done))
 case mv x=>simp only[v6] at hv;exact hv▸ph h hg
 case nilC x =>
  have:=ph h hg;generalize aj A x=u at hv this;cases u <;>simp only[mG] at hv <;>first | (cases hv;done) | (simp only[v6] at hv;exact hv▸this)
 case bin op x y=>exact Kk _ hv
 case conv k x=>split at hv <;>first | (cases hv;done) | (simp only[v6] at hv;subst hv;rfl)
 case prim p xs=>exact acQ _ hv
 case is esz x i =>
  have hx:=ph h hg;split at hv
  case h_2=>cases hv
  split at hv
  ·rename_i sz es he;rw[he] at hx;simp only[I.only] at hx;split at hv
   ·simp only[t8] at hv;obtain ⟨u,hu,rfl⟩:=hv;simp only[I.only];exact iI (fun n hn=>by simp at hn) _ (uI hx hu)
   ·cases hv
  ·rename_i m l he;rw[he] at hx;simp[I.only] at hx
  ·rename_i m p sz lo l he;rw[he] at hx;simp[I.only] at hx
  ·cases hv
 case ld s x =>
  have hx:=ph h hg;split at hv
  case h_2=>cases hv
  rename_i u hu;split at hv
  case isFalse=>cases hv
  simp only[v6] at hv;subst hv;generalize aj A x=z at hx hu;cases z <;>simp only[cM] at hu <;>try (cases hu;done)
  ·simp only[v6] at hu;subst hu;simp only[I.only] at hx;exact iI (fun n hn=>by simp at hn) _ hx
  ·simp[I.only] at hx
 case b2s x=>exact J4 _ hv
 case lenT x=>split at hv <;>first | (cases hv;done) | (simp only[v6] at hv;subst hv;rfl)
 case len x=>(repeat' split at hv) <;>first | (cases hv;done) | (simp only[v6] at hv;subst hv;rfl)
 case bs0 e=>simp only[v6] at hv;subst hv;rfl
 case bs e ps =>
  split at hv
  ·split at hv
   ·rename_i hc;simp only[v6] at hv;subst hv;simp only[I.only];exact oM _ _ hc.2
   ·cases hv
  ·cases hv
 case fa f off x =>
  have hx:=ph h hg;split at hv
  ·rename_i fs he;rw[he] at hx;simp only[I.only] at hx;split at hv
   ·rename_i u hu;split at hv
    ·simp only[v6] at hv;subst hv;simp only[I.only];exact uI hx hu
    ·cases hv
   ·cases hv
  ·rename_i n q he;rw[he] at hx;simp only[I.only] at hx;split at hv
   ·split at hv
    ·simp only[v6] at hv;subst hv;simpa only[I.only] using hx
    ·cases hv
   ·cases hv
  ·cases hv
 case ia n esz x i =>
  have hx:=ph h hg;split at hv
  case h_2=>cases hv
  split at hv
  case isFalse=>cases hv
  split at hv
  ·rename_i fs he;rw[he] at hx;simp only[I.only] at hx;split at hv
   ·simp only[t8] at hv;obtain ⟨u,hu,rfl⟩:=hv;simp only[I.only];exact uI hx hu
   ·cases hv
  ·rename_i m q he;rw[he] at hx;simp only[I.only] at hx;split at hv
   ·split at hv
    ·simp only[v6] at hv;subst hv;simpa only[I.only] using hx
    ·cases hv
   ·cases hv
  ·cases hv
def gN(A:ai)(dst:Option Nat)(s:I)(B:ai):Prop:=(∀ t,dst≠some t→B.t t=A.t t)∧(s.only (fun _=>false)=true→eE A B)
def nX(A:ai)(dst:Option Nat)(s:I)(R:(ai→cS)→cS):Prop :=
 (∀ k,R k=.fail)∨(∃ B,(∀ k,R k=k B)∧gN A dst s B)∨∃ (p:Nat→Prop) (bB:Nat→ai),(∀ k,R k=.any p fun m=>k (bB m))∧∀ m,gN A dst s (bB m)
theorem r9{A B:ai}{dst:Option Nat}{v:I}{t:Nat}(ht:∀ k,B.t k=A.t k)(h:dst≠some t):(B.aW dst v).t t=A.t t:=by
 cases dst with
 |none=>exact ht t
 |some d =>
  have:t≠d:=fun e=>h (by rw[e]);simp only[ai.aW,ai.put,if_neg this];exact ht t
theorem JN(A:ai)(dst:Option Nat)(esz bytes:Nat)(z s:I)(es ys:List I):nX A dst s (gv A dst esz bytes z es ys):=by
 cases dst with
 |none=>exact .inl fun _=>rfl
 |some d =>
  cases ho:A.o d with
  |some y=>exact .inl fun k=>by simp only[gv,ho]
  |none =>
   by_cases hc:(es.length+ys.length)*bytes≤140737488355328∧es.length+ys.length≤maxLen
   ·refine .inr (.inr ⟨_,fun m=>(A.aT d (.box (.agg (es++(ys++List.replicate m z))))).aW (some d) (.view d [] esz 0 (es.length+ys.length)),fun k=>by simp only[gv,ho];rw[if_pos hc],fun m=>⟨fun t ht=>r9 (A:=A) (B:=A.aT d _) (fun _=>rfl) ht,fun _ n y hy =>?_⟩⟩);have:n≠d:=fun e=>by rw[e,ho] at hy;cases hy
    rw[ja];simp only[ai.aT,if_neg this];exact hy
   ·exact .inl fun k=>by simp only[gv,ho];rw[if_neg hc]
theorem JS(A:ai)(dst:Option Nat)(esz bytes:Nat)(z s:I)(es ys:Option (List I)):nX A dst s (fw A dst esz bytes z s es ys):=by
 cases es with
 |none=>exact .inl fun _=>rfl
 |some es =>
  cases ys with
  |none=>exact .inl fun _=>rfl
  |some ys =>
   by_cases aR:ys=[]
   ·exact .inr (.inl ⟨A.aW dst s,fun k=>by simp only[fw,if_pos aR],fun t ht=>r9 (A:=A) (fun _=>rfl) ht,fun _ n y hy=>by rw[ja];exact hy⟩)
   ·have gg:=fun s'=>JN A dst esz bytes z s' es ys;cases s
    case nils=>simp only[nX,fw,if_neg aR];exact gg _
    case c0=>simp only[nX,fw,if_neg aR];exact gg _
    case view n p sz lo l =>
     cases ho:A.o n with
     |none=>exact .inl fun k=>by simp only[fw,if_neg aR,ho]
     |some y =>
      cases y with
      |box b =>
       cases hb:b.at p with
       |none=>exact .inl fun k=>by simp only[fw,if_neg aR,ho,hb]
       |some c =>
        cases c
        case agg fs =>
         by_cases J:lo+l+ys.length≤fs.length
         ·by_cases U:sz=esz∧I.de ys=I.de ((fs.drop (lo+l)).take ys.length)
          ·exact .inr (.inl ⟨(A.aT n (.box (jQ b p (lo+l) fs ys))).aW dst (.view n p esz lo (l+ys.length)),fun k=>by simp only[fw,if_neg aR,ho,hb,if_pos J];rw[if_pos U],fun t ht=>r9 (A:=A) (B:=A.aT n _) (fun _=>rfl) ht,fun h=>by simp[I.only] at h⟩)
          ·exact .inl fun k=>by simp only[fw,if_neg aR,ho,hb,if_pos J];rw[if_neg U]
         ·simp only[nX,fw,if_neg aR,ho,hb,if_neg J];exact gg _
        all_goals exact .inl fun k=>by simp only[fw,if_neg aR,ho,hb]
      |_=>exact .inl fun k=>by simp only[fw,if_neg aR,ho]
    all_goals exact .inl fun k=>by simp only[fw,if_neg aR]
theorem Ay(A:ai)(dst:Option Nat)(e esz bytes:Nat)(z:I)(s x:aM)(rest:List aJ):nX A dst (aj A s) (bt A dst (.dk e esz bytes z s x) rest):=by
 generalize ab:aj A s=df;cases df
 case own n l =>
  cases hx:aj A x
  case slice sz ys =>
   cases ho:A.o n with
   |none=>exact .inl fun k=>by simp only[bt,ab,hx,ho]
   |some y =>
    cases y with
    |bV T sz' es =>
     by_cases hc:yD e esz bytes l sz ys T sz' es
     ·exact .inr (.inl ⟨(A.aT n (.bV e esz (es++ys))).aW dst (.own n (es.length+ys.length)),fun k=>by simp only[bt,ab,hx,ho];rw[if_pos hc],fun t ht=>r9 (A:=A) (B:=A.aT n _) (fun _=>rfl) ht,fun h=>by simp[I.only] at h⟩)
     ·exact .inl fun k=>by simp only[bt,ab,hx,ho];rw[if_neg hc]
    |dT T xs =>
     by_cases hc:yE e esz bytes l ys T xs z
     ·exact .inr (.inl ⟨(A.aT n (.dT e (xs++rE ys))).aW dst (.own n (xs.length+ys.length)),fun k=>by simp only[bt,ab,hx,ho];rw[if_pos hc],fun t ht=>r9 (A:=A) (B:=A.aT n _) (fun _=>rfl) ht,fun h=>by simp[I.only] at h⟩)
     ·exact .inl fun k=>by simp only[bt,ab,hx,ho];rw[if_neg hc]
    |_=>exact .inl fun k=>by simp only[bt,ab,hx,ho]
  all_goals exact .inl fun k=>by simp only[bt,ab,hx]
 all_goals (simp only[nX,bt,ab];exact JS ..)
theorem yV{A:ai}{d:Nat}{v:I}{n:Nat}{y:aq}{dst:Option Nat}{u:I}(h:dst≠some d):((A.put d v).aT n y).aW dst u=((A.aT n y).aW dst u).put d v:=by
 cases dst with
 |none=>rfl
 |some e =>
  have:e≠d:=fun he=>h (by rw[he]);simp only[ai.aW,ai.put,ai.aT,ai.mk.injEq,and_true]
  funext k
  by_cases J:k=e <;>by_cases U:k=d <;>simp_all
theorem ac1{A:ai}{d:Nat}{v:I}{dst:Option Nat}{u:I}(h:dst≠some d):(A.put d v).aW dst u=(A.aW dst u).put d v:=by
 cases dst with
 |none=>rfl
 |some e =>
  have:e≠d:=fun he=>h (by rw[he]);simp only[ai.aW,ai.put,ai.mk.injEq,and_true]
  funext k
  by_cases J:k=e <;>by_cases U:k=d <;>simp_all
theorem JO{A:ai}{d:Nat}{v:I}{dst:Option Nat}(h:dst≠some d)(esz bytes:Nat)(z:I)(es ys:List I)(k:ai→cS):gv (A.put d v) dst esz bytes z es ys k=gv A dst esz bytes z es ys fun B=>k (B.put d v):=by
 cases dst with
 |none=>rfl
 |some e =>
  simp only[gv];have:(A.put d v).o=A.o:=rfl;rw[this];cases A.o e with
  |some _=>rfl
  |none =>
   simp only;split
   ·simp only[yV h]
   ·rfl
theorem JT{A:ai}{d:Nat}{v:I}{dst:Option Nat}(h:dst≠some d)(esz bytes:Nat)(z s:I)(es ys:Option (List I))(k:ai→cS):fw (A.put d v) dst esz bytes z s es ys k=fw A dst esz bytes z s es ys fun B=>k (B.put d v):=by
 have ho:(A.put d v).o=A.o:=rfl;cases es with
 |none=>rfl
 |some es =>
  cases ys with
  |none=>rfl
  |some ys =>
   simp only[fw];split
   ·rw[ac1 h]
   ·cases s <;>simp only[JO h,ho]
    rename_i n p sz lo l;cases A.o n with
    |none=>rfl
    |some y =>
     cases y with
     |box b =>
      simp only;cases b.at p with
      |none=>rfl
      |some c =>
       cases c <;>simp only[yV h]
     |_=>rfl
theorem JX{A:ai}{d:Nat}{v:I}{dst:Option Nat}(h:dst≠some d){e esz bytes:Nat}{z:I}{s x:aM}(hag:eC A (A.put d v) (s.sl++x.sl))(rest rest':List aJ)(k:ai→cS) :
  bt (A.put d v) dst (.dk e esz bytes z s x) rest k=bt A dst (.dk e esz bytes z s x) rest' fun B=>k (B.put d v):=by
 have ho:(A.put d v).o=A.o:=rfl;have hsrc:∀ y,dX (A.put d v) esz y=dX A esz y:=fun y=>by cases y <;>rfl
 simp only[bt,dm hag.l,dm hag.r,hsrc];cases aj A s <;>simp only[JT h]
 rename_i n l;cases aj A x <;>simp only[ho]
 cases A.o n with
 |none=>rfl
 |some y=>cases y <;>simp only[yV h]
theorem bT.B6{L:ep}{f:FuncId}{avs:List I}{a1 a2:Option (List I)}{dst:Option Nat}{rest:List aJ}{A:ai}(hi:cZ L A)(ah:∀ d,dst=some d→iF L d=none)(h:bT P Y ab K (.call f avs a1 a2 dst rest A)) :
  aV P Y false (fun B=>bT P Y ab K (aE rest B)∧cZ L B) (.call f avs a1 a2 dst [] A):=by
 have no:∀ {v:I},∀ d,dst=some d→∀ ns,iF L d=some ns→v.only (fun n=>ns.contains n)=true:=fun d e ns hn=>by rw[ah d e] at hn;cases hn
 cases h with
 |flat r hc hf hw=>exact .flat r hc hf (.done ⟨hw,hi.put (fun _=>rfl) no⟩)
 |lead r hc hw=>exact .lead r hc (.done ⟨hw,hi.put (fun _=>rfl) no⟩)
 |bU ρ cargs post hc hg ha hb hw=>exact .bU false ρ [] cargs post rfl hc hg (by simp only[jq,zx7,CH];exact ha) hb fun r os' hp=>.done ⟨hw r os' hp,hi.put (B:=aw _ (dN ρ os'++_)) (fun _=>rfl) no⟩
 |yB aP ρ os cargs post _ hc hg ha hb hw=>exact .bU aP ρ os cargs post rfl hc hg ha hb fun r os' hp=>.done ⟨hw r os' hp,hi.put (B:=aw _ (dN ρ os'++_)) (fun _=>rfl) no⟩
theorem bT.LJ{L:ep}{v:Value}{avs:List I}{dst:Option Nat}{rest:List aJ}{A:ai}(hi:cZ L A)(ah:∀ d,dst=some d→iF L d=none)(h:bT P Y ab K (.lG v avs dst rest A)) :
  aV P Y false (fun B=>bT P Y ab K (aE rest B)∧cZ L B) (.lG v avs dst [] A):=by
 have no:∀ {v:I},∀ d,dst=some d→∀ ns,iF L d=some ns→v.only (fun n=>ns.contains n)=true:=fun d e ns hn=>by rw[ah d e] at hn;cases hn
 cases h with
 |Ig os cargs post hc hg ha hb hw=>exact .vz os cargs post rfl hc hg ha hb fun r os' hp=>.done ⟨hw r os' hp,hi.put (B:=aw _ (dN [] os'++_)) (fun _=>rfl) no⟩
theorem bT.one{L:ep}{A:ai}{g:aJ}{rest:List aJ}(hi:cZ L A)(ho:nC g.op=true)(hL:iH L g=true)(h:bT P Y ab K (bt A g.dst g.op rest (aE rest))):aV P Y false (fun B=>bT P Y ab K (aE rest B)∧cZ L B) (bt A g.dst g.op [] (aE [])):=by
 have hval:=fun v (hv:bo A g.op=some v)=>Fm hi hL hv;obtain ⟨dst,op,gd⟩:=g;simp only at ho h hval ⊢;have pure:jz op=true→aV P Y false (fun B=>bT P Y ab K (aE rest B)∧cZ L B) (bt A dst op [] (aE [])):=by
  intro hsm;rw[xK hsm] at h ⊢;cases hv:bo A op with
  |none=>rw[hv] at h;cases h
  |some v=>rw[hv] at h;exact .done ⟨h,hi.put (fun _=>rfl) (hval v hv)⟩
 have unl:(∀ ns d,dst=some d→iF L d=some ns→iH L ⟨dst,op,gd⟩=false)→∀ d,dst=some d→iF L d=none:=fun J d ah=>by
  cases hn:iF L d with
  |none=>rfl
  |some ns=>rw[J ns d ah hn] at hL;cases hL
 cases op with
 |alloc z =>
  cases dst with
  |none=>simp only[bt] at h;cases h
  |some d =>
   simp only[bt] at h ⊢;split at h
   case h_2=>cases h
   refine .done ⟨h,hi.put (B:=A.aT d _) (dst:=some d) (fun _=>rfl) fun d' e ns hn =>?_⟩;simp only[v6] at e;subst e;simpa only[iH,hn,I.only] using hL
 |box x =>
  cases dst with
  |none=>simp only[bt] at h;cases h
  |some d =>
   simp only[bt] at h ⊢;split at h
   case h_2=>cases h
   split at h
   case isFalse=>cases h
   rename_i hv;rw[if_pos hv];refine .done ⟨h,hi.put (B:=A.aT d _) (dst:=some d) (fun _=>rfl) fun d' e ns hn =>?_⟩;simp only[v6] at e;subst e;simpa only[iH,hn,I.only] using hL
 |bh s x v =>
  cases dst with
  |some d=>simp only[bt] at h;cases h
  |none =>
   simp only[bt] at h ⊢;split at h
   case h_2=>cases h
   rename_i n p hx;split at h
   case h_2=>cases h
   rename_i b hb;split at h
   case h_2=>cases h
   rename_i old hold;split at h
   case isFalse=>cases h
   rename_i hok;simp only[if_pos hok];exact .done ⟨h,fun s ns hn=>hi s ns hn⟩
 |call f args=>exact bT.B6 hi (unl fun ns d e hn=>by subst e;simp only[iH,hn]) h
 |gi x args =>
  have hu:=unl fun ns d e hn=>by subst e;simp only[iH,hn]
  simp only[bt] at h ⊢;split at h
  ·exact bT.B6 hi hu h
  ·exact bT.LJ hi hu h
  ·cases h
 |dk e esz bytes z s x =>
  have hu:=unl fun ns d e hn=>by subst e;simp only[iH,hn]
  have ud:∀ B,gN A dst (aj A s) B→cZ L B:=fun B hB t ns hn=>by
   rw[hB.1 t fun e=>by rw[hu t e] at hn;cases hn];exact hi t ns hn
  have hf:=Ay A dst e esz bytes z s x;rcases hf rest with J | ⟨B,J,U⟩ | ⟨p,bB,J,U⟩
  ·rw[J] at h;cases h
  ·rw[J] at h;have:bt A dst (.dk e esz bytes z s x) [] (aE [])=aE [] B:=(show bt A dst (.dk e esz bytes z s x) [] (aE [])=bt A dst (.dk e esz bytes z s x) rest (aE []) from rfl).trans (J _);rw[this];exact .done ⟨h,ud B U⟩
  ·rw[J] at h;have:bt A dst (.dk e esz bytes z s x) [] (aE [])=.any p fun m=>aE [] (bB m):=(show bt A dst (.dk e esz bytes z s x) [] (aE [])=bt A dst (.dk e esz bytes z s x) rest (aE []) from rfl).trans (J _);rw[this];exact .any rfl fun m hm=>.done ⟨h.Av m hm,ud _ (U m)⟩
 |_=>first | exact pure rfl | cases ho
def gO(g:aJ)(A:ai)(v:I):Prop:=(gR A g∧v=.undef)∨(pass A g∧bo A g.op=some v)
theorem bT.zE{A:ai}{g:aJ}{rest:List aJ}(hs':jz g.op=true)(h:bT P Y ab K (aE (g::rest) A)):∃ v,gO g A v∧bT P Y ab K (aE rest (A.aW g.dst v)):=by
 have step:pass A g→bT P Y ab K (bt A g.dst g.op rest (aE rest))→∃ v,gO g A v∧bT P Y ab K (aE rest (A.aW g.dst v)):=by
  intro hp h;rw[xK hs'] at h;cases hv:bo A g.op with
  |none=>rw[hv] at h;cases h
  |some v=>rw[hv] at h;exact ⟨v,.inr ⟨hp,hv⟩,h⟩
 simp only[aE] at h;split at h
 ·rename_i hg;exact step (by simp only[pass,hg]) h
 ·rename_i t b hg;split at h
  ·rename_i b' hb;split at h
   ·rename_i hbb;subst hbb;exact step (by simp only[pass,hg];exact hb) h
   ·rename_i hbb;exact ⟨_,.inl ⟨by simp only[gR,hg];exact .inl (by rw[hb,wk hbb]),rfl⟩,h⟩
  ·rename_i hb;exact ⟨_,.inl ⟨by simp only[gR,hg];exact .inr hb,rfl⟩,h⟩
  ·cases h
theorem te{A:ai}{g:aJ}{rest:List aJ}(hn:gR A g):aE (g::rest) A=aE rest (A.aW g.dst .undef):=by
 simp only[aE];cases hg:g.guard with
 |none=>simp only[gR,hg] at hn
 |some tb =>
  obtain ⟨t,b⟩:=tb;simp only[gR,hg] at hn;rcases hn with hn | hn
  ·simp only[hn];rw[if_neg (by cases b <;>simp)]
  ·simp only[hn]
theorem gO.to{A:ai}{g:aJ}{rest:List aJ}{v:I}(hs':jz g.op=true)(h:gO g A v):aE (g::rest) A=aE rest (A.aW g.dst v):=by
 rcases h with ⟨hn,rfl⟩ | ⟨hp,hv⟩
 ·exact te hn
 ·rw[oa hp,xK hs',hv];rfl
theorem O3{A A':ai}{p:Nat→Bool}(ho:∀ n,p n=true→A'.o n=A.o n){x:I}(hx:x.only p=true):cM A' x=cM A x:=by
 cases x <;>simp only[cM]
 rename_i n q;rw[ho n (by simpa[I.only] using hx)]
mutual
theorem P0{A A':ai}{p:Nat→Bool}(ho:∀ n,p n=true→A'.o n=A.o n):∀ {x:I},x.only p=true→br false A' x=br false A x
 | .own n k,h=>by simp only[br];rw[ho n (by simpa[I.only] using h)]
 | .func f caps,h=>by simp only[br];rw[tR ho (xs:=caps) (by simpa[I.only] using h)]
 | .agg fs,h=>by simp only[br];rw[tR ho (xs:=fs) (by simpa[I.only] using h)]
 | .undef,_ | .dF,_ | .bool _,_ | .int _ _,_ | .bm _,_ | .nilp,_ | .dK,_ | .dL,_ | .any,_ | .raw _,_ | .nils _,_ | .c0 _,_ | .slice _ _,_ | .tuple _,_ | .ref _,_ | .iface _ _,_ | .ptr _ _,_ | .view _ _ _ _ _,_ | .mref _,_ | .dC _,_ | .dx _ _,_=>by simp[br]
theorem tR{A A':ai}{p:Nat→Bool}(ho:∀ n,p n=true→A'.o n=A.o n):∀ {xs:List I},I.b8 p xs=true→cm false A' xs=cm false A xs
 | [],_=>rfl
 |x::xs,h=>by
  simp only[I.b8,zz0] at h;simp only[cm,P0 ho h.1,tR ho h.2]
end
theorem Fs{p:Nat→Bool}{f:aM→I} : ∀ {xs:List aM},(∀ x∈xs,(f x).only p=true)→I.b8 p (xs.map f)=true
 | [],_=>rfl
 |x::xs,h=>by
  simp only[zz5,I.b8,zz0];exact ⟨h x (by simp),Fs fun y hy=>h y (by simp[hy])⟩
theorem abb{A A':ai}{p:Nat→Bool}(ho:∀ n,p n=true→A'.o n=A.o n){x:I}(hx:x.only p=true):gy A' x=gy A x:=by
 cases x with
 |mref n=>simp only[gy];rw[ho n (by simpa[I.only] using hx)]
 |raw v=>cases v <;>first | rfl | (rename_i o;cases o <;>rfl)
 |_=>rfl
theorem acR{A A':ai}{op:bW}{xs:List Nat}{p:Nat→Bool}(hm:nA op=some xs)(h:eC A A' op.dj)(hx:∀ s∈xs,(A.t s).only p=true)(ho:∀ n,p n=true→A'.o n=A.o n):bo A' op=bo A op:=by
 have km:op.gZ=0→bo A' op=bo A op:=fun hc=>yT hc h;have dl:=fun {x:I} (hx:x.only p=true)=>O3 ho hx;unfold nA at hm;split at hm
 ·rename_i s x;simp only[v6] at hm;subst hm;have e:=h x (by simp[bW.dj,aM.sl]);simp only[bo,aj,e,dl (hx x (by simp))]
 ·rename_i f off x;simp only[v6] at hm;subst hm;have e:=h x (by simp[bW.dj,aM.sl]);have k:=hx x (by simp);simp only[bo,aj,e];generalize A.t x=u at k ⊢;cases u with
  |ptr n q=>simp only[dl (x:=.ptr n q) k]
  |ref c=>cases c <;>rfl
  |_=>rfl
 ·rename_i n esz x i;simp only[v6] at hm;subst hm;have e:=h x (by simp[bW.dj,aM.sl]);have ei:=dm (x:=i) (fun m hm=>h m (by simp[bW.dj,hm]));have k:=hx x (by simp);simp only[bo,ei];generalize aj A i=w;simp only[aj,e];generalize A.t x=u at k ⊢;cases u with
  |ptr n q=>simp only[dl (x:=.ptr n q) k]
  |ref c=>cases c <;>rfl
  |_=>rfl
 ·rename_i esz x i;simp only[v6] at hm;subst hm;have e:=h x (by simp[bW.dj,aM.sl]);have ei:=dm (x:=i) (fun m hm=>h m (by simp[bW.dj,hm]));have k:=hx x (by simp);simp only[bo,ei];generalize aj A i=w;simp only[aj,e];generalize A.t x=u at k ⊢;cases u with
  |own n l=>simp only[ho n (by simpa[I.only] using k)]
  |view n q=>simp only[dl (x:=.ptr n q) (by simpa[I.only] using k)]
  |_=>rfl
 ·rename_i x;simp only[v6] at hm;subst hm;have e:=h x (by simp[bW.dj,aM.sl]);have k:=hx x (by simp);simp only[bo,aj,e];generalize A.t x=u at k ⊢;cases u with
  |own n l=>simp only[ho n (by simpa[I.only] using k)]
  |_=>rfl
 ·rename_i n esz x;simp only[v6] at hm;subst hm;have e:=h x (by simp[bW.dj,aM.sl]);have k:=hx x (by simp);simp only[bo,aj,e];generalize A.t x=u at k ⊢;cases u with
  |ptr n q=>simp only[dl (x:=.ptr n q) k]
  |ref c=>cases c <;>rfl
  |_=>rfl
 ·rename_i esz x lo hi mx;simp only[v6] at hm;subst hm;have e:=h x (by simp[bW.dj,aM.sl]);have e1:=pL (x:=lo) (fun m hm=>h m (by simp[bW.dj,hm]));have e2:=pL (x:=hi) (fun m hm=>h m (by simp[bW.dj,hm]));have e3:=pL (x:=mx) (fun m hm=>h m (by simp[bW.dj,hm]));have k:=hx x (by simp);simp only[bo,e1,e2,e3];generalize lo.map (aj A)=w1;generalize hi.map (aj A)=w2;generalize mx.map (aj A)=w3;simp only[aj,e];generalize A.t x=u at k ⊢;cases u with
  |view n q=>simp only[dl (x:=.ptr n q) (by simpa[I.only] using k)]
  |_=>rfl
 ·rename_i x;simp only[v6] at hm;subst hm;have e:=h x (by simp[bW.dj,aM.sl]);have k:=hx x (by simp);simp only[bo,aj,e];generalize A.t x=u at k ⊢;cases u with
  |view n q=>simp only[dl (x:=.ptr n q) (by simpa[I.only] using k)]
  |_=>rfl
 ·rename_i ty z ok x kk;simp only[v6] at hm;subst hm;have e:=h x (by simp[bW.dj,aM.sl]);have ek:=dm (x:=kk) (fun m hm=>h m (by simp[bW.dj,hm]));have k:=hx x (by simp);simp only[bo,ek];generalize aj A kk=w;simp only[aj,e,abb ho k]
 ·rename_i x;simp only[v6] at hm;subst hm;have e:=h x (by simp[bW.dj,aM.sl]);have k:=hx x (by simp);simp only[bo,aj,e];generalize A.t x=u at k ⊢;cases u with
  |own n l=>simp only[dX,ho n (by simpa[I.only] using k)]
  |view n q=>simp only[dX,dl (x:=.ptr n q) (by simpa[I.only] using k)]
  |_=>rfl
 ·rename_i esz ps;split at hm
  case isFalse=>cases hm
  rename_i hall;simp only[v6] at hm;subst hm;have hev:ps.map (aj A')=ps.map (aj A):=lO h;have hon:I.b8 p (ps.map (aj A))=true:=Fs fun x hx'=>by
   have J:=zx5.1 hall x hx';cases x with
   |c _=>cases J
   |t s=>exact hx s (by simp only[jR,List.mem_flatMap];exact ⟨_,hx',by simp[aM.sl]⟩)
  simp only[bo,hev,tR ho hon]
 ·rfl
 ·split at hm
  ·rename_i hc;exact km hc.1
  ·cases hm
theorem Aw{L:ep}{A:ai}{g:aJ}{p:Nat→Bool}(hi:cZ L A)(h:tf L g p=true):∃ xs,nA g.op=some xs∧∀ s∈xs,(A.t s).only p=true:=by
 unfold tf at h;split at h
 case h_2=>cases h
 rename_i xs hm;refine ⟨xs,hm,fun s hs' =>?_⟩;have J:=zx5.1 h s hs';split at J
 case h_2=>cases J
 rename_i ns hn;exact iI (fun n U=>zx5.1 J n (by simpa using U)) _ (hi s ns hn)
theorem gO.x6{A A':ai}{g:aJ}{v:I}{xs:List Nat}{p:Nat→Bool}(h:gO g A v)(hm:nA g.op=some xs)(ha:eC A A' g.dj)(hx:∀ s∈xs,(A.t s).only p=true)(ho:∀ n,p n=true→A'.o n=A.o n):gO g A' v:=by
 rcases h with ⟨h,rfl⟩ | ⟨h,k⟩
 ·exact .inl ⟨qf ha h,rfl⟩
 ·exact .inr ⟨nE ha h,by rw[acR hm (aJ.kA ha) hx ho];exact k⟩
theorem gO.ud{L:ep}{A:ai}{g:aJ}{v:I}(hi:cZ L A)(hg:iH L g=true)(h:gO g A v):cZ L (A.aW g.dst v):=by
 rcases h with ⟨_,rfl⟩ | ⟨_,k⟩
 ·exact hi.put (fun _=>rfl) fun _ _ _ _=>rfl
 ·exact hi.put (fun _=>rfl) (Fm hi hg k)
theorem gO.cX{A A':ai}{g:aJ}{v:I}(h:gO g A v)(hu:eE A A')(ha:eC A A' g.dj):gO g A' v:=by
 rcases h with ⟨h,rfl⟩ | ⟨h,k⟩
 ·exact .inl ⟨qf ha h,rfl⟩
 ·exact .inr ⟨nE ha h,FL hu (aJ.kA ha) k⟩
theorem Ef{L:ep}{g h:aJ}(hi:nu ab L g h=true):jz g.op=true∧oN ab L g h=true∧(∀ d,g.dst=some d→d∉h.dj)∧(∀ d,g.dst=some d→h.dst≠some d)∧(∀ d,h.dst=some d→d∉g.dj):=by
 simp only[nu,zz0] at hi;obtain ⟨J,U,af,ar⟩:=hi;refine ⟨J,U,fun d ah =>?_,fun d ah =>?_,fun d ah =>?_⟩
 ·rw[ah] at af;simp at af;exact af.1
 ·rw[ah] at af;simp at af;exact af.2
 ·rw[ah] at ar;simpa using ar
theorem Az{aP:Bool}{A A':ai}{ρ:List (Nat×Nat)}{os:List (Nat×aq)}(hu:eE A A'):∀ {xs cs:List I},h1 aP A ρ os xs cs→h1 aP A' ρ os xs cs
 | [],[],_=>trivial
 |x::xs,c::cs,h=>⟨h.1.imp id fun h=>C5 hu h,Az hu h.2⟩
 | [],_::_,h=>h.elim
 |_::_,[],h=>h.elim
theorem abm{A:ai}{d:Option Nat}{v:I}{ts:List (Nat×I)}{os:List (Nat×aq)}(h:A.aW d v=aw ts os):∃ ts2,A=aw ts2 os∧∀ X:List (Nat×aq),(aw ts2 X).aW d v=aw ts X:=by
 cases d with
 |none=>exact ⟨ts,h,fun _=>rfl⟩
 |some d =>
  have ht:∀ k,(A.aW (some d) v).t k=b9 ts k:=fun k=>by rw[h];rfl
  have ho:A.o=ak os:=by
   have:(A.aW (some d) v).o=ak os:=by rw[h];rfl
   rwa [ja] at this
  refine ⟨(d,A.t d)::ts,?_,fun X =>?_⟩
  ·cases A with
   |mk t o =>
    simp only[aw,ai.mk.injEq];refine ⟨funext fun k =>?_,ho⟩;have:=ht k;simp only[ai.aW,ai.put] at this;simp only[b9];by_cases hk:k=d
    ·subst hk;simp
    ·rw[if_neg hk] at this;have hk':¬ d=k:=fun e=>hk e.symm;simp only[hk,if_false];exact this
  ·simp only[ai.aW,ai.put,aw,ai.mk.injEq,and_true]
   funext k
   have:=ht k;simp only[ai.aW,ai.put] at this;by_cases hk:k=d
   ·subst hk;simp at this ⊢;exact this
   ·have hk':¬ d=k:=fun e=>hk e.symm;simp only[b9,hk,if_false]
theorem acP{ρ:List (Nat×Nat)}{os0 os':List (Nat×aq)}{r:I}(hb:gX false ρ [] os0 r os'){n:Nat}{x:aq}(hx:ak os0 n=some x):ak (dN ρ os'++os0) n=some x:=by
 rw[rS];cases hp:pre ρ os' n with
 |none=>exact hx
 |some m =>
  obtain ⟨J,U⟩:=lY hp;have:=(hb.qb m J (by simp[ay,ak])).1;rw[U,hx] at this;cases this
theorem bT.LH{A B:ai}{j:aJ}{v:I}{f:FuncId}{args:List aM}{dst:Option Nat}{rest:List aJ}(hj:jz j.op=true)(hv:gO j A v)(hB:B=A.aW j.dst v)(hf:ab.contains f=false)(hag:eC A B (jR args))(ah:∀ d,j.dst=some d→dst≠some d)(hr:∀ d,dst=some d→d∉j.dj)
  (h:bT P Y ab K (.call f (args.map (aj B)) (cm true B (args.map (aj B))) (cm false B (args.map (aj B))) dst rest B)):bT P Y ab K (.call f (args.map (aj A)) (cm true A (args.map (aj A))) (cm false A (args.map (aj A))) dst (j::rest) A):=by
 have eo:B.o=A.o:=by rw[hB,ja]
 have cX:eE B A:=fun n x hx=>by rwa [←eo]
 have up':eE A B:=fun n x hx=>by rwa [eo]
 have eav:args.map (aj B)=args.map (aj A):=lO hag;rw[eav] at h;have cont:∀ r:I,bT P Y ab K (aE rest (B.aW dst r))→bT P Y ab K (aE (j::rest) (A.aW dst r)):=fun r hw=>by
  have J:gO j (A.aW dst r) v:=hv.cX (fun n x hx=>by rwa [ja]) (mK hr);rw[J.to hj,qv (fun d hd'=>fun e=>ah d e hd'),←hB];exact hw
 generalize e1:cm true B (args.map (aj A))=a1 at h;generalize e2:cm false B (args.map (aj A))=a2 at h;generalize hBm:B=B0 at h;cases h with
 |flat r hc hfl hw =>
  subst hBm;rw[lQ cX e1];exact .flat r hc hfl (cont r hw)
 |lead r hc hw =>
  subst hBm;rw[lQ cX e2];exact .lead r hc (cont r hw)
 |bU ρ cargs post hc hg ha hb hw =>
  rename_i ts os0;rw[hB] at hBm;obtain ⟨ts2,hA,hts⟩:=abm hBm;have hA':=hA;clear cont;subst hA;refine .bU ρ cargs post hc hg (Az (A:=aw ts os0) (A':=aw ts2 os0) (fun n x hx=>hx) ha) hb fun r os' hp =>?_;have J:gO j ((aw ts2 (dN ρ os'++os0)).aW dst (r.bu (bP ρ))) v:=hv.cX (fun n x hx=>by
   rw[ja];exact acP (hb r os' hp) hx) (fun k hk=>by
    have:=mK (A:=aw ts2 (dN ρ os'++os0)) (v:=r.bu (bP ρ)) hr k hk;rw[this];rfl)
  rw[J.to hj,qv (fun d hd'=>fun e=>ah d e hd'),hts];exact hw r os' hp
 |yB aP ρ os cargs post hfs =>
  rw[hf] at hfs;cases hfs
theorem bT.sF{L:ep}{A:ai}{j g:aJ}{rest:List aJ}(hinv:cZ L A)(hi:nu ab L j g=true)(hw:bT P Y ab K (aE (j::g::rest) A)):bT P Y ab K (aE (g::j::rest) A):=by
 obtain ⟨hj,ao,i1,i2,i3⟩:=Ef hi;obtain ⟨v,hv,hw⟩:=bT.zE hj hw;have ag:eC (A.aW j.dst v) A g.dj:=(mK i1).symm;have ag':eC A (A.aW j.dst v) g.dj:=mK i1;have cX:eE (A.aW j.dst v) A:=fun n x hx=>by rwa [ja] at hx
 have up':∀ (d:Option Nat) (u:I),eE A (A.aW d u):=fun d u n x hx=>by rwa [ja]
 by_cases hsg:jz g.op=true
 ·obtain ⟨u,hu,hw⟩:=bT.zE hsg hw;rw[(hu.cX cX ag).to hsg,(hv.cX (up' _ _) (mK i3)).to hj,←qv i2];exact hw
 ·-- the guard
  have guard:(gR (A.aW j.dst v) g∧aE (g::rest) (A.aW j.dst v)=aE rest ((A.aW j.dst v).aW g.dst .undef))∨(pass (A.aW j.dst v) g∧aE (g::rest) (A.aW j.dst v)=bt (A.aW j.dst v) g.dst g.op rest (aE rest))∨aE (g::rest) (A.aW j.dst v)=.fail:=by
   cases hg:g.guard with
   |none=>exact .inr (.inl ⟨by simp only[pass,hg],by simp only[aE,hg]⟩)
   |some tb =>
    obtain ⟨t,b⟩:=tb;cases ht:(A.aW j.dst v).t t with
    |bool b' =>
     by_cases hbb:b'=b
     ·subst hbb;have hp:pass (A.aW j.dst v) g:=by simp only[pass,hg,ht]
      exact .inr (.inl ⟨hp,oa hp⟩)
     ·have hn:gR (A.aW j.dst v) g:=by simp only[gR,hg];exact .inl (by rw[ht,wk hbb])
      exact .inl ⟨hn,te hn⟩
    |undef =>
     have hn:gR (A.aW j.dst v) g:=by simp only[gR,hg];exact .inr ht
     exact .inl ⟨hn,te hn⟩
    |_=>exact .inr (.inr (by simp only[aE,hg,ht]))
  rcases guard with ⟨hn,he⟩ | ⟨hp,he⟩ | he
  ·rw[he] at hw;rw[te (qf ag hn),(hv.cX (up' _ _) (mK i3)).to hj,←qv i2];exact hw
  ·rw[he] at hw;rw[oa (nE ag hp)];obtain ⟨dst,op,gd⟩:=g;simp only at hw hsg i2 i3 ⊢;cases op with
   |alloc z =>
    cases dst with
    |none=>simp only[bt] at hw;cases hw
    |some d =>
    simp only[bt] at hw ⊢;split at hw
    case h_2=>cases hw
    rename_i ho;rw[ja] at ho;simp only[ho];have J:gO j ((A.aT d (.box z)).put d (.ptr d [])) v:=hv.cX (fun n y hy=>by
     have:n≠d:=fun he=>by rw[he,ho] at hy;cases hy
     simp only[ai.put,ai.aT,this,if_false];exact hy) (fun k hk=>by
     have:k≠d:=fun he=>i3 d rfl (he▸hk);simp only[ai.put,ai.aT,this,if_false])
    rw[J.to hj];have e:((A.aW j.dst v).aT d (.box z)).put d (.ptr d [])=((A.aT d (.box z)).put d (.ptr d [])).aW j.dst v:=by
     cases hgd:j.dst with
     |none=>rfl
     |some e =>
      have hne:e≠d:=fun he=>i2 e hgd (by rw[he]);simp only[ai.aW,ai.put,ai.aT,ai.mk.injEq,and_true]
      funext k
      by_cases J:k=e <;>by_cases U:k=d <;>simp_all
    rw[←e];exact hw
   |box x =>
    have ex:aj (A.aW j.dst v) x=aj A x:=dm (aJ.kA ag');cases dst with
    |none=>simp only[bt] at hw;cases hw
    |some d =>
    simp only[bt] at hw ⊢;split at hw
    case h_2=>cases hw
    rename_i ho;rw[ja] at ho;simp only[ho];rw[ex] at hw;split at hw
    case isFalse=>cases hw
    rename_i hval;rw[if_pos hval];have J:gO j ((A.aT d (.box (aj A x))).put d (.ptr d [])) v:=hv.cX (fun n y hy=>by
     have:n≠d:=fun he=>by rw[he,ho] at hy;cases hy
     simp only[ai.put,ai.aT,this,if_false];exact hy) (fun k hk=>by
     have:k≠d:=fun he=>i3 d rfl (he▸hk);simp only[ai.put,ai.aT,this,if_false])
    rw[J.to hj];have e:((A.aW j.dst v).aT d (.box (aj A x))).put d (.ptr d [])=((A.aT d (.box (aj A x))).put d (.ptr d [])).aW j.dst v:=by
     cases hgd:j.dst with
     |none=>rfl
     |some e =>
      have hne:e≠d:=fun he=>i2 e hgd (by rw[he]);simp only[ai.aW,ai.put,ai.aT,ai.mk.injEq,and_true]
      funext k
      by_cases J:k=e <;>by_cases U:k=d <;>simp_all
    rw[←e];exact hw
   |call f args =>
    simp only[bt] at hw ⊢;refine bT.LH hj hv rfl (by simpa[oN,p6] using ao) (aJ.kA ag') i2 i3 hw
   |bh s y u =>
    cases dst with
    |some d=>simp only[bt] at hw;cases hw
    |none =>
    have ey:aj (A.aW j.dst v) y=aj A y:=dm (aJ.kA ag').l;have eu:aj (A.aW j.dst v) u=aj A u:=dm (aJ.kA ag').r;simp only[bt] at hw ⊢;rw[ey,eu,ja] at hw;cases hx:aj A y <;>simp only[hx] at hw ⊢ <;>try (cases hw;done)
    rename_i n q;cases ho:A.o n with
    |none=>rw[ho] at hw;cases hw
    |some ob =>
    rw[ho] at hw;cases ob <;>simp only at hw ⊢ <;>try (cases hw;done)
    rename_i b;cases hb:b.at q with
    |none=>rw[hb] at hw;cases hw
    |some old =>
    rw[hb] at hw;simp only at hw ⊢;split at hw
    case isFalse=>cases hw
    rename_i hok;rw[if_pos hok];have J:gO j (A.aT n (.box (b.ev q (aj A u)))) v:=by
     have none0:nA j.op=some []→gO j (A.aT n (.box (b.ev q (aj A u)))) v:=fun hm=>hv.x6 (p:=fun _=>false) hm (fun _ _=>rfl) (fun s hs'=>by cases hs') (fun m hm=>by cases hm);cases y with
     |c y =>
      simp only[oN,p6,jz,Bool.false_or] at ao;split at ao
      ·rename_i hm;exact none0 hm
      ·cases ao
     |t y =>
      simp only[oN,p6,jz,Bool.false_or] at ao;split at ao
      ·rename_i hm;exact none0 hm
      ·split at ao
       case h_2=>cases ao
       rename_i ms hms;obtain ⟨xs,hm,hx2⟩:=Aw hinv ao;refine hv.x6 hm (fun _ _=>rfl) hx2 fun m hm2 =>?_;have hn:=hinv y ms hms;simp only[aj] at hx;rw[hx] at hn;have:m≠n:=fun e=>by subst e;simp[I.only] at hn hm2;exact hm2 hn
       simp only[ai.aT,if_neg this]
    rw[J.to hj];have e:(A.aW j.dst v).aT n (.box (b.ev q (aj A u)))=(A.aT n (.box (b.ev q (aj A u)))).aW j.dst v:=by cases j.dst <;>rfl
    rw[←e];exact hw
   |dk e esz bytes z s x =>
    have hag:eC A (A.aW j.dst v) (s.sl++x.sl):=aJ.kA ag';have he2:bt (A.aW j.dst v) dst (.dk e esz bytes z s x) rest (aE rest)=bt A dst (.dk e esz bytes z s x) (j::rest) fun B=>aE rest (B.aW j.dst v):=by
     cases hjd:j.dst with
     |none=>rfl
     |some d =>
      rw[hjd] at hag;exact JX (fun e=>i2 d hjd e) hag rest (j::rest) (aE rest)
    rw[he2] at hw;have jj:∀ B,gN A dst (aj A s) B→aE (j::rest) B=aE rest (B.aW j.dst v):=fun B hB=>by
     have hagB:eC A B j.dj:=fun k hk=>hB.1 k fun e=>i3 k e hk;have:gO j B v:=by
      simp only[oN,p6,jz,Bool.false_or,Bool.or_eq_true] at ao;rcases ao with ao | ao
      ·obtain ⟨xs,hm,hx2⟩:=Aw hinv ao;exact hv.x6 hm hagB hx2 fun m hm2=>by cases hm2
      ·have:=ph hinv ao;exact hv.cX (hB.2 (by simpa using this)) hagB
     rw[this.to hj]
    rcases Ay A dst e esz bytes z s x (j::rest) with J | ⟨B,J,U⟩ | ⟨p,bB,J,U⟩
    ·rw[J] at hw;cases hw
    ·rw[J] at hw ⊢;rw[jj B U];exact hw
    ·rw[J] at hw ⊢;exact .any fun m hm=>by rw[jj _ (U m)];exact hw.Av m hm
   |_=>first | exact absurd rfl hsg | (simp[oN,p6,jz] at ao)
  ·rw[he] at hw;cases hw
theorem bT.oe{L:ep}{g:aJ} : ∀ {l:List aJ} {r:List aJ} {A:ai},cZ L A→(∀ j∈l,nu ab L j g=true∧iH L j=true)→bT P Y ab K (aE (l++g::r) A)→bT P Y ab K (aE (g::(l++r)) A)
 | [],r,A,_,_,h=>h
 |j::l,r,A,hinv,hi,h=>by
  have hj:=(Ef (hi j (by simp)).1).1;obtain ⟨v,hv,U⟩:=bT.zE (g:=j) (rest:=l++g::r) hj h;have af:=bT.oe (l:=l) (r:=r) (hv.ud hinv (hi j (by simp)).2) (fun k hk=>hi k (by simp[hk])) U;refine bT.sF hinv (hi j (by simp)).1 ?_;rw[hv.to hj];exact af
end
def rZ:List Nat→Bool
 | []=>true
 |a::l => !l.contains a&&rZ l
def qP(ab:List FuncId)(L:ep)(gs:List aJ)(cl:List Nat):List Nat→List Nat→Bool
 |_,[]=>true
 |before,i::σ=>(before.all fun j=>(cl.getD i 0).testBit j||nu ab L (gs.getD j default) (gs.getD i default))&&qP ab L gs cl (i::before) σ
def uO(ab:List FuncId)(L:ep)(on:List (List Nat))(gs:List aJ)(cl:List Nat)(σ:List Nat):Bool :=
 (Nat.beq σ.length gs.length&&(rZ σ&&(σ.all (fun i=>decide (i<gs.length))&&((List.range gs.length).all (fun i=>σ.contains i)&&gs.all fun g=>nC g.op&&iH L g))))&&(qP ab L gs cl [] σ&&(List.range gs.length).all fun i=>(on.getD i []).all (fun k=>decide (k<i))&&Nat.beq (cl.getD i 0) (mc cl (on.getD i [])))
theorem yn:∀ {l:List Nat},rZ l=true→l.Nodup
 | [],_=>List.nodup_nil
 |a::l,h=>by
  simp only[rZ,zz0,Bool.not_eq_true',List.contains_eq_mem,decide_eq_false_iff_not] at h;exact List.nodup_cons.2 ⟨h.1,yn h.2⟩
theorem v7{ab:List FuncId}{L:ep}{gs:List aJ}{cl:List Nat} : ∀ {σ before:List Nat},qP ab L gs cl before σ=true→∀ s1 i s2,σ=s1++i::s2→∀ j,j∈before∨j∈s1→(cl.getD i 0).testBit j=true∨nu ab L (gs.getD j default) (gs.getD i default)=true
 | [],_,_,s1,i,s2,e,_,_=>by cases s1 <;>cases e
 |a::σ,before,h,s1,i,s2,e,j,hj=>by
  simp only[qP,zz0,zx5,Bool.or_eq_true] at h;cases s1 with
  |nil =>
   simp only[List.nil_append,zw3] at e;obtain ⟨rfl,rfl⟩:=e;rcases hj with hj | hj
   ·exact h.1 j hj
   ·cases hj
  |cons b s1 =>
   simp only[zy1,zw3] at e;obtain ⟨rfl,rfl⟩:=e;refine v7 h.2 s1 i s2 rfl j ?_;rcases hj with hj | hj
   ·exact .inl (List.mem_cons_of_mem _ hj)
   ·rcases zx3.1 hj with hj | hj
    ·exact .inl (by rw[hj];exact List.mem_cons_self)
    ·exact .inr hj
def eh(σ:List Nat)(listed:Array Bool):List Nat:=σ.filter fun i => !listed.getD i true
def gS(gs:List aJ)(σ:List Nat)(listed:Array Bool):List aJ:=(eh σ listed).map fun i=>gs.getD i default
theorem y9{σ:List Nat}{listed:Array Bool}{i:Nat}(hn:σ.Nodup)(hi:i∈σ)(ao:i<listed.size)(hu:listed.getD i true=false):∃ s1 s2,σ=s1++i::s2∧eh σ listed=(s1.filter fun j => !listed.getD j true)++i::(s2.filter fun j => !listed.getD j true) ∧
  eh σ (listed.setIfInBounds i true)=(s1.filter fun j => !listed.getD j true)++(s2.filter fun j => !listed.getD j true):=by
 obtain ⟨s1,s2,rfl⟩:=List.append_of_mem hi;have same:∀ j,j≠i→(listed.setIfInBounds i true).getD j true=listed.getD j true:=fun j hj=>getD_set_ne true (Ne.symm hj);have lR:(listed.setIfInBounds i true).getD i true=true:=by simp[ao]
 have hnd:=List.nodup_append.1 hn;have J:∀ j∈s1,j≠i:=fun j hj=>hnd.2.2 j hj i List.mem_cons_self;have U:∀ j∈s2,j≠i:=fun j hj e=>(List.nodup_cons.1 hnd.2.1).1 (e▸hj);refine ⟨s1,s2,rfl,?_,?_⟩
 ·simp only[eh,List.filter_append,List.filter_cons,hu,Bool.not_false,if_true]
 ·simp only[eh,List.filter_append,List.filter_cons,lR,Bool.not_true,zz2,if_false]
  congr 1
  ·exact List.filter_congr fun j hj=>by rw[same j (J j hj)]
  ·exact List.filter_congr fun j hj=>by rw[same j (U j hj)]
structure An (ab:List FuncId) (L:ep) (l:List Oper) (gs:List aJ) (σ:List Nat):Prop where
 oJ:σ.Nodup
 lt:∀ i∈σ,i<gs.length
 all:∀ i,i<gs.length→i∈σ
 ok:∀ g∈gs,nC g.op=true∧iH L g=true
 len:σ.length=gs.length
 je:∀ i o,l[i]?=some o→∀ k∈cB o,k<i
 pW:∀ (S:Nat→Prop),(∀ i o,l[i]?=some o→S i→∀ k∈cB o,S k)→∀ s1 i s2 o,σ=s1++i::s2→l[i]?=some o→(∀ k∈cB o,S k)→∀ j∈s1,¬ S j→nu ab L (gs.getD j default) (gs.getD i default)=true
theorem acE{ab:List FuncId}{L:ep}{l:List Oper}{gs:List aJ}{cl σ:List Nat}(hlen:gs.length=l.length)(h:uO ab L (l.map cB) gs cl σ=true):An ab L l gs σ:=by
 simp only[uO,zz0,zx5,decide_eq_true_eq,zv8,List.contains_eq_mem] at h;obtain ⟨⟨J,U,af,ar,h5⟩,h6,h7⟩:=h;have fV:∀ i o,l[i]?=some o→(∀ k∈cB o,k<i)∧(∀ j,(cl.getD i 0).testBit j=true→j∈cB o∨∃ k∈cB o,(cl.getD k 0).testBit j=true):=by
  intro i o ho;have hi:i<l.length:=(zz7.1 ho).1;have h8:=h7 i (by omega);have hon:(l.map cB).getD i []=cB o:=by simp[zz1,ho]
  rw[hon] at h8;have hb:=Nat.eq_of_beq_eq_true h8.2;exact ⟨h8.1,fun j hj=>sJ (by rw[←hb];exact hj)⟩
 refine ⟨yn U,af,ar,h5,Nat.eq_of_beq_eq_true J,fun i o ho=>(fV i o ho).1,?_⟩;intro S hS s1 i s2 o e ho hon j hj hnj;have key:∀ n i o,i≤n→l[i]?=some o→(∀ k∈cB o,S k)→∀ j,(cl.getD i 0).testBit j=true→S j:=by
  intro n
  induction n with
  |zero =>
   intro i o hi ho hon j hj;obtain ⟨h8,h9⟩:=fV i o ho;rcases h9 j hj with h | ⟨k,hk,_⟩
   ·exact hon j h
   ·have:=h8 k hk;omega
  |succ n ih =>
   intro i o hi ho hon j hj;obtain ⟨h8,h9⟩:=fV i o ho;rcases h9 j hj with h | ⟨k,hk,hjk⟩
   ·exact hon j h
   ·have hki:=h8 k hk;have hkl:k<l.length:=Nat.lt_trans hki (zz7.1 ho).1;obtain ⟨ok,hok⟩:∃ ok,l[k]?=some ok:=⟨l[k],zy2 hkl⟩
    exact ih k ok (by omega) hok (hS k ok hok (hon k hk)) j hjk
 rcases v7 h6 s1 i s2 e j (.inr hj) with h | h
 ·exact absurd (key i i o (zz3 _) ho hon j h) hnj
 ·exact h
section
variable {c:cV}
theorem tT{K:ai→Prop}{ab:List FuncId}{L:ep}{aY:Array Oper}{Q:Exit→Act→World→Prop}{o:Oper}{g:aJ}{rest:List aJ}{A:ai}{a:Act}{w:World}{Kw:Act→World→Prop}(hg:mi c.P c.n aY o=some g)(hi:cZ L A)(ho:nC g.op=true∧iH L g=true)(hwp:bT c.P c.Y ab K (aE (g::rest) A))(hs':cd c A a w)
  (hK:∀ B a' w',bT c.P c.Y ab K (aE rest B)→cZ L B→cd c B a' w'→Kw a' w'):if Region.wanted o (yielded aY a.tmps) then o.wpIn c.bB 9 c.P a w Kw Q else (∀ f,o.about c.P w a.eval=some f→c.bB.fn f)∧Kw (a.put o.dst undef) w:=by
 obtain ⟨J,U,af,ar⟩:=og hg;have step:bT c.P c.Y ab K (bt A g.dst g.op rest (aE rest))→o.wpIn c.bB 9 c.P a w Kw Q:=fun h =>
  tU J U.symm (by rw[U];exact af) (bT.one (Y:=c.Y) hi ho.1 ho.2 h) hs' (fun B a' w' hw hs2=>by
   cases hw with
   |done hk=>exact hK B a' w' hk.1 hk.2 hs2)
 simp only[aE] at hwp;rcases ar with ⟨h5,h6⟩ | ⟨j,b,t,h5,h6,h7⟩
 ·rw[h6] at hwp;have hw:Region.wanted o (yielded aY a.tmps)=true:=by simp[Region.wanted,h5]
  rw[hw,if_pos rfl];exact step hwp
 ·rw[h7] at hwp;simp only at hwp;split at hwp
  ·rename_i b' hb';rw[tZ hs' h5 h6 hb'];split at hwp
   ·rename_i hbb;subst hbb;simp only[BEq.rfl,if_true];exact step hwp
   ·rename_i hbb;have:(b'==b)=false:=by simpa using hbb
    rw[this];simp only[zz2,if_false];exact ⟨fun f _=>mz c f,hK _ _ _ hwp (hi.put (fun _=>rfl) fun _ _ _ _=>rfl) (by rw[U];exact hs'.nJ af)⟩
  ·rename_i hb';rw[ua hs' h5 h6 hb'];simp only[zz2,if_false];exact ⟨fun f _=>mz c f,hK _ _ _ hwp (hi.put (fun _=>rfl) fun _ _ _ _=>rfl) (by rw[U];exact hs'.nJ af)⟩
  ·cases hwp
theorem JK{K:ai→Prop}{fs:List FuncId}{L:ep}{aY:Array Oper}{gs:List aJ}{σ:List Nat}{Q:Exit→Act→World→Prop}(hQ:∀ B a w,K B→cd c B a w→Q .normal a w)(hgs:gh c.P c.n aY aY.toList=some gs)(ah:An fs L aY.toList gs σ) :
  ∀ (fuel:Nat) (listed:Array Bool) (A:ai) (a:Act) (w:World),listed.size=aY.size→(∀ i o,aY.toList[i]?=some o→listed.getD i false=true→∀ k∈cB o,listed.getD k false=true)→(eh σ listed).length≤fuel →
   cZ L A→bT c.P c.Y fs K (aE (gS gs σ listed) A)→cd c A a w→wpAnyIn c.bB 9 c.P .any aY Q fuel listed a w:=by
 obtain ⟨hlen,hat⟩:=jg hgs;have onOf_mem:∀ (o:Oper) (e:Edge),e∈o.after→Region.binds .any e=true→e.on∈cB o:=fun o e he hb=>by
  simp only[cB,zy9,zv2];exact ⟨e,⟨by simpa using he,hb⟩,rfl⟩
 have of_onOf:∀ (o:Oper) (k:Nat),k∈cB o→∃ e∈o.after,Region.binds .any e=true∧e.on=k:=fun o k hk=>by
  simp only[cB,zy9,zv2] at hk;obtain ⟨e,⟨J,U⟩,af⟩:=hk;exact ⟨e,by simpa using J,U,af⟩
 have hgl:gs.length=aY.size:=by rw[hlen,zx6]
 have last:∀ (listed:Array Bool) (A:ai) (a:Act) (w:World),listed.size=aY.size→Region.ready .any aY listed=[]→bT c.P c.Y fs K (aE (gS gs σ listed) A)→cd c A a w→Q .normal a w:=by
  intro listed A a w hsz hr hwp ab;have hnone:eh σ listed=[]:=by
   have all:∀ n,∀ i,i<n→i<aY.size→listed.getD i true=true:=by
    intro n
    induction n with
    |zero=>intro i hi;omega
    |succ n ih =>
     intro i hi his;cases hb:listed.getD i true with
     |true=>rfl
     |false =>
      exfalso
      have ho:aY[i]?=some aY[i]:=zv7 his;have:i∈Region.ready .any aY listed:=mem_ready.2 ⟨hb,aY[i],ho,fun e he hbd=>by
       have hlt:=ah.je i aY[i] (by simp) e.on (onOf_mem _ e he hbd);have J:=ih e.on (by omega) (by omega);have U:e.on<listed.size:=by omega
       simpa[Array.getD_eq_getD_getElem?,U] using J⟩
      rw[hr] at this;cases this
   simp only[eh];refine List.filter_eq_nil_iff.2 fun i hi =>?_;have:=all (i+1) i (by omega) (by rw[←hgl];exact ah.lt i hi);simp only[this,Bool.not_true,zz2,not_false_eq_true]
  simp only[gS,hnone,zx7,aE] at hwp;cases hwp with
  |done hk=>exact hQ A a w hk ab
 intro fuel
 induction fuel with
 |zero =>
  intro listed A a w hsz hcl hcnt hinv hwp ab;have hnone:eh σ listed=[]:=List.length_eq_zero_iff.1 (by omega);have hr:Region.ready .any aY listed=[]:=by
   refine List.eq_nil_iff_forall_not_mem.2 fun i hi =>?_;obtain ⟨J,o,ho,_⟩:=mem_ready.1 hi;have:i∈eh σ listed:=by
    simp only[eh,zv2,J,Bool.not_false,and_true];exact ah.all i (by rw[hgl];exact (zy4.1 ho).1)
   rw[hnone] at this;cases this
  exact ⟨hr,last listed A a w hsz hr hwp ab⟩
 |succ fuel ih =>
  intro listed A a w hsz hcl hcnt hinv hwp ab;refine ⟨fun hr=>last listed A a w hsz hr hwp ab,fun i hi =>?_⟩;obtain ⟨hun,o,ho,hall⟩:=mem_ready.1 hi;have hin:i<aY.size:=(zy4.1 ho).1;obtain ⟨s1,s2,hσ,e1,e2⟩:=y9 ah.oJ (ah.all i (by omega)) (by omega) hun;have hol:aY.toList[i]?=some o:=by simpa using ho
  obtain ⟨g,hgi,hcg⟩:=hat i o hol;have hon:∀ k∈cB o,listed.getD k false=true:=fun k hk=>by
   obtain ⟨e,J,U,af⟩:=of_onOf o k hk;exact af▸hall e J U
  have hgd:gs.getD i default=g:=by simp[zz1,hgi]
  have hwp':bT c.P c.Y fs K (aE (g::gS gs σ (listed.setIfInBounds i true)) A):=by
   simp only[gS,e1,zy5,zz5,hgd] at hwp;simp only[gS,e2,zy5];refine bT.oe hinv (fun j hj =>?_) hwp;obtain ⟨k,hk,rfl⟩:=zy9.1 hj;obtain ⟨hk1,hk2⟩:=zv2.1 hk;have:=ah.pW (fun k=>listed.getD k false=true) hcl s1 i s2 o hσ hol hon k hk1 (by
    have hks:k<listed.size:=by
     have:=ah.lt k (by rw[hσ];exact List.mem_append_left _ hk1);omega
    simp[Array.getD_eq_getD_getElem?,hks] at hk2 ⊢;exact hk2)
   rw[hgd] at this;refine ⟨this,(ah.ok _ ?_).2⟩;have hkl:=ah.lt k (by rw[hσ];exact List.mem_append_left _ hk1);rw[zz1,zy2 hkl];exact zw7 _
  unfold wpOpIn;rw[ho];refine tT hcg hinv (ah.ok g (List.mem_of_getElem? hgi)) hwp' ab fun B a' w' hw hiB hs'=>ih _ B a' w' (by simpa using hsz) ?_ ?_ hiB hw hs'
  ·intro m om hom hm k hk;by_cases hmi:m=i
   ·subst hmi;rw[hol,v6] at hom;subst hom;exact getD_set_true (hon k hk)
   ·rw[getD_set_ne false (Ne.symm hmi)] at hm;exact getD_set_true (hcl m om hom hm k hk)
  ·have:(eh σ listed).length=(eh σ (listed.setIfInBounds i true)).length+1:=by
    rw[e1,e2];simp;omega
   omega
def fm(σ:List Nat)(gs:List aJ):List aJ:=σ.map fun i=>gs.getD i default
theorem ae.ada{Q:Exit→ai→Prop}{A:ai}{on:List (List Nat)}{gs:List aJ}(ab:List FuncId)(L:ep)(cl σ:List Nat)(ah:uO ab L on gs cl σ=true)(hi:cZ L A)(h:∀ K:ai→Prop,(∀ B,Q .normal B→K B)→bT c.P c.Y ab K (aE (fm σ gs) A)):ae c (.cg (some on) gs) Q A:=by
 intro code hc a w hs';cases code <;>simp only[eN] at hc <;>try (first | (cases hc;done) | ((repeat' split at hc) <;>cases hc;done))
 rename_i id aY draw;split at hc
 ·rename_i gs' hgs;split at hc
  case isFalse=>cases hc
  rename_i hok;simp only[v6,bx.cg.injEq] at hc;obtain ⟨he,rfl⟩:=hc;cases draw with
  |false=>cases he
  |true =>
   simp only[cond_true,v6] at he;subst he;simp only[Bool.not_true,Bool.false_or] at hok;have hp:=acE (jg hgs).1 ah;refine wpIn_region_any hok (JK (K:=Q .normal) (fun B a w hk ab=>⟨B,hk,ab⟩) hgs hp aY.size (Array.replicate aY.size false) A a _ (by simp) ?_ ?_ hi ?_ ?_)
   ·intro i o _ h
    exfalso
    simp only[Array.getD_eq_getD_getElem?,Array.getElem?_replicate] at h;split at h <;>simp at h
   ·refine zu0 (List.length_filter_le _ _) ?_;rw[hp.len,(jg hgs).1,zx6];exact zz3 _
   ·have hall:eh σ (Array.replicate aY.size false)=σ:=by
     simp only[eh];refine List.filter_eq_self.2 fun i hi =>?_;have J:=hp.lt i hi;rw[(jg hgs).1,zx6] at J;simp[J]
    simp only[gS,hall];exact h _ fun _ hb=>hb
   ·obtain ⟨D,E,hs'⟩:=hs';exact ⟨D,E,hs'.grow (w' := { w with drawn:=w.drawn+1 }) ⟨rfl,rfl,rfl,zz3 _,fun _ _=>rfl⟩ (fun _ _ h=>h) (fun _ _ h _=>h) (fun b o h=>hs'.aU b o h)⟩
 ·cases hc
def fG(ts:List (Nat×I)):ep→Prop
 | []=>True
 |(s,ns)::L=>(b9 ts s).only (fun n=>ns.contains n)=true∧fG ts L
theorem cZ.of{ts:List (Nat×I)}{os:List (Nat×aq)}{L:ep}(h:fG ts L):cZ L (aw ts os):=by
 intro s ns hn;simp only[aw]
 induction L with
 |nil=>cases hn
 |cons q L ih =>
  obtain ⟨s',ns'⟩:=q;simp only[fG] at h;simp only[iF,List.find?_cons] at hn;split at hn
  ·rename_i e;simp only[zz9,v6] at hn;simp only[beq_iff_eq] at e;subst e hn;exact h.1
  ·exact ih h.2 hn
end
end Go.Abs
namespace Go.Abs
open Go Go.RowKit
open Enc (enc)
section
variable {α:Type} [Enc α] {P:Program} {Y:Value→List I→List (Nat×aq)→cL→Prop} {K:ai→Prop} {A:ai} {rest:List aJ} {esz bytes:Nat}
theorem vh{n lo k:Nat}{xs:List α}(ho:A.o n=some (.box (.agg (xs.map enc))))(h:lo+k≤xs.length):dX A esz (.view n [] esz lo k)=some (((xs.drop lo).take k).map enc):=by
 have J:cM A (.ptr n [])=some (.agg (xs.map enc)):=by simp only[cM,ho];rfl
 simp only[dX,J,zz6];rw[if_pos ⟨h,trivial⟩,List.map_take,List.map_drop]
theorem adN{xs ys:List α}(h:xs.length=ys.length):I.de (xs.map enc)=I.de (ys.map enc):=by
 rw[zA,zA,h]
theorem Ax{d:Option Nat}{e:Nat}(z:I)(ab:Enc.sz α=esz){n l:Nat}{xs ys:List α}(hy:ys≠[])(ho:A.o n=some (.box (.agg (xs.map enc))))(hr:l+ys.length≤xs.length) :
  gf A d e esz bytes z (enc ys) rest (.view n [] esz 0 l)=aE rest ((A.aT n (.box (.agg ((xs.take l++(ys++xs.drop (l+ys.length))).map enc)))).aW d (.view n [] esz 0 (l+ys.length))):=by
 have J:=vh (A:=A) (esz:=esz) (lo:=0) (k:=l) ho (by omega);have U:(I.agg (xs.map (enc (α:=α)))).at []=some (.agg (xs.map enc)):=rfl;have af:I.de (ys.map (enc (α:=α)))=I.de (((xs.map (enc (α:=α))).drop l).take ys.length):=by
  rw[←List.map_drop,←List.map_take];exact adN (by rw[zx2,zw9];omega)
 simp only[gf,J,nS A esz ys ab,fw];rw[if_neg (by simpa using hy)];simp only[ho,U,zz6,zz4];rw[if_pos hr,if_pos ⟨rfl,by rw[zz6,zz4];exact af⟩];simp only[jQ,oZ,zz6,zy5,List.map_take,List.map_drop]
theorem aV.JP{d e:Nat}(z:α)(ab:Enc.sz α=esz){n l:Nat}{xs ys:List α}(hy:ys≠[])(ho:A.o n=some (.box (.agg (xs.map enc))))(ao:l≤xs.length)(hr:xs.length<l+ys.length)(hf:A.o d=none)(hb:(l+ys.length)*bytes≤140737488355328)(hml:l+ys.length≤maxLen)
  (h:∀ q,aV P Y false K (aE rest ((A.aT d (.box (.agg ((xs.take l++(ys++List.replicate q z)).map enc)))).aW (some d) (.view d [] esz 0 (l+ys.length))))):aV P Y false K (gf A (some d) e esz bytes (enc z) (enc ys) rest (.view n [] esz 0 l)):=by
 have J:=vh (A:=A) (esz:=esz) (lo:=0) (k:=l) ho (by omega);have U:(I.agg (xs.map (enc (α:=α)))).at []=some (.agg (xs.map enc)):=rfl;have ar:(xs.take l).length=l:=by rw[zx2];omega
 simp only[gf,J,List.drop_zero,nS A esz ys ab,fw];rw[if_neg (by simpa using hy)];simp only[ho,U,zz6,zz4];rw[if_neg (by omega)];simp only[gv,hf,zz6,ar];rw[if_pos ⟨hb,hml⟩];refine .any rfl fun q _ =>?_;have:=h q;simp only[zy5,List.map_replicate] at this;exact this
theorem aV.JR{d e q0:Nat}(z:α){l:List α}(ab:Enc.sz α=esz)(ao:l≠[])(hf:A.o d=none)(hb:l.length*bytes≤140737488355328)(hml:l.length≤maxLen)
  (h:∀ m,aV P Y false K (aE rest ((A.aT d (.box (.agg ((l++List.replicate m z).map enc)))).aW (some d) (.view d [] esz 0 l.length)))):aV P Y false K (gf A (some d) e esz bytes (enc z) (enc l) rest (.nils q0)):=by
 have hne:l.map (enc (α:=α))≠[]:=by simpa using ao
 have J:dX A esz (.nils q0)=some []:=rfl;simp only[gf,J,nS A esz l ab,fw,if_neg hne,gv,hf,List.length_nil,zz4,zz6,if_pos (y6 hb hml),List.nil_append];refine .any rfl fun m _ =>?_;have:=h m;simp only[zy5,List.map_replicate] at this;exact this
end
theorem p9(k:Nat):b9 [] k=.dF:=rfl
def im(L:List Nat):List (Nat×I)→List (Nat×I)
 | []=>[]
 |(s,v)::ts=>if L.contains s=true then (s,v)::im L ts else im L ts
theorem aaH(L:List Nat):im L []=[]:=rfl
theorem aaG(L:List Nat)(s:Nat)(v:I)(ts:List (Nat×I)):im L ((s,v)::ts)=if L.contains s=true then (s,v)::im L ts else im L ts:=rfl
theorem EO(L:List Nat)(t:Nat):∀ ts,b9 (im L ts) t=.dF∨b9 (im L ts) t=b9 ts t
 | []=>.inl rfl
 |(s,v)::ts=>by
  simp only[im];have ih:=EO L t ts;by_cases ab:L.contains s=true
  ·rw[if_pos ab];simp only[b9];split
   ·exact .inr rfl
   ·exact ih
  ·rw[if_neg ab];simp only[b9];split
   ·rename_i e;subst e
    left
    have:∀ ts,b9 (im L ts) t=.dF:=by
     intro ts
     induction ts with
     |nil=>rfl
     |cons q ts ih2 =>
      obtain ⟨s',v'⟩:=q;simp only[im];split
      ·rename_i h';simp only[b9];have:t≠s':=fun e=>ab (e▸h');rw[if_neg this];exact ih2
      ·exact ih2
    exact this ts
   ·exact ih
theorem ae.rJ(L:List Nat){c:cV}{x:bx}{Q:Exit→ai→Prop}{ts:List (Nat×I)}{os:List (Nat×aq)}(h:ae c x Q (aw (im L ts) os)):ae c x Q (aw ts os):=by
 refine ae.sub ?_ h;rintro cc a w ⟨D,E,ab⟩;refine ⟨D,E,ab.sz,ab.eS,fun t =>?_,ab.dZ,ab.dh,ab.aU,ab.bU,ab.cU,ab.ec,ab.fe,ab.cX,ab.fp,ab.fO⟩;simp only[aw];rcases EO L t ts with e | e
 ·rw[e];simp[a8]
 ·rw[e];exact ab.eb t
theorem Eu:(∀ L,im L []=[])∧(∀ L s v ts,im L ((s,v)::ts)=if L.contains s=true then (s,v)::im L ts else im L ts)∧(∀ (a:Nat) l b,(a::l).contains b=(b==a||l.contains b))∧(∀ b:Nat,([]:List Nat).contains b=false)∧(∀ b,(false||b)=b)∧(∀ b,(true||b)=true)∧(∀ b,(b||true)=true)∧(∀ b,(b||false)=b)∧((false=true)=False) :=
 ⟨aaH,aaG,fun _ _ _=>List.contains_cons,fun _=>rfl,fun _=>rfl,fun _=>rfl,fun b=>by cases b <;>rfl,fun b=>by cases b <;>rfl,by simp⟩
end Go.Abs
namespace Go.Abs
open Go Go.RowKit
open Enc (enc)
def x7:Option aq→Option (List I×List I)
 |some (.bD ks vs)=>some (ks,vs)
 |_=>none
noncomputable def rV(A:ai)(n:Nat)(rest:List aJ):Option (List I×List I)→cS
 |some (ks,vs)=>aE rest (A.aT n (.bD ks vs))
 |none=>.fail
noncomputable def yi(A:ai)(n:Nat)(ty:cK)(k v:I)(rest:List aJ):Option aq→cS
 |some (.bD ks vs)=>rV A n rest (fL ty k v ks vs)
 |_=>.fail
noncomputable def yh(A:ai)(ty:cK)(k v:I)(rest:List aJ):I→cS
 | .mref n=>yi A n ty k v rest (A.o n)
 |_=>.fail
noncomputable def yc(A:ai)(n:Nat)(ty:cK)(k:I)(rest:List aJ):Option aq→cS
 |some (.bD ks vs)=>rV A n rest (mE ty k ks vs)
 |_=>.fail
noncomputable def ya(A:ai)(ty:cK)(k:I)(rest:List aJ):I→cS
 | .mref n=>yc A n ty k rest (A.o n)
 |_=>.fail
noncomputable def yg(A:ai)(d:Nat)(rest:List aJ):Option aq→cS
 |none=>aE rest ((A.aT d (.bD [] [])).put d (.mref d))
 |some _=>.fail
open Classical in
noncomputable def E9(A:ai)(d bytes:Nat)(z:I)(rest:List aJ):I→cS
 | .int _ n=>if 0≤n∧n.toNat*bytes≤281474976710656∧n.toNat≤maxLen then aE rest ((A.aT d (.box (.agg (List.replicate n.toNat z)))).put d (.view d [] 1 0 n.toNat)) else .fail
 |_=>.fail
noncomputable def uy(A:ai)(d bytes:Nat)(z n:I)(rest:List aJ):Option aq→cS
 |none=>E9 A d bytes z rest n
 |some _=>.fail
noncomputable def u7(A:ai)(d:Nat)(rest:List aJ):I→cS
 | .dx ks vs=>aE rest ((A.aT d (.it ks vs (List.range ks.length) none)).put d (.dC d))
 |_=>.fail
noncomputable def u6(A:ai)(d:Nat)(x:I)(rest:List aJ):Option aq→cS
 |none=>u7 A d rest x
 |some _=>.fail
def w6:Option aq→Option I
 |some (.it ks vs _ cur)=>np ks vs cur
 |_=>none
def w5(A:ai):I→Option I
 | .dC n=>w6 (A.o n)
 |_=>none
open Classical in
noncomputable def qg(A:ai)(d:Option Nat)(n:Nat)(rest:List aJ):Option aq→cS
 |some (.it ks vs left _)=>if left=[] then aE rest (A.aW d (.tuple [.bool false])) else
   .any (fun i=>i∈left) fun i=>match ks[i]?,vs[i]? with
    |some kk,some x=>aE rest ((A.aT n (.it ks vs (left.filter (· != i)) (some i))).aW d (.tuple [.bool true,kk,x]))
    |_,_=>.fail
 |_=>.fail
noncomputable def yA(A:ai)(d:Option Nat)(rest:List aJ):I→cS
 | .dC n=>qg A d n rest (A.o n)
 |_=>.fail
section
variable (d:Option Nat) (rest:List aJ) (A:ai)
theorem ab6(x:aM):bO A d (.nilC x) rest=cT (mG (aj A x)) (dn d rest A):=rfl
theorem aca(neg:Bool)(x y:aM):bO A d (.ptrE neg x y) rest=cT (nI neg (jm (aj A x)) (jm (aj A y))) (dn d rest A):=rfl
theorem abZ(ty:cK)(z:I)(ok:Bool)(m k:aM):bO A d (.lk ty z ok m k) rest=cT (rP ty z ok (aj A k) (gy A (aj A m))) (dn d rest A):=rfl
theorem abd(n:Nat):gy A (.mref n)=x7 (A.o n):=by
 simp only[gy];cases A.o n with
 |none=>rfl
 |some y=>cases y <;>rfl
theorem ab4(ty:cK)(m k v:aM):bO A none (.fj ty m k v) rest=yh A ty (aj A k) (aj A v) rest (aj A m):=by
 simp only[bO,bt];cases aj A m <;>rfl
theorem ab0(ty:cK)(m k:aM):bO A none (.jn ty m k) rest=ya A ty (aj A k) rest (aj A m):=by
 simp only[bO,bt];cases aj A m <;>rfl
theorem ab2(d:Nat):bO A (some d) .jo rest=yg A d rest (A.o d):=by
 simp only[bO,bt];cases A.o d <;>rfl
theorem ab3(d e bytes:Nat)(z:I)(n:aM):bO A (some d) (.kV e bytes z n) rest=uy A d bytes z (aj A n) rest (A.o d):=by
 simp only[bO,bt];cases A.o d with
 |some _=>rfl
 |none=>simp only[uy];cases aj A n <;>rfl
theorem acb(d:Nat)(x:aM):bO A (some d) (.j9 x) rest=u6 A d (aj A x) rest (A.o d):=by
 simp only[bO,bt];cases A.o d with
 |some _=>rfl
 |none=>simp only[u6];cases aj A x <;>rfl
theorem abO(x:aM):bO A d (.ent x) rest=cT (w5 A (aj A x)) (dn d rest A):=by
 simp only[bO,bt,bo];cases aj A x <;>rfl
theorem ab8(x:aM):bO A d (.iW x) rest=yA A d rest (aj A x):=by
 simp only[bO,bt];cases aj A x <;>rfl
end
theorem EX:(∀ rest A ty m k,bO A none (.jn ty m k) rest=ya A ty (aj A k) rest (aj A m))∧(∀ A ty k rest n,ya A ty k rest (.mref n)=yc A n ty k rest (A.o n))∧(∀ A n ty k rest ks vs,yc A n ty k rest (some (.bD ks vs))=rV A n rest (mE ty k ks vs)) ∧
  (∀ d rest A x y,bO A d (.max2 x y) rest=cT (rW (aj A x) (aj A y)) (dn d rest A))∧(∀ a b,rW (.int .i64 a) (.int .i64 b)=some (.int .i64 (if b>a then b else a)))∧((I.any).bG=true) :=
 ⟨fun rest A=>ab0 rest A,fun _ _ _ _ _=>rfl,fun _ _ _ _ _ _ _=>rfl,fun _ _ _ _ _=>rfl,fun _ _=>rfl,rfl⟩
theorem nz :
  (∀ d rest A x,bO A d (.nilC x) rest=cT (mG (aj A x)) (dn d rest A))∧(∀ n p,mG (.ptr n p)=some (.ptr n p))∧(∀ x,mG (.ref x)=some (.ref x)) ∧
  (∀ d rest A neg x y,bO A d (.ptrE neg x y) rest=cT (nI neg (jm (aj A x)) (jm (aj A y))) (dn d rest A))∧(jm .nilp=some true)∧(∀ n p,jm (.ptr n p)=some false)∧(∀ x,jm (.ref x)=some false) ∧
  (nI false (some true) (some true)=some (.bool true))∧(nI false (some false) (some true)=some (.bool false))∧(nI true (some true) (some true)=some (.bool false))∧(nI true (some false) (some true)=some (.bool true)) ∧
  (∀ d rest A ty z ok m k,bO A d (.lk ty z ok m k) rest=cT (rP ty z ok (aj A k) (gy A (aj A m))) (dn d rest A))∧(∀ A n,gy A (.mref n)=x7 (A.o n))∧(∀ A ks vs,gy A (.dx ks vs)=some (ks,vs))∧(∀ ks vs,x7 (some (.bD ks vs))=some (ks,vs)) ∧
  (∀ ty z ok k ks vs,rP ty z ok k (some (ks,vs))=rQ ok (fJ ty z k ks vs))∧(∀ v b,rQ false (some (v,b))=some v)∧(∀ v b,rQ true (some (v,b))=some (.tuple [v,.bool b])) ∧
  (∀ rest A ty m k v,bO A none (.fj ty m k v) rest=yh A ty (aj A k) (aj A v) rest (aj A m))∧(∀ A ty k v rest n,yh A ty k v rest (.mref n)=yi A n ty k v rest (A.o n))∧(∀ A n ty k v rest ks vs,yi A n ty k v rest (some (.bD ks vs))=rV A n rest (fL ty k v ks vs)) ∧
  (∀ A n rest ks vs,rV A n rest (some (ks,vs))=aE rest (A.aT n (.bD ks vs))) ∧
  (∀ rest A d,bO A (some d) .jo rest=yg A d rest (A.o d))∧(∀ A d rest,yg A d rest none=aE rest ((A.aT d (.bD [] [])).put d (.mref d))) ∧
  (∀ rest A d e bytes z n,bO A (some d) (.kV e bytes z n) rest=uy A d bytes z (aj A n) rest (A.o d))∧(∀ A d bytes z n rest,uy A d bytes z n rest none=E9 A d bytes z rest n) ∧
  (∀ rest A d x,bO A (some d) (.j9 x) rest=u6 A d (aj A x) rest (A.o d))∧(∀ A d x rest,u6 A d x rest none=u7 A d rest x)∧(∀ A d rest ks vs,u7 A d rest (.dx ks vs)=aE rest ((A.aT d (.it ks vs (List.range ks.length) none)).put d (.dC d))) ∧
  (∀ d rest A x,bO A d (.ent x) rest=cT (w5 A (aj A x)) (dn d rest A))∧(∀ A n,w5 A (.dC n)=w6 (A.o n))∧(∀ ks vs l cur,w6 (some (.it ks vs l cur))=np ks vs cur) ∧
  (∀ d rest A x,bO A d (.iW x) rest=yA A d rest (aj A x))∧(∀ A d rest n,yA A d rest (.dC n)=qg A d n rest (A.o n)) :=
 ⟨ab6,fun _ _=>rfl,fun _=>rfl,aca,rfl,fun _ _=>rfl,fun _=>rfl,rfl,rfl,rfl,rfl,abZ,abd,fun _ _ _=>rfl,fun _ _=>rfl,fun _ _ _ _ _ _=>rfl,fun _ _=>rfl,fun _ _=>rfl,
  fun rest A ty m k v=>ab4 rest A ty m k v,fun _ _ _ _ _ _=>rfl,fun _ _ _ _ _ _ _ _=>rfl,fun _ _ _ _ _=>rfl,fun rest A d=>ab2 rest A d,fun _ _ _=>rfl,fun rest A d e bytes z n=>ab3 rest A d e bytes z n,fun _ _ _ _ _ _=>rfl,
  fun rest A d x=>acb rest A d x,fun _ _ _ _=>rfl,fun _ _ _ _ _=>rfl,abO,fun _ _=>rfl,fun _ _ _ _=>rfl,ab8,fun _ _ _ _=>rfl⟩
theorem bj:(∀ n p z lo k,ca none (.view n p z lo k)=true)∧(∀ n,ca none (.mref n)=true)∧(∀ n p,ca none (.ptr n p)=true)∧(∀ x,ca none (.ref x)=true)∧ca none .nilp=true∧ca none .dK=true∧ca none (.raw (.map none))=true∧(∀ ks vs,ca none (.dx ks vs)=true)∧(∀ {α:Type} [Enc α] (l:List α),ca none (enc l)=true) :=
 ⟨fun _ _ _ _ _=>rfl,fun _=>rfl,fun _ _=>rfl,fun _=>rfl,rfl,rfl,rfl,fun _ _=>rfl,fun l=>by simp[mq,mn]⟩
section
variable {α:Type} [Enc α] [DecidableEq α] {ty:cK}
theorem tQ(aF:∀ x y:α,cj ty (enc x) (enc y)=some (decide (x=y)))(k:α):∀ (ks:List α) (i:Nat),eT ty (enc k) (ks.map enc) i=some ((ks.findIdx? fun x=>decide (k=x)).map (· + i))
 | [],i=>rfl
 |x::ks,i=>by
  simp only[zz5,eT,aF,List.findIdx?_cons];by_cases h:k=x
  ·simp[h]
  ·simp only[h,decide_false,zz2,if_false];rw[tQ aF k ks (i+1)];cases ks.findIdx? fun x=>decide (k=x) with
   |none=>rfl
   |some j=>simp;omega
theorem um(aF:∀ x y:α,cj ty (enc x) (enc y)=some (decide (x=y)))(z:I)(k:α)(ks:List α)(vs:List I) :
  fJ ty z (enc k) (ks.map enc) vs=match ks.findIdx? fun x=>decide (k=x) with
   |some i=>(vs[i]?).map fun v=>(v,true)
   |none=>some (z,false):=by
 simp only[fJ,aF,Option.isSome_some,if_true,tQ aF];cases ks.findIdx? fun x=>decide (k=x) <;>rfl
theorem yj(aF:∀ x y:α,cj ty (enc x) (enc y)=some (decide (x=y)))(k:α)(v:I)(hv:v.bX=true)(ks:List α)(vs:List I) :
  fL ty (enc k) v (ks.map enc) vs=match ks.findIdx? fun x=>decide (k=x) with
   |some i=>some (ks.map enc,vs.set i v)
   |none=>some ((ks++[k]).map enc,vs++[v]):=by
 simp only[fL,aF,Option.isSome_some,hv,En (lL k),and_self,if_true,tQ aF];cases ks.findIdx? fun x=>decide (k=x) with
 |none=>simp
 |some i=>rfl
omit [Enc α] in
theorem rm{k:α}{ks:List α} : (ks.findIdx? fun x=>decide (k=x)).isSome=decide (k∈ks):=by
 induction ks with
 |nil=>rfl
 |cons x ks ih =>
  simp only[List.findIdx?_cons,zx3];by_cases h:k=x
  ·simp[h]
  ·simp only[h,decide_false,zz2,if_false,Option.isSome_map,ih,false_or]
theorem gK(aF:∀ x y:α,cj ty (enc x) (enc y)=some (decide (x=y)))(k:α)(ks:List α):fJ ty (.bool false) (enc k) (ks.map enc) (List.replicate ks.length (.bool true))=some (.bool (decide (k∈ks)),decide (k∈ks)):=by
 rw[um aF,←rm];cases h:ks.findIdx? fun x=>decide (k=x) with
 |none=>rfl
 |some i =>
  have:=(List.findIdx?_eq_some_iff_getElem.1 h).1;simp[this]
def h0{α:Type}[DecidableEq α](ks:List α)(k:α):List α:=if k∈ks then ks else ks++[k]
theorem yk(aF:∀ x y:α,cj ty (enc x) (enc y)=some (decide (x=y)))(k:α)(ks:List α):fL ty (enc k) (.bool true) (ks.map enc) (List.replicate ks.length (.bool true))=some ((h0 ks k).map enc,List.replicate (h0 ks k).length (.bool true)):=by
 rw[yj aF k _ rfl];have hm:=rm (k:=k) (ks:=ks);cases h:ks.findIdx? fun x=>decide (k=x) with
 |none =>
  rw[h] at hm;have:k∉ks:=by simpa using hm.symm
  simp only[h0,if_neg this]
  congr 2
  rw[zz8,zw6,List.replicate_succ']
 |some i =>
  rw[h] at hm;have:k∈ks:=by simpa using hm.symm
  simp only[h0,if_pos this]
  congr 2
  have:=(List.findIdx?_eq_some_iff_getElem.1 h).1;exact List.ext_getElem (by simp) fun j J U=>by
   simp only[List.getElem_set,List.getElem_replicate];split <;>rfl
end
theorem aay{m sz lo l i:Nat}{fs:List I}(h:i<l):nw m [] sz lo l sz (i:Int) (some fs)=some (.ptr m [lo+i]):=by rw[aax h];rfl
theorem Co:(∀ {α:Type} [Enc α] (x:α),(enc x).bG=true)∧(∀ n p z lo k,(I.view n p z lo k).bG=false)∧(∀ n,(I.mref n).bG=false)∧(∀ n p,(I.ptr n p).bG=false)∧(∀ n k,(I.own n k).bG=false) :=
 ⟨@lL,fun _ _ _ _ _=>rfl,fun _=>rfl,fun _ _=>rfl,fun _ _=>rfl⟩
end Go.Abs
namespace Go.Abs
open Go Go.RowKit
open Enc (enc)
theorem bp.JD{A:ai}{d n T z:Nat}(ah:A.t d=.nils z)(hn:A.o n=none)(hlt:n<1000000):bp A ((A.aT n (.dT T [])).put d (.own n 0)):=by
 rintro c a w ⟨D,E,h⟩;have aF:E n=none:=by have:=h.bU n;rw[hn] at this;exact this
 have ao:ef w D E w D (fun m=>if m=n then some (.rw none 0) else E m):=by
  have e9:∀ {m:Nat} {e:bR},E m=some e→(if m=n then some (.rw none 0) else E m)=some e:=fun {m e} he=>by
   have:m≠n:=fun e=>by rw[e,aF] at he;cases he
   rw[if_neg this];exact he
  refine ⟨fun _ _ h=>h,fun _ _ _ _ h=>h,fun m b bg he=>e9 he,fun m aK l he =>?_,fun m b he=>e9 he,fun m b he=>e9 he,fun _ _ _ _ h=>h⟩
  ·have:m≠n:=fun e=>by rw[e,aF] at he;cases he
   exact ⟨aK,l,by simp only[if_neg this];exact he,zz3 _,fun _=>rfl⟩
 refine ⟨D,fun m=>if m=n then some (.rw none 0) else E m,h.sz,h.eS,fun t =>?_,h.dZ,h.dh,h.aU,fun m =>?_,fun m m' e e' b J U af ar =>?_,fun m e hm =>?_,h.fe,h.cX,h.fp,h.fO⟩
 ·simp only[ai.put,ai.aT];by_cases ht:t=d
  ·subst ht;simp only[if_true];have hv:=h.eb t;rw[ah] at hv;obtain ⟨cs,q1,q2⟩:=hv;simp only[al] at q2;subst q2;refine ⟨[.slice none 0 0],by simpa[bC,I.isAgg] using q1,?_⟩;simp only[al,if_true];exact ⟨none,0,rfl,zz3 _,⟨_,_,_,rfl⟩,fun _=>trivial⟩
  ·simp only[if_neg ht];exact a8.later ao (h.eb t)
 ·simp only[ai.put,ai.aT];by_cases hm:m=n
  ·subst hm;simp only[if_true,dc];exact ⟨none,by simp,by simp,trivial⟩
  ·simp only[if_neg hm];exact (h.bU m).later ao (by simp only[if_neg hm]) fun _ _ _ _=>⟨rfl,fun _ ho=>ho⟩
 ·by_cases hm:m=n <;>by_cases hm':m'=n
  ·rw[hm,hm']
  ·simp only[if_pos hm,v6] at J;subst J;simp[bR.aK] at af
  ·simp only[if_pos hm',v6] at U;subst U;simp[bR.aK] at ar
  ·simp only[if_neg hm] at J;simp only[if_neg hm'] at U;exact h.cU m m' e e' b J U af ar
 ·have hmn:m≠n:=fun e=>by rw[e,h.jK (.inr hlt)] at hm;cases hm
  simp only[if_neg hmn];exact h.ec m e hm
theorem bp.JE{ts:List (Nat×I)}{os:List (Nat×aq)}(d n T z:Nat)(ah:b9 ts d=.nils z)(hn:ak os n=none){B:ai}(h:bp (aw ((d,.own n 0)::ts) ((n,.dT T [])::os)) B)(hlt:n<1000000:=by decide):bp (aw ts os) B :=
 ((bp.JD (A:=aw ts os) (T:=T) ah hn hlt).trans (by rw[rU,uu];exact bp.refl _)).trans h
theorem JQ{A:ai}{d:Option Nat}{e bytes n l:Nat}{xs:List Int}{y:Int}{rest:List aJ}(ao:l=xs.length)(J:xs.length+1≤maxLen)(U:(xs.length+1)*bytes≤140737488355328) :
  px A d e 1 bytes (.int .i64 0) n l e xs rest (enc [y])=aE rest ((A.aT n (.dT e (xs++[y]))).aW d (.own n (xs.length+1))):=by
 show px A d e 1 bytes (.int .i64 0) n l e xs rest (.slice 1 [.int .i64 y])=_
 simp only[px];rw[if_pos ⟨ao,rfl,rfl,rfl,rfl,by simp,J,U⟩];rfl
def jC(n k:Nat):I→I
 | .own n' k'=>if n'=n∧k'=k then .view n [] 1 0 k else .own n' k'
 |v=>v
def jB(n:Nat):I→I
 | .own n' k'=>if n'=n∧k'=0 then .nils 1 else .own n' k'
 |v=>v
def kb(f:I→I):aq→aq
 | .box v=>.box (f v)
 |y=>y
def r3(n k:Nat)(v:I):Prop:=v=.own n k∨v.only (fun j=>j != n)=true
def acn(n k:Nat)(y:aq):Prop:=y=.box (.own n k)∨y.only (fun j=>j != n)=true
theorem vt{n k:Nat}{v:I}(h:v.only (fun j=>j != n)=true):jC n k v=v:=by
 cases v <;>try rfl
 rename_i n' k';simp only[I.only,bne_iff_ne,ne_eq] at h;simp only[jC,h,false_and,if_false]
theorem HZ{n:Nat}{v:I}(h:v.only (fun j=>j != n)=true):jB n v=v:=by
 cases v <;>try rfl
 rename_i n' k';simp only[I.only,bne_iff_ne,ne_eq] at h;simp only[jB,h,false_and,if_false]
theorem qa(f:I→I)(hf:f .dF=.dF)(ts:List (Nat×I))(t:Nat):b9 (ts.map fun q=>(q.1,f q.2)) t=f (b9 ts t):=by
 induction ts with
 |nil=>exact hf.symm
 |cons q ts ih =>
  obtain ⟨k,v⟩:=q;simp only[zz5,b9];split
  ·rfl
  ·exact ih
theorem uo(f:aq→aq)(os:List (Nat×aq))(t:Nat):ak (os.map fun q=>(q.1,f q.2)) t=(ak os t).map f:=by
 induction os with
 |nil=>rfl
 |cons q os ih =>
  obtain ⟨k,v⟩:=q;simp only[zz5,ak];split
  ·rfl
  ·exact ih
theorem dc.dq{M:Nat→Prop}{w:World}{D:aS}{E E':bf}{p:Nat→Bool}(hp:∀ n,p n=true→E' n=E n){m:Nat}(aF:E' m=E m){y:aq}(hon:y.only p=true)(ho:dc M w D E m (some y)):dc M w D E' m (some y):=by
 cases y with
 |box x =>
  obtain ⟨b,cs,T,k1,k2,k3,k4,k5⟩:=ho;exact ⟨b,cs,T,aF.trans k1,k2,k3,al.dq hp _ _ (by simpa[aq.only] using hon) k4,k5⟩
 |bV T sz es =>
  obtain ⟨aK,k1,k2,k3⟩:=ho;refine ⟨aK,aF.trans k1,k2,?_⟩;cases aK with
  |none=>exact k3
  |some bc =>
   obtain ⟨b,cap⟩:=bc;obtain ⟨cs,pre,rest,q1,q2,q3,q4,q5⟩:=k3;exact ⟨cs,pre,rest,q1,q2,q3,aN.dq hp _ _ (by simpa[aq.only] using hon) q4,q5⟩
 |dT T xs =>
  obtain ⟨aK,k1,k2,k3⟩:=ho;exact ⟨aK,aF.trans k1,k2,k3⟩
 |dR x =>
  obtain ⟨b,k1,k2⟩:=ho;exact ⟨b,aF.trans k1,k2⟩
 |bD ks vs =>
  obtain ⟨b,es,ck,k1,k2,k3,k4,k5,k6,k7⟩:=ho;simp only[aq.only,zz0] at hon;exact ⟨b,es,ck,aF.trans k1,k2,k3,k4,aH.dq hp _ _ hon.1 k5,aH.dq hp _ _ hon.2 k6,k7⟩
 |it ks vs left cur =>
  obtain ⟨r,b,es,ck,eZ,se,la,k1,k2,k3,k4,k5,k6,k7⟩:=ho;simp only[aq.only,zz0] at hon;exact ⟨r,b,es,ck,eZ,se,la,aF.trans k1,k2,k3,k4,aH.dq hp _ _ hon.1 k5,aH.dq hp _ _ hon.2 k6,k7⟩
theorem sA(xs:List Int):(I.agg (xs.map enc)).bg=.db (List.replicate xs.length .one):=by
 show cW.db (I.de _)=_
 congr 1
 induction xs with
 |nil=>rfl
 |cons x xs ih=>simp only[zz5,I.de,ih,zx8,List.replicate_succ];rfl
theorem sc{w:World}{D:aS}{E:bf} : ∀ {xs:List Int},(∀ x∈xs,IntKind.i64.min≤x∧x≤IntKind.i64.max)→aN w D E (xs.map enc) (xs.map (Value.int .i64))
 | [],_=>rfl
 |x::xs,h=>⟨[.int .i64 x],xs.map (Value.int .i64),rfl,⟨rfl,h x (by simp)⟩,sc fun y hy=>h y (by simp[hy])⟩
theorem bp.aej{ts:List (Nat×I)}{os:List (Nat×aq)}{n T:Nat}{B:ai}(hn:ak os n=some (.dT T []))
  (h:bp (aw (ts.map fun q=>(q.1,jB n q.2)) (os.map fun q=>(q.1,kb (jB n) q.2))) B):bp (aw ts os) B:=by
 refine bp.trans ?_ h;rintro c a w ⟨D,E,ab⟩;obtain ⟨aK,aF,-,hblk⟩:=ab.sH (n:=n) (T:=T) (xs:=[]) hn;have hnone:aK=none:=by
  cases aK with
  |none=>rfl
  |some bc=>obtain ⟨b,cap⟩:=bc;obtain ⟨_,_,_,_,_,h,_⟩:=hblk;exact absurd rfl h
 subst hnone;have conv:∀ (v:I) (cs:List Value),al w D E v cs→al w D E (jB n v) cs:=fun v cs hr=>by
  cases v <;>try exact hr
  rename_i n' k';simp only[jB];split
  ·rename_i bz;obtain ⟨rfl,rfl⟩:=bz;obtain ⟨blk',l,q3,q4,q5,q6⟩:=hr;rw[aF] at q3;simp only[v6,bR.rw.injEq,List.length_nil] at q3;obtain ⟨rfl,rfl⟩:=q3;exact q6 rfl
  ·exact hr
 refine ⟨D,E,ab.sz,ab.eS,fun t =>?_,ab.dZ,ab.dh,ab.aU,fun m =>?_,ab.cU,ab.ec,ab.fe,ab.cX,ab.fp,ab.fO⟩
 ·show a8 w D E (b9 _ t) _
  rw[qa _ rfl];have:=ab.eb t;simp only[aw] at this;revert this;generalize b9 ts t=v;intro hv;cases v <;>try exact hv
  rename_i n' k';obtain ⟨cs,q1,q2⟩:=hv;have:=conv _ _ q2
  revert this;simp only[jB];split
  ·intro this;exact ⟨cs,q1,this⟩
  ·intro this;exact ⟨cs,q1,this⟩
 ·show dc _ w D E m (ak _ m)
  rw[uo];have:=ab.bU m;simp only[aw] at this;revert this;cases ak os m with
  |none=>exact id
  |some y =>
   cases y <;>try exact id
   rename_i x;rintro ⟨b,cs,T,k1,k2,k3,k4,k5⟩;refine ⟨b,cs,T,?_,k2,k3,conv _ _ k4,k5⟩;rw[k1];have:(jB n x).bg=x.bg:=by
    cases x <;>try rfl
    simp only[jB];split <;>rfl
   rw[this]
theorem ae.aei{c:cV}{x:bx}{Q:Exit→ai→Prop}{ts:List (Nat×I)}{os:List (Nat×aq)}{n T:Nat}{xs:List Int}(hn:ak os n=some (.dT T xs))(hne:xs≠[])(hlt:n<1000000)
  (ht:∀ t,r3 n xs.length (b9 ts t)) (ho:∀ m y,ak os m=some y→m≠n→acn n xs.length y)
  (h:∀ q:Nat,ae c x Q (aw (ts.map fun p=>(p.1,jC n xs.length p.2)) ((n,.box (.agg ((xs++List.replicate q 0).map enc)))::os.map fun p=>(p.1,kb (jC n xs.length) p.2)))):ae c x Q (aw ts os):=by
 rintro code hc a w ⟨D,E,ab⟩;obtain ⟨aK,aF,hr,hblk⟩:=ab.sH (n:=n) hn;cases aK with
 |none=>exact absurd hblk hne
 |some bc =>
 obtain ⟨b,cap⟩:=bc;obtain ⟨cs,q,hM,hb,hcs,-,hcap,hmax,hD⟩:=hblk;have hp:∀ j,(fun j=>j != n) j=true→(fun j=>if j=n then some (bR.aP b (.db (List.replicate (xs.length+q) .one))) else E j) j=E j:=fun j hj=>by
  have:j≠n:=by simpa using hj
  simp only[if_neg this]
 have conv:∀ cs0,al w D E (.own n xs.length) cs0→al w D (fun j=>if j=n then some (bR.aP b (.db (List.replicate (xs.length+q) .one))) else E j) (.view n [] 1 0 xs.length) cs0:=fun cs0 hr=>by
  obtain ⟨blk',l,q3,q4,q5,q6⟩:=hr;rw[aF] at q3;simp only[v6,bR.rw.injEq] at q3;obtain ⟨rfl,rfl⟩:=q3;have:=q6 rfl;refine ⟨b,_,0,List.replicate (xs.length+q) .one,if_pos rfl,rfl,rfl,?_,by rw[List.length_replicate];omega,by rw[List.length_replicate];omega,fun s ab =>?_⟩
  ·rw[this,List.length_replicate];simp only[Nat.zero_mul,Nat.add_zero,Nat.sub_zero,hcap]
  ·rw[List.eq_of_mem_replicate ab];rfl
 refine h q code hc a w ⟨D,fun j=>if j=n then some (.aP b (.db (List.replicate (xs.length+q) .one))) else E j,ab.sz,ab.eS,fun t =>?_,ab.dZ,ab.dh,ab.aU,fun m =>?_,fun m m' e e' b1 J U af ar =>?_,fun m e hm =>?_,ab.fe,ab.cX,ab.fp,ab.fO⟩
 ·show a8 w D _ (b9 _ t) _
  rw[qa _ rfl];have hv:=ab.eb t;simp only[aw] at hv;rcases ht t with J | J
  ·rw[J] at hv ⊢;simp only[jC,and_self,if_true];obtain ⟨cs0,q1,q2⟩:=hv;exact ⟨cs0,q1,conv _ q2⟩
  ·rw[vt J];exact a8.dq hp J hv
 ·show dc _ w D _ m (ak _ m)
  simp only[ak];by_cases hm:m=n
  ·subst hm;simp only[if_true];refine ⟨b,cs,T,?_,hM,hb,?_,hD⟩
   ·simp only[if_true];rw[sA,zz8,List.length_replicate]
   ·show aN w D _ _ _
    rw[hcs];refine sc fun y hy =>?_;rcases zw0.1 hy with hy | hy
    ·exact hr y hy
    ·rw[List.eq_of_mem_replicate hy];decide
  ·simp only[if_neg hm];rw[uo];have hob:=ab.bU m;simp only[aw] at hob;cases hy:ak os m with
   |none=>rw[hy] at hob;simp only[dc,zw5] at hob ⊢;rw[if_neg hm];exact hob
   |some y =>
    rw[hy] at hob;rcases ho m y hy hm with rfl | J
    ·obtain ⟨b1,cs1,s8,k1,k2,k3,k4,k5⟩:=hob;refine ⟨b1,cs1,s8,?_,k2,k3,?_,k5⟩
     ·simp only[if_neg hm];rw[k1];simp only[jC,and_self,if_true];rfl
     ·simp only[jC,and_self,if_true];exact conv _ k4
    ·have e:kb (jC n xs.length) y=y:=by
      cases y <;>try rfl
      simp only[aq.only] at J;simp only[kb,vt J]
     simp only[zz9,e];exact hob.dq hp (if_neg hm) J
 ·have cut:∀ m e,(if m=n then some (bR.aP b (.db (List.replicate (xs.length+q) .one))) else E m)=some e→∃ e2,E m=some e2∧e2.aK=e.aK:=fun m e he=>by
   by_cases hm:m=n
   ·subst hm;rw[if_pos rfl] at he;cases he;exact ⟨_,aF,rfl⟩
   ·rw[if_neg hm] at he;exact ⟨e,he,rfl⟩
  obtain ⟨e2,k1,k2⟩:=cut m e J;obtain ⟨e3,k3,k4⟩:=cut m' e' U;exact ab.cU m m' e2 e3 b1 k1 k3 (k2.trans af) (k4.trans ar)
 ·have hmn:m≠n:=fun e=>by rw[e,ab.jK (.inr hlt)] at hm;cases hm
  simp only[if_neg hmn];exact ab.ec m e hm
end Go.Abs
namespace Go.Abs
open Go Go.RowKit
def ug(n:Nat)(cl:List Nat)(i:Nat):Bool:=(List.range n).all fun j=>j==i||(cl.getD i 0).testBit j
def qu(ab:List FuncId)(L:ep)(on:List (List Nat))(gs:List aJ)(cl:List Nat)(σ:List Nat):Bool :=
 (Nat.beq σ.length gs.length&&(rZ σ&&(σ.all (fun i=>decide (i<gs.length))&&((List.range gs.length).all (fun i=>σ.contains i)&&(List.range gs.length).all fun i=>nC (gs.getD i default).op&&(iH L (gs.getD i default)||(ug gs.length cl i&&σ.getLast?==some i))))))&&(qP ab L gs cl [] σ&&(List.range gs.length).all fun i=>(on.getD i []).all (fun k=>decide (k<i))&&Nat.beq (cl.getD i 0) (mc cl (on.getD i [])))
structure vM (ab:List FuncId) (L:ep) (l:List Oper) (gs:List aJ) (σ:List Nat):Prop where
 oJ:σ.Nodup
 lt:∀ i∈σ,i<gs.length
 all:∀ i,i<gs.length→i∈σ
 ok:∀ i,i<gs.length→nC (gs.getD i default).op=true
 rM:∀ i o,l[i]?=some o→iH L (gs.getD i default)=true∨(σ.getLast?=some i∧∀ (S:Nat→Prop),(∀ i o,l[i]?=some o→S i→∀ k∈cB o,S k)→(∀ k∈cB o,S k)→∀ j,j<gs.length→j≠i→S j)
 len:σ.length=gs.length
 je:∀ i o,l[i]?=some o→∀ k∈cB o,k<i
 pW:∀ (S:Nat→Prop),(∀ i o,l[i]?=some o→S i→∀ k∈cB o,S k)→∀ s1 i s2 o,σ=s1++i::s2→l[i]?=some o→(∀ k∈cB o,S k)→∀ j∈s1,¬ S j→nu ab L (gs.getD j default) (gs.getD i default)=true
theorem FF{ab:List FuncId}{L:ep}{l:List Oper}{gs:List aJ}{cl σ:List Nat}(hlen:gs.length=l.length)(h:qu ab L (l.map cB) gs cl σ=true):vM ab L l gs σ:=by
 simp only[qu,zz0,zx5,decide_eq_true_eq,zv8,List.contains_eq_mem] at h;obtain ⟨⟨J,U,af,ar,h5⟩,h6,h7⟩:=h;have fV:∀ i o,l[i]?=some o→(∀ k∈cB o,k<i)∧(∀ j,(cl.getD i 0).testBit j=true→j∈cB o∨∃ k∈cB o,(cl.getD k 0).testBit j=true):=by
  intro i o ho;have hi:i<l.length:=(zz7.1 ho).1;have h8:=h7 i (by omega);have hon:(l.map cB).getD i []=cB o:=by simp[zz1,ho]
  rw[hon] at h8;have hb:=Nat.eq_of_beq_eq_true h8.2;exact ⟨h8.1,fun j hj=>sJ (by rw[←hb];exact hj)⟩
 have keyS:∀ (S:Nat→Prop),(∀ i o,l[i]?=some o→S i→∀ k∈cB o,S k)→∀ n i o,i≤n→l[i]?=some o→(∀ k∈cB o,S k)→∀ j,(cl.getD i 0).testBit j=true→S j:=by
  intro S hS n
  induction n with
  |zero =>
   intro i o hi ho hon j hj;obtain ⟨h8,h9⟩:=fV i o ho;rcases h9 j hj with h | ⟨k,hk,_⟩
   ·exact hon j h
   ·have:=h8 k hk;omega
  |succ n ih =>
   intro i o hi ho hon j hj;obtain ⟨h8,h9⟩:=fV i o ho;rcases h9 j hj with h | ⟨k,hk,hjk⟩
   ·exact hon j h
   ·have hki:=h8 k hk;have hkl:k<l.length:=Nat.lt_trans hki (zz7.1 ho).1;obtain ⟨ok,hok⟩:∃ ok,l[k]?=some ok:=⟨l[k],zy2 hkl⟩
    exact ih k ok (by omega) hok (hS k ok hok (hon k hk)) j hjk
 refine ⟨yn U,af,ar,fun i hi=>(h5 i hi).1,fun i o ho =>?_,Nat.eq_of_beq_eq_true J,fun i o ho=>(fV i o ho).1,?_⟩
 ·have hi:i<gs.length:=by rw[hlen];exact (zz7.1 ho).1
  have h5o:=(h5 i hi).2;rw[Bool.or_eq_true] at h5o;rcases h5o with h | h
  ·exact .inl h
  ·rw[zz0] at h;obtain ⟨h,hla⟩:=h;refine .inr ⟨by simpa using hla,fun S hS hon j hj hji =>?_⟩;simp only[ug,zx5,zv8,Bool.or_eq_true,beq_iff_eq] at h;rcases h j hj with e | e
   ·exact absurd e hji
   ·exact keyS S hS i i o (zz3 _) ho hon j e
 intro S hS s1 i s2 o e ho hon j hj hnj;have key:=keyS S hS;rcases v7 h6 s1 i s2 e j (.inr hj) with h | h
 ·exact absurd (key i i o (zz3 _) ho hon j h) hnj
 ·exact h
section
variable {c:cV}
theorem JL{K:ai→Prop}{fs:List FuncId}{L:ep}{aY:Array Oper}{gs:List aJ}{σ:List Nat}{Q:Exit→Act→World→Prop}(hQ:∀ B a w,K B→cd c B a w→Q .normal a w)(hgs:gh c.P c.n aY aY.toList=some gs)(ah:vM fs L aY.toList gs σ) :
  ∀ (fuel:Nat) (listed:Array Bool) (A:ai) (a:Act) (w:World),listed.size=aY.size→(∀ i o,aY.toList[i]?=some o→listed.getD i false=true→∀ k∈cB o,listed.getD k false=true)→(eh σ listed).length≤fuel →
   (eh σ listed=[]∨cZ L A)→bT c.P c.Y fs K (aE (gS gs σ listed) A)→cd c A a w→wpAnyIn c.bB 9 c.P .any aY Q fuel listed a w:=by
 obtain ⟨hlen,hat⟩:=jg hgs;have onOf_mem:∀ (o:Oper) (e:Edge),e∈o.after→Region.binds .any e=true→e.on∈cB o:=fun o e he hb=>by
  simp only[cB,zy9,zv2];exact ⟨e,⟨by simpa using he,hb⟩,rfl⟩
 have of_onOf:∀ (o:Oper) (k:Nat),k∈cB o→∃ e∈o.after,Region.binds .any e=true∧e.on=k:=fun o k hk=>by
  simp only[cB,zy9,zv2] at hk;obtain ⟨e,⟨J,U⟩,af⟩:=hk;exact ⟨e,by simpa using J,U,af⟩
 have hgl:gs.length=aY.size:=by rw[hlen,zx6]
 have last:∀ (listed:Array Bool) (A:ai) (a:Act) (w:World),listed.size=aY.size→Region.ready .any aY listed=[]→bT c.P c.Y fs K (aE (gS gs σ listed) A)→cd c A a w→Q .normal a w:=by
  intro listed A a w hsz hr hwp ab;have hnone:eh σ listed=[]:=by
   have all:∀ n,∀ i,i<n→i<aY.size→listed.getD i true=true:=by
    intro n
    induction n with
    |zero=>intro i hi;omega
    |succ n ih =>
     intro i hi his;cases hb:listed.getD i true with
     |true=>rfl
     |false =>
      exfalso
      have ho:aY[i]?=some aY[i]:=zv7 his;have:i∈Region.ready .any aY listed:=mem_ready.2 ⟨hb,aY[i],ho,fun e he hbd=>by
       have hlt:=ah.je i aY[i] (by simp) e.on (onOf_mem _ e he hbd);have J:=ih e.on (by omega) (by omega);have U:e.on<listed.size:=by omega
       simpa[Array.getD_eq_getD_getElem?,U] using J⟩
      rw[hr] at this;cases this
   simp only[eh];refine List.filter_eq_nil_iff.2 fun i hi =>?_;have:=all (i+1) i (by omega) (by rw[←hgl];exact ah.lt i hi);simp only[this,Bool.not_true,zz2,not_false_eq_true]
  simp only[gS,hnone,zx7,aE] at hwp;cases hwp with
  |done hk=>exact hQ A a w hk ab
 intro fuel
 induction fuel with
 |zero =>
  intro listed A a w hsz hcl hcnt hinv hwp ab;have hnone:eh σ listed=[]:=List.length_eq_zero_iff.1 (by omega);have hr:Region.ready .any aY listed=[]:=by
   refine List.eq_nil_iff_forall_not_mem.2 fun i hi =>?_;obtain ⟨J,o,ho,_⟩:=mem_ready.1 hi;have:i∈eh σ listed:=by
    simp only[eh,zv2,J,Bool.not_false,and_true];exact ah.all i (by rw[hgl];exact (zy4.1 ho).1)
   rw[hnone] at this;cases this
  exact ⟨hr,last listed A a w hsz hr hwp ab⟩
 |succ fuel ih =>
  intro listed A a w hsz hcl hcnt hinv hwp ab;refine ⟨fun hr=>last listed A a w hsz hr hwp ab,fun i hi =>?_⟩;obtain ⟨hun,o,ho,hall⟩:=mem_ready.1 hi;have hin:i<aY.size:=(zy4.1 ho).1;obtain ⟨s1,s2,hσ,e1,e2⟩:=y9 ah.oJ (ah.all i (by omega)) (by omega) hun;have hinv:cZ L A:=by
   rcases hinv with h | h
   ·rw[e1] at h;simp at h
   ·exact h
  have hol:aY.toList[i]?=some o:=by simpa using ho
  obtain ⟨g,hgi,hcg⟩:=hat i o hol;have hon:∀ k∈cB o,listed.getD k false=true:=fun k hk=>by
   obtain ⟨e,J,U,af⟩:=of_onOf o k hk;exact af▸hall e J U
  have hgd:gs.getD i default=g:=by simp[zz1,hgi]
  have hwp':bT c.P c.Y fs K (aE (g::gS gs σ (listed.setIfInBounds i true)) A):=by
   simp only[gS,e1,zy5,zz5,hgd] at hwp;simp only[gS,e2,zy5];refine bT.oe hinv (fun j hj =>?_) hwp;obtain ⟨k,hk,rfl⟩:=zy9.1 hj;obtain ⟨hk1,hk2⟩:=zv2.1 hk;have:=ah.pW (fun k=>listed.getD k false=true) hcl s1 i s2 o hσ hol hon k hk1 (by
    have hks:k<listed.size:=by
     have:=ah.lt k (by rw[hσ];exact List.mem_append_left _ hk1);omega
    simp[Array.getD_eq_getD_getElem?,hks] at hk2 ⊢;exact hk2)
   rw[hgd] at this;have hkl:=ah.lt k (by rw[hσ];exact List.mem_append_left _ hk1);have hks:k<aY.size:=by omega
   refine ⟨this,?_⟩;rcases ah.rM k aY[k] (by simp) with h | h
   ·exact h
   ·exfalso
    have h9:=h.1;rw[hσ,List.getLast?_append] at h9;have hne:(i::s2).getLast?=some k:=by
     cases h10:(i::s2).getLast? with
     |none=>simp at h10
     |some q=>rw[h10] at h9;simpa using h9
    have hk2:k∈i::s2:=List.mem_of_getLast? hne;have hnd:=ah.oJ;rw[hσ] at hnd;exact (List.nodup_append.1 hnd).2.2 k hk1 k hk2 rfl
  unfold wpOpIn;rw[ho];have hgm:g∈gs:=List.mem_of_getElem? hgi;have hokg:nC g.op=true:=by
   have:=ah.ok i (by omega)
   rwa [hgd] at this
  have hcl':∀ m om,aY.toList[m]?=some om→(listed.setIfInBounds i true).getD m false=true→∀ k∈cB om,(listed.setIfInBounds i true).getD k false=true:=by
   intro m om hom hm k hk;by_cases hmi:m=i
   ·subst hmi;rw[hol,v6] at hom;subst hom;exact getD_set_true (hon k hk)
   ·rw[getD_set_ne false (Ne.symm hmi)] at hm;exact getD_set_true (hcl m om hom hm k hk)
  have hfu:(eh σ (listed.setIfInBounds i true)).length≤fuel:=by
   have:(eh σ listed).length=(eh σ (listed.setIfInBounds i true)).length+1:=by
    rw[e1,e2];simp;omega
   omega
  rcases ah.rM i o hol with hlb | ⟨hla,hlb⟩
  ·rw[hgd] at hlb;exact tT hcg hinv ⟨hokg,hlb⟩ hwp' ab fun B a' w' hw hiB hs'=>ih _ B a' w' (by simpa using hsz) hcl' hfu (.inr hiB) hw hs'
  ·have hnil:eh σ (listed.setIfInBounds i true)=[]:=by
    simp only[eh];refine List.filter_eq_nil_iff.2 fun j hj =>?_;have hjl:=ah.lt j hj;by_cases hji:j=i
    ·subst hji;have:j<listed.size:=by omega
     simp[this]
    ·have h5:=hlb (fun k=>listed.getD k false=true) hcl hon j hjl hji;have hjs:j<listed.size:=by omega
     have h6:(listed.setIfInBounds i true).getD j true=listed.getD j true:=getD_set_ne true (Ne.symm hji);rw[h6];simp[Array.getD_eq_getD_getElem?,hjs] at h5 ⊢;exact h5
   have hin0:cZ [] A:=fun s ns h=>by cases h
   exact tT (L:=[]) hcg hin0 ⟨hokg,by simp[iH,iF];cases g.dst <;>rfl⟩ hwp' ab fun B a' w' hw hiB hs'=>ih _ B a' w' (by simpa using hsz) hcl' hfu (.inl hnil) hw hs'
theorem ae.adb{Q:Exit→ai→Prop}{A:ai}{on:List (List Nat)}{gs:List aJ}(ab:List FuncId)(L:ep)(cl σ:List Nat)(ah:qu ab L on gs cl σ=true)(hi:cZ L A)(h:∀ K:ai→Prop,(∀ B,Q .normal B→K B)→bT c.P c.Y ab K (aE (fm σ gs) A)):ae c (.cg (some on) gs) Q A:=by
 intro code hc a w hs';cases code <;>simp only[eN] at hc <;>try (first | (cases hc;done) | ((repeat' split at hc) <;>cases hc;done))
 rename_i id aY draw;split at hc
 ·rename_i gs' hgs;split at hc
  case isFalse=>cases hc
  rename_i hok;simp only[v6,bx.cg.injEq] at hc;obtain ⟨he,rfl⟩:=hc;cases draw with
  |false=>cases he
  |true =>
   simp only[cond_true,v6] at he;subst he;simp only[Bool.not_true,Bool.false_or] at hok;have hp:=FF (jg hgs).1 ah;refine wpIn_region_any hok (JL (K:=Q .normal) (fun B a w hk ab=>⟨B,hk,ab⟩) hgs hp aY.size (Array.replicate aY.size false) A a _ (by simp) ?_ ?_ (.inr hi) ?_ ?_)
   ·intro i o _ h
    exfalso
    simp only[Array.getD_eq_getD_getElem?,Array.getElem?_replicate] at h;split at h <;>simp at h
   ·refine zu0 (List.length_filter_le _ _) ?_;rw[hp.len,(jg hgs).1,zx6];exact zz3 _
   ·have hall:eh σ (Array.replicate aY.size false)=σ:=by
     simp only[eh];refine List.filter_eq_self.2 fun i hi =>?_;have J:=hp.lt i hi;rw[(jg hgs).1,zx6] at J;simp[J]
    simp only[gS,hall];exact h _ fun _ hb=>hb
   ·obtain ⟨D,E,hs'⟩:=hs';exact ⟨D,E,hs'.grow (w' := { w with drawn:=w.drawn+1 }) ⟨rfl,rfl,rfl,zz3 _,fun _ _=>rfl⟩ (fun _ _ h=>h) (fun _ _ h _=>h) (fun b o h=>hs'.aU b o h)⟩
 ·cases hc
end
def kO(on:List (List Nat)):List Nat:=on.foldl (fun acc ks=>acc++[mc acc ks]) []
def wY(d:Option (List (List Nat)))(gs:List aJ):Bool:=match d with
 |none=>true
 |some on=>tH on gs (kO on)
section
variable {c:cV} {Q:Exit→ai→Prop} {A:ai} {d:Option (List (List Nat))} {on:List (List Nat)} {gs:List aJ}
theorem ae.j5(ah:wY d gs=true)(h:∀ K:ai→Prop,(∀ B,Q .normal B→K B)→aV c.P c.Y d.isSome K (aE gs A)):ae c (.cg d gs) Q A:=by
 cases d with
 |none=>exact ae.cg (cl:=[]) rfl h
 |some on=>exact ae.cg (cl:=kO on) ah h
theorem ae.fT{y:bx}(ah:wY d gs=true)(h:∀ K:ai→Prop,(∀ B,ae c y Q B→K B)→aV c.P c.Y d.isSome K (aE gs A)):ae c (.seq (.cg d gs) y) Q A :=
 ae.seq (ae.j5 ah h)
theorem ae.qw(ab:List FuncId)(L:ep)(σ:List Nat)(ah:uO ab L on gs (kO on) σ=true)(hi:cZ L A)(h:∀ K:ai→Prop,(∀ B,Q .normal B→K B)→bT c.P c.Y ab K (aE (fm σ gs) A)):ae c (.cg (some on) gs) Q A :=
 ae.ada ab L (kO on) σ ah hi h
theorem ae.sg(ab:List FuncId)(L:ep)(σ:List Nat)(ah:qu ab L on gs (kO on) σ=true)(hi:cZ L A)(h:∀ K:ai→Prop,(∀ B,Q .normal B→K B)→bT c.P c.Y ab K (aE (fm σ gs) A)):ae c (.cg (some on) gs) Q A :=
 ae.adb ab L (kO on) σ ah hi h
def gY(c:cV):bx→(Exit→ai→Prop)→ai→Prop
 | .seq x y,Q,A=>gY c x (ej (fun B=>ae c y Q B) Q) A
 | .block id x,Q,A=>gY c x (jF id Q) A
 | .skip,Q,A=>Q .normal A
 | .exit id,Q,A=>Q (.exit id) A
 | .ret,Q,A=>Q .ret A
 | .cond b x y,Q,A=>av (aj A b) (ae c x Q A) (ae c y Q A)
 |x,Q,A=>ae c x Q A
def aaw:bx→Bool
 | .seq _ _ | .block _ _ | .skip | .exit _ | .ret | .cond _ _ _=>true
 |_=>false
theorem gY.we:∀ (x:bx) {Q:Exit→ai→Prop} {A:ai},gY c x Q A→ae c x Q A
 | .seq x y,_,_,h=>ae.seq (gY.we x h)
 | .block id x,_,_,h=>ae.block (gY.we x h)
 | .skip,_,_,h=>ae.skip h
 | .exit _,_,_,h=>ae.exit h
 | .ret,_,_,h=>ae.ret h
 | .cond _ _ _,_,_,h=>ae.jZ h
 | .cg _ _,_,_,h | .loop _,_,_,h | .scope _,_,_,h | .label,_,_,h | .wg,_,_,h | .mS _ _ _ _,_,_,h=>h
theorem ae.of{x:bx}(_:aaw x=true)(h:gY c x Q A):ae c x Q A:=gY.we x h
theorem aC :
  (∀ c x y Q A,gY c (.seq x y) Q A=gY c x (ej (fun B=>ae c y Q B) Q) A)∧(∀ c id x Q A,gY c (.block id x) Q A=gY c x (jF id Q) A)∧(∀ c Q A,gY c .skip Q A=Q .normal A)∧(∀ c id Q A,gY c (.exit id) Q A=Q (.exit id) A)∧(∀ c Q A,gY c .ret Q A=Q .ret A) ∧
  (∀ c b x y Q A,gY c (.cond b x y) Q A=av (aj A b) (ae c x Q A) (ae c y Q A))∧(∀ c d gs Q A,gY c (.cg d gs) Q A=ae c (.cg d gs) Q A)∧(∀ c x Q A,gY c (.loop x) Q A=ae c (.loop x) Q A)∧(∀ c f ps x y Q A,gY c (.mS f ps x y) Q A=ae c (.mS f ps x y) Q A) ∧
  (∀ k Q A,ej k Q .normal A=k A)∧(∀ k Q A,ej k Q .ret A=Q .ret A)∧(∀ k Q A i,ej k Q (.exit i) A=Q (.exit i) A)∧(∀ i Q A,jF i Q .normal A=Q .normal A)∧(∀ i Q A,jF i Q .ret A=Q .ret A)∧(∀ i Q A j,jF i Q (.exit j) A=if j=i then Q .normal A else Q (.exit j) A) ∧
  (∀ p q,av (.bool true) p q=p)∧(∀ p q,av (.bool false) p q=q)∧(type_of% @Eu) :=
 ⟨fun _ _ _ _ _=>rfl,fun _ _ _ _ _=>rfl,fun _ _ _=>rfl,fun _ _ _ _=>rfl,fun _ _ _=>rfl,fun _ _ _ _ _ _=>rfl,fun _ _ _ _ _=>rfl,fun _ _ _ _=>rfl,fun _ _ _ _ _ _ _=>rfl,fun _ _ _=>rfl,fun _ _ _=>rfl,fun _ _ _ _=>rfl,fun _ _ _=>rfl,fun _ _ _=>rfl,fun _ _ _ _=>rfl,
  fun p q=>by simp[av],fun p q=>by simp[av],Eu⟩
theorem av.aA{t:Bool}{p q:Prop}(J:t=true→p)(U:t=false→q):av (.bool t) p q:=⟨J,U⟩
theorem ae.aB{g:aJ}{r:List aJ}(ah:wY d gs=true)(e:gs=g::r)(h:∀ K:ai→Prop,(∀ B,Q .normal B→K B)→aV c.P c.Y d.isSome K (aE (g::r) A)):ae c (.cg d gs) Q A :=
 ae.j5 ah (e▸h)
theorem aV.au(L:List Nat){P:Program}{Y:Value→List I→List (Nat×aq)→cL→Prop}{dr:Bool}{x:bx}{K:ai→Prop}{ts:List (Nat×I)}{os:List (Nat×aq)}(hK:∀ B,ae c x Q B→K B)(h:ae c x Q (aw (im L ts) os)):aV P Y dr K (.done (aw ts os)) :=
 .done (hK _ (ae.rJ L h))
theorem bT.au(L:List Nat){P:Program}{Y:Value→List I→List (Nat×aq)→cL→Prop}{ab:List FuncId}{x:bx}{K:ai→Prop}{ts:List (Nat×I)}{os:List (Nat×aq)}(hK:∀ B,ae c x Q B→K B)(h:ae c x Q (aw (im L ts) os)):bT P Y ab K (.done (aw ts os)) :=
 .done (hK _ (ae.rJ L h))
end
section
variable {c:cV} {A:ai} {o:Oper}
theorem BL{P:Program}{m:Nat}{aY:Array Oper}{l:List Oper}{gs:List aJ}(h:gh P m aY (o::l)=some gs):∃ g gs',gs=g::gs'∧mi P m aY o=some g∧gh P m aY l=some gs':=by
 simp only[gh] at h;split at h
 ·rename_i g gs' J U;simp only[v6] at h;exact ⟨g,gs',h.symm,J,U⟩
 ·cases h
end
def vd(P:Program)(f:FuncId)(ch:List PanicEntry)(vs:Array Value)(w:World)(R:Ending→World→Prop):Prop :=
 Calls P f vs w fun e w'=>e=.panicked ch∧R (.returned (.tuple #[])) w'
theorem vd.mono{P:Program}{f:FuncId}{ch:List PanicEntry}{vs:Array Value}{w:World}{R R':Ending→World→Prop}(h:vd P f ch vs w R)(hr:∀ e w',R e w'→R' e w'):vd P f ch vs w R' :=
 Calls.mono h fun _ _ q=>⟨q.1,hr _ _ q.2⟩
def qt(post:List (Nat×aq)→Prop):cL:=fun r os'=>r=.tuple []∧post os'
def fF(P:Program)(f:FuncId)(ch:List PanicEntry)(args:List I)(os:List (Nat×aq))(post:List (Nat×aq)→Prop):Prop :=
 fy P f=true∧nY (vd P f ch) (fun w _ E=>gb P w (cN E)) args os (qt post)
def yM(ch:List PanicEntry)(post:List (Nat×aq)→Prop):Exit→ai→Prop
 | .panic ch',A=>ch'=ch∧jD [] (qt post) A
 |_,_=>False
theorem EA{P:Program}{n:Nat}{w:World}{D:aS}{E:bf}{Y:Value→List I→List (Nat×aq)→cL→Prop}{post:List (Nat×aq)→Prop}{fn:Func}{A:ai}{D':aS}{E':bf}{ch:List PanicEntry}(h:jD [] (qt post) A){R:World→Prop}(hR:∀ v w',mf w D E (qt post) v w'→R w') :
  ∀ (ds:List Deferred) (a:Act) (w':World),a.defers=ds→aX ⟨P,w,D,n,cN E,E,Y,none,none⟩ A a w' D' E'→LeavesInM Fence.wide 9 P fn a.tmps (fun e w'=>e=.panicked ch∧R w') ds (.panicking ch) w'
 | [],a,w',_,ab=>by
  obtain ⟨v,J,U⟩:=ab.ui (fn := { fn with results := #[] }) (rs:=[]) rfl h;exact ⟨rfl,hR v w' U⟩
 |d::ds,a,w',ah,ab=>by
  obtain ⟨Bs,J,_⟩:=ab.eS;rw[ah] at J;cases Bs with
  |nil=>cases J
  |cons B Bs =>
   simp only[zz5,zw3] at J;obtain ⟨rfl,rfl⟩:=J;obtain ⟨k1,k2⟩:=ab.Cp rfl ah;exact ⟨by simp,.inl ⟨B,_,rfl,run_takeDeferred k1,EA h hR _ { a with defers:=Bs.map _ } _ rfl k2⟩⟩
theorem ED{w:World}{D:aS}{E:bf}{post:List (Nat×aq)→Prop}{v:Value}{w':World}(h:mf w D E (qt post) v w'):∃ v' D' E' r os',Ending.returned (.tuple #[])=.returned v'∧qt post r os'∧a8 w' D' E' r v'∧kh (fun b=>w.heap.size≤b∨cN E b) w' D' E' (ak os') ∧
   ft (fun b=>w.heap.size≤b∨cN E b) w w'∧(∀ b o,D b o→D' b o)∧(∀ b o,D' b o→b<w'.heap.size)∧(∀ b o,D' b o→b<w.heap.size→¬ cN E b→D b o) ∧
   (∀ n e,E n=some e→ay os' n=true→∃ e',E' n=some e'∧e.le e')∧hZ w D w':=by
 obtain ⟨D',E',r,os',J,U,af⟩:=h;refine ⟨_,D',E',r,os',rfl,J,?_,af⟩;obtain ⟨rfl,_⟩:=J;simp only[a8];exact ⟨[],by simp,by simp[aH]⟩
theorem fF.mk{P:Program}{f:FuncId}{fn:Func}{x:bx}{ch:List PanicEntry}{args:List I}{os:List (Nat×aq)}{post:List (Nat×aq)→Prop}(hf:P.funcs[f]?=some fn)(hcall:fy P f=true)(hc:(fn.body.bind (eN P fn.ntmps))=some x)
  (hn:args.length≤fn.ntmps) (hn2:fn.ntmps≤1000000) (hos:∀ m,ay os m=true→1000000≤m) (h:I.gE args→∀ (w:World) (D:aS) (E:bf),ae ⟨P,w,D,fn.ntmps,cN E,E,dA,none,none⟩ x (yM ch post) (aw (bM 0 args) os)):fF P f ch args os post:=by
 obtain ⟨body,hb,hc'⟩:=zv6.1 hc;refine ⟨hcall,fun w D E vs ao hD ho hv =>?_⟩;have hlen:=sw hv;have hsim:=zI (P:=P) (n:=fn.ntmps) (Y:=dA) hD ho hv (by omega) (fun m hm=>⟨zu0 hn2 (hos m hm),hos m hm⟩) (qI ao);refine (callsIn_wide (n:=9)).1 (callsIn_of_wp_marks hf hb trivial ?_);refine wpIn_mono (((h (qC _ _ hv) w D E).sub (vq args os)) body hc' _ w ⟨D,E,hsim⟩) ?_;rintro e a w' ⟨A,hq,D',E',ab⟩;cases e <;>simp only[yM] at hq
 obtain ⟨rfl,hq⟩:=hq;exact EA hq (fun v w' h=>ED h) a.defers a w' rfl ab
theorem fF.acI{P:Program}{f:FuncId}{ch:List PanicEntry}{args:List I}(hcall:fy P f=true)(h:∀ (w:World) (D:aS) (vs:List Value),aH w D cP args vs→Calls P f vs.toArray w fun e w'=>e=.panicked ch∧w'=w)(hfl:I.ou args=true):fF P f ch args [] (fun os'=>os'=[]):=by
 refine ⟨hcall,fun w D E vs _ hD ho hv =>?_⟩;refine Calls.mono (h w D vs (aH.flat _ _ hfl hv)) ?_;rintro e w' ⟨rfl,rfl⟩;refine ⟨rfl,ED (v:=.tuple #[]) ⟨D,E,.tuple [],[],⟨rfl,rfl⟩,by simp only[a8];exact ⟨[],by simp,by simp[aH]⟩,?_,ft.refl _ _,fun _ _ h=>h,hD,fun _ _ h _ _=>h,fun n e h hn=>by simp[ay,ak] at hn,.refl _ _⟩⟩;exact ⟨fun n=>ho.bU n,fun n m e e' b J U af ar=>ho.cU n m e e' b J U af ar⟩
section
variable {c:cV} {A:ai} {Q:Exit→ai→Prop}
theorem tX{dr:Bool}{K:ai→Prop}{aY:Array Oper}{Q:Exit→Act→World→Prop}{l2:List Oper}(hQ:∀ B a w,K B→cd c B a w→wpListIn c.bB 9 c.P aY Q l2 a w):∀ (l:List Oper) (gs:List aJ) (A:ai) (a:Act) (w:World),gh c.P c.n aY l=some gs→aV c.P c.Y dr K (aE gs A) →
  cd c A a w→wpListIn c.bB 9 c.P aY Q (l++l2) a w
 | [],gs,A,a,w,hc,hwp,ab=>by
  simp only[gh,v6] at hc;subst hc;simp only[aE] at hwp;cases hwp with
  |done hk=>exact hQ A a w hk ab
 |o::l,gs,A,a,w,hc,hwp,ab=>by
  simp only[gh] at hc;split at hc
  case h_2=>cases hc
  rename_i g gs' hg hgs;simp only[v6] at hc;subst hc;obtain ⟨J,U,af,ar⟩:=og hg;have step:aV c.P c.Y dr K (bt A g.dst g.op gs' (aE gs'))→o.wpIn c.bB 9 c.P a w (wpListIn c.bB 9 c.P aY Q (l++l2)) Q:=fun h =>
   tU J U.symm (by rw[U];exact af) h ab (fun B a' w' hw hs'=>tX hQ l gs' B a' w' hgs hw hs')
  simp only[zy1,wpListIn];simp only[aE] at hwp;rcases ar with ⟨h5,h6⟩ | ⟨j,b,t,h5,h6,h7⟩
  ·rw[h6] at hwp;have hw:Region.wanted o (yielded aY a.tmps)=true:=by simp[Region.wanted,h5]
   rw[hw,if_pos rfl];exact step hwp
  ·rw[h7] at hwp;simp only at hwp;split at hwp
   ·rename_i b' hb';rw[tZ ab h5 h6 hb'];split at hwp
    ·rename_i hbb;subst hbb;simp only[BEq.rfl,if_true];exact step hwp
    ·rename_i hbb;have:(b'==b)=false:=by simpa using hbb
     rw[this];simp only[zz2,if_false];exact ⟨fun f _=>mz c f,tX hQ l gs' _ _ w hgs hwp (by rw[U];exact ab.nJ af)⟩
   ·rename_i hb';rw[ua ab h5 h6 hb'];simp only[zz2,if_false];exact ⟨fun f _=>mz c f,tX hQ l gs' _ _ w hgs hwp (by rw[U];exact ab.nJ af)⟩
   ·cases hwp
theorem BK{P:Program}{m:Nat}{aY:Array Oper}{g:aJ}{gs2:List aJ} : ∀ {l:List Oper} {gs1:List aJ},gh P m aY l=some (gs1++g::gs2)→∃ l1 o l2,l=l1++o::l2∧gh P m aY l1=some gs1∧mi P m aY o=some g
 | [],gs1,h=>by simp[gh] at h
 |o::l,[],h=>by
  obtain ⟨g',gs',e,J,U⟩:=BL h;simp only[List.nil_append,zw3] at e;obtain ⟨rfl,rfl⟩:=e;exact ⟨[],o,l,rfl,rfl,J⟩
 |o::l,k::gs1,h=>by
  obtain ⟨g',gs',e,J,U⟩:=BL h;simp only[zy1,zw3] at e;obtain ⟨rfl,rfl⟩:=e;obtain ⟨l1,o',l2,rfl,q1,q2⟩:=BK U;exact ⟨o::l1,o',l2,rfl,by simp only[gh,J,q1],q2⟩
inductive n0 (P:Program) (Q:Exit→ai→Prop) (f:FuncId) (avs:List I):ai→Prop where
 |mk {ts:List (Nat×I)} {os0:List (Nat×aq)} (aP:Bool) (ρ:List (Nat×Nat)) (os:List (Nat×aq)) (cargs:List I) (ch:List PanicEntry) (post:List (Nat×aq)→Prop):fF P f ch cargs os post→gG ρ os os0→h1 aP (aw ts (e7 (jq ρ os) os0)) ρ os avs cargs →
  (∀ os',post os'→gX aP ρ os os0 (.tuple []) os')→(∀ os',post os'→Q (.panic ch) (aw ts (dN ρ os'++os0)))→n0 P Q f avs (aw ts os0)
inductive nf (P:Program) (Q:Exit→ai→Prop):bW→ai→Prop where
 |call {f:FuncId} {args:List aM} {A:ai} : n0 P Q f (args.map (aj A)) A→nf P Q (.call f args) A
 |gi {x:aM} {args:List aM} {f:Nat} {caps:List I} {A:ai} : aj A x=.func f caps→n0 P Q (lP f) (iS f (args.map (aj A)) caps) A→nf P Q (.gi x args) A
theorem yO{o:Oper}{g:bW}{f:FuncId}{avs:List I}{vs:List Value}{a:Act}{w:World}{D:aS}{E:bf}{Kw:Act→World→Prop}(hop0:dv c.P o=some g)(h:n0 c.P Q f avs A)(ab:aX c A a w D E)(hall:fQ (a8 w D E) avs vs)
  (hrun:fy c.P f=true→(execOp a.eval o).run c.P w=.ok (.enter f vs.toArray) w):o.wpIn c.bB 9 c.P a w Kw (uk c Q):=by
 cases h with
 |mk aP ρ os cargs ch post hspec hgv ha hb hrest =>
  have hu:=hspec.2.use ab aP (fun h=>h.mono) ⟨fun _ _=>ab.p0,fun _=>ab.p0⟩ hgv ha (fun r os' hp=>by obtain ⟨rfl,hp⟩:=hp;exact hb os' hp) hall;refine ⟨lB,?_⟩;rw[l7 hop0,hrun hspec.1,Oper.uponIn_enter];refine ⟨wV c,B8 (Calls.mono hu ?_)⟩;rintro e w' ⟨rfl,v,r,os',D2,E2,he,⟨rfl,hp⟩,hs',hv,_⟩;exact ⟨_,hrest os' hp,D2,E2,hs'⟩
theorem FA{o:Oper}{g:bW}{a:Act}{w:World}{Kw:Act→World→Prop}(hop:dv c.P o=some g)(h:nf c.P Q g A)(hsim:cd c A a w):o.wpIn c.bB 9 c.P a w Kw (uk c Q):=by
 have hop0:=hop;obtain ⟨D,E,ab⟩:=hsim;cases h with
 |call h =>
  unfold dv at hop;split at hop <;>try (first | (simp at hop;done) | ((repeat' split at hop) <;>simp at hop;done))
  rename_i f' xs ts ho;split at hop
  case isFalse=>simp at hop
  simp only[t8,bW.call.injEq] at hop;obtain ⟨ys,hys,rfl,rfl⟩:=hop;have e:xs.map a.eval=(xs.toList.map a.eval).toArray:=by apply Array.ext';simp
  refine yO (vs:=xs.toList.map a.eval) hop0 h ab (lE ab xs.toList ts.toList ys hys) fun hc =>?_;simp only[execOp,ho,resolve,Act.eval,Deferred.ofValue,Sem.run_bind,Sem.run_pure,Result.andThen_ok,invoke,Array.append_empty,Array.empty_append,nO hc];rw[←e]
 |gi hx h =>
  rename_i x args f caps;unfold dv at hop;split at hop <;>try (first | (simp at hop;done) | ((repeat' split at hop) <;>simp at hop;done))
  rename_i y xs ts _ ho;split at hop
  case h_2=>cases hop
  rename_i y' ys J U;simp only[v6,bW.gi.injEq] at hop;obtain ⟨rfl,rfl⟩:=hop;have hv:=bS ab J;rw[hx] at hv;obtain ⟨cs,q1,q2⟩:=hv;simp only[al] at q2;obtain ⟨vs,q3,q4⟩:=q2;have hval:a.eval y=jY f vs:=by simpa[bC,I.isAgg,q3] using q1.symm
  have e:xs.map a.eval=(xs.toList.map a.eval).toArray:=by apply Array.ext';simp
  have hargs:=lE ab xs.toList ts.toList ys U;rcases Nat.lt_or_ge f 1000000 with hf | hf
  ·rw[xj hf,xi hf] at h;rw[nr hf] at hval;refine yO (vs:=xs.toList.map a.eval++vs) hop0 h ab (hargs.append (sv q4)) fun hc =>?_;simp only[execOp,ho,resolve,hval,Deferred.ofValue,Sem.run_bind,Sem.run_pure,Result.andThen_ok,invoke,Array.empty_append,nO hc];rw[e];simp
  ·obtain ⟨g,rfl⟩:∃ g:Nat,f=g+1000000:=⟨Nat.sub f 1000000,(Nat.sub_add_cancel hf).symm⟩
   rw[tK,xh] at h;rw[rp] at hval;refine yO (vs:=vs++xs.toList.map a.eval) hop0 h ab ((sv q4).append hargs) fun hc =>?_;simp only[execOp,ho,resolve,hval,Deferred.ofValue,Sem.run_bind,Sem.run_pure,Result.andThen_ok,invoke,Array.append_empty,nO hc];rw[e];simp
theorem ae.ac9{gs:List aJ}(k:Nat){g:bW}{dst:Option Nat}(hk:gs=gs.take k++⟨dst,g,none⟩::gs.drop (k+1))(h:∀ K:ai→Prop,(∀ B,nf c.P Q g B→K B)→aV c.P c.Y false K (aE (gs.take k) A)):ae c (.cg none gs) Q A:=by
 intro code hc a w ab;cases code <;>simp only[eN] at hc <;>try (first | (cases hc;done) | ((repeat' split at hc) <;>cases hc;done))
 rename_i id aY draw;split at hc
 case h_2=>cases hc
 rename_i gs' hgs;split at hc
 case isFalse=>cases hc
 simp only[v6,bx.cg.injEq] at hc;obtain ⟨hdr,rfl⟩:=hc;cases draw with
 |true=>simp at hdr
 |false =>
  refine wpIn_region_list ?_;rw[hk] at hgs;obtain ⟨l1,o,l2,ao,J,U⟩:=BK hgs;rw[ao];refine tX (K:=nf c.P Q g) (fun B a' w' hp hs' =>?_) l1 _ A a w J (h _ fun _ hb=>hb) ab;obtain ⟨q1,q2,q3,q4⟩:=og U;have wn:Region.wanted o (yielded aY a'.tmps)=true:=by
   rcases q4 with ⟨a5,_⟩ | ⟨_,_,_,_,_,a5⟩
   ·simp[Region.wanted,a5]
   ·simp at a5
  simp only[wpListIn,wn,if_true];exact FA q1 hp hs'
theorem ae.oR{gs gs1 gs2:List aJ}{g:bW}{dst:Option Nat}(e:gs=gs1++⟨dst,g,none⟩::gs2)(h:∀ K:ai→Prop,(∀ B,nf c.P Q g B→K B)→aV c.P c.Y false K (aE gs1 A)):ae c (.cg none gs) Q A:=by
 subst e;refine ae.ac9 gs1.length (g:=g) (dst:=dst) ?_ fun K hK =>?_
 ·simp
 ·simpa using h K hK
end
theorem adL{w:World}{b:Nat}{cs:Array Value}{T:TypeId}{fr:Nat×Nat}{v:Value}(h:w.heap[b]?=some (.cells cs T fr)):w.setCell ⟨b,0,none⟩ v=w.setRow b (cs.setIfInBounds 0 v):=by
 unfold World.setCell World.setRow
 congr 1
 apply Array.ext
 ·simp
 ·intro i J U;simp only[Array.getElem_modify];split
  ·rename_i e;subst e;obtain ⟨_,hv⟩:=zy4.1 h;simp[hv]
  ·rfl
def sV(P:Program)(f:FuncId):Prop:=fy P f=true∧∀ (b:Nat) (T:TypeId) (w:World) (x:Bool),w.heap[b]?=some (.cells #[.bool x] T (0,0))→CallsDIn Fence.wide 8 P f #[.pointer (some ⟨b,0,none⟩)] .returning w fun e u' w'=>(∃ v,e=.returned v)∧u'=.returning∧w'=w
def sP(P:Program)(f:FuncId)(ch:List PanicEntry):Prop:=fy P f=true∧∀ (b:Nat) (T:TypeId) (w:World) (x:Bool),w.heap[b]?=some (.cells #[.bool x] T (0,0)) →
 CallsDIn Fence.wide 8 P f #[.pointer (some ⟨b,0,none⟩)] (.panicking ch) w fun e u' w'=>(∃ v,e=.returned v)∧settle u'=.returning∧∃ w2,Below w.heap.size w w2∧w'=w2.setCell ⟨b,0,none⟩ (.bool false)
def kQ(f:FuncId)(v:Value):Deferred := { target:=.fn (.func f) #[v],args := #[] }
def sf(rs:List bQ)(post:cL)(ch:List PanicEntry)(N:Nat):Exit→ai→Prop
 | .ret,A=>(∃ x,A.o N=some (.box (.bool x)))∧jD rs post A
 | .panic ch',A=>ch'=ch∧(∃ x,A.o N=some (.box (.bool x)))∧jD rs post (A.aT N (.box (.bool false)))
 |_,_=>False
section
variable {P:Program} {n:Nat} {w:World} {D:aS} {E:bf} {rs:List bQ} {post:cL} {fn:Func} {ch:List PanicEntry} {f:FuncId} {N b:Nat}
theorem EB(hrs:h3 P fn.results.toList=some rs)(hEN:E N=some (.aP b .one)){A:ai}{D':aS}{E':bf}{u:FrameMode}(hx:∃ x,A.o N=some (.box (.bool x)))
  (hcase:(u=.returning∧jD rs post A∧sV P f)∨(u=.panicking ch∧jD rs post (A.aT N (.box (.bool false)))∧sP P f ch)) :
  ∀ (ds:List Deferred) (a:Act) (w':World),a.defers=ds→aX ⟨P,w,D,n,cN E,E,dA,none,some [kQ f (.pointer (some ⟨b,0,none⟩))]⟩ A a w' D' E'→LeavesInM Fence.wide 9 P fn a.tmps (fun e w'=>∃ v,e=.returned v∧mf w D E post v w') ds u w'
 | [],a,w',ah,ab=>by
  have J:a.defers=[kQ f (.pointer (some ⟨b,0,none⟩))]:=ab.eS;rw[ah] at J;cases J
 |d::ds,a,w',ah,ab=>by
  have J:a.defers=[kQ f (.pointer (some ⟨b,0,none⟩))]:=ab.eS;rw[ah] at J;simp only[zw3] at J;obtain ⟨rfl,rfl⟩:=J
  ·skip
   obtain ⟨x,hx⟩:=hx;obtain ⟨b',cs,T,e1,e2,e3,e4,e5⟩:dc _ w' D' E' N (some (.box (.bool x))):=hx▸ab.bU N;have hfx:E' N=none∨E' N=some (.aP b .one):=ab.xy (n:=N) (e:=.aP b .one) hEN rfl;have hE':E' N=some (.aP b .one):=by
    rcases hfx with h | h
    ·rw[h] at e1;cases e1
    ·exact h
   rw[hE'] at e1;simp only[v6,bR.aP.injEq] at e1;obtain ⟨rfl,_⟩:=e1;have hcs:cs = #[.bool x]:=by
    simp only[al] at e4;apply Array.ext';simpa using e4
   subst hcs;refine ⟨by rcases hcase with ⟨rfl,_⟩ | ⟨rfl,_⟩ <;>simp,.inr ⟨fun _=>by decide,.func f,#[.pointer (some ⟨b,0,none⟩)],f,#[.pointer (some ⟨b,0,none⟩)],rfl,?_,fun _ _=>trivial,?_⟩⟩
   ·have hcb:fy P f=true:=by rcases hcase with ⟨_,_,h⟩ | ⟨_,_,h⟩ <;>exact h.1
    simp only[kQ,invoke,nO hcb,Array.empty_append]
   ·rcases hcase with ⟨rfl,hr,hi⟩ | ⟨rfl,hr,hc⟩
    ·refine (hi.2 b T w' x e3).mono ?_;rintro e u' w'' ⟨⟨v,rfl⟩,rfl,rfl⟩;obtain ⟨v,J,U⟩:=ab.ui hrs hr;exact ⟨v,J,v,rfl,U⟩
    ·refine (hc.2 b T w' x e3).mono ?_;rintro e u' w'' ⟨⟨v,rfl⟩,hu,w2,hb2,rfl⟩;have hs1:=ab.grow (D':=D') hb2 (fun _ _ h=>h) (fun _ _ h _=>h) (fun b o ah=>Nat.lt_of_lt_of_le (ab.aU b o ah) hb2.size);have e3':w2.heap[b]?=some (.cells #[.bool x] T (0,0)):=(hb2.block b (fX e3)).trans e3;have hs2:=hs1.zu (y:=.bool false) (cs' := #[.bool false]) hx hE' rfl (by simp[al]);have hw:w2.setCell ⟨b,0,none⟩ (.bool false)=w2.setRow b #[.bool false]:=by
      rw[adL e3'];rfl
     rw[←hw] at hs2;obtain ⟨v,J,U⟩:=hs2.ui hrs hr;simp only[hu];exact ⟨v,J,v,rfl,U⟩
theorem p5{bB:Fence}{m:Nat}{tmps:Array Value}{R R':Ending→World→Prop}(hr:∀ e w,R e w→R' e w):∀ (ds:List Deferred) (u:FrameMode) (w:World),LeavesInM bB m P fn tmps R ds u w→LeavesInM bB m P fn tmps R' ds u w
 | [],u,w,h=>by
  cases u with
  |run=>exact h
  |returning=>obtain ⟨v,J,U⟩:=h;exact ⟨v,J,hr _ _ U⟩
  |panicking c=>exact hr _ _ h
 |d::ds,u,w,h=>by
  obtain ⟨J,U⟩:=h;refine ⟨J,?_⟩;rcases U with ⟨r,w',k1,k2,k3⟩ | ⟨k1,fv,cap,g,args,k2,k3,k4,k5⟩
  ·exact .inl ⟨r,w',k1,k2,p5 hr ds u w' k3⟩
  ·refine .inr ⟨k1,fv,cap,g,args,k2,k3,k4,k5.mono fun e u' w' h =>?_⟩;cases e with
   |returned v=>exact p5 hr ds _ w' h
   |panicked c=>exact p5 hr ds _ w' h
   |outgrown=>exact hr _ _ h
def su(P:Program)(fn:Func)(rest:Code)(slots:List Nat)(a:Act)(vs:Array Value)(w:World)(R:Ending→World→Prop):Prop :=
 vs.toList=slots.map (fun t=>a.tmps.getD t undef)→rest.wpIn Fence.wide 9 P (bodyPostM Fence.wide 9 P fn R) a w
theorem su.mono{rest:Code}{slots:List Nat}{a:Act}{vs:Array Value}{w:World}{R R':Ending→World→Prop}(h:su P fn rest slots a vs w R)(hr:∀ e w,R e w→R' e w):su P fn rest slots a vs w R':=fun hv=>by
 refine wpIn_mono (h hv) fun e a' w' q =>?_;cases e <;>simp only[bodyPostM] at q ⊢ <;>first
  |exact p5 hr _ _ _ q
  |exact hr _ _ q
  |exact q
theorem H7{w:World}{D:aS}{E:bf}(g:Nat→Value):∀ (slots:List Nat) (args:List I),aH w D E args (slots.map g)→∀ t,a8 w D E (b9 (slots.zip args) t) (g t)
 | [],args,h,t=>by simp[b9,a8]
 |s::slots,[],h,t=>by simp[b9,a8]
 |s::slots,x::args,h,t=>by
  simp only[aH,zz5] at h;obtain ⟨v,rest,cs,e,J,U,af⟩:=h;simp only[zw3] at e;obtain ⟨rfl,rfl⟩:=e;simp only[List.zip_cons_cons,b9];split
  ·rename_i hk;subst hk;exact gL J U
  ·exact H7 g slots args af t
theorem adn{rest:Code}{x:bx}{slots:List Nat}{a:Act}{args:List I}{os:List (Nat×aq)}{ts:Nat}(hrs:h3 P fn.results.toList=some rs)(hx:eN P n rest=some x)(hsz:a.tmps.size=n)(ah:a.defers=[kQ f (a.tmps.getD ts undef)])(hos:∀ m,ay os m=true→n≤m∧1000000≤m)
  (hts:b9 (slots.zip args) ts=.ptr N []) {y:Bool} (hN:ak os N=some (.box (.bool y))) (hi:sV P f) (hc:sP P f ch)
  (hAW:∀ (w:World) (D:aS) (E:bf) (d:Deferred),ae ⟨P,w,D,n,cN E,E,dA,none,some [d]⟩ x (sf rs post ch N) (aw (slots.zip args) os)):nY (su P fn rest slots a) (fun w _ E=>gb P w (cN E)) args os post:=by
 intro w D E vs ao hD ho hv hvs;have hvs':vs=slots.map (fun t=>a.tmps.getD t undef):=by simpa using hvs
 subst hvs';have htm:=H7 (fun t=>a.tmps.getD t undef) slots args hv;have hp:=htm ts;rw[hts] at hp;obtain ⟨b,bg,off,p1,p2,p3⟩:=l5 hp;have hob:dc _ w D E N (some (.box (.bool y))):=hN▸ho.bU N;obtain ⟨b',cs,T,e1,_⟩:=hob;have hsh:bg=.one:=by
  rw[p1] at e1;simp only[v6,bR.aP.injEq] at e1;rw[e1.2];rfl
 subst hsh;have hoff:off=0:=by simpa[cW.off] using p2.symm
 subst hoff;simp only[p3] at ah;have hsim:aX ⟨P,w,D,n,cN E,E,dA,none,some [kQ f (.pointer (some ⟨b,0,none⟩))]⟩ (aw (slots.zip args) os) a w D E:=by
  refine ⟨hsz,ah,htm,ft.refl _ _,fun _ _ h _=>h,hD,fun m =>?_,ho.cU,fun m e h=>.inr ⟨e,h,.refl e⟩,fun m hm =>?_,fun _ _ h=>h,qI ao,.refl _ _⟩
  ·have h:=ho.bU m;simp only[aw];cases hx:ak os m with
   |none=>rw[hx] at h;exact h
   |some x=>rw[hx] at h;exact dc.iV h fun e b he hb=>.inr ⟨m,e,he,hb⟩
  ·refine hos m ?_;cases hx:ak os m with
   |none=>have h:=ho.bU m;rw[hx] at h;exact absurd h hm
   |some x=>simp[ay,hx]
 refine wpIn_mono ((hAW w D E _) rest hx a w ⟨D,E,hsim⟩) ?_;rintro e a' w' ⟨A,hq,D',E',ab⟩;have br:∀ e w',(∃ v,e=Ending.returned v∧mf w D E post v w')→∃ v D' E' r os',e=.returned v∧post r os'∧a8 w' D' E' r v∧kh (fun b=>w.heap.size≤b∨cN E b) w' D' E' (ak os') ∧
   ft (fun b=>w.heap.size≤b∨cN E b) w w'∧(∀ b o,D b o→D' b o)∧(∀ b o,D' b o→b<w'.heap.size)∧(∀ b o,D' b o→b<w.heap.size→¬ cN E b→D b o) ∧
   (∀ n e,E n=some e→ay os' n=true→∃ e',E' n=some e'∧e.le e')∧hZ w D w':=fun e w' ⟨v,J,D',E',r,os',U⟩=>⟨v,D',E',r,os',J,U⟩
 cases e <;>simp only[sf] at hq
 ·obtain ⟨J,U⟩:=hq;exact p5 br _ _ _ (EB (ch:=ch) hrs p1 J (.inl ⟨rfl,U,hi⟩) a'.defers a' w' rfl ab)
 ·obtain ⟨rfl,J,U⟩:=hq;exact p5 br _ _ _ (EB hrs p1 J (.inr ⟨rfl,U,hc⟩) a'.defers a' w' rfl ab)
end
def wU(P:Program)(n:Nat):Code→Option (bx×FuncId×Nat×Nat×bx)
 | .seq lZ (.seq (.region _ aY false) rest)=>match aY.toList with
  | [o1,o2]=>match mi P n aY o1,o2.op with
   |some ⟨some t5,.mk g [.t ts],none⟩,.defer { callee:=.value (.tmp t),args,.. } =>if t=t5∧args = #[]∧o2.guard=none∧o2.dst=none then (match eN P n lZ,eN P n rest with
     |some x0,some x=>some (x0,g,ts,t5,x)
     |_,_=>none)
    else none
   |_,_=>none
  |_=>none
 |_=>none
structure Jt (P:Program) (n:Nat) (x:bx) (rs:List bQ) (post:cL) (ch:List PanicEntry) (g:FuncId) (ts t5:Nat) (tsl:List (Nat×I)) (os0:List (Nat×aq)) (ρ:List (Nat×Nat)) (os1:List (Nat×aq)) (slots:List Nat) (cargs:List I) (N:Nat) (y:Bool) (post1:cL):Prop where
 fV:b9 tsl ts=.ptr (bP ρ N) []
 D5:gG ρ os1 os0
 arg:h1 false (aw ((t5,.func g [.ptr (bP ρ N) []])::tsl) (e7 (jq ρ os1) os0)) ρ os1 (slots.map (b9 ((t5,.func g [.ptr (bP ρ N) []])::tsl))) cargs
 AE:∀ r os',post1 r os'→gX false ρ os1 os0 r os'
 HO:b9 (slots.zip cargs) ts=.ptr N []
 box:ak os1 N=some (.box (.bool y))
 mA:∀ m,ay os1 m=true→n≤m∧1000000≤m
 rest:∀ (w:World) (D:aS) (E:bf) (d:Deferred),ae ⟨P,w,D,n,cN E,E,dA,none,some [d]⟩ x (sf rs post1 ch N) (aw (slots.zip cargs) os1)
 je:∀ r os',post1 r os'→∃ osF,r.flat=true∧r.bu (bP ρ)=r∧(∀ m z,ak osF m=some z→ak (dN ρ os'++os0) m=some z∧z.only (ay osF)=true∧z.eG=true)∧post r osF
abbrev tA(P:Program)(w:World)(D:aS)(n:Nat)(E:bf)(b:Option (List Deferred)):cV:=⟨P,w,D,n,cN E,E,dA,none,b⟩
theorem aX.aaZ{P:Program}{n:Nat}{w:World}{D:aS}{E:bf}{fx:Option (List Deferred)}{post:cL}{A:ai}{a:Act}{w':World}{D':aS}{E':bf}{r:I}{v:Value}{os:List (Nat×aq)}
  (ab:aX (tA P w D n E fx) A a w' D' E') (J:∀ m z,ak os m=some z→A.o m=some z∧z.only (ay os)=true∧z.eG=true) (hf:r.flat=true) (hv:a8 w' D' E' r v) (hp:post r os):mf w D E post v w':=by
 obtain ⟨D2,E2,hw,e2,e2n,q1,q2,q3,q4,q5,q6⟩:=ab.x3 J;exact ⟨D2,E2,r,os,hp,a8.flat hf hv,q1,q2,q3,q4,q5,q6⟩
theorem cY.aci{P:Program}{f:FuncId}{fn:Func}{x0 x:bx}{g:FuncId}{ts t5:Nat}{rs:List bQ}{args:List I}{os:List (Nat×aq)}{post:cL}{ch:List PanicEntry}(hf:P.funcs[f]?=some fn)(hcall:fy P f=true)(hc:(fn.body.bind (wU P fn.ntmps))=some (x0,g,ts,t5,x))
  (hrs:h3 P fn.results.toList=some rs) (hn:args.length≤fn.ntmps) (hn2:fn.ntmps≤1000000) (hos:∀ m,ay os m=true→1000000≤m) (hi:sV P g) (hca:sP P g ch) (hts:ts≠t5)
  (h:I.gE args→∀ (w:World) (D:aS) (E:bf),ae ⟨P,w,D,fn.ntmps,cN E,E,dA,none,some []⟩ x0 (ej (fun B=>∃ tsl os0 ρ os1 slots cargs N y post1,B=aw tsl os0∧Jt P fn.ntmps x rs post ch g ts t5 tsl os0 ρ os1 slots cargs N y post1) (fun _ _=>False)) (aw (bM 0 args) os)):cY P f args os post:=by
 obtain ⟨body,hb,hc⟩:=zv6.1 hc;refine ⟨hcall,fun w D E vs ao hD ho hv =>?_⟩;have hlen:=sw hv;have s0:=zI (P:=P) (n:=fn.ntmps) (Y:=dA) hD ho hv (by omega) (fun m hm=>⟨zu0 hn2 (hos m hm),hos m hm⟩) (qI ao);have hsim:aX (tA P w D fn.ntmps E (some [])) (pg args os) { tmps:=vs.toArray++Array.replicate (fn.ntmps-vs.toArray.size) undef,defers:=[] } w D E :=
  ⟨s0.sz,rfl,s0.eb,s0.dZ,s0.dh,s0.aU,s0.bU,s0.cU,s0.ec,s0.fe,s0.cX,qI ao,s0.fO⟩
 obtain ⟨RR,hRR⟩:∃ RR:Ending→World→Prop,RR=fun e w'=>∃ v,e=.returned v∧mf w D E post v w':=⟨_,rfl⟩
 refine Calls.mono (R:=RR) ?_ (fun e w' q=>by rw[hRR] at q;obtain ⟨v,he,D',E',r,os',k⟩:=q;exact ⟨v,D',E',r,os',he,k⟩);refine (callsIn_wide (n:=9)).1 (callsIn_of_wp_marks hf hb trivial ?_);unfold wU at hc;split at hc
 case h_2=>cases hc
 rename_i lZ id aY rest;split at hc
 case h_2=>cases hc
 rename_i o1 o2 hops;split at hc
 case h_2=>cases hc
 rename_i t5' g' ts' t dargs _ hg1 ho2;split at hc
 case isFalse=>cases hc
 rename_i hok;obtain ⟨rfl,rfl,hgd,hdst⟩:=hok;split at hc
 case h_2=>cases hc
 rename_i y0 y hx0 hx;simp only[v6,Prod.mk.injEq] at hc;obtain ⟨rfl,rfl,rfl,rfl,rfl⟩:=hc;refine wpIn_seq ?_;have hw0:=((h (qC _ _ hv) w D E).sub (vq args os)) lZ hx0 _ w ⟨D,E,hsim⟩;refine wpIn_mono hw0 ?_;rintro e a1 w1 ⟨B,hq,D1,E1,hs1⟩;cases e <;>simp only[ej] at hq
 obtain ⟨tsl,os0,ρ,os1,slots,cargs,N,yb,post1,rfl,R⟩:=hq;simp only[Exit.then];refine wpIn_seq (wpIn_region_list ?_);rw[hops];obtain ⟨q1,q2,q3,q4⟩:=og hg1;simp only at q1 q2;have wn1:∀ a:Act,Region.wanted o1 (yielded aY a.tmps)=true:=fun a=>by
  rcases q4 with ⟨a5,_⟩ | ⟨_,_,_,_,_,a5⟩
  ·simp[Region.wanted,a5]
  ·simp at a5
 have wn2:∀ a:Act,Region.wanted o2 (yielded aY a.tmps)=true:=fun a=>by simp[Region.wanted,hgd]
 simp only[wpListIn,wn1,if_true];have hmk:bo (aw tsl os0) (.mk g' [.t ts'])=some (.func g' [.ptr (bP ρ N) []]):=by
  simp[bo,aj,aw,R.fV,I.bX]
 have d1:=(FM (c:=tA P w D fn.ntmps E (some [])) q1 hmk).does q3;rw[←q2] at d1;refine d1.wp q1 ⟨D1,E1,hs1⟩ fun a2 w2 hs2 =>?_;obtain ⟨D2,E2,hs2⟩:=hs2;simp only[wn2,if_true];rw[E6] at hs2
 -- the deferred call
 have hglt:=B7 hi.1;have hfv:=hs2.eb t;simp only[aw,b9,if_true] at hfv;obtain ⟨fc,f1,f2⟩:=hfv;simp only[al] at f2;obtain ⟨fvs,f3,f4⟩:=f2;have hval:a2.tmps.getD t undef=.func (.func g') #[] fvs.toArray:=by
  rw[←nr hglt];simpa[bC,I.isAgg,f3] using f1.symm
 simp only[aH] at f4;obtain ⟨pv,prest,pcs,rfl,p1,p2,rfl⟩:=f4;have hpv:=hs2.eb ts';simp only[aw,b9,if_neg hts,R.fV] at hpv;obtain ⟨pb,psh,poff,b1,b2,b3⟩:=l5 hpv;obtain ⟨pb',psh',poff',b1',b2',b3'⟩:=l5 (gL p1 p2);have hpeq:pv=a2.tmps.getD ts' undef:=by
  rw[b1] at b1';simp only[v6,bR.aP.injEq] at b1';obtain ⟨rfl,rfl⟩:=b1';rw[b2] at b2';simp only[v6] at b2';subst b2';rw[b3,b3']
 have hdf:a2.defers=[]:=hs2.eS;obtain ⟨a3,ha3⟩:∃ a3:Act,a3 = { a2 with defers:=[kQ g' (a2.tmps.getD ts' undef)] } :=⟨_,rfl⟩
 have hrun:(o2.semAt Fence.wide.round a2.eval).run P w2=.ok (.defer (kQ g' (a2.tmps.getD ts' undef))) w2:=by
  show (execOp a2.eval o2).run P w2=_
  have he:a2.eval (.tmp t)=.func (.func g') #[] #[pv]:=hval;simp[execOp,ho2,resolve,he,Deferred.ofValue,kQ,hpeq]
 refine ⟨fun _ _=>trivial,?_⟩;rw[hrun,Oper.uponIn_defer,hdf,hdst];simp only[Exit.then];have hput:({ tmps:=a2.tmps,defers:=[kQ g' (a2.tmps.getD ts' undef)] } : Act).put none undef=a3:=by rw[ha3];rfl
 rw[hput]
 -- the rest
 have hand:=adn (P:=P) (n:=fn.ntmps) (fn:=fn) (f:=g') (N:=N) (ch:=ch) (slots:=slots) (a:=a3) (args:=cargs) (os:=os1) (ts:=ts') hrs hx (by rw[ha3];exact hs2.sz) (by rw[ha3]) R.mA R.HO R.box hi hca R.rest;have hs3:aX (tA P w D fn.ntmps E (some [kQ g' (a2.tmps.getD ts' undef)])) (aw ((t,.func g' [.ptr (bP ρ N) []])::tsl) os0) a3 w2 D2 E2:=by
  rw[ha3];exact ⟨hs2.sz,rfl,hs2.eb,hs2.dZ,hs2.dh,hs2.aU,hs2.bU,hs2.cU,hs2.ec,hs2.fe,hs2.cX,qI ao,hs2.fO⟩
 have hall:∀ l:List Nat,fQ (a8 w2 D2 E2) (l.map (b9 ((t,.func g' [.ptr (bP ρ N) []])::tsl))) (l.map fun k=>a3.tmps.getD k undef):=fun l=>by
  induction l with
  |nil=>exact .nil
  |cons k l ih=>exact .cons (hs3.eb k) ih
 have hus:=hand.use hs3 false (fun h hr=>h.mono hr) ⟨(fun h=>by cases h),fun _=>hs3.p0⟩ R.D5 R.arg R.AE (hall slots);refine su.mono hus ?_ (by simp);rintro e w' ⟨v,r,os',D4,E4,rfl,hp,hs4,hv4,_⟩;rw[hRR];obtain ⟨osF,g1,g2,g3,g4⟩:=R.je r os' hp;rw[g2] at hv4;exact ⟨v,rfl,hs4.aaZ g3 g1 hv4 g4⟩
end Go.Abs
