/-
  A part of the proof that the law MarchChecks returns true for every input; three tables of Go's library start as the text lays them (the card ties them); conditions: none beyond the statement's own. (part 3 of 6)
-/
import Derived.Test.YthbdbocionnfgaaGreatDoorChecked
import Derived.KernelRfl
import Derived.RangeFuncIn
import Derived.Laws.Externs
import Derived.RecoverIn
import Derived.ProofKit
import Derived.Test.YthbdbocionnfgaaGreatDoorNab
set_option linter.unusedSimpArgs false
set_option linter.unusedVariables false
set_option maxHeartbeats 16000000
set_option maxRecDepth 100000
namespace Go.Proofs.YthbdbocionnfgaaGreatDoor
open Go Go.Abs Go.Abs.C
def P8:=[b 3 0,b 4 1,b 5 2,o 6 (.mv bz)]
def P9:=[f 12 4 4 5,l 13 12,o 14 (.call 19 [.t 13]),m 11 14,o 15 (.ext (.t 11) 0),o 16 (.ext (.t 11) 1),o 7 (.alloc (.agg [.int .i64 0,.nils 4,.int .i64 0])),p (.bd (some 3) (.t 7) (.t 15)),m 8 16]
def Qa:=[f 18 4 4 5,l 19 18,o 20 (.call 20 [.t 19]),m 17 20,o 21 (.ext (.t 17) 0),o 22 (.ext (.t 17) 1),o 9 (.alloc (.agg [.int .i64 0,.nils 4,.int .i64 0])),p (.bd (some 3) (.t 9) (.t 21)),m 10 22]
def Qb:=[L 23 3 7,L 24 3 9,o 25 (.call 16 [.t 23,.t 24]),m 26 25,dc 27 8 26,dc 28 10 26,bL 29 (.bin .eql (.t 27) (.t 28)) 26,and 30 26 29,m 31 30,bL 32 (.ld (some 4) (.t 4)) 31,bL 33 (.call 21 [.t 32]) 31,bL 34 (.ld (some 4) (.t 4)) 31,bL 35 (.call 22 [.t 34]) 31,bL 36 (.bin .eql (.t 33) (.t 35)) 31,and 37 31 36,m 38 37,bL 39 (.ld (some 3) (.t 3)) 38,bL 40 (.call 23 [.t 39]) 38,bL 41 (.ld (some 3) (.t 3)) 38,bL 42 (.call 24 [.t 41]) 38,bL 43 (.bin .eql (.t 40) (.t 42)) 38,and 44 38 43,m 45 44,bL 46 (.ld (some 5) (.t 5)) 45,bL 47 (.call 25 [.t 46]) 45,bL 48 (.ld (some 5) (.t 5)) 45,bL 49 (.call 26 [.t 48]) 45,bL 50 (.bin .eql (.t 47) (.t 49)) 45,and 51 45 50,m 52 51,bL 53 (.call 18 []) 52,and 54 52 53,m 6 54]
def KT:=some [[],[],[0,1],[2,2],[3],[3],[4,5,3],[3,6],[7,3],[8],[9,8,8],[8],[11,10,8],[10,12,8],[8,13],[14,12],[15],[16,15,15],[15],[18,17,15],[17,19,15],[15,20],[21,19],[22],[23,22,22],[22],[25,24,22],[24,26,22],[22,27],[28,26],[29,29],[29,30],[31,30,0,1,2,3,4,5,6,7,8,9,10,11,12,13,14,15,16,17,18,19,20,21,22,23,24,25,26,27,28,29,30,31]]
def r5:br:=(s (r P8) (s (r P9) (s (r Qa) (s (.cg KT Qb) .ret))))
def Dk:List bQ:=[.tmp 6]
theorem IJ:ct Tryz.prog Tryz.f4 r5:=e (by kernel_rfl)
theorem JX:cq Tryz.prog Tryz.f4 Dk:=e (by kernel_rfl)
theorem HJ:cm Tryz.prog 4:=e (by kernel_rfl)
def MI:=[b 1 0,o 2 (.alloc (.agg [.int .i64 0,.nils 4,.int .i64 0])),b6 3 0]
def MJ:=[L 5 3 1,o 6 (.call 23 [.t 5]),m 4 6]
def MK:=[m 7 4,o 8 (.bin .neq (.t 7) (a8 0))]
def ML:=[o 9 (.bld [.int .i64 0,.nils 4,.int .i64 0] []),m 10 4,p (.bd (some 3) (.t 2) (.t 9)),m 3 10]
def MN:=[L 11 3 1,o 12 (.call 57 [.t 11]),p (.bd (some 3) (.t 1) (.t 12))]
def MO:=[f 13 1 1 1,l 14 13,o 15 (.len (.t 14)),f 16 2 2 1,p (.bd none (.t 16) (.t 15))]
def MP:=[L 17 3 1,p (.bd (some 3) (.t 2) (.t 17)),b6 3 0]
def yi:br:=(s (r MI) (s (s (r MJ) (s (r MK) (.cond (.t 8) (s (r ML) .ret) .skip))) (s (r MN) (s (r MO) (s (r MP) .ret)))))
def CJ:List bQ:=[.cell 2 (some 3),.tmp 3]
theorem Ig:ct Tryz.prog Tryz.f10 yi:=e (by kernel_rfl)
theorem Jn:cq Tryz.prog Tryz.f10 CJ:=e (by kernel_rfl)
theorem Hi:cm Tryz.prog 10:=e (by kernel_rfl)
def Ns:=[b 2 0,o 4 (.mv (.c (.nils 5))),b6 5 0]
def Nt:=[L 11 3 2,o 12 (.call 23 [.t 11]),m 6 12]
def Nx:=[m 13 6,o 14 (.bin .neq (.t 13) (a8 0))]
def Ny:=[m 15 6,o 4 (.mv (.c (.nils 5))),m 5 15]
def Nz:=[m 16 1,o 17 (.call 61 [.t 16]),no 18 17,m 19 18,mu 20 1 19,fn 21 0 0 2 19,eJ 22 21 19,on 23 (.bin .eql (.t 20) (.t 22)) 19,or 24 19 23]
def NA:=[o 4 (.mv (.c (.nils 5))),b6 5 90]
def NB:=[f 26 0 0 2,l 27 26,f 28 1 1 2,l 29 28,f 30 2 2 2,l 31 30,f 32 2 2 2,l 33 32,o 34 (.sl 4 (.t 29) none (some (.t 31)) (some (.t 33))),o 35 (.call 62 [.t 27,.t 34]),m 25 35,o 36 (.ext (.t 25) 0),o 37 (.ext (.t 25) 1),m 7 36,m 8 37]
def KK:=some [[],[0],[],[2],[],[4],[],[6],[3,5,7],[1,8],[9],[10],[10],[11,9,0,1,2,3,4,5,6,7,8,9,10,11],[12,13,0,1,2,3,4,5,6,7,8,9,10,11,12,13]]
def NC:=[o 9 (.alloc (.nils 5))]
def ND:=[m 38 7,m 39 1,o 40 (.call 63 [.t 38,.t 39])]
def NF:=[o 10 (.alloc (.agg [.int .i64 0,.int .i64 0,.int .i64 0,.int .i64 0,.int .i64 0])),p (.bd (some 5) (.t 10) (.t 41))]
def Nu:=[l 42 9,o 43 (.len (.t 42)),o 44 (.bin .eql (.t 43) (a8 0)),m 45 44,eJ 46 9 45,eJ 47 9 45,on 48 (.len (.t 47)) 45,on 49 (.bin .sub (.t 48) (a8 1)) 45,on 50 (.is 5 (.t 46) (.t 49)) 45,on 51 (.ld (some 5) (.t 50)) 45,on 52 (.ld (some 5) (.t 10)) 45,on 53 (.eqv (.bd [(.i .i64),(.i .i64),(.i .i64),(.i .i64),(.i .i64)]) true (.t 51) (.t 52)) 45,or 54 45 53]
def KJ:=some [[],[0],[1],[2],[3],[3],[5,3],[6,3],[4,7,3],[8,3],[3],[9,10,3],[3,11]]
def Nv:=[l 55 9,L 56 5 10,o 57 (.bs 39 5 [.t 56]),o 58 (.dm 39 5 40 (.agg [.int .i64 0,.int .i64 0,.int .i64 0,.int .i64 0,.int .i64 0]) (.t 55) (.t 57)),p (.bd none (.t 9) (.t 58))]
def Nw:=[l 59 9,m 4 59,b6 5 0]
def yw:br:=(s (r Ns) (s (s (r Nt) (s (r Nx) (.cond (.t 14) (s (r Ny) .ret) .skip))) (s (s (r Nz) (.cond (.t 24) (s (r NA) .ret) .skip)) (s (.cg KK NB) (s (r NC) (s (s (r ND) (.block 0 (.lS (.t 40) [41] (r NF) (.block 1 (s (.cg KJ Nu) (.cond (.t 54) (r Nv) .skip)))))) (s (r Nw) .ret)))))))
def C1:List bQ:=[.tmp 4,.tmp 5]
theorem Ir:ct Tryz.prog Tryz.f14 yw:=e (by kernel_rfl)
theorem JF:cq Tryz.prog Tryz.f14 C1:=e (by kernel_rfl)
theorem Hr:cm Tryz.prog 14:=e (by kernel_rfl)
def NM:=[b 2 0,b 3 1,o 4 (.mv bz)]
def NN:=[f 5 0 0 2,l 6 5,f 7 0 0 3,l 8 7,o 9 (.bin .eql (.t 6) (.t 8)),m 10 9,dR 11 2 2 2 10,dJ 12 11 10,dR 13 2 2 3 10,dJ 14 13 10,bL 15 (.bin .eql (.t 12) (.t 14)) 10,and 16 10 15,m 17 16,dR 18 1 1 2 17,dJ 19 18 17,dR 20 1 1 3 17,dJ 21 20 17,bL 22 (.call 52 [.t 19,.t 21]) 17,and 23 17 22,m 4 23]
def yz:br:=(s (r NM) (s (r NN) .ret))
def C4:List bQ:=[.tmp 4]
theorem It:ct Tryz.prog Tryz.f16 yz:=e (by kernel_rfl)
theorem JI:cq Tryz.prog Tryz.f16 C4:=e (by kernel_rfl)
theorem Ht:cm Tryz.prog 16:=e (by kernel_rfl)
def NO:=[o 4 (.mv bz)]
def NP:=[m 6 0,o 7 (.len (.t 6)),m 8 1,o 9 (.len (.t 8)),o 10 (.bin .neq (.t 7) (.t 9))]
def NQ:=[o 4 (.mv bz)]
def NR:=[m 11 0,o 12 (.len (.t 11)),b6 13 0]
def NS:=[lt 14 13 12]
def NT:=[m 15 13,m 5 15]
def NU:=[m 16 0,m 17 5,o 18 (.is 5 (.t 16) (.t 17)),L 19 5 18,m 20 1,m 21 5,o 22 (.is 5 (.t 20) (.t 21)),L 23 5 22,o 24 (.eqv (.bd [(.i .i64),(.i .i64),(.i .i64),(.i .i64),(.i .i64)]) true (.t 19) (.t 23))]
def KP:=some [[],[],[0,1],[2],[],[],[4,5],[6],[3,7]]
def NV:=[o 4 (.mv bz)]
def NW:=[ad 25 13 1,m 13 25]
def NX:=[o 4 (.mv T)]
def yA:br:=(s (r NO) (s (s (r NP) (.cond (.t 10) (s (r NQ) .ret) .skip)) (s (s (r NR) (.block 0 (.loop (s (r NS) (s (.cond (.t 14) .skip (.exit 0)) (s (.block 1 (s (r NT) (s (.cg KP NU) (.cond (.t 24) (s (r NV) .ret) .skip)))) (r NW))))))) (s (r NX) .ret))))
def C5:List bQ:=[.tmp 4]
theorem Iu:ct Tryz.prog Tryz.f17 yA:=e (by kernel_rfl)
theorem JJ:cq Tryz.prog Tryz.f17 C5:=e (by kernel_rfl)
theorem Hu:cm Tryz.prog 17:=e (by kernel_rfl)
def NY:=[o 0 (.mv bz)]
def NZ:=[o 28 (.call 19 [(a8 0)]),m 27 28,o 29 (.ext (.t 27) 0),o 30 (.ext (.t 27) 1),o 1 (.alloc (.agg [.int .i64 0,.nils 4,.int .i64 0])),p (.bd (some 3) (.t 1) (.t 29)),m 2 30]
def N9:=[o 32 (.call 19 [(a8 1)]),m 31 32,o 33 (.ext (.t 31) 0),o 34 (.ext (.t 31) 1),o 3 (.alloc (.agg [.int .i64 0,.nils 4,.int .i64 0])),p (.bd (some 3) (.t 3) (.t 33)),m 4 34]
def Oa:=[L 36 3 1,o 37 (.call 27 [.t 36,(a8 7)]),m 35 37,o 38 (.ext (.t 35) 0),o 39 (.ext (.t 35) 1),p (.bd (some 3) (.t 1) (.t 38)),m 5 39]
def Ob:=[L 41 3 1,o 42 (.call 10 [.t 41]),m 40 42,o 43 (.ext (.t 40) 0),o 44 (.ext (.t 40) 1),p (.bd (some 3) (.t 1) (.t 43)),m 6 44]
def Oc:=[L 46 3 1,o 47 (.call 31 [.t 46,(a8 7),(a8 1)]),m 45 47,o 48 (.ext (.t 45) 0),o 49 (.ext (.t 45) 1),o 50 (.ext (.t 45) 2),o 7 (.alloc (.agg [.int .i64 0,.int .i64 0,.int .i64 0,.bool false])),p (.bd (some 3) (.t 1) (.t 48)),p (.bd (some 4) (.t 7) (.t 49)),m 8 50]
def Od:=[L 52 3 1,o 53 (.call 14 [.t 52,(a8 1)]),m 51 53,o 54 (.ext (.t 51) 0),o 55 (.ext (.t 51) 1),m 9 54,m 10 55]
def Oe:=[L 57 3 1,o 58 (.call 53 [.t 57]),m 56 58,o 59 (.ext (.t 56) 0),o 60 (.ext (.t 56) 1),m 11 59,m 12 60]
def Of:=[L 62 3 1,o 63 (.call 10 [.t 62]),m 61 63,o 64 (.ext (.t 61) 0),o 65 (.ext (.t 61) 1),p (.bd (some 3) (.t 1) (.t 64)),m 13 65]
def Og:=[L 67 3 1,o 68 (.call 14 [.t 67,(a8 1)]),m 66 68,o 69 (.ext (.t 66) 0),o 70 (.ext (.t 66) 1),m 14 69,m 15 70]
def N0:=[o 71 (.bld [.int .i64 0,.int .i64 0,.int .i64 0,.int .i64 0,.int .i64 0] [(0,(a8 1)),(2,(a8 1)),(3,(a8 7)),(4,(a8 1))]),o 16 (.alloc (.agg [.int .i64 0,.int .i64 0,.int .i64 0,.int .i64 0,.int .i64 0])),p (.bd (some 5) (.t 16) (.t 71))]
def N1:=[L 73 3 3,L 74 5 16,o 75 (.call 35 [.t 73,.t 74]),m 72 75,o 76 (.ext (.t 72) 0),o 77 (.ext (.t 72) 1),p (.bd (some 3) (.t 3) (.t 76)),m 17 77]
def N2:=[L 79 3 1,L 80 3 3,o 81 (.bs 24 3 [.t 79,.t 80]),o 82 (.call 37 [.t 81,(a8 7)]),m 78 82,o 83 (.ext (.t 78) 0),o 84 (.ext (.t 78) 1),m 18 83,m 19 84]
def N3:=[L 86 3 3,o 87 (.call 10 [.t 86]),m 85 87,o 88 (.ext (.t 85) 0),o 89 (.ext (.t 85) 1),p (.bd (some 3) (.t 3) (.t 88)),m 20 89]
def N4:=[L 91 3 3,o 92 (.call 14 [.t 91,(a8 0)]),m 90 92,o 93 (.ext (.t 90) 0),o 94 (.ext (.t 90) 1),m 21 93,m 22 94]
def N5:=[L 96 3 1,o 97 (.bld [.int .i64 0,.int .i64 0,.int .i64 0,.int .i64 0,.int .i64 0] [(0,(a8 2)),(1,(a8 1)),(3,(a8 7)),(4,(a8 1))]),o 98 (.call 35 [.t 96,.t 97]),m 95 98,o 99 (.ext (.t 95) 0),o 100 (.ext (.t 95) 1),p (.bd (some 3) (.t 1) (.t 99)),m 23 100]
def N6:=[L 102 3 1,o 103 (.call 46 [.t 102]),m 101 103,o 104 (.ext (.t 101) 0),o 105 (.ext (.t 101) 1),m 24 104,m 25 105]
def N7:=[m 106 2,o 107 (.bin .eql (.t 106) (a8 0)),m 108 107,dc 109 4 108,bL 110 (.bin .eql (.t 109) (a8 0)) 108,and 111 108 110,m 112 111,dc 113 5 112,bL 114 (.bin .eql (.t 113) (a8 0)) 112,and 115 112 114,m 116 115,dc 117 6 116,bL 118 (.bin .eql (.t 117) (a8 0)) 116,and 119 116 118,m 120 119,dc 121 8 120,bL 122 (.bin .eql (.t 121) (a8 0)) 120,and 123 120 122,m 124 123,dc 125 10 124,bL 126 (.bin .eql (.t 125) (a8 0)) 124,and 127 124 126,m 128 127,dc 129 12 128,bL 130 (.bin .eql (.t 129) (a8 0)) 128,and 131 128 130,m 132 131,dc 133 13 132,bL 134 (.bin .eql (.t 133) (a8 0)) 132,and 135 132 134,m 136 135,dc 137 15 136,bL 138 (.bin .eql (.t 137) (a8 0)) 136,and 139 136 138,m 140 139,dc 141 17 140,bL 142 (.bin .eql (.t 141) (a8 0)) 140,and 143 140 142,m 144 143,dc 145 19 144,bL 146 (.bin .eql (.t 145) (a8 0)) 144,and 147 144 146,m 148 147,dc 149 20 148,bL 150 (.bin .eql (.t 149) (a8 0)) 148,and 151 148 150,m 152 151,dc 153 22 152,bL 154 (.bin .eql (.t 153) (a8 0)) 152,and 155 152 154,m 156 155,dc 157 23 156,bL 158 (.bin .eql (.t 157) (a8 0)) 156,and 159 156 158,m 160 159,dc 161 25 160,bL 162 (.bin .eql (.t 161) (a8 0)) 160,and 163 160 162,m 26 163]
def N8:=[m 164 26,m 165 164,bL 166 (.ld (some 4) (.t 7)) 165,bL 167 (.bld [.int .i64 0,.int .i64 0,.int .i64 0,.bool false] [(0,(a8 1)),(1,(a8 1)),(2,(a8 7))]) 165,bL 168 (.eqv (.bd [(.i .i64),(.i .i64),(.i .i64),.b]) false (.t 166) (.t 167)) 165,and 169 165 168,m 170 169,dc 171 9 170,bL 172 (.len (.t 171)) 170,bL 173 (.bin .eql (.t 172) (a8 0)) 170,and 174 170 173,m 175 174,dc 176 11 175,bL 177 (.bin .eql (.t 176) (.c (.bO ⟨#[112,111,117,110,100,32,48,32,49,10,112,111,117,110,100,32,55,10,115,101,110,100,32,55,32,49,32,49,10]⟩))) 175,and 178 175 177,m 179 178,dc 180 14 179,bL 181 (.ld (some 5) (.t 16)) 179,bL 182 (.bs 39 5 [.t 181]) 179,bL 183 (.call 17 [.t 180,.t 182]) 179,and 184 179 183,m 185 184,dc 186 18 185,bL 187 (.bs 3 1 [(a8 1)]) 185,bL 188 (.call 41 [.t 186,.t 187]) 185,and 189 185 188,m 190 189,dc 191 21 190,bL 192 (.bld [.int .i64 0,.int .i64 0,.int .i64 0,.int .i64 0,.int .i64 0] [(0,(a8 2)),(1,(a8 1)),(3,(a8 7)),(4,(a8 1))]) 190,bL 193 (.bs 39 5 [.t 192]) 190,bL 194 (.call 17 [.t 191,.t 193]) 190,and 195 190 194,m 196 195,dc 197 24 196,bL 198 (.len (.t 197)) 196,bL 199 (.bin .eql (.t 198) (a8 0)) 196,and 200 196 199,m 0 200]
def yB:br:=(s (r NY) (s (r NZ) (s (r N9) (s (r Oa) (s (r Ob) (s (r Oc) (s (r Od) (s (r Oe) (s (r Of) (s (r Og) (s (r N0) (s (r N1) (s (r N2) (s (r N3) (s (r N4) (s (r N5) (s (r N6) (s (r N7) (s (r N8) .ret)))))))))))))))))))
def C6:List bQ:=[.tmp 0]
theorem Iv:ct Tryz.prog Tryz.f18 yB:=e (by kernel_rfl)
theorem JK:cq Tryz.prog Tryz.f18 C6:=e (by kernel_rfl)
theorem Hv:cm Tryz.prog 18:=e (by kernel_rfl)
def Oh:=[o 2 (.alloc (.agg [.int .i64 0,.nils 4,.int .i64 0])),b6 3 0]
def Oi:=[m 4 0,o 5 (.call 61 [.t 4]),no 6 5]
def Oj:=[o 7 (.bld [.int .i64 0,.nils 4,.int .i64 0] []),p (.bd (some 3) (.t 2) (.t 7)),b6 3 90]
def Ol:=[m 8 0,o 9 (.bld [.int .i64 0,.nils 4,.int .i64 0] [(0,(.t 8))]),p (.bd (some 3) (.t 2) (.t 9)),b6 3 0]
def yC:br:=(s (r Oh) (s (s (r Oi) (.cond (.t 6) (s (r Oj) .ret) .skip)) (s (r Ol) .ret)))
def C7:List bQ:=[.cell 2 (some 3),.tmp 3]
theorem Iw:ct Tryz.prog Tryz.f19 yC:=e (by kernel_rfl)
theorem JL:cq Tryz.prog Tryz.f19 C7:=e (by kernel_rfl)
theorem Hw:cm Tryz.prog 19:=e (by kernel_rfl)
def Om:=[o 2 (.alloc (.agg [.int .i64 0,.nils 4,.int .i64 0])),b6 3 0]
def On:=[m 4 0,o 5 (.call 64 [.t 4]),no 6 5]
def Oo:=[o 7 (.bld [.int .i64 0,.nils 4,.int .i64 0] []),p (.bd (some 3) (.t 2) (.t 7)),b6 3 90]
def Oq:=[m 8 0,o 9 (.bld [.int .i64 0,.nils 4,.int .i64 0] [(0,(.t 8))]),p (.bd (some 3) (.t 2) (.t 9)),b6 3 0]
def yD:br:=(s (r Om) (s (s (r On) (.cond (.t 6) (s (r Oo) .ret) .skip)) (s (r Oq) .ret)))
def C8:List bQ:=[.cell 2 (some 3),.tmp 3]
theorem Iy:ct Tryz.prog Tryz.f20 yD:=e (by kernel_rfl)
theorem JM:cq Tryz.prog Tryz.f20 C8:=e (by kernel_rfl)
theorem Hx:cm Tryz.prog 20:=e (by kernel_rfl)
def Ot:=[b 1 0,b6 2 0]
def Ou:=[L 3 4 1,o 4 (.call 66 [.t 3]),no 5 4]
def Ov:=[b6 2 1]
def Ow:=[b6 2 0]
def yE:br:=(s (r Ot) (s (s (r Ou) (.cond (.t 5) (s (r Ov) .ret) .skip)) (s (r Ow) .ret)))
def C9:List bQ:=[.tmp 2]
theorem Iz:ct Tryz.prog Tryz.f21 yE:=e (by kernel_rfl)
theorem JN:cq Tryz.prog Tryz.f21 C9:=e (by kernel_rfl)
theorem Hy:cm Tryz.prog 21:=e (by kernel_rfl)
def Ox:=[b 1 0,b6 2 0]
def Oy:=[f 3 0 0 1,l 4 3]
def OE:=[o 6 (.bin .eql (.t 4) (a8 1)),m 5 6]
def OF:=[o 7 (.bin .eql (.t 4) (a8 2)),m 5 7]
def OG:=[f 8 1 1 1,l 9 8,o 10 (.call 67 [.t 9]),m 11 10,dR 12 2 2 1 11,dJ 13 12 11,bL 14 (.bin .eql (.t 13) (a8 0)) 11,and 15 11 14,m 16 15,dR 17 3 3 1 16,dJ 18 17 16,bL 19 (.bin .eql (.t 18) (a8 0)) 16,and 20 16 19]
def OH:=[b6 2 0]
def OI:=[o 22 (.bin .eql (.t 4) (a8 3)),m 21 22]
def OJ:=[o 23 (.bin .eql (.t 4) (a8 4)),m 21 23]
def OK:=[o 24 (.bin .eql (.t 4) (a8 5)),m 21 24]
def OL:=[o 25 (.bin .eql (.t 4) (a8 6)),m 21 25]
def Oz:=[o 26 (.bin .eql (.t 4) (a8 7)),m 21 26]
def OA:=[o 27 (.bin .eql (.t 4) (a8 8)),m 21 27]
def OB:=[f 28 1 1 1,l 29 28,o 30 (.call 67 [.t 29]),m 31 30,dR 32 2 2 1 31,dJ 33 32 31,bL 34 (.call 64 [.t 33]) 31,and 35 31 34,m 36 35,dR 37 3 3 1 36,dJ 38 37 36,bL 39 (.call 68 [.t 38,(a8 1),(a8 200)]) 36,and 40 36 39]
def OC:=[b6 2 0]
def OD:=[b6 2 1]
def yF:br:=(s (r Ox) (s (s (r Oy) (.block 0 (s (s (r OE) (.cond (.t 5) .skip (r OF))) (.cond (.t 5) (s (r OG) (.cond (.t 20) (s (r OH) .ret) .skip)) (s (s (r OI) (.cond (.t 21) .skip (s (r OJ) (.cond (.t 21) .skip (s (r OK) (.cond (.t 21) .skip (s (r OL) (.cond (.t 21) .skip (s (r Oz) (.cond (.t 21) .skip (r OA))))))))))) (.cond (.t 21) (s (r OB) (.cond (.t 40) (s (r OC) .ret) .skip)) .skip)))))) (s (r OD) .ret)))
def Da:List bQ:=[.tmp 2]
theorem IA:ct Tryz.prog Tryz.f22 yF:=e (by kernel_rfl)
theorem JO:cq Tryz.prog Tryz.f22 Da:=e (by kernel_rfl)
theorem Hz:cm Tryz.prog 22:=e (by kernel_rfl)
def OM:=[b 1 0,b6 2 0]
def ON:=[L 6 3 1,o 7 (.call 69 [.t 6]),m 5 7,o 8 (.ext (.t 5) 0),o 9 (.ext (.t 5) 1),m 3 8,m 4 9]
def OO:=[m 10 4,m 2 10]
def yG:br:=(s (r OM) (s (r ON) (s (r OO) .ret)))
def Db:List bQ:=[.tmp 2]
theorem IB:ct Tryz.prog Tryz.f23 yG:=e (by kernel_rfl)
theorem JP:cq Tryz.prog Tryz.f23 Db:=e (by kernel_rfl)
theorem HA:cm Tryz.prog 23:=e (by kernel_rfl)
def OP:=[b 1 0,b6 2 0]
def OQ:=[f 5 0 0 1,l 6 5,o 7 (.call 64 [.t 6]),no 8 7,m 9 8,fn 10 1 1 1 9,eJ 11 10 9,on 12 (.len (.t 11)) 9,on 13 (.bin .gtr (.t 12) (a8 200)) 9,or 14 9 13,m 15 14,fn 16 2 2 1 15,eJ 17 16 15,fn 18 1 1 1 15,eJ 19 18 15,on 20 (.len (.t 19)) 15,on 21 (.call 68 [.t 17,(a8 0),.t 20]) 15,on 22 (.un .not (.t 21)) 15,or 23 15 22]
def OR:=[b6 2 91]
def OS:=[L 25 3 1,f 26 1 1 1,l 27 26,o 28 (.len (.t 27)),o 29 (.call 65 [.t 25,.t 28]),m 24 29,o 30 (.ext (.t 24) 0),o 31 (.ext (.t 24) 1),o 3 (.alloc (.agg [.int .i64 0,.nils 1,.int .i64 0,.nils 4,.nils 4])),p (.bd (some 5) (.t 3) (.t 30)),m 4 31]
def OT:=[m 32 4,no 33 32]
def OU:=[b6 2 91]
def OV:=[b6 2 0]
def yH:br:=(s (r OP) (s (s (r OQ) (.cond (.t 23) (s (r OR) .ret) .skip)) (s (s (r OS) (s (r OT) (.cond (.t 33) (s (r OU) .ret) .skip))) (s (r OV) .ret))))
def Dc:List bQ:=[.tmp 2]
theorem IC:ct Tryz.prog Tryz.f24 yH:=e (by kernel_rfl)
theorem JQ:cq Tryz.prog Tryz.f24 Dc:=e (by kernel_rfl)
theorem HB:cm Tryz.prog 24:=e (by kernel_rfl)
def OW:=[b 1 0,b6 2 0]
def OX:=[L 3 5 1,o 4 (.call 70 [.t 3]),no 5 4]
def OY:=[b6 2 95]
def OZ:=[b6 2 0]
def yI:br:=(s (r OW) (s (s (r OX) (.cond (.t 5) (s (r OY) .ret) .skip)) (s (r OZ) .ret)))
def Dd:List bQ:=[.tmp 2]
theorem ID:ct Tryz.prog Tryz.f25 yI:=e (by kernel_rfl)
theorem JR:cq Tryz.prog Tryz.f25 Dd:=e (by kernel_rfl)
theorem HC:cm Tryz.prog 25:=e (by kernel_rfl)
def O0:=[b 1 0,b6 2 0]
def O1:=[f 3 1 1 1,l 4 3,o 5 (.call 64 [.t 4]),no 6 5,m 7 6,fn 8 2 2 1 7,eJ 9 8 7,on 10 (.call 64 [.t 9]) 7,on 11 (.un .not (.t 10)) 7,or 12 7 11,m 13 12,fn 14 1 1 1 13,eJ 15 14 13,fn 16 2 2 1 13,eJ 17 16 13,on 18 (.bin .eql (.t 15) (.t 17)) 13,or 19 13 18,m 20 19,fn 21 3 3 1 20,eJ 22 21 20,on 23 (.call 67 [.t 22]) 20,on 24 (.un .not (.t 23)) 20,or 25 20 24,m 26 25,fn 27 4 4 1 26,eJ 28 27 26,on 29 (.call 68 [.t 28,(a8 1),(a8 200)]) 26,on 30 (.un .not (.t 29)) 26,or 31 26 30,m 32 31,fn 33 0 0 1 32,eJ 34 33 32,on 35 (.call 68 [.t 34,(a8 1),(a8 4)]) 32,on 36 (.un .not (.t 35)) 32,or 37 32 36]
def O2:=[b6 2 95]
def O3:=[b6 2 0]
def yJ:br:=(s (r O0) (s (s (r O1) (.cond (.t 37) (s (r O2) .ret) .skip)) (s (r O3) .ret)))
def De:List bQ:=[.tmp 2]
theorem IE:ct Tryz.prog Tryz.f26 yJ:=e (by kernel_rfl)
theorem JS:cq Tryz.prog Tryz.f26 De:=e (by kernel_rfl)
theorem HD:cm Tryz.prog 26:=e (by kernel_rfl)
def O4:=[b 2 0,o 4 (.alloc (.agg [.int .i64 0,.nils 4,.int .i64 0])),b6 5 0]
def O5:=[L 9 3 2,o 10 (.call 69 [.t 9]),m 8 10,o 11 (.ext (.t 8) 0),o 12 (.ext (.t 8) 1),m 6 11,m 7 12]
def O6:=[m 14 7,o 15 (.bin .neq (.t 14) (a8 0)),m 13 15]
def O7:=[o 16 (.bld [.int .i64 0,.nils 4,.int .i64 0] []),m 17 7,p (.bd (some 3) (.t 4) (.t 16)),m 5 17]
def O8:=[m 19 1,o 20 (.call 71 [.t 19]),no 21 20,m 18 21]
def O9:=[o 22 (.bld [.int .i64 0,.nils 4,.int .i64 0] []),p (.bd (some 3) (.t 4) (.t 22)),b6 5 1]
def Pa:=[m 24 6,o 25 (.nilC (.t 24)),f 26 1 1 25,l 27 26,m 28 1,o 29 (.lk (.i .i64) (.bool false) false (.t 27) (.t 28)),m 30 29,mu 31 6 30,mu 32 1 30,on 33 (.call 72 [.t 31,.t 32]) 30,or 34 30 33,m 23 34]
def Pb:=[o 35 (.bld [.int .i64 0,.nils 4,.int .i64 0] []),p (.bd (some 3) (.t 4) (.t 35)),b6 5 92]
def Pc:=[L 36 3 2,m 37 1,o 38 (.bld [.int .i64 0,.int .i64 0,.int .i64 0,.int .i64 0] [(0,(a8 1)),(1,(.t 37))]),o 39 (.call 73 [.t 36,.t 38]),o 40 (.ext (.t 39) 0),o 41 (.ext (.t 39) 1),p (.bd (some 3) (.t 4) (.t 40)),m 5 41]
def yK:br:=(s (r O4) (s (r O5) (s (.block 0 (s (r O6) (.cond (.t 13) (s (r O7) .ret) (s (r O8) (.cond (.t 18) (s (r O9) .ret) (s (r Pa) (.cond (.t 23) (s (r Pb) .ret) .skip))))))) (s (r Pc) .ret))))
def Df:List bQ:=[.cell 4 (some 3),.tmp 5]
theorem IF:ct Tryz.prog Tryz.f27 yK:=e (by kernel_rfl)
theorem JT:cq Tryz.prog Tryz.f27 Df:=e (by kernel_rfl)
theorem HE:cm Tryz.prog 27:=e (by kernel_rfl)
def Pd:=[b 3 0,o 6 (.alloc (.agg [.int .i64 0,.nils 4,.int .i64 0])),o 7 (.alloc (.agg [.int .i64 0,.int .i64 0,.int .i64 0,.bool false])),b6 8 0]
def Pe:=[L 13 3 3,o 14 (.call 69 [.t 13]),m 12 14,o 15 (.ext (.t 12) 0),o 16 (.ext (.t 12) 1),m 9 15,m 10 16]
def Pk:=[m 18 10,o 19 (.bin .neq (.t 18) (a8 0)),m 17 19]
def Pl:=[o 20 (.bld [.int .i64 0,.nils 4,.int .i64 0] []),o 21 (.bld [.int .i64 0,.int .i64 0,.int .i64 0,.bool false] []),m 22 10,p (.bd (some 3) (.t 6) (.t 20)),p (.bd (some 4) (.t 7) (.t 21)),m 8 22]
def Pm:=[m 24 1,o 25 (.call 71 [.t 24]),no 26 25,m 23 26]
def Pn:=[o 27 (.bld [.int .i64 0,.nils 4,.int .i64 0] []),o 28 (.bld [.int .i64 0,.int .i64 0,.int .i64 0,.bool false] []),p (.bd (some 3) (.t 6) (.t 27)),p (.bd (some 4) (.t 7) (.t 28)),b6 8 1]
def Po:=[m 30 2,o 31 (.call 61 [.t 30]),no 32 31,m 33 32,mu 34 2 33,fn 35 0 0 3 33,eJ 36 35 33,on 37 (.bin .eql (.t 34) (.t 36)) 33,or 38 33 37,m 29 38]
def Pp:=[o 39 (.bld [.int .i64 0,.nils 4,.int .i64 0] []),o 40 (.bld [.int .i64 0,.int .i64 0,.int .i64 0,.bool false] []),p (.bd (some 3) (.t 6) (.t 39)),p (.bd (some 4) (.t 7) (.t 40)),b6 8 90]
def Pq:=[m 42 9,o 43 (.nilC (.t 42)),f 44 1 1 43,l 45 44,m 46 1,o 47 (.lk (.i .i64) (.bool false) false (.t 45) (.t 46)),no 48 47,m 41 48]
def Pr:=[o 49 (.bld [.int .i64 0,.nils 4,.int .i64 0] []),o 50 (.bld [.int .i64 0,.int .i64 0,.int .i64 0,.bool false] []),p (.bd (some 3) (.t 6) (.t 49)),p (.bd (some 4) (.t 7) (.t 50)),b6 8 93]
def Pf:=[m 51 9,o 52 (.nilC (.t 51)),f 53 3 3 52,l 54 53,ad 55 54 1,m 56 2,m 57 1,o 58 (.bld [.int .i64 0,.int .i64 0,.int .i64 0,.bool false] [(0,(.t 55)),(1,(.t 56)),(2,(.t 57))]),o 11 (.alloc (.agg [.int .i64 0,.int .i64 0,.int .i64 0,.bool false])),p (.bd (some 4) (.t 11) (.t 58))]
def Pg:=[L 60 3 3,m 61 1,m 62 2,f 63 0 0 11,l 64 63,o 65 (.bld [.int .i64 0,.int .i64 0,.int .i64 0,.int .i64 0] [(0,(a8 3)),(1,(.t 61)),(2,(.t 62)),(3,(.t 64))]),o 66 (.call 73 [.t 60,.t 65]),m 59 66,o 67 (.ext (.t 59) 0),o 68 (.ext (.t 59) 1),p (.bd (some 3) (.t 3) (.t 67)),m 10 68]
def Ph:=[m 69 10,o 70 (.bin .neq (.t 69) (a8 0))]
def Pj:=[o 71 (.bld [.int .i64 0,.nils 4,.int .i64 0] []),o 72 (.bld [.int .i64 0,.int .i64 0,.int .i64 0,.bool false] []),m 73 10,p (.bd (some 3) (.t 6) (.t 71)),p (.bd (some 4) (.t 7) (.t 72)),m 8 73]
def vv:=[L 74 3 3,L 75 4 11,p (.bd (some 3) (.t 6) (.t 74)),p (.bd (some 4) (.t 7) (.t 75)),b6 8 0]
def KQ:=some [[],[],[0,0],[1,2,0,1,2],[3,0,1,2,3]] -- DRAW BAD
def yL:br:=(s (r Pd) (s (r Pe) (s (.block 0 (s (r Pk) (.cond (.t 17) (s (r Pl) .ret) (s (r Pm) (.cond (.t 23) (s (r Pn) .ret) (s (r Po) (.cond (.t 29) (s (r Pp) .ret) (s (r Pq) (.cond (.t 41) (s (r Pr) .ret) .skip))))))))) (s (r Pf) (s (r Pg) (s (s (r Ph) (.cond (.t 70) (s (r Pj) .ret) .skip)) (s (.cg KQ vv) .ret)))))))
def Dg:List bQ:=[.cell 6 (some 3),.cell 7 (some 4),.tmp 8]
theorem IG:ct Tryz.prog Tryz.f31 yL:=e (by kernel_rfl)
theorem JU:cq Tryz.prog Tryz.f31 Dg:=e (by kernel_rfl)
theorem HF:cm Tryz.prog 31:=e (by kernel_rfl)
def Ps:=[b 2 0,b 3 1,o 4 (.alloc (.agg [.int .i64 0,.nils 4,.int .i64 0])),b6 5 0]
def Pt:=[L 10 3 2,o 11 (.call 69 [.t 10]),m 9 11,o 12 (.ext (.t 9) 0),o 13 (.ext (.t 9) 1),m 6 12,m 7 13]
def Pu:=[m 15 7,o 16 (.bin .neq (.t 15) (a8 0)),m 14 16]
def Pv:=[o 17 (.bld [.int .i64 0,.nils 4,.int .i64 0] []),m 18 7,p (.bd (some 3) (.t 4) (.t 17)),m 5 18]
def Pw:=[L 20 5 3,o 21 (.call 70 [.t 20]),no 22 21,m 23 22,fn 24 2 2 3 23,eJ 25 24 23,fn 26 0 0 2 23,eJ 27 26 23,on 28 (.bin .neq (.t 25) (.t 27)) 23,or 29 23 28,m 19 29]
def Px:=[o 30 (.bld [.int .i64 0,.nils 4,.int .i64 0] []),p (.bd (some 3) (.t 4) (.t 30)),b6 5 95]
def Py:=[f 31 0 0 3,l 32 31,o 33 (.call 80 [.t 32]),f 34 3 3 3,l 35 34,f 36 1 1 3,l 37 36,f 38 4 4 3,l 39 38,o 40 (.bld [.int .i64 0,.int .i64 0,.int .i64 0,.int .i64 0] [(0,(.t 33)),(1,(.t 35)),(2,(.t 37)),(3,(.t 39))]),o 8 (.alloc (.agg [.int .i64 0,.int .i64 0,.int .i64 0,.int .i64 0])),p (.bd (some 4) (.t 8) (.t 40))]
def KR:=some [[],[0],[1],[],[3],[],[5],[],[7],[2,4,6,8],[],[10,9,2,0,1,2,3,4,5,6,7,8,9,10]]
def Pz:=[m 41 6,L 42 4 8,o 43 (.call 81 [.t 41,.t 42]),no 44 43]
def PA:=[L 45 3 2,o 46 (.call 57 [.t 45]),p (.bd (some 3) (.t 4) (.t 46)),b6 5 0]
def PB:=[L 47 3 2,L 48 4 8,o 49 (.call 73 [.t 47,.t 48]),o 50 (.ext (.t 49) 0),o 51 (.ext (.t 49) 1),p (.bd (some 3) (.t 4) (.t 50)),m 5 51]
def yM:br:=(s (r Ps) (s (r Pt) (s (.block 0 (s (r Pu) (.cond (.t 14) (s (r Pv) .ret) (s (r Pw) (.cond (.t 19) (s (r Px) .ret) .skip))))) (s (.cg KR Py) (s (s (r Pz) (.cond (.t 44) (s (r PA) .ret) .skip)) (s (r PB) .ret))))))
def Di:List bQ:=[.cell 4 (some 3),.tmp 5]
theorem IH:ct Tryz.prog Tryz.f35 yM:=e (by kernel_rfl)
theorem JV:cq Tryz.prog Tryz.f35 Di:=e (by kernel_rfl)
theorem HG:cm Tryz.prog 35:=e (by kernel_rfl)
def PC:=[o 4 (.mv (.c (.nils 1))),b6 5 0]
def PD:=[m 12 0,m 13 1,o 14 (.call 83 [.t 12,.t 13]),m 11 14,o 15 (.ext (.t 11) 0),o 16 (.ext (.t 11) 1),m 6 15,m 7 16]
def PE:=[o 8 (.mv (.c (.nils 1)))]
def PF:=[m 17 6,o 18 (.len (.t 17)),b6 19 0]
def PG:=[lt 20 19 18]
def PH:=[o 21 (.is 1 (.t 17) (.t 19)),l 22 21,m 10 22]
def PI:=[m 23 10,o 24 (.nilC (.t 23)),f 25 1 1 24,l 26 25,m 27 1,o 28 (.lk (.i .i64) (.bool false) false (.t 26) (.t 27))]
def PJ:=[m 29 8,m 30 10,o 31 (.nilC (.t 30)),f 32 0 0 31,l 33 32,o 34 (.bs 3 1 [.t 33]),o 35 (.dm 3 1 8 (.int .i64 0) (.t 29) (.t 34)),m 8 35]
def PK:=[ad 36 19 1,m 19 36]
def PL:=[m 37 8,m 38 7,m 4 37,m 5 38]
def yN:br:=(s (r PC) (s (r PD) (s (r PE) (s (s (r PF) (.block 0 (.loop (s (r PG) (s (.cond (.t 20) .skip (.exit 0)) (s (.block 1 (s (r PH) (s (r PI) (.cond (.t 28) (r PJ) .skip)))) (r PK))))))) (s (r PL) .ret)))))
def Dj:List bQ:=[.tmp 4,.tmp 5]
theorem II:ct Tryz.prog Tryz.f37 yN:=e (by kernel_rfl)
theorem JW:cq Tryz.prog Tryz.f37 Dj:=e (by kernel_rfl)
theorem HI:cm Tryz.prog 37:=e (by kernel_rfl)
def PM:=[o 4 (.mv bz)]
def PN:=[m 6 0,o 7 (.len (.t 6)),m 8 1,o 9 (.len (.t 8)),o 10 (.bin .neq (.t 7) (.t 9))]
def PO:=[o 4 (.mv bz)]
def PQ:=[m 11 0,o 12 (.len (.t 11)),b6 13 0]
def PR:=[lt 14 13 12]
def PS:=[m 15 13,m 5 15]
def PT:=[m 16 0,m 17 5,o 18 (.is 1 (.t 16) (.t 17)),l 19 18,m 20 1,m 21 5,o 22 (.is 1 (.t 20) (.t 21)),l 23 22,o 24 (.bin .neq (.t 19) (.t 23))]
def KS:=some [[],[],[0,1],[2],[],[],[4,5],[6],[3,7]]
def PU:=[o 4 (.mv bz)]
def PV:=[ad 25 13 1,m 13 25]
def PW:=[o 4 (.mv T)]
def yO:br:=(s (r PM) (s (s (r PN) (.cond (.t 10) (s (r PO) .ret) .skip)) (s (s (r PQ) (.block 0 (.loop (s (r PR) (s (.cond (.t 14) .skip (.exit 0)) (s (.block 1 (s (r PS) (s (.cg KS PT) (.cond (.t 24) (s (r PU) .ret) .skip)))) (r PV))))))) (s (r PW) .ret))))
def Dl:List bQ:=[.tmp 4]
theorem IK:ct Tryz.prog Tryz.f41 yO:=e (by kernel_rfl)
theorem JY:cq Tryz.prog Tryz.f41 Dl:=e (by kernel_rfl)
theorem HK:cm Tryz.prog 41:=e (by kernel_rfl)
def PX:=[b 1 0,o 2 (.mv (.c (.nils 4))),b6 3 0]
def PY:=[L 10 3 1,o 11 (.call 69 [.t 10]),m 9 11,o 12 (.ext (.t 9) 0),o 13 (.ext (.t 9) 1),m 4 12,m 5 13]
def P0:=[m 14 5,o 15 (.bin .neq (.t 14) (a8 0))]
def P1:=[m 16 5,o 2 (.mv (.c (.nils 4))),m 3 16]
def P2:=[o 6 (.mv (.c (.nils 4)))]
def P3:=[m 17 4,o 18 (.call 85 [.t 17]),o 19 (.len (.t 18)),b6 20 0]
def P4:=[lt 21 20 19]
def P5:=[o 22 (.is 1 (.t 18) (.t 20)),l 23 22,m 8 23]
def P6:=[m 24 6,m 25 4,o 26 (.nilC (.t 25)),f 27 2 2 26,l 28 27,m 29 8,o 30 (.lk (.i .i64) (.nilp) false (.t 28) (.t 29)),o 31 (.nilC (.t 30)),L 32 4 31,o 33 (.bs 48 4 [.t 32]),o 34 (.dm 48 4 32 (.agg [.int .i64 0,.int .i64 0,.int .i64 0,.bool false]) (.t 24) (.t 33)),m 6 34]
def P7:=[ad 35 20 1,m 20 35]
def PZ:=[m 36 6,m 2 36,b6 3 0]
def yP:br:=(s (r PX) (s (r PY) (s (s (r P0) (.cond (.t 15) (s (r P1) .ret) .skip)) (s (r P2) (s (s (r P3) (.block 0 (.loop (s (r P4) (s (.cond (.t 21) .skip (.exit 0)) (s (.block 1 (s (r P5) (r P6))) (r P7))))))) (s (r PZ) .ret))))))
def Dm:List bQ:=[.tmp 2,.tmp 3]
theorem IL:ct Tryz.prog Tryz.f46 yP:=e (by kernel_rfl)
theorem JZ:cq Tryz.prog Tryz.f46 Dm:=e (by kernel_rfl)
theorem HL:cm Tryz.prog 46:=e (by kernel_rfl)
def Qc:=[o 4 (.mv bz)]
def Qd:=[m 6 0,o 7 (.len (.t 6)),m 8 1,o 9 (.len (.t 8)),o 10 (.bin .neq (.t 7) (.t 9))]
def Qe:=[o 4 (.mv bz)]
def Qf:=[m 11 0,o 12 (.len (.t 11)),b6 13 0]
def Qg:=[lt 14 13 12]
def Qh:=[m 15 13,m 5 15]
def Qi:=[m 16 0,m 17 5,o 18 (.is 4 (.t 16) (.t 17)),L 19 4 18,m 20 1,m 21 5,o 22 (.is 4 (.t 20) (.t 21)),L 23 4 22,o 24 (.eqv (.bd [(.i .i64),(.i .i64),(.i .i64),(.i .i64)]) true (.t 19) (.t 23))]
def KU:=some [[],[],[0,1],[2],[],[],[4,5],[6],[3,7]]
def Qj:=[o 4 (.mv bz)]
def Qk:=[ad 25 13 1,m 13 25]
def Ql:=[o 4 (.mv T)]
def yQ:br:=(s (r Qc) (s (s (r Qd) (.cond (.t 10) (s (r Qe) .ret) .skip)) (s (s (r Qf) (.block 0 (.loop (s (r Qg) (s (.cond (.t 14) .skip (.exit 0)) (s (.block 1 (s (r Qh) (s (.cg KU Qi) (.cond (.t 24) (s (r Qj) .ret) .skip)))) (r Qk))))))) (s (r Ql) .ret))))
def Dn:List bQ:=[.tmp 4]
theorem IM:ct Tryz.prog Tryz.f52 yQ:=e (by kernel_rfl)
theorem J0:cq Tryz.prog Tryz.f52 Dn:=e (by kernel_rfl)
theorem HM:cm Tryz.prog 52:=e (by kernel_rfl)
def Qm:=[b 1 0,o 2 (.mv (.c (.bO ⟨#[]⟩))),b6 3 0]
def Qn:=[L 8 3 1,o 9 (.call 23 [.t 8]),m 4 9]
def Qr:=[m 10 4,o 11 (.bin .neq (.t 10) (a8 0))]
def Qs:=[m 12 4,o 2 (.mv (.c (.bO ⟨#[]⟩))),m 3 12]
def Qt:=[f 13 0 0 1,l 14 13,f 15 2 2 1,l 16 15,o 17 (.bs 3 1 [.t 14,.t 16]),o 18 (.call 93 [(.c (.bO ⟨#[112,111,117,110,100]⟩)),.t 17]),m 5 18]
def Qu:=[f 19 1 1 1,l 20 19,o 21 (.len (.t 20)),b6 22 0]
def Qv:=[lt 23 22 21]
def Qw:=[o 24 (.is 4 (.t 20) (.t 22)),L 25 4 24,o 7 (.alloc (.agg [.int .i64 0,.int .i64 0,.int .i64 0,.int .i64 0])),p (.bd (some 4) (.t 7) (.t 25))]
def Qx:=[f 26 0 0 7,l 27 26,o 28 (.bin .leq (.t 27) (a8 2))]
def Qy:=[m 29 5,o 30 (.call 94 []),f 31 0 0 7,l 32 31,o 33 (.is 1 (.t 30) (.t 32)),l 34 33,f 35 1 1 7,l 36 35,o 37 (.bs 3 1 [.t 36]),o 38 (.call 93 [.t 34,.t 37]),o 39 (.bin .add (.t 29) (.t 38)),m 5 39]
def KW:=some [[],[],[],[2],[1,3],[4],[],[6],[7],[5,8,1],[0,9],[10,9,0,1,2,3,4,5,6,7,8,9,10]]
def Qo:=[m 40 5,o 41 (.call 94 []),f 42 0 0 7,l 43 42,o 44 (.is 1 (.t 41) (.t 43)),l 45 44,f 46 1 1 7,l 47 46,f 48 2 2 7,l 49 48,f 50 3 3 7,l 51 50,o 52 (.bs 3 1 [.t 47,.t 49,.t 51]),o 53 (.call 93 [.t 45,.t 52]),o 54 (.bin .add (.t 40) (.t 53)),m 5 54]
def KV:=some [[],[],[],[2],[1,3],[4],[],[6],[],[8],[],[10],[7,9,11],[5,12,1],[0,13],[14,13,0,1,2,3,4,5,6,7,8,9,10,11,12,13,14]]
def Qp:=[ad 55 22 1,m 22 55]
def Qq:=[m 56 5,m 2 56,b6 3 0]
def yR:br:=(s (r Qm) (s (s (r Qn) (s (r Qr) (.cond (.t 11) (s (r Qs) .ret) .skip))) (s (r Qt) (s (s (r Qu) (.block 0 (.loop (s (r Qv) (s (.cond (.t 23) .skip (.exit 0)) (s (.block 1 (s (r Qw) (s (r Qx) (.cond (.t 28) (.cg KW Qy) (.cg KV Qo))))) (r Qp))))))) (s (r Qq) .ret)))))
def Dp:List bQ:=[.tmp 2,.tmp 3]
theorem IN:ct Tryz.prog Tryz.f53 yR:=e (by kernel_rfl)
theorem J1:cq Tryz.prog Tryz.f53 Dp:=e (by kernel_rfl)
theorem HN:cm Tryz.prog 53:=e (by kernel_rfl)
def Qz:=[b 1 0,o 2 (.alloc (.agg [.int .i64 0,.nils 4,.int .i64 0]))]
def QA:=[f 3 1 1 1,l 4 3,o 5 (.call 59 [.t 4]),f 6 1 1 1,p (.bd none (.t 6) (.t 5))]
def QB:=[L 7 3 1,p (.bd (some 3) (.t 2) (.t 7))]
def uA:br:=(s (r Qz) (s (r QA) (s (r QB) .ret)))
def wM:List bQ:=[.cell 2 (some 3)]
theorem zQ:ct Tryz.prog Tryz.f57 uA:=e (by kernel_rfl)
theorem zX:cq Tryz.prog Tryz.f57 wM:=e (by kernel_rfl)
theorem zy:cm Tryz.prog 57:=e (by kernel_rfl)
def vw:=[o 2 (.mv (.c (.nils 4)))]
def p8:=[m 3 0,o 4 (.nilS false (.t 3))]
def vx:=[o 2 (.mv (.c (.nils 4)))]
def p9:=[o 5 (.bs0 4),m 6 0,o 7 (.dm 37 4 32 (.agg [.int .i64 0,.int .i64 0,.int .i64 0,.int .i64 0]) (.t 5) (.t 6)),m 2 7]
def uB:br:=(s (r vw) (s (s (r p8) (.cond (.t 4) (s (r vx) .ret) .skip)) (s (r p9) .ret)))
def wN:List bQ:=[.tmp 2]
theorem zR:ct Tryz.prog Tryz.f59 uB:=e (by kernel_rfl)
theorem zY:cq Tryz.prog Tryz.f59 wN:=e (by kernel_rfl)
theorem zA:cm Tryz.prog 59:=e (by kernel_rfl)
def QC:=[o 2 (.mv bz)]
def QD:=[m 3 0,o 4 (.call 105 [.t 3,(a8 0),(a8 5)]),m 2 4]
def yS:br:=(s (r QC) (s (r QD) .ret))
def Dq:List bQ:=[.tmp 2]
theorem IP:ct Tryz.prog Tryz.f61 yS:=e (by kernel_rfl)
theorem J2:cq Tryz.prog Tryz.f61 Dq:=e (by kernel_rfl)
theorem HO:cm Tryz.prog 61:=e (by kernel_rfl)
def QE:=[o 4 (.mv (.c (.nilp))),o 5 (.mv bz)]
def QF:=[m 9 0,o 10 (.call 106 [.t 9]),m 6 10]
def QG:=[m 11 1,o 12 (.len (.t 11)),b6 13 0]
def QH:=[lt 14 13 12]
def QI:=[o 15 (.is 4 (.t 11) (.t 13)),L 16 4 15,o 8 (.alloc (.agg [.int .i64 0,.int .i64 0,.int .i64 0,.int .i64 0])),p (.bd (some 4) (.t 8) (.t 16))]
def QJ:=[m 17 6,L 18 4 8,o 19 (.call 81 [.t 17,.t 18]),no 20 19]
def QK:=[o 4 (.mv (.c (.nilp))),o 5 (.mv bz)]
def QL:=[ad 21 13 1,m 13 21]
def QM:=[m 22 6,m 4 22,o 5 (.mv T)]
def uC:br:=(s (r QE) (s (r QF) (s (s (r QG) (.block 0 (.loop (s (r QH) (s (.cond (.t 14) .skip (.exit 0)) (s (.block 1 (s (r QI) (s (r QJ) (.cond (.t 20) (s (r QK) .ret) .skip)))) (r QL))))))) (s (r QM) .ret))))
def wO:List bQ:=[.tmp 4,.tmp 5]
theorem zS:ct Tryz.prog Tryz.f62 uC:=e (by kernel_rfl)
theorem zZ:cq Tryz.prog Tryz.f62 wO:=e (by kernel_rfl)
theorem zB:cm Tryz.prog 62:=e (by kernel_rfl)
def QN:=[b 2 0,b 3 1,o 4 (.mv (.c (.dn)))]
def QO:=[o 5 (.mk 107 [.t 2,.t 3]),m 4 5]
def yT:br:=(s (r QN) (s (r QO) .ret))
def Dr:List bQ:=[.tmp 4]
theorem IQ:ct Tryz.prog Tryz.f63 yT:=e (by kernel_rfl)
theorem J3:cq Tryz.prog Tryz.f63 Dr:=e (by kernel_rfl)
theorem HP:cm Tryz.prog 63:=e (by kernel_rfl)
def QP:=[o 2 (.mv bz)]
def QR:=[m 3 0,o 4 (.call 68 [.t 3,(a8 0),(a8 5)]),m 2 4]
def yU:br:=(s (r QP) (s (r QR) .ret))
def Ds:List bQ:=[.tmp 2]
theorem IS:ct Tryz.prog Tryz.f64 yU:=e (by kernel_rfl)
theorem J4:cq Tryz.prog Tryz.f64 Ds:=e (by kernel_rfl)
theorem HQ:cm Tryz.prog 64:=e (by kernel_rfl)
def QS:=[b 2 0,o 4 (.alloc (.agg [.int .i64 0,.nils 1,.int .i64 0,.nils 4,.nils 4])),o 5 (.mv bz)]
def QT:=[f 10 0 0 2,l 11 10,o 12 (.bld [.int .i64 0,.nils 1,.int .i64 0,.nils 4,.nils 4] [(0,(.t 11))]),o 6 (.alloc (.agg [.int .i64 0,.nils 1,.int .i64 0,.nils 4,.nils 4])),p (.bd (some 5) (.t 6) (.t 12))]
def QW:=[b6 7 0]
def QX:=[m 13 7,m 14 1,lt 15 13 14]
def QY:=[f 18 1 1 2,l 19 18,m 20 7,o 21 (.is 4 (.t 19) (.t 20)),L 22 4 21,o 23 (.call 22 [.t 22]),o 24 (.bin .neq (.t 23) (a8 0))]
def QZ:=[L 25 5 6,p (.bd (some 5) (.t 4) (.t 25)),o 5 (.mv bz)]
def Q0:=[L 27 5 6,f 28 1 1 2,l 29 28,m 30 7,o 31 (.is 4 (.t 29) (.t 30)),L 32 4 31,o 33 (.call 76 [.t 27,.t 32]),m 26 33,o 34 (.ext (.t 26) 0),o 35 (.ext (.t 26) 1),o 8 (.alloc (.agg [.int .i64 0,.nils 1,.int .i64 0,.nils 4,.nils 4])),p (.bd (some 5) (.t 8) (.t 34)),m 9 35]
def KX:=some [[],[],[1],[],[2,3],[4],[0,5],[6],[7],[7],[],[10,8,6,0,1,2,3,4,5,6,7,8,10],[9,11,0,1,2,3,4,5,6,7,8,9,10,11]]
def Q1:=[m 36 9,no 37 36]
def Q2:=[L 38 5 6,p (.bd (some 5) (.t 4) (.t 38)),o 5 (.mv bz)]
def Q3:=[L 39 5 8,p (.bd (some 5) (.t 6) (.t 39))]
def QU:=[m 16 7,ad 17 16 1,m 7 17]
def QV:=[L 40 5 6,p (.bd (some 5) (.t 4) (.t 40)),o 5 (.mv T)]
def yV:br:=(s (r QS) (s (r QT) (s (s (r QW) (.block 0 (.loop (s (s (r QX) (.cond (.t 15) .skip (.exit 0))) (s (.block 1 (s (s (r QY) (.cond (.t 24) (s (r QZ) .ret) .skip)) (s (.cg KX Q0) (s (s (r Q1) (.cond (.t 37) (s (r Q2) .ret) .skip)) (r Q3))))) (r QU)))))) (s (r QV) .ret))))
def Dt:List bQ:=[.cell 4 (some 5),.tmp 5]
theorem IT:ct Tryz.prog Tryz.f65 yV:=e (by kernel_rfl)
theorem J5:cq Tryz.prog Tryz.f65 Dt:=e (by kernel_rfl)
theorem HR:cm Tryz.prog 65:=e (by kernel_rfl)
def Q4:=[b 1 0,o 2 (.mv bz)]
def Q5:=[f 3 0 0 1,l 4 3]
def Q9:=[o 6 (.bin .eql (.t 4) (a8 1)),m 5 6]
def Ra:=[o 7 (.bin .eql (.t 4) (a8 2)),m 5 7]
def Rb:=[f 8 1 1 1,l 9 8,o 10 (.call 71 [.t 9]),m 11 10,dR 12 2 2 1 11,dJ 13 12 11,bL 14 (.bin .eql (.t 13) (a8 0)) 11,and 15 11 14,m 16 15,dR 17 3 3 1 16,dJ 18 17 16,bL 19 (.bin .eql (.t 18) (a8 0)) 16,and 20 16 19,m 2 20]
def Rc:=[o 22 (.bin .eql (.t 4) (a8 3)),m 21 22]
def Re:=[o 23 (.bin .eql (.t 4) (a8 4)),m 21 23]
def Rf:=[o 24 (.bin .eql (.t 4) (a8 5)),m 21 24]
def Rg:=[o 25 (.bin .eql (.t 4) (a8 6)),m 21 25]
def Rh:=[o 26 (.bin .eql (.t 4) (a8 7)),m 21 26]
def Q6:=[o 27 (.bin .eql (.t 4) (a8 8)),m 21 27]
def Q7:=[f 28 1 1 1,l 29 28,o 30 (.call 71 [.t 29]),m 31 30,dR 32 2 2 1 31,dJ 33 32 31,bL 34 (.call 61 [.t 33]) 31,and 35 31 34,m 36 35,dR 37 3 3 1 36,dJ 38 37 36,bL 39 (.call 90 [.t 38]) 36,and 40 36 39,m 2 40]
def Q8:=[o 2 (.mv bz)]
def yW:br:=(s (r Q4) (s (s (r Q5) (.block 0 (s (s (r Q9) (.cond (.t 5) .skip (r Ra))) (.cond (.t 5) (s (r Rb) .ret) (s (s (r Rc) (.cond (.t 21) .skip (s (r Re) (.cond (.t 21) .skip (s (r Rf) (.cond (.t 21) .skip (s (r Rg) (.cond (.t 21) .skip (s (r Rh) (.cond (.t 21) .skip (r Q6))))))))))) (.cond (.t 21) (s (r Q7) .ret) .skip)))))) (s (r Q8) .ret)))
def Du:List bQ:=[.tmp 2]
theorem IU:ct Tryz.prog Tryz.f66 yW:=e (by kernel_rfl)
theorem J6:cq Tryz.prog Tryz.f66 Du:=e (by kernel_rfl)
theorem HS:cm Tryz.prog 66:=e (by kernel_rfl)
def Ri:=[o 2 (.mv bz)]
def Rj:=[m 3 0,o 4 (.call 68 [.t 3,(a8 1),(a8 9999)]),m 2 4]
def yX:br:=(s (r Ri) (s (r Rj) .ret))
def Dv:List bQ:=[.tmp 2]
theorem IV:ct Tryz.prog Tryz.f67 yX:=e (by kernel_rfl)
theorem J7:cq Tryz.prog Tryz.f67 Dv:=e (by kernel_rfl)
theorem HT:cm Tryz.prog 67:=e (by kernel_rfl)
def Rk:=[o 6 (.mv bz)]
def Rl:=[m 7 1,m 8 0,o 9 (.bin .leq (.t 7) (.t 8)),m 10 9,dc 11 0 10,dc 12 2 10,bL 13 (.bin .leq (.t 11) (.t 12)) 10,and 14 10 13,m 6 14]
def yY:br:=(s (r Rk) (s (r Rl) .ret))
def Dw:List bQ:=[.tmp 6]
theorem IW:ct Tryz.prog Tryz.f68 yY:=e (by kernel_rfl)
theorem J8:cq Tryz.prog Tryz.f68 Dw:=e (by kernel_rfl)
theorem HU:cm Tryz.prog 68:=e (by kernel_rfl)
def Rm:=[b 1 0,o 2 (.mv (.c (.nilp))),b6 3 0]
def Rn:=[f 6 0 0 1,l 7 6,o 8 (.call 61 [.t 7]),no 9 8,m 10 9,fn 11 1 1 1 10,eJ 12 11 10,on 13 (.len (.t 12)) 10,on 14 (.bin .gtr (.t 13) (a8 200)) 10,or 15 10 14,m 16 15,fn 17 2 2 1 16,eJ 18 17 16,fn 19 1 1 1 16,eJ 20 19 16,on 21 (.len (.t 20)) 16,on 22 (.call 105 [.t 18,(a8 0),.t 21]) 16,on 23 (.un .not (.t 22)) 16,or 24 16 23]
def Ro:=[o 2 (.mv (.c (.nilp))),b6 3 91]
def Rp:=[f 26 0 0 1,l 27 26,f 28 1 1 1,l 29 28,o 30 (.call 62 [.t 27,.t 29]),m 25 30,o 31 (.ext (.t 25) 0),o 32 (.ext (.t 25) 1),m 4 31,m 5 32]
def Rq:=[m 33 5,no 34 33]
def Rr:=[o 2 (.mv (.c (.nilp))),b6 3 91]
def Rs:=[m 35 4,m 2 35,b6 3 0]
def uD:br:=(s (r Rm) (s (s (r Rn) (.cond (.t 24) (s (r Ro) .ret) .skip)) (s (r Rp) (s (s (r Rq) (.cond (.t 34) (s (r Rr) .ret) .skip)) (s (r Rs) .ret)))))
def wP:List bQ:=[.tmp 2,.tmp 3]
theorem zT:ct Tryz.prog Tryz.f69 uD:=e (by kernel_rfl)
theorem z7:cq Tryz.prog Tryz.f69 wP:=e (by kernel_rfl)
theorem zC:cm Tryz.prog 69:=e (by kernel_rfl)
def Rt:=[b 1 0,o 2 (.mv bz)]
def Ru:=[f 3 0 0 1,l 4 3,o 5 (.call 105 [.t 4,(a8 1),(a8 4)]),m 6 5,dR 7 1 1 1 6,dJ 8 7 6,bL 9 (.call 61 [.t 8]) 6,and 10 6 9,m 11 10,dR 12 2 2 1 11,dJ 13 12 11,bL 14 (.call 61 [.t 13]) 11,and 15 11 14,m 16 15,dR 17 1 1 1 16,dJ 18 17 16,dR 19 2 2 1 16,dJ 20 19 16,bL 21 (.bin .neq (.t 18) (.t 20)) 16,and 22 16 21,m 23 22,dR 24 3 3 1 23,dJ 25 24 23,bL 26 (.call 71 [.t 25]) 23,and 27 23 26,m 28 27,dR 29 4 4 1 28,dJ 30 29 28,bL 31 (.call 90 [.t 30]) 28,and 32 28 31,m 2 32]
def yZ:br:=(s (r Rt) (s (r Ru) .ret))
def Dy:List bQ:=[.tmp 2]
theorem IX:ct Tryz.prog Tryz.f70 yZ:=e (by kernel_rfl)
theorem J9:cq Tryz.prog Tryz.f70 Dy:=e (by kernel_rfl)
theorem HV:cm Tryz.prog 70:=e (by kernel_rfl)
def Rv:=[o 2 (.mv bz)]
def Rw:=[m 3 0,o 4 (.call 105 [.t 3,(a8 1),(a8 9999)]),m 2 4]
def y5:br:=(s (r Rv) (s (r Rw) .ret))
def Dz:List bQ:=[.tmp 2]
theorem IY:ct Tryz.prog Tryz.f71 y5:=e (by kernel_rfl)
theorem Ka:cq Tryz.prog Tryz.f71 Dz:=e (by kernel_rfl)
theorem HW:cm Tryz.prog 71:=e (by kernel_rfl)
def AO:=[o 4 (.mv bz)]
def AP:=[m 7 0,o 8 (.nilC (.t 7)),f 9 2 2 8,l 10 9,o 11 (.jm (.t 10))]
def vy:=[o 12 (.hP (.t 11)),o 13 (.ext (.t 12) 0)]
def Rx:=[o 14 (.ent (.t 11)),o 15 (.ext (.t 14) 1),m 6 15]
def Ry:=[m 16 6,o 17 (.nilC (.t 16)),f 18 2 2 17,l 19 18,m 20 1,o 21 (.bin .eql (.t 19) (.t 20))]
def Rz:=[o 4 (.mv T)]
def RA:=[o 4 (.mv bz)]
def y7:br:=(s (r AO) (s (s (r AP) (.block 0 (.loop (s (r vy) (s (.cond (.t 13) .skip (.exit 0)) (.block 1 (s (r Rx) (s (r Ry) (.cond (.t 21) (s (r Rz) .ret) .skip))))))))) (s (r RA) .ret)))
def DA:List bQ:=[.tmp 4]
theorem IZ:ct Tryz.prog Tryz.f72 y7:=e (by kernel_rfl)
theorem Kb:cq Tryz.prog Tryz.f72 DA:=e (by kernel_rfl)
theorem HX:cm Tryz.prog 72:=e (by kernel_rfl)
def RB:=[b 2 0,b 3 1,o 4 (.alloc (.agg [.int .i64 0,.nils 4,.int .i64 0])),b6 5 0]
def RC:=[f 6 1 1 2,l 7 6,o 8 (.len (.t 7)),o 9 (.bin .eql (.t 8) (a8 200))]
def RD:=[o 10 (.bld [.int .i64 0,.nils 4,.int .i64 0] []),p (.bd (some 3) (.t 4) (.t 10)),b6 5 2]
def RE:=[L 11 3 2,o 12 (.call 57 [.t 11]),p (.bd (some 3) (.t 2) (.t 12))]
def RF:=[f 13 1 1 2,l 14 13,L 15 4 3,o 16 (.bs 37 4 [.t 15]),o 17 (.dm 37 4 32 (.agg [.int .i64 0,.int .i64 0,.int .i64 0,.int .i64 0]) (.t 14) (.t 16)),f 18 1 1 2,p (.bd none (.t 18) (.t 17))]
def RG:=[L 19 3 2,p (.bd (some 3) (.t 4) (.t 19)),b6 5 0]
def y8:br:=(s (r RB) (s (s (r RC) (.cond (.t 9) (s (r RD) .ret) .skip)) (s (r RE) (s (r RF) (s (r RG) .ret)))))
def DB:List bQ:=[.cell 4 (some 3),.tmp 5]
theorem I0:ct Tryz.prog Tryz.f73 y8:=e (by kernel_rfl)
theorem Kc:cq Tryz.prog Tryz.f73 DB:=e (by kernel_rfl)
theorem HY:cm Tryz.prog 73:=e (by kernel_rfl)
def AQ:=[b 2 0,b 3 1,o 4 (.alloc (.agg [.int .i64 0,.nils 1,.int .i64 0,.nils 4,.nils 4])),o 5 (.mv bz)]
def AR:=[f 9 1 1 2,l 10 9,f 11 1 1 3,l 12 11,o 13 (.call 78 [.t 10,.t 12]),m 6 13]
def AS:=[L 14 5 2,f 15 3 3 3,l 16 15,o 17 (.call 79 [.t 14,.t 16]),m 7 17]
def AT:=[m 18 7,o 19 (.bin .geq (.t 18) (a8 0)),m 20 19,dR 21 3 3 2 20,dJ 22 21 20,dc 23 7 20,bL 24 (.max2 (.t 23) (a8 0)) 20,bL 25 (.is 4 (.t 22) (.t 24)) 20,dR 26 1 1 25 20,dJ 27 26 20,dR 28 2 2 3 20,dJ 29 28 20,bL 30 (.bin .eql (.t 27) (.t 29)) 20,and 31 20 30,m 32 31,dR 33 3 3 2 32,dJ 34 33 32,dc 35 7 32,bL 36 (.max2 (.t 35) (a8 0)) 32,bL 37 (.is 4 (.t 34) (.t 36)) 32,dR 38 2 2 37 32,dJ 39 38 32,dR 40 1 1 3 32,dJ 41 40 32,bL 42 (.bin .eql (.t 39) (.t 41)) 32,and 43 32 42,m 8 43]
def z8:=some [[],[0],[1],[2],[3,2],[2],[5,2],[4,6,2],[7,2],[8,2],[2],[10,2],[9,11,2],[2,12],[13,2],[14],[15,14],[14],[17,14],[16,18,14],[19,14],[20,14],[14],[22,14],[21,23,14],[14,24],[25,14,0,1,2,3,4,5,6,7,8,9,10,11,12,13,14,15,16,17,18,19,20,21,22,23,24,25]]
def Sb:=[f 44 0 0 3,l 45 44]
def Sf:=[o 47 (.bin .eql (.t 45) (a8 1)),m 46 47]
def Sg:=[m 48 6,m 49 48,on 50 (.ld (some 5) (.t 2)) 49,fn 51 1 1 3 49,eJ 52 51 49,on 53 (.call 108 [.t 50,.t 52]) 49,or 54 49 53]
def Sh:=[L 55 5 2,p (.bd (some 5) (.t 4) (.t 55)),o 5 (.mv bz)]
def Si:=[f 56 1 1 2,l 57 56,f 58 1 1 3,l 59 58,o 60 (.call 109 [.t 57,.t 59]),f 61 1 1 2,p (.bd none (.t 61) (.t 60))]
def Sj:=[L 62 5 2,p (.bd (some 5) (.t 4) (.t 62)),o 5 (.mv T)]
def RH:=[o 64 (.bin .eql (.t 45) (a8 2)),m 63 64]
def RI:=[f 65 1 1 2,l 66 65,f 67 1 1 3,l 68 67,o 69 (.call 110 [.t 66,.t 68]),f 70 1 1 2,p (.bd none (.t 70) (.t 69))]
def RJ:=[L 71 5 2,m 72 6,p (.bd (some 5) (.t 4) (.t 71)),m 5 72]
def RK:=[o 74 (.bin .eql (.t 45) (a8 3)),m 73 74]
def RL:=[m 75 6,no 76 75,m 77 76,fn 78 2 2 3 77,eJ 79 78 77,fn 80 0 0 2 77,eJ 81 80 77,on 82 (.bin .eql (.t 79) (.t 81)) 77,or 83 77 82,m 84 83,fn 85 3 3 3 84,eJ 86 85 84,fn 87 2 2 2 84,eJ 88 87 84,on 89 (.bin .add (.t 88) (a8 1)) 84,on 90 (.bin .neq (.t 86) (.t 89)) 84,or 91 84 90]
def RM:=[L 92 5 2,p (.bd (some 5) (.t 4) (.t 92)),o 5 (.mv bz)]
def RN:=[f 93 1 1 2,l 94 93,f 95 1 1 3,l 96 95,o 97 (.call 110 [.t 94,.t 96]),f 98 1 1 2,p (.bd none (.t 98) (.t 97))]
def RO:=[f 99 3 3 3,l 100 99,f 101 2 2 2,p (.bd none (.t 101) (.t 100))]
def vz:=[o 102 (.bs0 4),f 103 3 3 2,l 104 103,o 105 (.dm 48 4 32 (.agg [.int .i64 0,.int .i64 0,.int .i64 0,.bool false]) (.t 102) (.t 104)),f 106 3 3 3,l 107 106,f 108 2 2 3,l 109 108,f 110 1 1 3,l 111 110,o 112 (.bld [.int .i64 0,.int .i64 0,.int .i64 0,.bool false] [(0,(.t 107)),(1,(.t 109)),(2,(.t 111))]),o 113 (.bs 48 4 [.t 112]),o 114 (.dm 48 4 32 (.agg [.int .i64 0,.int .i64 0,.int .i64 0,.bool false]) (.t 105) (.t 113)),f 115 3 3 2,p (.bd none (.t 115) (.t 114))]
def KY:=some [[],[],[1],[0,2],[],[4],[],[6],[],[8],[5,7,9],[10],[3,11,3],[0,1,2,3,4,5,6,7,8,9,10,11,12],[13,12,12,0,1,2,3,4,5,6,7,8,9,10,11,12]] -- DRAW BAD
def RP:=[L 116 5 2,p (.bd (some 5) (.t 4) (.t 116)),o 5 (.mv T)]
def RQ:=[o 118 (.bin .eql (.t 45) (a8 4)),m 117 118]
def RS:=[m 119 8,no 120 119,m 121 120,fn 122 3 3 2 121,eJ 123 122 121,mu 124 7 121,on 125 (.is 4 (.t 123) (.t 124)) 121,fn 126 3 3 125 121,eJ 127 126 121,or 128 121 127]
def RT:=[L 129 5 2,p (.bd (some 5) (.t 4) (.t 129)),o 5 (.mv bz)]
def RU:=[o 130 (.bs0 4),f 131 3 3 2,l 132 131,o 133 (.dm 48 4 32 (.agg [.int .i64 0,.int .i64 0,.int .i64 0,.bool false]) (.t 130) (.t 132)),f 134 3 3 2,p (.bd none (.t 134) (.t 133))]
def RV:=[f 135 3 3 2,l 136 135,m 137 7,o 138 (.is 4 (.t 136) (.t 137)),f 139 3 3 138,p (.bd none (.t 139) T)]
def RW:=[L 140 5 2,p (.bd (some 5) (.t 4) (.t 140)),o 5 (.mv T)]
def RX:=[o 142 (.bin .eql (.t 45) (a8 5)),m 141 142]
def RY:=[m 143 8,no 144 143]
def RZ:=[L 145 5 2,p (.bd (some 5) (.t 4) (.t 145)),o 5 (.mv bz)]
def R0:=[L 146 5 2,m 147 7,o 148 (.call 111 [.t 146,.t 147]),p (.bd (some 5) (.t 4) (.t 148)),o 5 (.mv T)]
def R1:=[o 150 (.bin .eql (.t 45) (a8 6)),m 149 150]
def R2:=[m 151 8,no 152 151,m 153 152,fn 154 3 3 2 153,eJ 155 154 153,mu 156 7 153,on 157 (.is 4 (.t 155) (.t 156)) 153,fn 158 3 3 157 153,eJ 159 158 153,on 160 (.un .not (.t 159)) 153,or 161 153 160]
def R3:=[L 162 5 2,p (.bd (some 5) (.t 4) (.t 162)),o 5 (.mv bz)]
def R4:=[L 163 5 2,m 164 7,o 165 (.call 111 [.t 163,.t 164]),p (.bd (some 5) (.t 2) (.t 165))]
def R5:=[f 166 1 1 2,l 167 166,f 168 1 1 3,l 169 168,o 170 (.call 109 [.t 167,.t 169]),f 171 1 1 2,p (.bd none (.t 171) (.t 170))]
def R6:=[L 172 5 2,p (.bd (some 5) (.t 4) (.t 172)),o 5 (.mv T)]
def R7:=[f 173 2 2 3,l 174 173,f 175 0 0 2,l 176 175,o 177 (.bin .eql (.t 174) (.t 176)),m 178 177,on 179 (.ld (some 5) (.t 2)) 178,fn 180 2 2 3 178,eJ 181 180 178,fn 182 3 3 3 178,eJ 183 182 178,on 184 (.call 88 [.t 179,.t 181,.t 183]) 178,on 185 (.bin .neq (.t 184) (a8 0)) 178,or 186 178 185]
def R8:=[L 187 5 2,p (.bd (some 5) (.t 4) (.t 187)),o 5 (.mv bz)]
def R9:=[f 188 0 0 3,l 189 188,o 190 (.bin .eql (.t 189) (a8 7))]
def Sa:=[m 191 6,m 192 191,on 193 (.ld (some 5) (.t 2)) 192,fn 194 1 1 3 192,eJ 195 194 192,on 196 (.call 108 [.t 193,.t 195]) 192,or 197 192 196]
def Sc:=[L 198 5 2,p (.bd (some 5) (.t 4) (.t 198)),o 5 (.mv bz)]
def Sd:=[f 199 1 1 2,l 200 199,f 201 1 1 3,l 202 201,o 203 (.call 109 [.t 200,.t 202]),f 204 1 1 2,p (.bd none (.t 204) (.t 203))]
def Se:=[L 205 5 2,L 206 4 3,o 207 (.call 112 [.t 205,.t 206]),p (.bd (some 5) (.t 4) (.t 207)),o 5 (.mv T)]
def lg:br:=(s (r AQ) (s (r AR) (s (r AS) (s (.cg z8 AT) (s (s (r Sb) (.block 0 (s (r Sf) (.cond (.t 46) (s (s (r Sg) (.cond (.t 54) (s (r Sh) .ret) .skip)) (s (r Si) (s (r Sj) .ret))) (s (r RH) (.cond (.t 63) (s (r RI) (s (r RJ) .ret)) (s (r RK) (.cond (.t 73) (s (s (r RL) (.cond (.t 91) (s (r RM) .ret) .skip)) (s (r RN) (s (r RO) (s (.cg KY vz) (s (r RP) .ret))))) (s (r RQ) (.cond (.t 117) (s (s (r RS) (.cond (.t 128) (s (r RT) .ret) .skip)) (s (r RU) (s (r RV) (s (r RW) .ret)))) (s (r RX) (.cond (.t 141) (s (s (r RY) (.cond (.t 144) (s (r RZ) .ret) .skip)) (s (r R0) .ret)) (s (r R1) (.cond (.t 149) (s (s (r R2) (.cond (.t 161) (s (r R3) .ret) .skip)) (s (r R4) (s (r R5) (s (r R6) .ret)))) .skip)))))))))))))) (s (s (r R7) (.cond (.t 186) (s (r R8) .ret) .skip)) (s (s (r R9) (.cond (.t 190) (s (s (r Sa) (.cond (.t 197) (s (r Sc) .ret) .skip)) (r Sd)) .skip)) (s (r Se) .ret))))))))
def lL:List bQ:=[.cell 4 (some 5),.tmp 5]
theorem ma:ct Tryz.prog Tryz.f76 lg:=e (by kernel_rfl)
theorem mb:cq Tryz.prog Tryz.f76 lL:=e (by kernel_rfl)
theorem l9:cm Tryz.prog 76:=e (by kernel_rfl)
def Sk:=[o 4 (.mv bz)]
def Sl:=[m 7 0,o 8 (.len (.t 7)),b6 9 0]
def Sm:=[lt 10 9 8]
def Sn:=[o 11 (.is 1 (.t 7) (.t 9)),l 12 11,m 6 12]
def Sp:=[m 13 6,m 14 1,o 15 (.bin .eql (.t 13) (.t 14))]
def Sq:=[o 4 (.mv T)]
def Sr:=[ad 16 9 1,m 9 16]
def St:=[o 4 (.mv bz)]
def y9:br:=(s (r Sk) (s (s (r Sl) (.block 0 (.loop (s (r Sm) (s (.cond (.t 10) .skip (.exit 0)) (s (.block 1 (s (r Sn) (s (r Sp) (.cond (.t 15) (s (r Sq) .ret) .skip)))) (r Sr))))))) (s (r St) .ret)))
def DC:List bQ:=[.tmp 4]
theorem I1:ct Tryz.prog Tryz.f78 y9:=e (by kernel_rfl)
theorem Kd:cq Tryz.prog Tryz.f78 DC:=e (by kernel_rfl)
theorem HZ:cm Tryz.prog 78:=e (by kernel_rfl)
def Su:=[b 2 0,b6 4 0]
def Sv:=[f 7 3 3 2,l 8 7,o 9 (.len (.t 8)),b6 10 0]
def Sw:=[lt 11 10 9]
def Sx:=[m 12 10,o 13 (.is 4 (.t 8) (.t 10)),L 14 4 13,o 6 (.alloc (.agg [.int .i64 0,.int .i64 0,.int .i64 0,.bool false])),m 5 12,p (.bd (some 4) (.t 6) (.t 14))]
def Sy:=[f 15 0 0 6,l 16 15,m 17 1,o 18 (.bin .eql (.t 16) (.t 17))]
def Sz:=[m 19 5,m 4 19]
def SA:=[ad 20 10 1,m 10 20]
def SB:=[b6 4 (-1)]
def za:br:=(s (r Su) (s (s (r Sv) (.block 0 (.loop (s (r Sw) (s (.cond (.t 11) .skip (.exit 0)) (s (.block 1 (s (r Sx) (s (r Sy) (.cond (.t 18) (s (r Sz) .ret) .skip)))) (r SA))))))) (s (r SB) .ret)))
def DE:List bQ:=[.tmp 4]
theorem I2:ct Tryz.prog Tryz.f79 za:=e (by kernel_rfl)
theorem Ke:cq Tryz.prog Tryz.f79 DE:=e (by kernel_rfl)
theorem H0:cm Tryz.prog 79:=e (by kernel_rfl)
def SC:=[b6 2 0]
def SD:=[o 3 (.iu),p (.eN (.i .i64) (.t 3) (a8 1) (a8 7)),p (.eN (.i .i64) (.t 3) (a8 2) (a8 5)),p (.eN (.i .i64) (.t 3) (a8 3) (a8 8)),p (.eN (.i .i64) (.t 3) (a8 4) (a8 6)),m 4 3,m 5 0,o 6 (.lk (.i .i64) (.int .i64 0) false (.t 4) (.t 5)),m 2 6]
def zb:br:=(s (r SC) (s (r SD) .ret))
def DF:List bQ:=[.tmp 2]
theorem I3:ct Tryz.prog Tryz.f80 zb:=e (by kernel_rfl)
theorem Kf:cq Tryz.prog Tryz.f80 DF:=e (by kernel_rfl)
theorem H2:cm Tryz.prog 80:=e (by kernel_rfl)
def AU:=[b 3 1,o 4 (.alloc (.bool false))]
def AV:=[L 6 4 3,o 7 (.call 66 [.t 6]),o 8 (.call 114 [.t 7])]
def qa:=[m 9 0,o 10 (.nilC (.t 9)),f 11 5 5 10,l 12 11,f 13 0 0 3,l 14 13,o 15 (.lk (.i .i64) (.dn) false (.t 12) (.t 14)),L 16 4 3,o 17 (.fF (.t 15) [.t 16])]
def KZ:=some [[],[0],[1],[2],[],[4],[3,5],[],[6,7]]
def SE:=[p (.bd none (.t 4) T)]
def Wk:List bQ:=[.cell 4 none]
theorem Kg:cq Tryz.prog Tryz.f81 Wk:=e (by kernel_rfl)
theorem H3:cm Tryz.prog 81:=e (by kernel_rfl)
def SF:=[o 4 (.mv (.c (.nils 1))),b6 5 0]
def SG:=[o 6 (.mv (.c (.nils 1)))]
def SK:=[m 11 0,o 12 (.len (.t 11)),b6 13 0]
def SL:=[lt 14 13 12]
def SM:=[m 15 13,o 16 (.is 3 (.t 11) (.t 13)),L 17 3 16,o 8 (.alloc (.agg [.int .i64 0,.nils 4,.int .i64 0])),m 7 15,p (.bd (some 3) (.t 8) (.t 17))]
def SN:=[L 19 3 8,o 20 (.call 69 [.t 19]),m 18 20,o 21 (.ext (.t 18) 0),o 22 (.ext (.t 18) 1),m 9 21,m 10 22]
def SO:=[m 23 10,o 24 (.bin .neq (.t 23) (a8 0)),m 25 24,mu 26 7 25,on 27 (.bin .gtr (.t 26) (a8 0)) 25,mu 28 27 25,dc 29 0 28,dc 30 7 28,bL 31 (.bin .sub (.t 30) (a8 1)) 28,bL 32 (.is 3 (.t 29) (.t 31)) 28,dR 33 0 0 32 28,dJ 34 33 28,dR 35 0 0 8 28,dJ 36 35 28,bL 37 (.bin .geq (.t 34) (.t 36)) 28,on 38 (.pick (.t 28) (.t 37) bz) 25,or 39 25 38]
def K0:=some [[],[0],[1],[2],[3,2],[4,2,2],[5],[5],[7,5],[6,8,5],[9,5],[10,5],[5],[12,5],[11,13,5],[5,14,2],[2,15]]
def SP:=[o 4 (.mv (.c (.nils 1))),b6 5 96]
def SQ:=[m 40 6,m 41 9,o 42 (.bs 80 1 [.t 41]),o 43 (.dm 80 1 8 (.nilp) (.t 40) (.t 42)),m 6 43]
def SR:=[ad 44 13 1,m 13 44]
def SH:=[m 45 1,o 46 (.call 71 [.t 45]),no 47 46]
def SI:=[o 4 (.mv (.c (.nils 1))),b6 5 1]
def SJ:=[m 48 6,m 4 48,b6 5 0]
def zc:br:=(s (r SF) (s (r SG) (s (s (r SK) (.block 0 (.loop (s (r SL) (s (.cond (.t 14) .skip (.exit 0)) (s (.block 1 (s (r SM) (s (r SN) (s (s (.cg K0 SO) (.cond (.t 39) (s (r SP) .ret) .skip)) (r SQ))))) (r SR))))))) (s (s (r SH) (.cond (.t 47) (s (r SI) .ret) .skip)) (s (r SJ) .ret)))))
def DG:List bQ:=[.tmp 4,.tmp 5]
theorem I4:ct Tryz.prog Tryz.f83 zc:=e (by kernel_rfl)
theorem Kh:cq Tryz.prog Tryz.f83 DG:=e (by kernel_rfl)
theorem H4:cm Tryz.prog 83:=e (by kernel_rfl)
def AW:=[o 2 (.mv (.c (.nils 1)))]
def AX:=[o 3 (.mv (.c (.nils 1)))]
def AY:=[m 5 0,o 6 (.nilC (.t 5)),f 7 2 2 6,l 8 7,o 9 (.jm (.t 8))]
def vA:=[o 10 (.hP (.t 9)),o 11 (.ext (.t 10) 0)]
def SS:=[o 12 (.ent (.t 9)),o 13 (.ext (.t 12) 0),m 4 13]
def SU:=[m 14 3,m 15 4,o 16 (.bs 3 1 [.t 15]),o 17 (.dm 3 1 8 (.int .i64 0) (.t 14) (.t 16)),m 3 17]
def SV:=[m 18 3,o 19 (.call 89 [.t 18])]
def SW:=[m 20 3,m 2 20]
def zd:br:=(s (r AW) (s (r AX) (s (s (r AY) (.block 0 (.loop (s (r vA) (s (.cond (.t 11) .skip (.exit 0)) (.block 1 (s (r SS) (r SU)))))))) (s (r SV) (s (r SW) .ret)))))
def DH:List bQ:=[.tmp 2]
theorem I5:ct Tryz.prog Tryz.f85 zd:=e (by kernel_rfl)
theorem Ki:cq Tryz.prog Tryz.f85 DH:=e (by kernel_rfl)
theorem H5:cm Tryz.prog 85:=e (by kernel_rfl)
def SX:=[b 3 0,b6 6 0]
def SY:=[f 9 4 4 3,l 10 9,o 11 (.len (.t 10)),b6 12 0]
def SZ:=[lt 13 12 11]
def S0:=[o 14 (.is 4 (.t 10) (.t 12)),L 15 4 14,o 8 (.alloc (.agg [.int .i64 0,.int .i64 0,.int .i64 0,.int .i64 0])),p (.bd (some 4) (.t 8) (.t 15))]
def S1:=[f 16 1 1 8,l 17 16,m 18 1,o 19 (.bin .eql (.t 17) (.t 18)),m 20 19,dR 21 2 2 8 20,dJ 22 21 20,dc 23 2 20,bL 24 (.bin .eql (.t 22) (.t 23)) 20,and 25 20 24]
def S2:=[f 26 0 0 8,l 27 26,m 6 27]
def S3:=[ad 28 12 1,m 12 28]
def S4:=[b6 6 0]
def ze:br:=(s (r SX) (s (s (r SY) (.block 0 (.loop (s (r SZ) (s (.cond (.t 13) .skip (.exit 0)) (s (.block 1 (s (r S0) (s (r S1) (.cond (.t 25) (s (r S2) .ret) .skip)))) (r S3))))))) (s (r S4) .ret)))
def DI:List bQ:=[.tmp 6]
theorem I6:ct Tryz.prog Tryz.f88 ze:=e (by kernel_rfl)
theorem Kj:cq Tryz.prog Tryz.f88 DI:=e (by kernel_rfl)
theorem H6:cm Tryz.prog 88:=e (by kernel_rfl)
theorem zD:cm Tryz.prog 89:=e (by kernel_rfl)
def S5:=[o 2 (.mv bz)]
def S6:=[m 3 0,o 4 (.call 105 [.t 3,(a8 1),(a8 200)]),m 2 4]
def zf:br:=(s (r S5) (s (r S6) .ret))
def DJ:List bQ:=[.tmp 2]
theorem I7:ct Tryz.prog Tryz.f90 zf:=e (by kernel_rfl)
theorem Kk:cq Tryz.prog Tryz.f90 DJ:=e (by kernel_rfl)
theorem H7:cm Tryz.prog 90:=e (by kernel_rfl)
def AZ:=[o 4 (.mv (.c (.bO ⟨#[]⟩)))]
def A1:=[m 7 1,o 8 (.len (.t 7)),b6 9 0]
def A2:=[lt 10 9 8]
def A4:=[o 11 (.is 1 (.t 7) (.t 9)),l 12 11,m 6 12]
def A5:=[m 13 0,m 14 6,o 15 (.call 119 [.t 14]),o 16 (.bin .add (.c (.bO ⟨#[32]⟩)) (.t 15)),o 17 (.bin .add (.t 13) (.t 16)),m 0 17]
def A6:=[ad 18 9 1,m 9 18]
def A7:=[m 19 0,o 20 (.bin .add (.t 19) (.c (.bO ⟨#[10]⟩))),m 4 20]
def zg:br:=(s (r AZ) (s (s (r A1) (.block 0 (.loop (s (r A2) (s (.cond (.t 10) .skip (.exit 0)) (s (.block 1 (s (r A4) (r A5))) (r A6))))))) (s (r A7) .ret)))
def DK:List bQ:=[.tmp 4]
theorem I8:ct Tryz.prog Tryz.f93 zg:=e (by kernel_rfl)
theorem Kl:cq Tryz.prog Tryz.f93 DK:=e (by kernel_rfl)
theorem H8:cm Tryz.prog 93:=e (by kernel_rfl)
def S7:=[o 0 (.mv (.c (.nils 1)))]
def S8:=[o 1 (.bs 9 1 [(.c (.bO ⟨#[]⟩)),(.c (.bO ⟨#[112,111,117,110,100]⟩)),(.c (.bO ⟨#[114,101,108,101,97,115,101]⟩)),(.c (.bO ⟨#[115,101,110,100]⟩)),(.c (.bO ⟨#[99,97,108,108]⟩)),(.c (.bO ⟨#[100,111,110,101]⟩)),(.c (.bO ⟨#[98,97,99,107]⟩)),(.c (.bO ⟨#[116,97,107,101]⟩)),(.c (.bO ⟨#[114,101,102,117,115,101]⟩))]),m 0 1]
def zh:br:=(s (r S7) (s (r S8) .ret))
def DL:List bQ:=[.tmp 0]
theorem I9:ct Tryz.prog Tryz.f94 zh:=e (by kernel_rfl)
theorem Km:cq Tryz.prog Tryz.f94 DL:=e (by kernel_rfl)
theorem H9:cm Tryz.prog 94:=e (by kernel_rfl)
def L8:=[o 6 (.mv bz)]
def L9:=[m 7 0,m 8 1,o 9 (.bin .geq (.t 7) (.t 8)),m 10 9,dc 11 0 10,dc 12 2 10,bL 13 (.bin .leq (.t 11) (.t 12)) 10,and 14 10 13,m 6 14]
def yj:br:=(s (r L8) (s (r L9) .ret))
def CK:List bQ:=[.tmp 6]
theorem Ih:ct Tryz.prog Tryz.f105 yj:=e (by kernel_rfl)
theorem Jo:cq Tryz.prog Tryz.f105 CK:=e (by kernel_rfl)
theorem Hj:cm Tryz.prog 105:=e (by kernel_rfl)
def Ma:=[o 2 (.mv (.c (.nilp)))]
def Mb:=[m 4 0,o 5 (.iu),o 6 (.iu),o 7 (.iu),o 8 (.bld [.int .i64 0,.raw (.map none),.raw (.map none),.int .i64 0,.raw (.map none),.raw (.map none)] [(0,(.t 4)),(1,(.t 5)),(2,(.t 6)),(4,(.t 7))]),b 9 8,m 3 9]
def Mc:=[m 10 3,o 11 (.iu),m 12 3,o 13 (.mk 1000125 [.t 12]),p (.eN (.i .i64) (.t 11) (a8 1) (.t 13)),m 14 3,o 15 (.mk 1000126 [.t 14]),p (.eN (.i .i64) (.t 11) (a8 2) (.t 15)),m 16 3,o 17 (.mk 1000127 [.t 16]),p (.eN (.i .i64) (.t 11) (a8 3) (.t 17)),m 18 3,o 19 (.mk 1000128 [.t 18]),p (.eN (.i .i64) (.t 11) (a8 4) (.t 19)),m 20 3,o 21 (.mk 1000129 [.t 20]),p (.eN (.i .i64) (.t 11) (a8 5) (.t 21)),m 22 3,o 23 (.mk 1000130 [.t 22]),p (.eN (.i .i64) (.t 11) (a8 6) (.t 23)),m 24 3,o 25 (.mk 1000131 [.t 24]),p (.eN (.i .i64) (.t 11) (a8 7) (.t 25)),m 26 3,o 27 (.mk 1000132 [.t 26]),p (.eN (.i .i64) (.t 11) (a8 8) (.t 27)),m 28 11,o 29 (.nilC (.t 10)),f 30 5 5 29,p (.bd none (.t 30) (.t 28))]
def Md:=[m 31 3,m 2 31]
def yk:br:=(s (r Ma) (s (r Mb) (s (r Mc) (s (r Md) .ret))))
def CL:List bQ:=[.tmp 2]
theorem Ii:ct Tryz.prog Tryz.f106 yk:=e (by kernel_rfl)
theorem Jp:cq Tryz.prog Tryz.f106 CL:=e (by kernel_rfl)
theorem Hk:cm Tryz.prog 106:=e (by kernel_rfl)
def Me:=[l 12 1,o 13 (.call 85 [.t 12]),o 14 (.len (.t 13)),b6 15 0]
def Mf:=[lt 16 15 14]
def Mn:=[o 17 (.is 1 (.t 13) (.t 15)),l 18 17,m 5 18]
def Mo:=[l 19 1,o 20 (.nilC (.t 19)),f 21 2 2 20,l 22 21,m 23 5,o 24 (.lk (.i .i64) (.nilp) false (.t 22) (.t 23)),m 6 24]
def Mp:=[l 25 1,o 26 (.nilC (.t 25)),f 27 0 0 26,l 28 27,l 29 2,m 30 6,o 31 (.nilC (.t 30)),f 32 2 2 31,l 33 32,m 34 5,o 35 (.bld [.int .i64 0,.int .i64 0,.int .i64 0,.int .i64 0,.int .i64 0] [(0,(a8 1)),(1,(.t 28)),(2,(.t 29)),(3,(.t 33)),(4,(.t 34))]),o 7 (.alloc (.agg [.int .i64 0,.int .i64 0,.int .i64 0,.int .i64 0,.int .i64 0])),p (.bd (some 5) (.t 7) (.t 35))]
def Kp:=some [[],[0],[1],[2],[],[],[5],[6],[7],[],[3,4,8,9],[],[11,10,0,1,2,3,4,5,6,7,8,9,10,11]]
def Mq:=[m 36 6,o 37 (.nilC (.t 36)),f 38 3 3 37,l 39 38]
def Mr:=[f 40 0 0 7,p (.bd none (.t 40) (a8 3))]
def nl:=[m 41 6,o 42 (.nilC (.t 41)),f 43 1 1 42,l 44 43,l 45 2,o 46 (.bin .eql (.t 44) (.t 45)),m 47 46,dc 48 0 47,bL 49 (.ld (some 5) (.t 7)) 47,bL 50 (.fF (.t 48) [.t 49]) 47,bL 51 (.un .not (.t 50)) 47,and 52 47 51]
def Kq:=some [[],[0],[1],[2],[],[3,4],[5],[6],[6],[7,8,6,6],[9,6],[6,10]]
def Ms:=[ad 53 15 1,m 15 53]
def Mt:=[b6 8 1]
def Mg:=[m 54 8,o 55 (.bin .leq (.t 54) (a8 200))]
def Mh:=[l 59 1,o 60 (.nilC (.t 59)),f 61 4 4 60,l 62 61,l 63 2,m 64 8,o 65 (.bld [.int .i64 0,.int .i64 0] [(0,(.t 63)),(1,(.t 64))]),o 66 (.lk (.bd [(.i .i64),(.i .i64)]) (.agg [.int .i64 0,.int .i64 0,.int .i64 0,.int .i64 0]) true (.t 62) (.t 65)),m 58 66,o 67 (.ext (.t 58) 0),o 68 (.ext (.t 58) 1),o 9 (.alloc (.agg [.int .i64 0,.int .i64 0,.int .i64 0,.int .i64 0])),p (.bd (some 4) (.t 9) (.t 67)),m 10 68]
def Kn:=some [[],[0],[1],[2],[],[],[4,5],[3,6],[7],[8],[8],[],[11,9,0,1,2,3,4,5,6,7,8,9,11],[10,12,0,1,2,3,4,5,6,7,8,9,10,11,12]]
def Mi:=[l 69 1,o 70 (.nilC (.t 69)),f 71 0 0 70,l 72 71,l 73 2,f 74 1 1 9,l 75 74,m 76 8,o 77 (.bld [.int .i64 0,.int .i64 0,.int .i64 0,.int .i64 0,.int .i64 0] [(0,(a8 2)),(1,(.t 72)),(2,(.t 73)),(3,(.t 75)),(4,(.t 76))]),o 11 (.alloc (.agg [.int .i64 0,.int .i64 0,.int .i64 0,.int .i64 0,.int .i64 0])),p (.bd (some 5) (.t 11) (.t 77))]
def Ko:=some [[],[0],[1],[2],[],[],[5],[],[3,4,6,7],[],[9,8,0,1,2,3,4,5,6,7,8,9]]
def Mj:=[f 78 0 0 9,l 79 78,o 80 (.bin .eql (.t 79) (a8 8))]
def Mk:=[f 81 0 0 11,p (.bd none (.t 81) (a8 4))]
def Ml:=[m 82 10,m 83 82,dc 84 0 83,bL 85 (.ld (some 5) (.t 11)) 83,bL 86 (.fF (.t 84) [.t 85]) 83,bL 87 (.un .not (.t 86)) 83,and 88 83 87]
def Mm:=[m 56 8,ad 57 56 1,m 8 57]
def yl:br:=(s (s (r Me) (.block 0 (.loop (s (r Mf) (s (.cond (.t 16) .skip (.exit 0)) (s (.block 1 (s (r Mn) (s (r Mo) (s (.cg Kp Mp) (s (s (r Mq) (.cond (.t 39) (r Mr) .skip)) (s (.cg Kq nl) (.cond (.t 52) .ret .skip))))))) (r Ms))))))) (s (r Mt) (.block 2 (.loop (s (s (r Mg) (.cond (.t 55) .skip (.exit 2))) (s (.block 3 (s (.cg Kn Mh) (s (.cg Ko Mi) (s (s (r Mj) (.cond (.t 80) (r Mk) .skip)) (s (r Ml) (.cond (.t 88) .ret .skip)))))) (r Mm)))))))
def CM:List bQ:=[]
theorem Ij:ct Tryz.prog Tryz.f107 yl:=e (by kernel_rfl)
theorem Jq:cq Tryz.prog Tryz.f107 CM:=e (by kernel_rfl)
theorem zk:cm Tryz.prog 107:=e (by kernel_rfl)
def Mu:=[b 2 0,o 4 (.mv bz)]
def Mv:=[f 7 3 3 2,l 8 7,o 9 (.len (.t 8)),b6 10 0]
def Mw:=[lt 11 10 9]
def Mx:=[o 12 (.is 4 (.t 8) (.t 10)),L 13 4 12,o 6 (.alloc (.agg [.int .i64 0,.int .i64 0,.int .i64 0,.bool false])),p (.bd (some 4) (.t 6) (.t 13))]
def My:=[f 14 2 2 6,l 15 14,m 16 1,o 17 (.bin .eql (.t 15) (.t 16))]
def Mz:=[o 4 (.mv T)]
def MA:=[ad 18 10 1,m 10 18]
def MB:=[o 4 (.mv bz)]
def ym:br:=(s (r Mu) (s (s (r Mv) (.block 0 (.loop (s (r Mw) (s (.cond (.t 11) .skip (.exit 0)) (s (.block 1 (s (r Mx) (s (r My) (.cond (.t 17) (s (r Mz) .ret) .skip)))) (r MA))))))) (s (r MB) .ret)))
def CN:List bQ:=[.tmp 4]
theorem Ik:ct Tryz.prog Tryz.f108 ym:=e (by kernel_rfl)
theorem Jr:cq Tryz.prog Tryz.f108 CN:=e (by kernel_rfl)
theorem Hl:cm Tryz.prog 108:=e (by kernel_rfl)
def MC:=[o 4 (.mv (.c (.nils 1)))]
def MD:=[b6 5 0]
def ME:=[m 6 5,m 7 0,o 8 (.len (.t 7)),lt 9 6 8,m 10 9,dc 11 0 10,dc 12 5 10,bL 13 (.is 1 (.t 11) (.t 12)) 10,dJ 14 13 10,dc 15 1 10,bL 16 (.bin .lss (.t 14) (.t 15)) 10,and 17 10 16]
def MF:=[m 18 5,ad 19 18 1,m 5 19]
def MG:=[m 20 5,m 21 0,o 22 (.len (.t 21)),lt 23 20 22,m 24 23,dc 25 0 24,dc 26 5 24,bL 27 (.is 1 (.t 25) (.t 26)) 24,dJ 28 27 24,dc 29 1 24,bL 30 (.bin .eql (.t 28) (.t 29)) 24,and 31 24 30]
def MH:=[m 32 0,m 4 32]
def p6:=[o 33 (.bs0 1),m 34 0,m 35 5,o 36 (.sl 1 (.t 34) none (some (.t 35)) none),o 37 (.dm 3 1 8 (.int .i64 0) (.t 33) (.t 36)),m 38 1,o 39 (.bs 3 1 [.t 38]),o 40 (.dm 3 1 8 (.int .i64 0) (.t 37) (.t 39)),m 41 0,m 42 5,o 43 (.sl 1 (.t 41) (some (.t 42)) none none),o 44 (.dm 3 1 8 (.int .i64 0) (.t 40) (.t 43)),m 4 44]
def Kr:=some [[],[],[],[1,2],[0,3],[],[5],[4,6,4],[],[],[8,9],[7,10,7],[11,11,0,1,2,3,4,5,6,7,8,9,10,11]] -- DRAW BAD
def yn:br:=(s (r MC) (s (r MD) (s (.block 0 (.loop (s (s (r ME) (.cond (.t 17) .skip (.exit 0))) (.block 1 (r MF))))) (s (s (r MG) (.cond (.t 31) (s (r MH) .ret) .skip)) (s (.cg Kr p6) .ret)))))
def CO:List bQ:=[.tmp 4]
theorem Il:ct Tryz.prog Tryz.f109 yn:=e (by kernel_rfl)
theorem Js:cq Tryz.prog Tryz.f109 CO:=e (by kernel_rfl)
theorem Hm:cm Tryz.prog 109:=e (by kernel_rfl)
def MQ:=[o 4 (.mv (.c (.nils 1)))]
def MR:=[o 5 (.mv (.c (.nils 1)))]
def MS:=[m 8 0,o 9 (.len (.t 8)),b6 10 0]
def MT:=[lt 11 10 9]
def MU:=[o 12 (.is 1 (.t 8) (.t 10)),l 13 12,m 7 13]
def MV:=[m 14 7,m 15 1,o 16 (.bin .neq (.t 14) (.t 15))]
def MW:=[m 17 5,m 18 7,o 19 (.bs 3 1 [.t 18]),o 20 (.dm 3 1 8 (.int .i64 0) (.t 17) (.t 19)),m 5 20]
def MX:=[ad 21 10 1,m 10 21]
def MY:=[m 22 5,m 4 22]
def yp:br:=(s (r MQ) (s (r MR) (s (s (r MS) (.block 0 (.loop (s (r MT) (s (.cond (.t 11) .skip (.exit 0)) (s (.block 1 (s (r MU) (s (r MV) (.cond (.t 16) (r MW) .skip)))) (r MX))))))) (s (r MY) .ret))))
def CP:List bQ:=[.tmp 4]
theorem Im:ct Tryz.prog Tryz.f110 yp:=e (by kernel_rfl)
theorem Jt:cq Tryz.prog Tryz.f110 CP:=e (by kernel_rfl)
theorem Hn:cm Tryz.prog 110:=e (by kernel_rfl)
def MZ:=[b 2 0,o 4 (.alloc (.agg [.int .i64 0,.nils 1,.int .i64 0,.nils 4,.nils 4]))]
def vq:=[o 5 (.bs0 4),f 6 3 3 2,l 7 6,m 8 1,o 9 (.sl 4 (.t 7) none (some (.t 8)) none),o 10 (.dm 48 4 32 (.agg [.int .i64 0,.int .i64 0,.int .i64 0,.bool false]) (.t 5) (.t 9)),f 11 3 3 2,l 12 11,m 13 1,ad 14 13 1,o 15 (.sl 4 (.t 12) (some (.t 14)) none none),o 16 (.dm 48 4 32 (.agg [.int .i64 0,.int .i64 0,.int .i64 0,.bool false]) (.t 10) (.t 15)),f 17 3 3 2,p (.bd none (.t 17) (.t 16))]
def Ks:=some [[],[],[1],[],[2,3],[0,4],[],[6],[],[8],[7,9],[5,10,5],[0,1,2,3,4,5,6,7,8,9,10,11],[12,11,11,0,1,2,3,4,5,6,7,8,9,10,11]] -- DRAW BAD
def M0:=[L 18 5 2,p (.bd (some 5) (.t 4) (.t 18))]
def yq:br:=(s (r MZ) (s (.cg Ks vq) (s (r M0) .ret)))
def CQ:List bQ:=[.cell 4 (some 5)]
theorem Io:ct Tryz.prog Tryz.f111 yq:=e (by kernel_rfl)
theorem Ju:cq Tryz.prog Tryz.f111 CQ:=e (by kernel_rfl)
theorem Ho:cm Tryz.prog 111:=e (by kernel_rfl)
def M2:=[b 2 0,b 3 1,o 4 (.alloc (.agg [.int .i64 0,.nils 1,.int .i64 0,.nils 4,.nils 4]))]
def vr:=[o 5 (.bs0 4),f 6 4 4 2,l 7 6,o 8 (.dm 91 4 32 (.agg [.int .i64 0,.int .i64 0,.int .i64 0,.int .i64 0]) (.t 5) (.t 7)),f 9 0 0 3,l 10 9,f 11 2 2 3,l 12 11,f 13 3 3 3,l 14 13,f 15 1 1 3,l 16 15,o 17 (.bld [.int .i64 0,.int .i64 0,.int .i64 0,.int .i64 0] [(0,(.t 10)),(1,(.t 12)),(2,(.t 14)),(3,(.t 16))]),o 18 (.bs 91 4 [.t 17]),o 19 (.dm 91 4 32 (.agg [.int .i64 0,.int .i64 0,.int .i64 0,.int .i64 0]) (.t 8) (.t 18)),f 20 4 4 2,p (.bd none (.t 20) (.t 19))]
def Kt:=some [[],[],[1],[0,2],[],[4],[],[6],[],[8],[],[10],[5,7,9,11],[12],[3,13,3],[0,1,2,3,4,5,6,7,8,9,10,11,12,13,14],[15,14,14,0,1,2,3,4,5,6,7,8,9,10,11,12,13,14]] -- DRAW BAD
def M3:=[L 21 5 2,p (.bd (some 5) (.t 4) (.t 21))]
def yr:br:=(s (r M2) (s (.cg Kt vr) (s (r M3) .ret)))
def CR:List bQ:=[.cell 4 (some 5)]
theorem Ip:ct Tryz.prog Tryz.f112 yr:=e (by kernel_rfl)
theorem Jv:cq Tryz.prog Tryz.f112 CR:=e (by kernel_rfl)
theorem Hp:cm Tryz.prog 112:=e (by kernel_rfl)
theorem zl:cm Tryz.prog 113:=e (by kernel_rfl)
def M4:=[m 2 0,no 3 2]
def yu:br:=(s (r M4) (.cond (.t 3) .uh .skip))
def CS:List bQ:=[]
theorem Iq:ct Tryz.prog Tryz.f114 yu:=e (by kernel_rfl)
theorem Jw:cq Tryz.prog Tryz.f114 CS:=e (by kernel_rfl)
theorem zm:cm Tryz.prog 114:=e (by kernel_rfl)
theorem Hq:cm Tryz.prog 119:=e (by kernel_rfl)
def M5:=[b 3 1]
def p7:=[m 4 0,o 5 (.nilC (.t 4)),f 6 1 1 5,l 7 6,f 8 1 1 3,l 9 8,o 10 (.lk (.i .i64) (.bool false) false (.t 7) (.t 9)),no 11 10,m 12 11,dc 13 0 12,dR 14 1 1 3 12,dJ 15 14 12,bL 16 (.call 72 [.t 13,.t 15]) 12,bL 17 (.un .not (.t 16)) 12,and 18 12 17,o 19 (.call 114 [.t 18])]
def Ku:=some [[],[0],[1],[2],[],[4],[3,5],[6],[7],[8],[8],[10,8],[9,11,8,8],[12,8],[8,13],[14,12]]
def M6:=[m 20 0,o 21 (.nilC (.t 20)),f 22 1 1 21,l 23 22,f 24 1 1 3,l 25 24,p (.eN (.i .i64) (.t 23) (.t 25) T)]
def Kv:=some [[],[0],[1],[2],[],[4],[3,5,0,1,2,3,4,5]]
def uo:br:=(s (r M5) (s (.cg Ku p7) (.cg Kv M6)))
def CT:List bQ:=[]
theorem zH:ct Tryz.prog Tryz.f125 uo:=e (by kernel_rfl)
theorem Jx:cq Tryz.prog Tryz.f125 CT:=e (by kernel_rfl)
theorem zn:cm Tryz.prog 125:=e (by kernel_rfl)
def M7:=[b 3 1]
def vt:=[m 4 0,o 5 (.nilC (.t 4)),f 6 1 1 5,l 7 6,f 8 1 1 3,l 9 8,o 10 (.lk (.i .i64) (.bool false) false (.t 7) (.t 9)),o 11 (.call 114 [.t 10])]
def Kx:=some [[],[0],[1],[2],[],[4],[3,5],[6]]
def M8:=[m 12 0,o 13 (.nilC (.t 12)),f 14 1 1 13,l 15 14,f 16 1 1 3,l 17 16,p (.ir (.i .i64) (.t 15) (.t 17))]
def Ky:=some [[],[0],[1],[2],[],[4],[3,5]]
def uq:br:=(s (r M7) (s (.cg Kx vt) (.cg Ky M8)))
def CU:List bQ:=[]
theorem zI:ct Tryz.prog Tryz.f126 uq:=e (by kernel_rfl)
theorem Jy:cq Tryz.prog Tryz.f126 CU:=e (by kernel_rfl)
theorem zo:cm Tryz.prog 126:=e (by kernel_rfl)
def M9:=[b 3 1]
def nm:=[m 4 0,o 5 (.nilC (.t 4)),f 6 1 1 5,l 7 6,f 8 1 1 3,l 9 8,o 10 (.lk (.i .i64) (.bool false) false (.t 7) (.t 9)),m 11 10,dR 12 2 2 3 11,dJ 13 12 11,dc 14 0 11,bL 15 (.nilC (.t 14)) 11,dR 16 0 0 15 11,dJ 17 16 11,bL 18 (.bin .neq (.t 13) (.t 17)) 11,and 19 11 18,m 20 19,dR 21 3 3 3 20,dJ 22 21 20,dc 23 0 20,bL 24 (.nilC (.t 23)) 20,dR 25 3 3 24 20,dJ 26 25 20,bL 27 (.bin .add (.t 26) (a8 1)) 20,bL 28 (.bin .eql (.t 22) (.t 27)) 20,and 29 20 28,o 30 (.call 114 [.t 29])]
def Kz:=some [[],[0],[1],[2],[],[4],[3,5],[6],[7],[8,7],[7],[10,7],[11,7],[12,7],[9,13,7],[7,14],[15,7],[16],[17,16],[16],[19,16],[20,16],[21,16],[22,16],[18,23,16],[16,24],[25,16]]
def Na:=[m 31 0,o 32 (.nilC (.t 31)),f 33 1 1 32,l 34 33,f 35 1 1 3,l 36 35,p (.ir (.i .i64) (.t 34) (.t 36))]
def KA:=some [[],[0],[1],[2],[],[4],[3,5]]
def Nb:=[m 37 0,o 38 (.nilC (.t 37)),f 39 3 3 38,l 40 39,ad 41 40 1,o 42 (.nilC (.t 37)),f 43 3 3 42,p (.bd none (.t 43) (.t 41))]
def Nc:=[m 44 0,o 45 (.nilC (.t 44)),f 46 2 2 45,l 47 46,f 48 3 3 3,l 49 48,f 50 3 3 3,l 51 50,f 52 2 2 3,l 53 52,f 54 1 1 3,l 55 54,o 56 (.bld [.int .i64 0,.int .i64 0,.int .i64 0,.bool false] [(0,(.t 51)),(1,(.t 53)),(2,(.t 55))]),b 57 56,p (.eN (.i .i64) (.t 47) (.t 49) (.t 57))]
def KB:=some [[],[0],[1],[2],[],[4],[],[6],[],[8],[],[10],[7,9,11],[12],[3,5,13,0,1,2,3,4,5,6,7,8,9,10,11,12,13]]
def ur:br:=(s (r M9) (s (.cg Kz nm) (s (.cg KA Na) (s (r Nb) (.cg KB Nc)))))
def CV:List bQ:=[]
theorem zJ:ct Tryz.prog Tryz.f127 ur:=e (by kernel_rfl)
theorem Jz:cq Tryz.prog Tryz.f127 CV:=e (by kernel_rfl)
theorem zp:cm Tryz.prog 127:=e (by kernel_rfl)
def Nd:=[b 3 1]
def AK:=[m 5 0,L 6 4 3,o 7 (.call 151 [.t 5,.t 6]),m 4 7]
def AL:=[m 8 4,o 9 (.nilC (.t 8)),f 10 3 3 9,l 11 10,no 12 11,o 13 (.call 114 [.t 12])]
def Nf:=[m 14 4,o 15 (.nilC (.t 14)),f 16 3 3 15,p (.bd none (.t 16) T)]
def uu:br:=(s (r Nd) (s (r AK) (s (r AL) (r Nf))))
def CW:List bQ:=[]
theorem zK:ct Tryz.prog Tryz.f128 uu:=e (by kernel_rfl)
theorem JA:cq Tryz.prog Tryz.f128 CW:=e (by kernel_rfl)
theorem zq:cm Tryz.prog 128:=e (by kernel_rfl)
def Ng:=[b 3 1]
def AM:=[m 4 0,L 5 4 3,o 6 (.call 151 [.t 4,.t 5])]
def Nh:=[m 7 0,o 8 (.nilC (.t 7)),f 9 2 2 8,l 10 9,f 11 3 3 3,l 12 11,p (.ir (.i .i64) (.t 10) (.t 12))]
def KC:=some [[],[0],[1],[2],[],[4],[3,5]]
def uv:br:=(s (r Ng) (s (r AM) (.cg KC Nh)))
def CX:List bQ:=[]
theorem zL:ct Tryz.prog Tryz.f129 uv:=e (by kernel_rfl)
theorem JB:cq Tryz.prog Tryz.f129 CX:=e (by kernel_rfl)
theorem zr:cm Tryz.prog 129:=e (by kernel_rfl)
def Ni:=[b 3 1]
def vu:=[m 4 0,L 5 4 3,o 6 (.call 151 [.t 4,.t 5]),o 7 (.nilC (.t 6)),f 8 3 3 7,l 9 8,o 10 (.call 114 [.t 9])]
def Nj:=[m 11 0,o 12 (.nilC (.t 11)),f 13 2 2 12,l 14 13,f 15 3 3 3,l 16 15,p (.ir (.i .i64) (.t 14) (.t 16))]
def KD:=some [[],[0],[1],[2],[],[4],[3,5]]
def Nk:=[m 17 0,o 18 (.nilC (.t 17)),f 19 1 1 18,l 20 19,f 21 1 1 3,l 22 21,p (.eN (.i .i64) (.t 20) (.t 22) T)]
def KE:=some [[],[0],[1],[2],[],[4],[3,5,0,1,2,3,4,5]]
def uw:br:=(s (r Ni) (s (r vu) (s (.cg KD Nj) (.cg KE Nk))))
def CY:List bQ:=[]
theorem zM:ct Tryz.prog Tryz.f130 uw:=e (by kernel_rfl)
theorem JC:cq Tryz.prog Tryz.f130 CY:=e (by kernel_rfl)
theorem zt:cm Tryz.prog 130:=e (by kernel_rfl)
def Nl:=[b 3 1]
def np:=[m 4 0,L 5 4 3,o 6 (.call 152 [.t 4,.t 5]),m 7 6,dc 8 0 7,bL 9 (.nilC (.t 8)) 7,dR 10 1 1 9 7,dJ 11 10 7,dR 12 1 1 3 7,dJ 13 12 7,bL 14 (.lk (.i .i64) (.bool false) false (.t 11) (.t 13)) 7,bL 15 (.un .not (.t 14)) 7,and 16 7 15,m 17 16,dc 18 0 17,dR 19 1 1 3 17,dJ 20 19 17,bL 21 (.call 72 [.t 18,.t 20]) 17,bL 22 (.un .not (.t 21)) 17,and 23 17 22,o 24 (.call 114 [.t 23])]
def KF:=some [[],[],[0,1],[2,2],[3],[4,3],[5,3],[6,3],[3],[8,3],[7,9,3],[10,3],[3,11],[12,3],[13],[13],[15,13],[14,16,13,13],[17,13],[13,18],[19,17]]
def Nn:=[m 25 0,o 26 (.nilC (.t 25)),f 27 4 4 26,l 28 27,f 29 2 2 3,l 30 29,f 31 3 3 3,l 32 31,o 33 (.bld [.int .i64 0,.int .i64 0] [(0,(.t 30)),(1,(.t 32))]),L 34 4 3,p (.eN (.bd [(.i .i64),(.i .i64)]) (.t 28) (.t 33) (.t 34))]
def KG:=some [[],[0],[1],[2],[],[4],[],[6],[5,7],[],[3,8,9,0,1,2,3,4,5,6,7,8,9]]
def Np:=[m 35 0,o 36 (.nilC (.t 35)),f 37 1 1 36,l 38 37,f 39 1 1 3,l 40 39,p (.eN (.i .i64) (.t 38) (.t 40) T)]
def KH:=some [[],[0],[1],[2],[],[4],[3,5,0,1,2,3,4,5]]
def ux:br:=(s (r Nl) (s (.cg KF np) (s (.cg KG Nn) (.cg KH Np))))
def CZ:List bQ:=[]
theorem zN:ct Tryz.prog Tryz.f131 ux:=e (by kernel_rfl)
theorem JD:cq Tryz.prog Tryz.f131 CZ:=e (by kernel_rfl)
theorem zu:cm Tryz.prog 131:=e (by kernel_rfl)
def Nq:=[b 3 1]
def AN:=[m 4 0,L 5 4 3,o 6 (.call 152 [.t 4,.t 5]),o 7 (.call 114 [.t 6])]
def Nr:=[m 8 0,o 9 (.nilC (.t 8)),f 10 4 4 9,l 11 10,f 12 2 2 3,l 13 12,f 14 3 3 3,l 15 14,o 16 (.bld [.int .i64 0,.int .i64 0] [(0,(.t 13)),(1,(.t 15))]),L 17 4 3,p (.eN (.bd [(.i .i64),(.i .i64)]) (.t 11) (.t 16) (.t 17))]
def KI:=some [[],[0],[1],[2],[],[4],[],[6],[5,7],[],[3,8,9,0,1,2,3,4,5,6,7,8,9]]
def uy:br:=(s (r Nq) (s (r AN) (.cg KI Nr)))
def C0:List bQ:=[]
theorem zO:ct Tryz.prog Tryz.f132 uy:=e (by kernel_rfl)
theorem JE:cq Tryz.prog Tryz.f132 C0:=e (by kernel_rfl)
theorem zw:cm Tryz.prog 132:=e (by kernel_rfl)
def NG:=[b 3 1,o 4 (.mv (.c (.nilp)))]
def NH:=[m 8 0,o 9 (.nilC (.t 8)),f 10 2 2 9,l 11 10,f 12 3 3 3,l 13 12,o 14 (.lk (.i .i64) (.nilp) true (.t 11) (.t 13)),m 7 14,o 15 (.ext (.t 7) 0),o 16 (.ext (.t 7) 1),m 5 15,m 6 16]
def KL:=some [[],[0],[1],[2],[],[4],[3,5],[6],[7],[7],[8,0,1,2,3,4,5,6,7,8],[9,10,0,1,2,3,4,5,6,7,8,9,10]]
def nq:=[m 17 6,m 18 17,dc 19 5 18,bL 20 (.nilC (.t 19)) 18,dR 21 1 1 20 18,dJ 22 21 18,dR 23 2 2 3 18,dJ 24 23 18,bL 25 (.bin .eql (.t 22) (.t 24)) 18,and 26 18 25,m 27 26,dc 28 5 27,bL 29 (.nilC (.t 28)) 27,dR 30 2 2 29 27,dJ 31 30 27,dR 32 1 1 3 27,dJ 33 32 27,bL 34 (.bin .eql (.t 31) (.t 33)) 27,and 35 27 34,o 36 (.call 114 [.t 35])]
def KM:=some [[],[0],[1],[2,1],[3,1],[4,1],[1],[6,1],[5,7,1],[1,8],[9,1],[10],[11,10],[12,10],[13,10],[10],[15,10],[14,16,10],[10,17],[18,10]]
def NI:=[m 37 5,m 4 37]
def uz:br:=(s (r NG) (s (.cg KL NH) (s (.cg KM nq) (s (r NI) .ret))))
def C2:List bQ:=[.tmp 4]
theorem zP:ct Tryz.prog Tryz.f151 uz:=e (by kernel_rfl)
theorem JG:cq Tryz.prog Tryz.f151 C2:=e (by kernel_rfl)
theorem zx:cm Tryz.prog 151:=e (by kernel_rfl)
def NJ:=[b 3 1,o 4 (.mv bz)]
def NK:=[m 8 0,o 9 (.nilC (.t 8)),f 10 4 4 9,l 11 10,f 12 2 2 3,l 13 12,f 14 3 3 3,l 15 14,o 16 (.bld [.int .i64 0,.int .i64 0] [(0,(.t 13)),(1,(.t 15))]),o 17 (.lk (.bd [(.i .i64),(.i .i64)]) (.agg [.int .i64 0,.int .i64 0,.int .i64 0,.int .i64 0]) true (.t 11) (.t 16)),m 7 17,o 18 (.ext (.t 7) 0),o 19 (.ext (.t 7) 1),o 5 (.alloc (.agg [.int .i64 0,.int .i64 0,.int .i64 0,.int .i64 0])),p (.bd (some 4) (.t 5) (.t 18)),m 6 19]
def KN:=some [[],[0],[1],[2],[],[4],[],[6],[5,7],[3,8],[9],[10],[10],[],[13,11,0,1,2,3,4,5,6,7,8,9,10,11,13],[12,14,0,1,2,3,4,5,6,7,8,9,10,11,12,13,14]]
def NL:=[f 20 2 2 3,l 21 20,m 22 0,o 23 (.nilC (.t 22)),f 24 0 0 23,l 25 24,o 26 (.bin .neq (.t 21) (.t 25)),m 27 26,dc 28 6 27,bL 29 (.un .not (.t 28)) 27,and 30 27 29,m 4 30]
def KO:=some [[],[0],[],[2],[3],[4],[1,5],[6],[7],[8,7],[7,9],[10,7,0,1,2,3,4,5,6,7,8,9,10]]
def yx:br:=(s (r NJ) (s (.cg KN NK) (s (.cg KO NL) .ret)))
def C3:List bQ:=[.tmp 4]
theorem Is:ct Tryz.prog Tryz.f152 yx:=e (by kernel_rfl)
theorem JH:cq Tryz.prog Tryz.f152 C3:=e (by kernel_rfl)
theorem Hs:cm Tryz.prog 152:=e (by kernel_rfl)
end Go.Proofs.YthbdbocionnfgaaGreatDoor
namespace Go.Abs
open Go Go.RowKit
open Enc (enc)
def aD(x:I)(p q:Prop):Prop:=match x with
 | .bool t=>(t=true→p)∧(t=false→q)
 |_=>False
theorem ae.jB{c:cO}{A:ai}{Q:Exit→ai→Prop}{b:aO}{x y:br}(h:aD (ak A b) (ae c x Q A) (ae c y Q A)):ae c (.cond b x y) Q A:=by
 generalize hb:ak A b=v at h;unfold aD at h;split at h
 ·exact ae.cond hb h.1 h.2
 ·exact h.elim
def nP(r:I):Option (List I)→Prop
 |some xs=>jI xs=r
 |none=>False
theorem WI(rs:List bQ)(r:I)(A:ai):j6 rs r .ret A=nP r (e6 A rs):=by
 simp only[j6,nP];cases e6 A rs <;>simp
theorem WH(rs:List bQ)(r:I)(A:ai):j6 rs r .normal A=nP r (e6 A rs):=by
 simp only[j6,nP];cases e6 A rs <;>simp
def qY(s:Option Nat)(A:ai):Option I→Option I
 |some x=>if b5 s x=true then bh true A x else none
 |none=>none
def jT:Option I→Option (List I)→Option (List I)
 |some x,some xs=>some (x::xs)
 |_,_=>none
theorem WA(A:ai):e6 A []=some []:=rfl
theorem WB(A:ai)(t:Nat)(rs:List bQ):e6 A (.tmp t::rs)=jT (bh true A (A.t t)) (e6 A rs):=by
 simp only[e6,tm];cases bh true A (A.t t) <;>cases e6 A rs <;>rfl
theorem Wz(A:ai)(a:Nat)(s:Option Nat)(rs:List bQ):e6 A (.cell a s::rs)=jT (qY s A (gG A (A.t a))) (e6 A rs):=by
 simp only[e6,tm,lj];cases gG A (A.t a) with
 |none=>cases e6 A rs <;>rfl
 |some x =>
  by_cases h:b5 s x=true
  ·simp only[qY,if_pos h];cases bh true A x <;>cases e6 A rs <;>rfl
  ·simp only[qY,if_neg h];cases e6 A rs <;>rfl
def sg(aN:Bool)(A:ai):Option I→Option I
 |some x=>if x.bq=true then some (.ref x) else (cQ A 9 x).map .ref
 |none=>none
theorem L1(A:ai)(n:Nat)(p:List Nat):bh true A (.ptr n p)=sg true A (ff p (A.o n)):=by
 simp only[bh,lj,gG,if_true,sg];cases ff p (A.o n) <;>rfl
open Classical in
noncomputable def lv(sz lo k:Nat):Option (List I)→Option I
 |some fs=>if I.b9 ((fs.drop lo).take k)=true then some (.slice sz ((fs.drop lo).take k)) else none
 |none=>none
theorem vk(A:ai)(n:Nat)(p:List Nat)(sz lo k:Nat):bh true A (.view n p sz lo k)=lv sz lo k (fy (ff p (A.o n))):=by
 simp only[bh,lj,gG,if_true];cases ff p (A.o n) with
 |none=>rfl
 |some c=>cases c <;>simp only[fy,I.dI,lv] <;>(split <;>simp_all)
open Classical in
noncomputable def kD(k:Nat):Option aq→Option I
 |some (.bW _ sz es)=>if k=es.length∧I.b9 es=true then some (.slice sz es) else none
 |_=>none
theorem L0(aN:Bool)(A:ai)(n k:Nat):bh aN A (.own n k)=kD k (A.o n):=by
 simp only[bh];cases A.o n with
 |none=>rfl
 |some y=>cases y <;>simp only[kD] <;>(split <;>simp_all)
theorem vj(aN:Bool)(A:ai)(fs:List I):bh aN A (.agg fs)=(bZ aN A fs).map .agg:=by simp only[bh]
theorem LW(aN:Bool)(A:ai)(f:FuncId)(fs:List I):bh aN A (.func f fs)=if f<1000000 then (bZ aN A fs).map (.func f) else some .any:=by simp only[bh]
theorem LX(aN:Bool)(A:ai)(k:IntKind)(n:Int):bh aN A (.int k n)=some (.int k n):=by simp only[bh]
theorem LV(aN:Bool)(A:ai)(n:Bool):bh aN A (.bool n)=some (.bool n):=by simp only[bh]
theorem L4(aN:Bool)(A:ai)(n:ByteArray):bh aN A (.bO n)=some (.bO n):=by simp only[bh]
theorem LZ(aN:Bool)(A:ai)(n:Nat):bh aN A (.nils n)=some (.slice n []):=by simp only[bh]
theorem L3(aN:Bool)(A:ai)(n:Nat)(es:List I):bh aN A (.slice n es)=if I.b9 es=true then some (.slice n es) else none:=by simp only[bh]
theorem L2(aN:Bool)(A:ai)(x:I):bh aN A (.ref x)=if x.bq=true then some (.ref x) else none:=by simp only[bh]
theorem vn(aN:Bool)(A:ai):bZ aN A []=some []:=by simp only[bZ]
theorem vl(aN:Bool)(A:ai)(x:I)(xs:List I):bZ aN A (x::xs)=jT (bh aN A x) (bZ aN A xs):=by
 simp only[bZ];cases bh aN A x <;>cases bZ aN A xs <;>rfl
theorem Jd(fs:List I):(I.agg fs).bq=I.b9 fs:=by simp only[I.bq]
theorem Ji(n:Nat)(fs:List I):(I.slice n fs).bq=I.b9 fs:=by simp only[I.bq]
theorem Jh(x:I):(I.ref x).bq=x.bq:=by simp only[I.bq]
theorem Jg(k:IntKind)(n:Int):(I.int k n).bq=true:=by simp only[I.bq]
theorem Je(n:Bool):(I.bool n).bq=true:=by simp only[I.bq]
theorem Jj(n:ByteArray):(I.bO n).bq=true:=by simp only[I.bq]
theorem Jf(f:FuncId)(fs:List I):(I.func f fs).bq=I.b9 fs:=by simp only[I.bq]
theorem Jl:I.b9 []=true:=by simp only[I.b9]
theorem Jk(x:I)(xs:List I):I.b9 (x::xs)=(x.bq&&I.b9 xs):=by simp only[I.b9]
theorem GL(k:IntKind)(a b:Int):cv .add (.int k a) (.int k b)=some (.int k (k.wrap (a+b))):=by simp[cv]
theorem G2(k:IntKind)(a b:Int):cv .sub (.int k a) (.int k b)=some (.int k (k.wrap (a-b))):=by simp[cv]
theorem GU(k:IntKind)(a b:Int):cv .mul (.int k a) (.int k b)=some (.int k (k.wrap (a*b))):=by simp[cv]
theorem GY(k:IntKind)(a b:Int):cv .quo (.int k a) (.int k b)=if b=0 then none else some (.int k (k.wrap (a.tdiv b))):=by simp[cv]
theorem GZ(k:IntKind)(a b:Int):cv .rem (.int k a) (.int k b)=if b=0 then none else some (.int k (a.tmod b)):=by simp[cv]
theorem GM(k:IntKind)(a b:Int):cv .and (.int k a) (.int k b)=some (.int k (k.wrap ((BitVec.ofInt k.bits a &&& BitVec.ofInt k.bits b).toNat:Int))):=by simp[cv]
theorem GX(k:IntKind)(a b:Int):cv .or (.int k a) (.int k b)=some (.int k (k.wrap ((BitVec.ofInt k.bits a ||| BitVec.ofInt k.bits b).toNat:Int))):=by simp[cv]
theorem G3(k:IntKind)(a b:Int):cv .xor (.int k a) (.int k b)=some (.int k (k.wrap ((BitVec.ofInt k.bits a ^^^ BitVec.ofInt k.bits b).toNat:Int))):=by simp[cv]
theorem GN(k:IntKind)(a b:Int):cv .andNot (.int k a) (.int k b)=some (.int k (k.wrap ((BitVec.ofInt k.bits a &&& ~~~ BitVec.ofInt k.bits b).toNat:Int))):=by simp[cv]
theorem G0(k k':IntKind)(a b:Int):cv .shl (.int k a) (.int k' b)=if 0≤b then some (.int k (k.wrap (a*2^(min b.toNat k.bits)))) else none:=by simp[cv]
theorem G1(k k':IntKind)(a b:Int):cv .shr (.int k a) (.int k' b)=if 0≤b then some (.int k (a.fdiv (2^(min b.toNat k.bits)))) else none:=by simp[cv]
theorem GO(k:IntKind)(a b:Int):cv .eql (.int k a) (.int k b)=some (.bool (a==b)):=by simp[cv]
theorem GV(k:IntKind)(a b:Int):cv .neq (.int k a) (.int k b)=some (.bool (a != b)):=by simp[cv]
theorem GS(k:IntKind)(a b:Int):cv .lss (.int k a) (.int k b)=some (.bool (decide (a<b))):=by simp[cv]
theorem GR(k:IntKind)(a b:Int):cv .leq (.int k a) (.int k b)=some (.bool (decide (a≤b))):=by simp[cv]
theorem GQ(k:IntKind)(a b:Int):cv .gtr (.int k a) (.int k b)=some (.bool (decide (b<a))):=by simp[cv]
theorem GP(k:IntKind)(a b:Int):cv .geq (.int k a) (.int k b)=some (.bool (decide (b≤a))):=by simp[cv]
theorem xW :
  (∀ ts os d v,(au ts os).put d v=au ((d,v)::ts) os)∧(∀ ts os d v,(au ts os).aT (some d) v=au ((d,v)::ts) os)∧(∀ (A:ai) v,A.aT none v=A) ∧
  (∀ ts os d x,(au ts os).aV d x=au ts ((d,x)::os))∧(∀ ts os k,(au ts os).t k=bU ts k)∧(∀ ts os k,(au ts os).o k=aj os k) ∧
  (∀ j v r k,bU ((j,v)::r) k=if k=j then v else bU r k)∧(∀ j v r k,aj ((j,v)::r) k=if k=j then some v else aj r k)∧(∀ k,aj [] k=none) ∧
  (∀ A k,ak A (.t k)=A.t k)∧(∀ A x,ak A (.c x)=x)∧(∀ d rest A v,c6 d rest A v=az rest (A.aT d v))∧(∀ v k,cL (some v) k=k v)∧(∀ A,az [] A=.done A) :=
 ⟨sM,B1,UR,qB,US,UQ,cD,eg,qx,Ly,Lx,Uo,G4,Gm⟩
theorem Cr :
  (∀ d rest A op,az (⟨d,op,none⟩::rest) A=bG A d op rest)∧(∀ d rest A op t b,az (⟨d,op,some (t,b)⟩::rest) A=gI (A.t t) b d op rest A) ∧
  (∀ d rest A op,gI (.bool true) true d op rest A=bG A d op rest)∧(∀ d rest A op,gI (.bool false) false d op rest A=bG A d op rest) ∧
  (∀ d rest A op,gI (.bool true) false d op rest A=az rest (A.aT d .undef))∧(∀ d rest A op,gI (.bool false) true d op rest A=az rest (A.aT d .undef))∧(∀ d rest A op b,gI .undef b d op rest A=az rest (A.aT d .undef)) ∧
  (∀ d rest A x,bG A d (.mv x) rest=az rest (A.aT d (ak A x)))∧(∀ d rest A c a b,bG A d (.pick c a b) rest=qL A d a b rest (ak A c)) ∧
  (∀ A d a b rest,qL A d a b rest (.bool true)=az rest (A.aT d (ak A a)))∧(∀ A d a b rest,qL A d a b rest (.bool false)=az rest (A.aT d (ak A b))) ∧
  (∀ d rest A op x y,bG A d (.bin op x y) rest=cL (cv op (ak A x) (ak A y)) (c6 d rest A)) ∧
  (∀ d rest A ty neg x y,bG A d (.eqv ty neg x y) rest=cL ((bX ty (ak A x) (ak A y)).map fun b=>.bool (if neg then !b else b)) (c6 d rest A)) ∧
  (∀ d rest A op x,bG A d (.un op x) rest=cL (rB op (ak A x)) (c6 d rest A))∧(∀ b,rB .not (.bool b)=some (.bool !b))∧(∀ k n,rB .neg (.int k n)=some (.int k (k.wrap (0-n))))∧(∀ k n,rB .xor (.int k n)=some (.int k (oz k n))) ∧
  (∀ d rest A k x,bG A d (.conv k x) rest=cL (uL k (ak A x)) (c6 d rest A))∧(∀ k k' n,uL k (.int k' n)=some (.int k (k.wrap n))) ∧
  (∀ d rest A s x,bG A d (.ld s x) rest=cL (nB s (gG A (ak A x))) (c6 d rest A))∧(∀ d rest A f off x,bG A d (.fa f off x) rest=cL (iP A f off (ak A x)) (c6 d rest A)) ∧
  (∀ d rest A f off s x,bG A d (.fl f off s x) rest=cL (sn f off s (ak A x).dI) (c6 d rest A))∧(∀ d rest A n esz x i,bG A d (.ia n esz x i) rest=cL (qe A n esz (ak A x) (ak A i)) (c6 d rest A)) ∧
  (∀ d rest A esz x i,bG A d (.is esz x i) rest=cL (qh A esz (ak A x) (ak A i)) (c6 d rest A))∧(∀ d rest A n esz s x i,bG A d (.ix n esz s x i) rest=cL (ql n esz s (ak A x) (ak A i)) (c6 d rest A)) ∧
  (∀ d rest A x,bG A d (.len x) rest=cL (jg A (ak A x)) (c6 d rest A))∧(∀ d rest A n esz x,bG A d (.va n esz x) rest=cL (n5 A n esz (ak A x)) (c6 d rest A)) ∧
  (∀ d rest A zs ps,bG A d (.bld zs ps) rest=cL ((dK zs (ps.map fun p=>(p.1,ak A p.2))).map .agg) (c6 d rest A))∧(∀ d rest A x i,bG A d (.ext x i) rest=cL (u7 i (ak A x)) (c6 d rest A))∧(∀ i fs,u7 i (.tuple fs)=fs[i]?) ∧
  (∀ d rest A f caps,bG A d (.mk f caps) rest=cL (if ((caps.map (ak A)).all fun y=>y.bS)=true then some (.func f (caps.map (ak A))) else none) (c6 d rest A)) ∧
  (∀ rest A d z,bG A (some d) (.alloc z) rest=uc A d z rest (A.o d))∧(∀ A d z rest,uc A d z rest none=az rest ((A.aV d (.box z)).put d (.ptr d []))) ∧
  (∀ rest A d x,bG A (some d) (.box x) rest=r3 A d (ak A x) rest (A.o d))∧(∀ A d z rest,r3 A d z rest none=r4 A d z rest z.bS)∧(∀ A d z rest,r4 A d z rest true=az rest ((A.aV d (.box z)).put d (.ptr d []))) ∧
  (∀ rest A s x v,bG A none (.bd s x v) rest=dx A s (ak A v) rest (ak A x))∧(∀ A s v rest n p,dx A s v rest (.ptr n p)=tz A s n p v rest (A.o n))∧(∀ A s n p v rest b,tz A s n p v rest (some (.box b))=dk A s n p b v rest (b.at p)) ∧
  (∀ d rest A f args,bG A d (.call f args) rest=.call f (args.map (ak A)) (bZ true A (args.map (ak A))) (bZ false A (args.map (ak A))) d rest A) ∧
  (∀ d rest A x args,bG A d (.fF x args) rest=pP A d (args.map (ak A)) rest (ak A x))∧(∀ A d args rest f caps,pP A d args rest (.func f caps)=if f<1000000 then .call f (args++caps) (bZ true A (args++caps)) (bZ false A (args++caps)) d rest A else .call (kC f) (caps++args) (bZ true A (caps++args)) (bZ false A (caps++args)) d rest A) :=
 ⟨F8,F9,Tw,Tt,Tv,Tu,Tx,Vw,VA,fun _ _ _ _ _=>rfl,fun _ _ _ _ _=>rfl,U7,Vg,VF,fun _=>rfl,fun _ _=>rfl,fun _ _=>rfl,Ve,fun _ _ _=>rfl,Vn,Vi,Vj,Vk,Vl,Vm,Vo,VG,U8,Vh,fun _ _=>rfl,Vs,
  U5,fun _ _ _ _=>rfl,U9,fun _ _ _ _=>rfl,fun _ _ _ _=>rfl,VE,fun _ _ _ _ _ _=>rfl,fun _ _ _ _ _ _ _=>rfl,Vb,Vc,fun A d args rest f caps=>by
   simp only[pP];split
   ·rename_i h;rw[vc h,vb h]
   ·rename_i h;simp only[hE,if_neg h]⟩
theorem dP{A:ai}{s:Option Nat}{n:Nat}{p:List Nat}{b v old:I}{rest:List aC}(J:v.bS=true)(U:b5 s v=true)(ah:v.aX=old.aX):dk A s n p b v rest (some old)=az rest (A.aV n (.box (b.eh p v))):=by
 simp only[dk];rw[if_pos ⟨J,U,ah⟩]
theorem EN :
  (∀ A x,gG A (.ref x)=some x)∧(∀ A n p,gG A (.ptr n p)=ff p (A.o n))∧(∀ p c,ff p (some (.box c))=c.at p)∧(∀ c:I,c.at []=some c)∧(∀ (c:I) i p,c.at (i::p)=l8 i p c.dI) ∧
  (∀ i p fs,l8 i p (some fs)=oo p fs[i]?)∧(∀ p f,oo p (some f)=f.at p)∧(∀ c v:I,c.eh [] v=v)∧(∀ (c:I) i p v,c.eh (i::p) v=tu c i p v c.dI)∧(∀ c i p v fs,tu c i p v (some fs)=xe fs i p v fs[i]?) ∧
  (∀ fs i p v f,xe fs i p v (some f)=.agg (fs.set i (f.eh p v)))∧(∀ fs,(I.agg fs).dI=some fs)∧(∀ x:I,fy (some x)=x.dI) ∧
  (∀ s x,nB s (some x)=if b5 s x=true then some x else none) ∧
  (∀ A f off c,iP A f off (.ref c)=pX f off c.dI)∧(∀ A f off n p,iP A f off (.ptr n p)=pW n p f off (fy (ff p (A.o n))))∧(∀ f off fs,pX f off (some fs)=oE fs f off fs[f]?)∧(∀ fs f off v,oE fs f off (some v)=dq fs f off (.ref v)) ∧
  (∀ n p f off fs,pW n p f off (some fs)=dq fs f off (.ptr n (p++[f])))∧(∀ A n esz x kk k,qe A n esz x (.int kk k)=nr A n esz k x)∧(∀ A n esz k c,nr A n esz k (.ref c)=lC k n (sA n esz k c.dI)) ∧
  (∀ A n esz k m p,nr A n esz k (.ptr m p)=lC k n (qf n esz m p k (fy (ff p (A.o m)))))∧(∀ n esz k fs,sA n esz k (some fs)=lB n esz fs ((fs[k.toNat]?).map .ref))∧(∀ n esz m p k fs,qf n esz m p k (some fs)=lB n esz fs (some (.ptr m (p++[k.toNat])))) ∧
  (∀ A esz x kk k,qh A esz x (.int kk k)=jA A esz k x)∧(∀ n esz s x kk k,ql n esz s x (.int kk k)=sD n esz s k x.dI)∧(∀ n esz s k fs,sD n esz s k (some fs)=lC k n (lB n esz fs (nB s fs[k.toNat]?))) ∧
  (∀ A n esz m p,n5 A n esz (.ptr m p)=rE n esz m p (fy (ff p (A.o m))))∧(∀ n esz m p fs,rE n esz m p (some fs)=rD n esz fs (.view m p esz 0 n)) ∧
  (∀ A sz es,jg A (.slice sz es)=some (.int .i64 es.length))∧(∀ A n,jg A (.nils n)=some (.int .i64 0))∧(∀ A n,jg A (.c0 n)=some (.int .i64 0)) :=
 ⟨fun _ _=>rfl,fun _ _ _=>rfl,fun _ _=>rfl,x4,GC,fun _ _ _=>rfl,fun _ _=>rfl,nT,WX,fun _ _ _ _ _=>rfl,fun _ _ _ _ _=>rfl,fun _=>rfl,fun _=>rfl,fun _ _=>rfl,fun _ _ _ _=>rfl,fun _ _ _ _ _=>rfl,fun _ _ _=>rfl,fun _ _ _ _=>rfl,
  fun _ _ _ _ _=>rfl,fun _ _ _ _ _ _=>rfl,fun _ _ _ _ _=>rfl,fun _ _ _ _ _ _=>rfl,fun _ _ _ _=>rfl,fun _ _ _ _ _ _=>rfl,fun _ _ _ _ _=>rfl,fun _ _ _ _ _ _=>rfl,fun _ _ _ _ _=>rfl,fun _ _ _ _ _=>rfl,fun _ _ _ _ _=>rfl,fun _ _ _=>rfl,fun _ _=>rfl,fun _ _=>rfl⟩
theorem Av :
  (∀ A n p,bh true A (.ptr n p)=sg true A (ff p (A.o n)))∧(∀ A x,sg true A (some x)=if x.bq=true then some (.ref x) else (cQ A 9 x).map .ref)∧(∀ A n p sz lo k,bh true A (.view n p sz lo k)=lv sz lo k (fy (ff p (A.o n)))) ∧
  (∀ A n p,bh false A (.ptr n p)=none)∧(∀ A n p sz lo k,bh false A (.view n p sz lo k)=none)∧(∀ x,jT none x=none)∧(∀ x,jT x none=none) ∧
  (∀ aN A n k,bh aN A (.own n k)=kD k (A.o n))∧(∀ aN A fs,bh aN A (.agg fs)=(bZ aN A fs).map .agg)∧(∀ aN A f fs,bh aN A (.func f fs)=if f<1000000 then (bZ aN A fs).map (.func f) else some .any)∧(∀ aN A k n,bh aN A (.int k n)=some (.int k n))∧(∀ aN A b,bh aN A (.bool b)=some (.bool b)) ∧
  (∀ aN A s,bh aN A (.bO s)=some (.bO s))∧(∀ aN A n,bh aN A (.nils n)=some (.slice n []))∧(∀ aN A n es,bh aN A (.slice n es)=if I.b9 es=true then some (.slice n es) else none)∧(∀ aN A x,bh aN A (.ref x)=if x.bq=true then some (.ref x) else none) ∧
  (∀ aN A,bZ aN A []=some [])∧(∀ aN A x xs,bZ aN A (x::xs)=jT (bh aN A x) (bZ aN A xs))∧(∀ x xs,jT (some x) (some xs)=some (x::xs)) ∧
  (∀ fs,(I.agg fs).bq=I.b9 fs)∧(∀ n fs,(I.slice n fs).bq=I.b9 fs)∧(∀ x,(I.ref x).bq=x.bq)∧(∀ k n,(I.int k n).bq=true)∧(∀ n,(I.bool n).bq=true)∧(∀ n,(I.bO n).bq=true)∧(∀ f fs,(I.func f fs).bq=I.b9 fs) ∧
  I.b9 []=true∧(∀ x xs,I.b9 (x::xs)=(x.bq&&I.b9 xs)) ∧
  (∀ rs r A,j6 rs r .ret A=nP r (e6 A rs))∧(∀ rs r A,j6 rs r .normal A=nP r (e6 A rs))∧(∀ r xs,nP r (some xs)=(jI xs=r))∧(∀ A,e6 A []=some [])∧(∀ A t rs,e6 A (.tmp t::rs)=jT (bh true A (A.t t)) (e6 A rs)) ∧
  (∀ A a s rs,e6 A (.cell a s::rs)=jT (qY s A (gG A (A.t a))) (e6 A rs))∧(∀ s A x,qY s A (some x)=if b5 s x=true then bh true A x else none)∧(∀ x,jI [x]=x)∧(∀ x y xs,jI (x::y::xs)=.tuple (x::y::xs)) :=
 ⟨L1,fun _ _=>rfl,vk,fun _ _ _=>rfl,fun _ _ _ _ _ _=>rfl,fun _=>rfl,fun x=>by cases x <;>rfl,L0,vj,LW,LX,LV,L4,LZ,L3,L2,vn,vl,fun _ _=>rfl,Jd,Ji,Jh,Jg,Je,Jj,Jf,Jl,Jk,
  WI,WH,fun _ _=>rfl,WA,WB,Wz,fun _ _ _=>rfl,fun _=>rfl,fun _ _ _=>rfl⟩
theorem x9 :
  (∀ k a b,cv .add (.int k a) (.int k b)=some (.int k (k.wrap (a+b))))∧(∀ k a b,cv .sub (.int k a) (.int k b)=some (.int k (k.wrap (a-b))))∧(∀ k a b,cv .mul (.int k a) (.int k b)=some (.int k (k.wrap (a*b)))) ∧
  (∀ k a b,cv .quo (.int k a) (.int k b)=if b=0 then none else some (.int k (k.wrap (a.tdiv b))))∧(∀ k a b,cv .rem (.int k a) (.int k b)=if b=0 then none else some (.int k (a.tmod b))) ∧
  (∀ k a b,cv .and (.int k a) (.int k b)=some (.int k (k.wrap ((BitVec.ofInt k.bits a &&& BitVec.ofInt k.bits b).toNat:Int))))∧(∀ k a b,cv .or (.int k a) (.int k b)=some (.int k (k.wrap ((BitVec.ofInt k.bits a ||| BitVec.ofInt k.bits b).toNat:Int)))) ∧
  (∀ k a b,cv .xor (.int k a) (.int k b)=some (.int k (k.wrap ((BitVec.ofInt k.bits a ^^^ BitVec.ofInt k.bits b).toNat:Int))))∧(∀ k a b,cv .andNot (.int k a) (.int k b)=some (.int k (k.wrap ((BitVec.ofInt k.bits a &&& ~~~ BitVec.ofInt k.bits b).toNat:Int)))) ∧
  (∀ k k' a b,cv .shl (.int k a) (.int k' b)=if 0≤b then some (.int k (k.wrap (a*2^(min b.toNat k.bits)))) else none)∧(∀ k k' a b,cv .shr (.int k a) (.int k' b)=if 0≤b then some (.int k (a.fdiv (2^(min b.toNat k.bits)))) else none) ∧
  (∀ k a b,cv .eql (.int k a) (.int k b)=some (.bool (a==b)))∧(∀ k a b,cv .neq (.int k a) (.int k b)=some (.bool (a != b)))∧(∀ k a b,cv .lss (.int k a) (.int k b)=some (.bool (decide (a<b))))∧(∀ k a b,cv .leq (.int k a) (.int k b)=some (.bool (decide (a≤b)))) ∧
  (∀ k a b,cv .gtr (.int k a) (.int k b)=some (.bool (decide (b<a))))∧(∀ k a b,cv .geq (.int k a) (.int k b)=some (.bool (decide (b≤a)))) :=
 ⟨GL,G2,GU,GY,GZ,GM,GX,G3,GN,G0,G1,GO,GV,GS,GR,GQ,GP⟩
end Go.Abs
namespace Go.Abs
open Go Go.RowKit
open Enc (enc)
section
variable {α:Type} [Enc α]
theorem Ux(A:ai)(l:List α):jg A (enc l)=some (.int .i64 l.length):=by simp[gT,jg]
theorem Ua{A:ai}(esz:Nat){k:Int}{l:List α}(h:0≤k∧k.toNat<l.length)(ab:Enc.sz α=esz):jA A esz k (enc l)=some (.ref (enc l[k.toNat])):=by
 simp only[gT,jA,ab,Z8,true_and];rw[if_pos ⟨h.1,by omega⟩];simp[h.2]
theorem fi{A:ai}(esz:Nat){k:Nat}{l:List α}(h:k<l.length)(ab:Enc.sz α=esz):jA A esz k (enc l)=some (.ref (enc l[k])):=by
 have:=Ua (A:=A) esz (k:=(k:Int)) (l:=l) ⟨by omega,by simpa using h⟩ ab;simpa using this
end
mutual
/-- What every value in memory keeps to: whole numbers within their kind,slices no longer than a slice can be. -/
def I.wf:I→Prop
 | .agg fs=>I.fV fs
 | .int k n=>k.min≤n∧n≤k.max
 | .bO s=>s.size≤maxLen
 | .slice _ es=>es.length≤maxLen∧I.fV es
 | .ref c=>c.wf
 | .func _ caps=>I.fV caps
 | .iface _ v=>v.wf
 |_=>True
def I.fV:List I→Prop
 | []=>True
 |x::xs=>x.wf∧I.fV xs
end
mutual
theorem tf{w:World}{D:aP}{E:aY} : ∀ (x:I) (cs:List Value),al w D E x cs→x.wf
 | .agg fs,cs,h=>by simp only[al,I.wf] at *;exact wR fs cs h
 | .int k n,cs,h=>by simp only[al,I.wf] at *;exact h.2
 | .bO s,cs,h=>by simp only[al,I.wf] at *;exact h.2
 | .slice sz es,cs,h=>by
  simp only[al,I.wf] at *;obtain ⟨a,cap,_,J,U,ah,_⟩:=h;refine ⟨by omega,?_⟩;rcases ah with rfl | ⟨b,off,cs',_,_,ar⟩
  ·simp[I.fV]
  ·exact wR es cs' ar
 | .ref c,cs,h=>by simp only[al,I.wf] at *;obtain ⟨b,off,cs',_,_,h⟩:=h;exact tf c cs' h
 | .func f caps,cs,h=>by simp only[al,I.wf] at *;obtain ⟨vs,_,h⟩:=h;exact pq caps vs h
 | .iface t v,cs,h=>by simp only[al,I.wf] at *;obtain ⟨u,cs',_,_,h⟩:=h;exact tf v cs' h
 | .bool _,_,_ | .nilp,_,_ | .dn,_,_ | .dS,_,_ | .any,_,_ | .raw _,_,_ | .nils _,_,_ | .c0 _,_,_ | .ptr _ _,_,_ | .own _ _,_,_ | .view _ _ _ _ _,_,_ | .mref _,_,_ | .db _,_,_ | .c7 _ _,_,_ | .undef,_,_ | .df,_,_ | .tuple _,_,_=>by simp[I.wf]
theorem wR{w:World}{D:aP}{E:aY} : ∀ (xs:List I) (cs:List Value),aM w D E xs cs→I.fV xs
 | [],_,_=>by simp[I.fV]
 |x::xs,cs,h=>by
  simp only[aM,I.fV] at *;obtain ⟨c1,c2,_,J,U⟩:=h;exact ⟨tf x c1 J,wR xs c2 U⟩
theorem pq{w:World}{D:aP}{E:aY} : ∀ (xs:List I) (vs:List Value),aE w D E xs vs→I.fV xs
 | [],_,_=>by simp[I.fV]
 |x::xs,vs,h=>by
  simp only[aE,I.fV] at *;obtain ⟨v,rest,cs,_,_,J,U⟩:=h;exact ⟨tf x cs J,pq xs rest U⟩
end
theorem Xw{α:Type}[Enc α](l:List α):I.fV (l.map enc)↔∀ x∈l,(enc x:I).wf:=by
 induction l with
 |nil=>simp[I.fV]
 |cons x l ih=>simp[I.fV,ih]
theorem mS{α:Type}[Enc α](l:List α):(enc l:I).wf↔l.length≤maxLen∧∀ x∈l,(enc x:I).wf:=by
 simp only[gT,I.wf,Z8,Xw]
theorem bf.wf{P:Program}{f:FuncId}{args:List I}{r:I}(hc:eX P f=true)(h:I.fV args→bf P f args r):bf P f args r :=
 ⟨hc,fun w D vs ao J U=>(h (pq _ _ U)).2 w D vs ao J U⟩
theorem bf.b7{P:Program}{f:FuncId}{fn:Func}{x:br}{rs:List bQ}{args:List I}{r:I}(hf:P.funcs[f]?=some fn)(hcall:eX P f=true)(hc:(fn.body.bind (en P fn.ntmps))=some x)
  (hrs:gF P fn.results.toList=some rs) (hn:args.length≤fn.ntmps) (h:I.fV args→∀ (w:World) (D:aP) (E:aY),ae ⟨P,w,D,fn.ntmps,cB E,E,dh,none,none⟩ x (j6 rs r) (au (bK 0 args) [])):bf P f args r :=
 bf.wf hcall fun hw=>bf.mk hf hcall hc hrs hn (h hw)
theorem kb{α:Type}[Enc α] :
  (∀ A (l:List α),jg A (enc l)=some (.int .i64 l.length))∧(∀ n (x:xv n α),(enc x).dI=some (x.l.map enc)) :=
 ⟨Ux,fun _ _=>rfl⟩
end Go.Abs
namespace Go.Abs
open Go Go.RowKit
open Enc (enc)
def oW(neg:Bool):I→Option I
 | .nils _=>some (.bool (!neg))
 | .slice _ es=>if es.isEmpty then none else some (.bool neg)
 | .view _ _ _ _ _=>some (.bool neg)
 |_=>none
def BG:I→Option I
 | .bO s=>some (.int .i64 s.size)
 |_=>none
open Classical in
noncomputable def lZ(n:Nat)(p:List Nat)(sz l0 k esz:Nat)(lo hi mx:Option I):Option (List I)→Option I
 |some fs=>if sz=esz then mK n p sz l0 k fs.length lo hi mx else none
 |none=>none
noncomputable def jN(A:ai)(esz:Nat)(lo hi mx:Option I):I→Option I
 | .slice sz es=>if sz=esz then iF sz es lo hi mx else none
 | .nils sz=>if sz=esz then iF sz [] lo hi mx else none
 | .c0 sz=>if sz=esz then iF sz [] lo hi mx else none
 | .view n p sz l0 k=>lZ n p sz l0 k esz lo hi mx (fy (ff p (A.o n)))
 |_=>none
open Classical in
noncomputable def fu(esz:Nat):Option (List I)→Option I
 |some es=>if (es.all fun e=>e.size==esz)=true∧I.b9 es=true then some (.slice esz es) else none
 |none=>none
open Classical in
noncomputable def pJ(A:ai)(d:Option Nat)(e esz bytes n l T sz':Nat)(es:List I)(rest:List aC):I→cH
 | .slice sz ys=>if wo e esz bytes l sz ys T sz' es then az rest ((A.aV n (.bW e esz (es++ys))).aT d (.own n (es.length+ys.length))) else .fail
 |_=>.fail
open Classical in
noncomputable def oj(A:ai)(d:Option Nat)(e esz bytes:Nat)(z:I)(n l T:Nat)(xs:List Int)(rest:List aC):I→cH
 | .slice _ ys=>if wq e esz bytes l ys T xs z then az rest ((A.aV n (.dC e (xs++qg ys))).aT d (.own n (xs.length+ys.length))) else .fail
 |_=>.fail
noncomputable def pI(A:ai)(d:Option Nat)(e esz bytes:Nat)(z:I)(n l:Nat)(x:I)(rest:List aC):Option aq→cH
 |some (.bW T sz' es)=>pJ A d e esz bytes n l T sz' es rest x
 |some (.dC T xs)=>oj A d e esz bytes z n l T xs rest x
 |_=>.fail
noncomputable def fD(A:ai)(d:Option Nat)(e esz bytes:Nat)(z x:I)(rest:List aC):I→cH
 | .own n l=>pI A d e esz bytes z n l x rest (A.o n)
 |s=>eW A d esz bytes z s (eE A esz s) (eE A esz x) (az rest)
section
variable (d:Option Nat) (rest:List aC) (A:ai)
noncomputable def oX(neg:Bool)(x:I):Bool→cH
 |true=>.any (fun m=>m<2) (fun m=>az rest (A.aT d (.bool (m==0))))
 |false=>cL (oW neg x) (c6 d rest A)
theorem Vy(neg:Bool)(x:aO):bG A d (.nilS neg x) rest=oX d rest A neg (ak A x) (js (ak A x)):=by
 simp only[bG,bj,bm];cases js (ak A x)
 ·simp only[Z2,if_false,oX,oW];cases ak A x <;>rfl
 ·rfl
theorem Vp(x:aO):bG A d (.lenT x) rest=cL (BG (ak A x)) (c6 d rest A):=by
 simp only[bG,bj,bm];cases ak A x <;>rfl
theorem VD(esz:Nat)(x:aO)(lo hi mx:Option aO):bG A d (.sl esz x lo hi mx) rest=cL (jN A esz (lo.map (ak A)) (hi.map (ak A)) (mx.map (ak A)) (ak A x)) (c6 d rest A):=by
 simp only[bG,bj,bm];cases ak A x <;>try rfl
 rename_i n p sz l0 k;simp only[jN,lj,gG];cases ff p (A.o n) with
 |none=>rfl
 |some c=>cases c <;>simp only[fy,I.dI,lZ] <;>(first | rfl | (split <;>rfl))
theorem Va(T esz:Nat)(ps:List aO):bG A d (.bs T esz ps) rest=cL (fu esz (bZ false A (ps.map (ak A)))) (c6 d rest A):=by
 simp only[bG,bj,bm];cases bZ false A (ps.map (ak A)) <;>simp only[fu] <;>rfl
theorem U6(e esz bytes:Nat)(z:I)(s x:aO):bG A d (.dm e esz bytes z s x) rest=fD A d e esz bytes z (ak A x) rest (ak A s):=by
 simp only[bG,bj];generalize ak A s=s';generalize ak A x=x';cases s' <;>simp only[fD]
 rename_i n l;cases x' <;>simp only <;>generalize A.o n=z <;>(cases z with
  |none=>rfl
  |some y=>cases y <;>simp only[pI,pJ,oj])
end
theorem Cs :
  (∀ d rest A neg x,bG A d (.nilS neg x) rest=oX d rest A neg (ak A x) (js (ak A x)))∧(∀ d rest A neg x,oX d rest A neg x false=cL (oW neg x) (c6 d rest A))∧(∀ z,js (.nils z)=false)∧(∀ n p sz lo k,js (.view n p sz lo k)=false)∧(∀ d rest A x,bG A d (.lenT x) rest=cL (BG (ak A x)) (c6 d rest A)) ∧
  (∀ d rest A esz x lo hi mx,bG A d (.sl esz x lo hi mx) rest=cL (jN A esz (lo.map (ak A)) (hi.map (ak A)) (mx.map (ak A)) (ak A x)) (c6 d rest A)) ∧
  (∀ d rest A T esz ps,bG A d (.bs T esz ps) rest=cL (fu esz (bZ false A (ps.map (ak A)))) (c6 d rest A))∧(∀ d rest A e esz bytes z s x,bG A d (.dm e esz bytes z s x) rest=fD A d e esz bytes z (ak A x) rest (ak A s)) ∧
  (∀ A d e esz bytes z x rest n l,fD A d e esz bytes z x rest (.own n l)=pI A d e esz bytes z n l x rest (A.o n))∧(∀ A d e esz bytes z n l x rest T sz es,pI A d e esz bytes z n l x rest (some (.bW T sz es))=pJ A d e esz bytes n l T sz es rest x)∧(∀ A d e esz bytes z n l x rest T xs,pI A d e esz bytes z n l x rest (some (.dC T xs))=oj A d e esz bytes z n l T xs rest x) ∧
  (∀ neg z,oW neg (.nils z)=some (.bool (!neg))) :=
 ⟨Vy,fun _ _ _ _ _=>rfl,fun _=>rfl,fun _ _ _ _ _=>rfl,Vp,VD,Va,U6,fun _ _ _ _ _ _ _ _ _ _=>rfl,fun _ _ _ _ _ _ _ _ _ _ _ _ _=>rfl,fun _ _ _ _ _ _ _ _ _ _ _ _=>rfl,fun _ _=>rfl⟩
theorem qI(p:Nat→Bool)(xs ys:List I):I.cn p (xs++ys)=(I.cn p xs&&I.cn p ys):=by
 induction xs with
 |nil=>simp[I.cn]
 |cons x xs ih=>simp[I.cn,ih,Bool.and_assoc]
section
variable {α:Type} [Enc α]
theorem pK{A:ai}{d:Option Nat}(e:Nat)(esz bytes n:Nat){l:Nat}{es ys:List α}{rest:List aC}(ao:l=es.length)(ab:Enc.sz α=esz)(hy:ys≠[])(J:es.length+ys.length≤maxLen)(U:(es.length+ys.length)*bytes≤140737488355328) :
  pJ A d e esz bytes n l e esz (es.map enc) rest (enc ys)=az rest ((A.aV n (.bW e esz ((es++ys).map enc))).aT d (.own n (es++ys).length)):=by
 simp only[gT,pJ];rw[if_pos ⟨by simpa using ao,ab,rfl,rfl,by simpa using hy,by simpa using J,by simpa using U⟩];simp
theorem pO(esz:Nat){ys:List α}(ab:Enc.sz α=esz):fu esz (some (ys.map enc))=some (enc ys):=by
 have J:((ys.map enc).all fun e:I=>e.size==esz)=true:=by
  simp only[X0,X1];rintro x ⟨y,_,rfl⟩;simp[Enc.size,ab]
 simp only[fu,gT];rw[if_pos ⟨J,ij ys⟩,ab]
theorem jb(esz:Nat)(y:α)(ab:Enc.sz α=esz):fu esz (some [enc y])=some (enc [y]):=pO (ys:=[y]) esz ab
theorem pY(sz:Nat){T k:Nat}{es:List α}(hk:k=es.length)(ab:Enc.sz α=sz):kD k (some (.bW T sz (es.map enc)))=some (enc es):=by
 simp only[kD,Z8];rw[if_pos ⟨hk,ij es⟩,gT,ab]
theorem hU(p:Nat→Bool)(l:List α):I.cn p (l.map enc)=true:=by
 induction l with
 |nil=>rfl
 |cons x l ih=>simp only[Z3,I.cn,cI,ih,Bool.and_self]
theorem Uy(A:ai)(n k T sz:Nat)(es:List α)(ho:A.o n=some (.bW T sz (es.map enc)))(hk:k=es.length):jg A (.own n k)=some (.int .i64 es.length):=by
 simp only[jg,ho,Z8,hk,if_true]
end
theorem Bn :
  (∀ n:Int,fu 1 (some [.int .i64 n])=some (enc [n]))∧(∀ (T:Nat) (es:List Int),kD es.length (some (.bW T 1 (es.map enc)))=some (enc es)) :=
 ⟨fun n=>jb 1 n rfl,fun _ _=>pY 1 rfl rfl⟩
theorem bC.Gb{A:ai}{d n T sz z:Nat}(af:A.t d=.nils z)(hn:A.o n=none)(hlt:n<1000000):bC A ((A.aV n (.bW T sz [])).put d (.own n 0)):=by
 rintro c a w ⟨D,E,h⟩;have ay:E n=none:=by have:=h.bN n;rw[hn] at this;exact this
 have ao:dQ w D E w D (fun m=>if m=n then some (.rw none 0) else E m):=by
  have eG:∀ {m:Nat} {e:bJ},E m=some e→(if m=n then some (.rw none 0) else E m)=some e:=fun {m e} he=>by
   have:m≠n:=fun e=>by rw[e,ay] at he;cases he
   rw[if_neg this];exact he
  refine ⟨fun _ _ h=>h,fun _ _ _ _ h=>h,fun m b aX he=>eG he,fun m aF l he =>?_,fun m b he=>eG he,fun m b he=>eG he,fun _ _ _ _ h=>h⟩
  ·have:m≠n:=fun e=>by rw[e,ay] at he;cases he
   exact ⟨aF,l,by simp only[if_neg this];exact he,Z4 _,fun _=>rfl⟩
 refine ⟨D,fun m=>if m=n then some (.rw none 0) else E m,h.sz,h.er,fun t =>?_,h.dH,h.cU,h.aQ,fun m =>?_,fun m m' e e' b J U ah ar =>?_,fun m e hm =>?_,h.eK,h.cM,h.eS,h.fp⟩
 ·simp only[ai.put,ai.aV];by_cases ht:t=d
  ·subst ht;simp only[if_true];have hv:=h.dL t;rw[af] at hv;obtain ⟨cs,q1,q2⟩:=hv;simp only[al] at q2;subst q2;refine ⟨[.slice none 0 0],by simpa[bu,I.isAgg] using q1,?_⟩;simp only[al,if_true];exact ⟨none,0,rfl,Z4 _,⟨_,_,_,rfl⟩,fun _=>trivial⟩
  ·simp only[if_neg ht];exact aZ.later ao (h.dL t)
 ·simp only[ai.put,ai.aV];by_cases hm:m=n
  ·subst hm;simp only[if_true,cR];exact ⟨none,by simp,by simp,trivial⟩
  ·simp only[if_neg hm];exact (h.bN m).later ao (by simp only[if_neg hm]) fun _ _ _ _=>⟨rfl,fun _ ho=>ho⟩
 ·by_cases hm:m=n <;>by_cases hm':m'=n
  ·rw[hm,hm']
  ·simp only[if_pos hm,v6] at J;subst J;simp[bJ.aF] at ah
  ·simp only[if_pos hm',v6] at U;subst U;simp[bJ.aF] at ar
  ·simp only[if_neg hm] at J;simp only[if_neg hm'] at U;exact h.cJ m m' e e' b J U ah ar
 ·have hmn:m≠n:=fun e=>by rw[e,h.jW (.inr hlt)] at hm;cases hm
  simp only[if_neg hmn];exact h.dM m e hm
theorem bC.rU{ts:List (Nat×I)}{os:List (Nat×aq)}(d n T sz z:Nat)(af:bU ts d=.nils z)(hn:aj os n=none){B:ai}(h:bC (au ((d,.own n 0)::ts) ((n,.bW T sz [])::os)) B)(hlt:n<1000000:=by decide):bC (au ts os) B :=
 ((bC.Gb (A:=au ts os) (T:=T) (sz:=sz) af hn hlt).trans (by rw[qB,sM];exact bC.refl _)).trans h
theorem Ci:(∀ k n,b5 none (.int k n)=true)∧(∀ b,b5 none (.bool b)=true)∧(∀ z es,b5 none (.slice z es)=true)∧(∀ f es,b5 none (.func f es)=true)∧(∀ z,b5 none (.nils z)=true)∧(∀ n k,b5 none (.own n k)=true) :=
 ⟨fun _ _=>rfl,fun _=>rfl,fun _ _=>rfl,fun _ _=>rfl,fun _=>rfl,fun _ _=>rfl⟩
theorem bE:(type_of% @xW)∧(type_of% @Cr)∧(type_of% @Cs)∧(type_of% @Bn)∧(type_of% @Ci)∧(type_of% @EN)∧(type_of% @Av)∧(type_of% @x9)∧(∀ n:Int,(enc n:I)=.int .i64 n)∧(∀ n:Bool,(enc n:I)=.bool n) ∧
  (∀ {α β:Type} (f:α→β) (x:α) (xs:List α),List.map f (x::xs)=f x::List.map f xs)∧(∀ {α β:Type} (f:α→β),List.map f []=[])∧(∀ {α:Type} (xs:List α),[]++xs=xs)∧(∀ n:Nat,(n:Int).toNat=n)∧(∀ {α β:Type} (f:α→β) (x:α),Option.map f (some x)=some (f x)) ∧
  (∀ n:Nat,0≤(n:Int))∧((!true)=false)∧((!false)=true)∧((false=true)=False)∧((true=false)=False) :=
 ⟨@xW,@Cr,@Cs,@Bn,@Ci,@EN,@Av,@x9,eC,Ln,fun _ _ _=>rfl,fun _=>rfl,fun _=>rfl,fun _=>rfl,fun _ _=>rfl,fun n=>Int.natCast_nonneg n,rfl,rfl,by simp,by simp⟩
end Go.Abs
namespace Go.Abs
open Go Go.RowKit
open Enc (enc)
theorem kd.b7{P:Program}{f:FuncId}{fn:Func}{x:br}{rs:List bQ}{Y:Value→List I→List (Nat×aq)→cA→Prop}{args:List I}{os:List (Nat×aq)}{post:cA}(hf:P.funcs[f]?=some fn)(hcall:eX P f=true)(hc:(fn.body.bind (en P fn.ntmps))=some x)
  (hrs:gF P fn.results.toList=some rs) (hn:args.length≤fn.ntmps) (hn2:fn.ntmps≤1000000) (hos:∀ m,av os m=true→1000000≤m) (h:I.fV args→∀ (w:World) (D:aP) (E:aY),ae ⟨P,w,D,fn.ntmps,cB E,E,Y,none,none⟩ x (nN rs post) (au (bK 0 args) os)):kd P f Y args os post:=by
 obtain ⟨body,hb,hc'⟩:=zz1.1 hc;refine ⟨hcall,fun w D E vs hy hD ho hv =>?_⟩;exact (kd.sT hf hb hcall hc' hrs hn (fun m hm=>⟨zz9 hn2 (hos m hm),hos m hm⟩) (fun w D E=>(h (pq _ _ hv) w D E).sub (tC args os))).2 w D E vs hy hD ho hv
theorem cN.b7{P:Program}{f:FuncId}{fn:Func}{x:br}{rs:List bQ}{args:List I}{os:List (Nat×aq)}{post:cA}(hf:P.funcs[f]?=some fn)(hcall:eX P f=true)(hc:(fn.body.bind (en P fn.ntmps))=some x)
  (hrs:gF P fn.results.toList=some rs) (hn:args.length≤fn.ntmps) (hn2:fn.ntmps≤1000000) (hos:∀ m,av os m=true→1000000≤m) (h:I.fV args→∀ (w:World) (D:aP) (E:aY),ae ⟨P,w,D,fn.ntmps,cB E,E,dh,none,none⟩ x (nN rs post) (au (bK 0 args) os)):cN P f args os post :=
 cN.Cc (kd.b7 hf hcall hc hrs hn hn2 hos h)
theorem Bk{A:ai} : ∀ n x,aj [] n=some x→A.o n=some x∧x.only (av [])=true∧x.eb=true:=fun n x h=>by simp[aj] at h
theorem T5{A:ai}{k:Nat}{c:I}(J:A.o k=some (.box c))(U:∀ p,c.only p=true):∀ n x,aj [(k,.box c)] n=some x→A.o n=some x∧x.only (av [(k,.box c)])=true∧x.eb=true:=fun n x h=>by
 simp only[aj] at h;split at h
 ·rename_i hn;subst hn;simp only[v6] at h;subst h;exact ⟨J,U _,rfl⟩
 ·cases h
theorem mh{k:Nat}{x:aq}{m:Nat} : av [(k,x)] m=true↔m=k:=by
 simp only[av,aj];split <;>simp_all
mutual
theorem qU(ρ:Nat→Nat):∀ x:I,x.bq=true→x.bl ρ=x
 | .agg fs,h=>by simp only[I.bl,I.bq] at *;rw[mE ρ fs h]
 | .slice _ es,h=>by simp only[I.bl,I.bq] at *;rw[mE ρ es h]
 | .ref x,h=>by simp only[I.bl,I.bq] at *;rw[qU ρ x h]
 | .func _ caps,h=>by simp only[I.bl,I.bq] at *;rw[mE ρ caps h]
 | .iface _ v,h=>by simp only[I.bl,I.bq] at *;rw[qU ρ v h]
 | .bool _,_ | .int _ _,_ | .bO _,_ | .nilp,_ | .dn,_ | .dS,_ | .any,_ | .raw _,_ | .nils _,_ | .c0 _,_=>by simp only[I.bl]
 | .c7 ks vs,h=>by simp only[I.bl,I.bq,t8] at *;rw[mE ρ ks h.1,mE ρ vs h.2]
 | .ptr _ _,h | .own _ _,h | .view _ _ _ _ _,h | .mref _,h | .db _,h | .undef,h | .df,h | .tuple _,h=>by simp[I.bq] at h
theorem mE(ρ:Nat→Nat):∀ xs:List I,I.b9 xs=true→I.dO ρ xs=xs
 | [],_=>rfl
 |x::xs,h=>by
  simp only[I.b9,t8] at h;simp only[I.dO,qU ρ x h.1,mE ρ xs h.2]
end
section
variable {α:Type} [Enc α]
theorem kA(ρ:Nat→Nat)(x:α):(enc x).bl ρ=enc x:=qU ρ _ (kz x)
theorem tl(ρ:Nat→Nat)(l:List α):I.dO ρ (l.map enc)=l.map enc:=mE ρ _ (ij l)
theorem mN(A:ai)(esz:Nat)(l:List α)(ab:Enc.sz α=esz):eE A esz (enc l)=some (l.map enc):=by
 simp only[gT,eE,ab,if_true]
theorem tG(l:List α):js (enc l)=l.isEmpty:=by
 simp only[gT,js];cases l <;>rfl
theorem B9(neg:Bool)(l:List α)(h:l≠[]):oW neg (enc l)=some (.bool neg):=by
 simp only[gT,oW];cases l with
 |nil=>exact absurd rfl h
 |cons=>rfl
section
variable {P:Program} {Y:Value→List I→List (Nat×aq)→cA→Prop} {K:ai→Prop} {A:ai} {rest:List aC} {d:Nat} {e esz bytes:Nat} {q:Nat}
theorem aR.ud(z:α){l:List α}(ab:Enc.sz α=esz)(ao:l≠[])(hf:A.o d=none)(hb:l.length*bytes≤140737488355328)(hml:l.length≤maxLen)
  (h:∀ m,aR P Y false K (az rest ((A.aV d (.box (.agg ((l++List.replicate m z).map enc)))).aT (some d) (.view d [] esz 0 l.length)))):aR P Y false K (fD A (some d) e esz bytes (enc z) (enc l) rest (.c0 q)):=by
 have hne:l.map (enc (α:=α))≠[]:=by simpa using ao
 have J:eE A esz (.c0 q)=some []:=rfl;simp only[fD,J,mN A esz l ab,eW,if_neg hne,fN,hf,List.length_nil,Z1,Z8,if_pos (y6 hb hml),List.nil_append];refine .any rfl fun m _ =>?_;have:=h m;simp only[Y3,List.map_replicate] at this;exact this
theorem Gx(z:I)(ab:Enc.sz α=esz):fD A (some d) e esz bytes z (enc ([]:List α)) rest (.c0 q)=az rest (A.aT (some d) (.c0 q)):=by
 have J:eE A esz (.c0 q)=some []:=rfl;simp only[fD,J,mN A esz ([]:List α) ab,eW,X7,if_true]
theorem Vd(esz:Nat)(z:I)(x:aO)(rest:List aC)(A:ai):bG A none (.jx esz z x) rest=oy A esz z (az rest) (ak A x):=rfl
theorem XC{n:Nat}{p:List Nat}{sz k total i:Nat}(h:i≤total)(aW:0<total):mK n p sz 0 k total none (some (.int .i64 i)) none=some (.view n p sz 0 i):=by
 simp only[mK,iZ];rw[if_pos ⟨by omega,by omega,by omega⟩,if_neg (by omega)];simp
theorem Uf{m:Nat}{p:List Nat}{sz lo l j:Nat}{fs:List I}(h:j<l):mi m p sz lo l sz (j:Int) (some fs)=some (.ptr m (p++[lo+j])):=by
 simp only[mi,true_and];rw[if_pos ⟨by omega,by omega⟩];simp
theorem vi{sz k:Nat}{xs:List α}(ab:Enc.sz α=sz):lv sz 0 k (some (xs.map enc))=some (enc (xs.take k)):=by
 have h:((xs.map (enc (α:=α))).drop 0).take k=(xs.take k).map enc:=by rw[List.drop_zero,List.map_take]
 simp only[lv,h];rw[if_pos (ij _),gT,ab]
end
end
theorem Ub(A:ai)(esz m:Nat)(p:List Nat)(sz lo l:Nat)(k:Int):jA A esz k (.view m p sz lo l)=mi m p sz lo l esz k (fy (ff p (A.o m))):=rfl
theorem Uz(A:ai)(m:Nat)(p:List Nat)(sz lo l:Nat):jg A (.view m p sz lo l)=some (.int .i64 l):=rfl
theorem W5(A:ai)(esz:Nat)(lo hi mx:Option I)(n:Nat)(p:List Nat)(l0 k:Nat):jN A esz lo hi mx (.view n p esz l0 k)=lZ n p esz l0 k esz lo hi mx (fy (ff p (A.o n))):=rfl
theorem W6(n:Nat)(p:List Nat)(sz l0 k:Nat)(lo hi mx:Option I)(fs:List I):lZ n p sz l0 k sz lo hi mx (some fs)=mK n p sz l0 k fs.length lo hi mx:=by simp[lZ]
theorem kc :
  (∀ A esz m p sz lo l k,jA A esz k (.view m p sz lo l)=mi m p sz lo l esz k (fy (ff p (A.o m))))∧(∀ A m p sz lo l,jg A (.view m p sz lo l)=some (.int .i64 l)) ∧
  (∀ A esz lo hi mx n p l0 k,jN A esz lo hi mx (.view n p esz l0 k)=lZ n p esz l0 k esz lo hi mx (fy (ff p (A.o n))))∧(∀ n p sz l0 k lo hi mx fs,lZ n p sz l0 k sz lo hi mx (some fs)=mK n p sz l0 k fs.length lo hi mx) ∧
  (∀ esz z x rest A,bG A none (.jx esz z x) rest=oy A esz z (az rest) (ak A x))∧(∀ rest A d esz,bG A d (.bs0 esz) rest=az rest (A.aT d (.c0 esz))) :=
 ⟨Ub,Uz,W5,W6,Vd,fun _ _ _ _=>rfl⟩
theorem nO(rs:List bQ)(post:cA)(A:ai):nN rs post .ret A=iL rs post A:=rfl
theorem bC.jy{ts:List (Nat×I)}{os0:List (Nat×aq)}(ns:List Nat)(d:Nat){x y:I}(af:bU ts d=x)(h:bh true (au ts (ml ns os0)) x=some y)(ho:cV (fun n => !ns.contains n) (eF ns os0)) :
  bC (au ts os0) (au ((d,y)::lu ns ts) (eF ns os0)):=by
 rintro c a w ⟨D,E,ab⟩;obtain ⟨D1,E1,hs1,hw⟩:=ab.AH ns ho;have hu:ee (au ts (ml ns os0)) (au ts os0):=fun n z hz=>by
  simp only[au,oS] at hz ⊢;split at hz
  ·exact hz
  ·cases hz
 have hx:x.bS=true:=by cases x <;>first | rfl | simp[bh] at h
 have hv:=ab.dL d;simp only[au] at hv;rw[af] at hv;have J:aE w D E [x] [a.tmps.getD d undef]:=kP [x] _ (.cons hv .nil) (by intro z hz;simp only[X3] at hz;subst hz;exact hx);have U:=lx (E':=E1) ab hu hw [x] [y] _ J (by simp only[bZ,h]);have ah:aZ w D1 E1 y (a.tmps.getD d undef):=by
  simp only[aE] at U;obtain ⟨v',rest,cs,e,k1,k2,_⟩:=U;simp only[zz7] at e;obtain ⟨e1,_⟩:=e;rw[e1];exact jh k1 k2
 refine ⟨D1,E1,hs1.sz,hs1.er,fun t =>?_,hs1.dH,hs1.cU,hs1.aQ,hs1.bN,hs1.cJ,hs1.dM,hs1.eK,hs1.cM,hs1.eS,hs1.fp⟩;simp only[au,bU];split
 ·rename_i ht;subst ht;exact ah
 ·exact hs1.dL t
theorem Wl{w:World}{D:aP}{E:aY}{p:List Nat}{c x y:I}{cs:List Value}(hr:al w D E c cs)(h:c.at p=some x)(hxy:∀ ds,al w D E x ds→al w D E y ds)(ab:y.aX=x.aX):al w D E (c.eh p y) cs∧(c.eh p y).aX=c.aX:=by
 obtain ⟨off,c1,c2,c3,J,rfl,U,ah⟩:=wQ p c x cs hr h;obtain ⟨off',k1,k2,k3,k4⟩:=te p c x y _ c2 hr h (hxy c2 ah) ab;rw[J,v6] at k1;subst k1;refine ⟨?_,k4⟩;have e:(c1++c2++c3).take off++c2++(c1++c2++c3).drop (off+c2.length)=c1++c2++c3:=by
  rw[Y1 c1 c2 c3,←U,List.take_left,List.drop_length_add_append,List.drop_left,Y1]
 rw[←e];exact k3
theorem bC.Gc{A:ai}{m n T sz z:Nat}{p:List Nat}{b:I}(hm:A.o m=some (.box b))(hp:b.at p=some (.nils z))(hn:A.o n=none)(hlt:n<1000000):bC A ((A.aV n (.bW T sz [])).aV m (.box (b.eh p (.own n 0)))):=by
 rintro c a w ⟨D,E,h⟩;have ay:E n=none:=by have:=h.bN n;rw[hn] at this;exact this
 have hmn:m≠n:=fun e=>by rw[e,hn] at hm;cases hm
 have ao:dQ w D E w D (fun m=>if m=n then some (.rw none 0) else E m):=by
  have eG:∀ {m:Nat} {e:bJ},E m=some e→(if m=n then some (.rw none 0) else E m)=some e:=fun {m e} he=>by
   have:m≠n:=fun e=>by rw[e,ay] at he;cases he
   rw[if_neg this];exact he
  refine ⟨fun _ _ h=>h,fun _ _ _ _ h=>h,fun m b aX he=>eG he,fun m aF l he =>?_,fun m b he=>eG he,fun m b he=>eG he,fun _ _ _ _ h=>h⟩
  ·have:m≠n:=fun e=>by rw[e,ay] at he;cases he
   exact ⟨aF,l,by simp only[if_neg this];exact he,Z4 _,fun _=>rfl⟩
 refine ⟨D,fun m=>if m=n then some (.rw none 0) else E m,h.sz,h.er,fun t=>aZ.later ao (h.dL t),h.dH,h.cU,h.aQ,fun k =>?_,fun m m' e e' b J U ah ar =>?_,fun m e hm =>?_,h.eK,h.cM,h.eS,h.fp⟩
 ·simp only[ai.aV];by_cases hk:k=m
  ·subst hk;have ho:=h.bN k;rw[hm] at ho;obtain ⟨b',cs,T',J,U,ah,ar,h5⟩:=ho;obtain ⟨q1,q2⟩:=Wl (y:=.own n 0) (al.later ao _ _ ar) hp (fun ds af=>by
    simp only[al] at af;subst af;simp only[al,if_true];exact ⟨none,0,rfl,Z4 _,⟨_,_,_,rfl⟩,fun _=>trivial⟩) rfl
   simp only[if_true,cR];exact ⟨b',cs,T',by rw[q2];simp only[if_neg hmn];exact J,U,ah,q1,h5⟩
  ·simp only[if_neg hk];by_cases hkn:k=n
   ·subst hkn;simp only[if_true,cR];exact ⟨none,by simp,by simp,trivial⟩
   ·simp only[if_neg hkn];exact (h.bN k).later ao (by simp only[if_neg hkn]) fun _ _ _ _=>⟨rfl,fun _ ho=>ho⟩
 ·by_cases hm:m=n <;>by_cases hm':m'=n
  ·rw[hm,hm']
  ·simp only[if_pos hm,v6] at J;subst J;simp[bJ.aF] at ah
  ·simp only[if_pos hm',v6] at U;subst U;simp[bJ.aF] at ar
  ·simp only[if_neg hm] at J;simp only[if_neg hm'] at U;exact h.cJ m m' e e' b J U ah ar
 ·have hmn:m≠n:=fun e=>by rw[e,h.jW (.inr hlt)] at hm;cases hm
  simp only[if_neg hmn];exact h.dM m e hm
theorem bC.Gd{ts:List (Nat×I)}{os:List (Nat×aq)}(m n T sz z:Nat)(p:List Nat)(b:I)(hm:aj os m=some (.box b))(hp:b.at p=some (.nils z))(hn:aj os n=none){B:ai}(h:bC (au ts ((m,.box (b.eh p (.own n 0)))::(n,.bW T sz [])::os)) B)(hlt:n<1000000:=by decide):bC (au ts os) B :=
 ((bC.Gc (A:=au ts os) (T:=T) (sz:=sz) hm hp hn hlt).trans (by rw[qB,qB];exact bC.refl _)).trans h
mutual
theorem iz{p q:Nat→Bool}(h:∀ n,p n=true→q n=true):∀ x:I,x.only p=true→x.only q=true
 | .agg fs,hx | .tuple fs,hx=>by simp only[I.only] at *;exact hX h fs hx
 | .slice _ es,hx=>by simp only[I.only] at *;exact hX h es hx
 | .ref x,hx=>by simp only[I.only] at *;exact iz h x hx
 | .func _ caps,hx=>by simp only[I.only] at *;exact hX h caps hx
 | .iface _ v,hx=>by simp only[I.only] at *;exact iz h v hx
 | .ptr _ _,hx | .own _ _,hx | .view _ _ _ _ _,hx | .mref _,hx | .db _,hx=>by simp only[I.only] at *;exact h _ hx
 | .c7 ks vs,hx=>by simp only[I.only,t8] at *;exact ⟨hX h ks hx.1,hX h vs hx.2⟩
 | .bool _,_ | .int _ _,_ | .bO _,_ | .nilp,_ | .dn,_ | .dS,_ | .any,_ | .raw _,_ | .nils _,_ | .c0 _,_ | .undef,_ | .df,_=>by simp[I.only]
theorem hX{p q:Nat→Bool}(h:∀ n,p n=true→q n=true):∀ xs:List I,I.cn p xs=true→I.cn q xs=true
 | [],_=>rfl
 |x::xs,hx=>by
  simp only[I.cn,t8] at *;exact ⟨iz h x hx.1,hX h xs hx.2⟩
end
theorem aq.iz{p q:Nat→Bool}(h:∀ n,p n=true→q n=true)(x:aq)(hx:x.only p=true):x.only q=true:=by
 cases x with
 |box y=>simp only[aq.only] at *;exact Abs.iz h y hx
 |bW T sz es=>simp only[aq.only] at *;exact hX h es hx
 |dA o=>rfl
 |dC T xs=>rfl
 |bp ks vs=>simp only[aq.only,t8] at *;exact ⟨hX h ks hx.1,hX h vs hx.2⟩
 |it ks vs left cur=>simp only[aq.only,t8] at *;exact ⟨hX h ks hx.1,hX h vs hx.2⟩
theorem Bq{x:I}(h:x.bq=true):x.bS=true:=by
 cases x <;>first | rfl | simp[I.bq] at h
theorem rZ{aN:Bool}{A0:ai}{ρ:List (Nat×Nat)}{os:List (Nat×aq)} : ∀ xs:List I,I.b9 xs=true→gE aN A0 ρ os xs xs
 | [],_=>trivial
 |x::xs,h=>by
  simp only[I.b9,t8] at h;exact ⟨.inl ⟨(qU _ x h.1).symm,j0 _ x h.1,Bq h.1⟩,rZ xs h.2⟩
structure eT (os os':List (Nat×aq)):Prop where
 same:∀ m,av os' m=av os m
 ok:∀ m x,aj os' m=some x→x.only (av os')=true∧x.eb=true
 lA:∀ m,av os m=true→1000000≤m
def xP(P:Program)(g:FuncId)(caps:List I)(N:Nat)(item:Nat→List I):Prop :=
 ∀ (Y:Value→List I→List (Nat×aq)→cA→Prop) (v:Value) (a8:Nat→List (Nat×aq)→Prop) (Ix:List (Nat×aq)→Prop) (os:List (Nat×aq)),v.oneCell'=true →
  (∀ k os' post,k<N→a8 k os'→(∀ r os2,(r=.bool true∧a8 (k+1) os2)∨(r=.bool false∧Ix os2)→post r os2)→Y v (item k) os' post) →
  (∀ k os',a8 k os'→eT os os')→(∀ os',Ix os'→eT os os')→a8 0 os→kd P g Y (.raw v::caps) os (fun r os'=>r=.tuple []∧(a8 N os'∨Ix os'))
def ed(o:Obj)(os:List (Nat×aq)):List (Nat×aq):=(1999999,.dA o)::os
theorem kF(o:Obj)(os:List (Nat×aq))(m:Nat):av (ed o os) m=(decide (m=1999999)||av os m):=by
 simp only[ed,av,aj];by_cases h:m=1999999 <;>simp[h]
theorem oT(o:Obj)(os:List (Nat×aq))(m:Nat):aj (ed o os) m=if m=1999999 then some (.dA o) else aj os m:=rfl
theorem eT.ed{os os':List (Nat×aq)}(h:eT os os')(o o':Obj):eT (ed o os) (ed o' os'):=by
 refine ⟨fun m=>by rw[kF,kF,h.same],fun m x hx =>?_,fun m hm =>?_⟩
 ·rw[oT] at hx;split at hx
  ·cases hx;exact ⟨rfl,rfl⟩
  ·obtain ⟨J,U⟩:=h.ok m x hx;exact ⟨x.iz (fun n hn=>by rw[kF,hn];simp) J,U⟩
 ·rw[kF] at hm;simp only[Bool.or_eq_true,decide_eq_true_eq] at hm;rcases hm with rfl | hm
  ·decide
  ·exact h.lA m hm
def tc:List Nat→List I→List (Nat×I)→List (Nat×I)
 |p::ps,v::vs,ts=>tc ps vs ((p,v)::ts)
 |_,_,ts=>ts
def mL(ρ:List (Nat×Nat))(p:Nat→Bool)(ts:List (Nat×I)):List (Nat×I)→Prop
 | []=>True
 |(k,v)::r=>bU ts k=v.bl (bF ρ)∧v.only p=true∧mL ρ p ts r
theorem Ev{ρ:List (Nat×Nat)}{p:Nat→Bool}{ts:List (Nat×I)} : ∀ {tsR:List (Nat×I)},mL ρ p ts tsR→∀ k,bU tsR k=.df∨(bU ts k=(bU tsR k).bl (bF ρ)∧(bU tsR k).only p=true)
 | [],_,k=>.inl rfl
 |(j,v)::r,h,k=>by
  simp only[mL] at h;simp only[bU];split
  ·rename_i hk;subst hk;exact .inr ⟨h.1,h.2.1⟩
  ·exact Ev h.2.2 k
section
variable {c:cO} {a:Act} {w:World} {D:aP} {E:aY}
theorem aU.xf{A:ai}(h:aU c A a w D E){n b:Nat}{o o':Obj}(hn:A.o n=some (.dA o))(ay:E n=some (.op b))(ho:oM o'=true):aU c (A.aV n (.dA o')) a (w.putObj b o') D E:=by
 have hob:=h.bN n;rw[hn] at hob;obtain ⟨b',k1,k2,k3,k4,k5⟩:=hob;rw[ay] at k1;cases k1;have hnc:o.isCells=false:=by cases o <;>first | rfl | cases k4
 have hlt:b<w.heap.size:=fA k3;have ao:dQ w D E (w.putObj b o') D E:=⟨fun _ _ h=>h,fun b1 o1 v _ hv=>uH k3 hnc hv,fun _ _ _ h=>h,fun _ aF l h=>⟨aF,l,h,Z4 _,fun _=>rfl⟩,fun _ _ h=>h,fun _ _ h=>h,fun b1 es ck af hm=>(World.putObj_heap_other (fun e1=>k5 0 (by rw[←e1];exact af))).trans hm⟩
 refine ⟨h.sz,h.er.mono fun B _ hB=>(World.putObj_heap_other (fun e=>by rw[e,k3] at hB;cases hB;cases k4)).trans hB,fun t=>aZ.later ao (h.dL t),h.dH.trans ⟨rfl,rfl,rfl,by simp,fun k hk=>World.putObj_heap_other (fun e=>hk (e▸k2))⟩,h.cU,
  fun b1 o1 af=>by have:=h.aQ b1 o1 af;simpa using this,fun m =>?_,h.cJ,h.dM,h.eK,h.cM,h.eS,h.ka ao⟩
 simp only[ai.aV];by_cases hm:m=n
 ·subst hm;simp only[if_true,cR];exact ⟨b,ay,k2,World.putObj_heap_same hlt,ho,k5⟩
 ·simp only[if_neg hm];exact (h.bN m).later ao rfl fun e b1 he hb=>⟨World.putObj_heap_other (fun e1=>hm (h.cJ m n e _ b1 he ay hb (by rw[e1];rfl))),fun _ ho=>ho⟩
theorem aU.Lm{A:ai}(h:aU c A a w D E){n b:Nat}(ay:E n=some (.op b)):aU c ⟨A.t,fun m=>if m=n then none else A.o m⟩ a w D (fun m=>if m=n then none else E m):=by
 have hne:∀ {m:Nat} {e:bJ},E m=some e→(∀ b,e≠.op b)→m≠n:=fun he U e'=>by
  subst e';rw[ay] at he;cases he;exact U _ rfl
 have ao:dQ w D E w D (fun m=>if m=n then none else E m):=by
  refine ⟨fun _ _ h=>h,fun _ _ _ _ h=>h,fun m b aX he =>?_,fun m aF l he=>⟨aF,l,?_,Z4 _,fun _=>rfl⟩,fun m b he =>?_,fun m b he =>?_,fun _ _ _ _ h=>h⟩
  ·simp only[if_neg (hne he (fun b=>by simp))];exact he
  ·simp only[if_neg (hne he (fun b=>by simp))];exact he
  ·simp only[if_neg (hne he (fun b=>by simp))];exact he
  ·simp only[if_neg (hne he (fun b=>by simp))];exact he
 refine ⟨h.sz,h.er,fun t=>aZ.later ao (h.dL t),h.dH,h.cU,h.aQ,fun m =>?_,fun m m' e e' b J U ah ar =>?_,fun m e hm =>?_,h.eK,h.cM,h.eS,h.fp⟩
 ·by_cases hm:m=n
  ·simp only[hm,if_true,cR]
  ·simp only[if_neg hm];exact (h.bN m).later ao (by simp only[if_neg hm]) fun _ _ _ _=>⟨rfl,fun _ ho=>ho⟩
 ·split at J
  ·cases J
  ·split at U
   ·cases U
   ·exact h.cJ m m' e e' b J U ah ar
 ·by_cases hmn:m=n
  ·left;simp only[hmn,if_true]
  ·simp only[if_neg hmn];exact h.dM m e hm
theorem aU.enter{ts:List (Nat×I)}{os0:List (Nat×aq)}(h:aU c (au ts os0) a w D E)(hbase:c.fe=none)(hfree:aj os0 999999=none)(hE0:c.c9 999999=none){o:Obj}(ho:oM o=true) :
  ∃ E1,aU c (au ts ((999999,.dA o)::os0)) { a with defers := { target:=.collected w.heap.size,args := #[] } :: a.defers } ((w.alloc (.deferred (some []))).alloc o) D E1∧E1 999999=some (.op (w.heap.size+1))∧∀ xs vs,aE w D E xs vs→aE ((w.alloc (.deferred (some []))).alloc o) D E1 xs vs:=by
 have hb:Below w.heap.size w ((w.alloc (.deferred (some []))).alloc o):=((Below.refl _ w).alloc (Z4 _) _).alloc (by simp) _;have J:=h.grow (D':=D) hb (fun _ _ h=>h) (fun _ _ h _=>h) (fun b o' af=>by have:=h.aQ b o' af;simp;omega);obtain ⟨W,hW⟩:∃ W,W=(w.alloc (.deferred (some []))).alloc o:=⟨_,rfl⟩
 have hL:W.heap[w.heap.size+1]?=some o:=by
  rw[hW];have:=World.alloc_heap_new (w.alloc (.deferred (some []))) o;rwa [World.size_alloc] at this
 have hK:W.heap[w.heap.size]?=some (.deferred (some [])):=by
  rw[hW];exact (Below.heap_alloc _ _ _ (by simp)).trans (World.alloc_heap_new w _)
 rw[←hW] at J hb ⊢;have hEn:E 999999=none:=by have:=h.bN 999999;simp only[au,hfree] at this;exact this
 have ao:dQ W D E W D (fun m=>if m=999999 then some (.op (w.heap.size+1)) else E m):=by
  refine ⟨fun _ _ h=>h,fun _ _ _ _ h=>h,fun m b aX he =>?_,fun m aF l he=>⟨aF,l,?_,Z4 _,fun _=>rfl⟩,fun m b he =>?_,fun m b he =>?_,fun _ _ _ _ h=>h⟩
  all_goals
   have:m≠999999:=fun e=>by rw[e,hEn] at he;cases he
   simp only[if_neg this];exact he
 have hsz:c.fM.heap.size≤w.heap.size:=h.dH.size;have nb:∀ {m:Nat} {e:bJ} {b:Nat},E m=some e→e.aF=some b→b<w.heap.size:=fun he hb'=>h.fO he hb';refine ⟨fun m=>if m=999999 then some (.op (w.heap.size+1)) else E m,⟨J.sz,?_,fun t=>aZ.later ao (J.dL t),J.dH,J.cU,J.aQ,fun m =>?_,fun m m' e e' b g1 g2 g3 g4 =>?_,fun m e hm =>?_,J.eK,J.cM,J.eS,J.fp⟩,by simp,fun xs vs hx=>aE.later ao xs vs (aE.later (dQ.grow hb fun _ _ h=>h) xs vs hx)⟩
 ·have hdf:=J.er;rw[hbase] at hdf ⊢;obtain ⟨Bs,k1,k2,k3⟩:=hdf;refine ⟨w.heap.size::Bs,by simp only[Z3];rw[←k1],List.nodup_cons.2 ⟨fun hin =>?_,k2⟩,fun B hB =>?_⟩
  ·have hdf':=h.er;rw[hbase] at hdf';obtain ⟨Bs',j1,_,j3⟩:=hdf';have e1:Bs=Bs':=by
    have:Bs.map (fun B=>({ target:=.collected B,args := #[] } : Deferred))=Bs'.map (fun B => { target:=.collected B,args := #[] }):=by rw[←k1,←j1]
    exact (List.map_inj_right (fun x y hxy=>by simpa using hxy)).1 this
   rw[e1] at hin;have:=fA (j3 _ hin).2;omega
  ·rcases zz8.1 hB with rfl | hB
   ·exact ⟨hsz,hK⟩
   ·exact k3 B hB
 ·simp only[au,aj];by_cases hm:m=999999
  ·subst hm;simp only[if_true,cR];exact ⟨_,rfl,.inl (by omega),hL,ho,fun o' af=>by have:=h.aQ _ o' af;omega⟩
  ·simp only[if_neg hm];exact (J.bN m).later ao (by simp only[if_neg hm]) fun _ _ _ _=>⟨rfl,fun _ ho=>ho⟩
 ·by_cases hm:m=999999 <;>by_cases hm':m'=999999
  ·rw[hm,hm']
  ·simp only[if_pos hm,v6] at g1;simp only[if_neg hm'] at g2;subst g1;simp only[bJ.aF,v6] at g3;have:=nb g2 g4;omega
  ·simp only[if_neg hm] at g1;simp only[if_pos hm',v6] at g2;subst g2;simp only[bJ.aF,v6] at g4;have:=nb g1 g3;omega
  ·simp only[if_neg hm] at g1;simp only[if_neg hm'] at g2;exact h.cJ m m' e e' b g1 g2 g3 g4
 ·have hmn:m≠999999:=fun e=>by rw[e,hE0] at hm;cases hm
  simp only[if_neg hmn];exact h.dM m e hm
theorem cR.hJ{M M':Nat→Prop}{n:Nat}{x:Option aq}(h:cR M w D E n x)(hM:∀ e b,E n=some e→e.aF=some b→M' b):cR M' w D E n x:=by
 unfold cR at *;split
 ·exact h
 ·obtain ⟨b,cs,T,J,_,ah⟩:=h;exact ⟨b,cs,T,J,hM _ b J rfl,ah⟩
 ·obtain ⟨aF,J,U,ah⟩:=h;refine ⟨aF,J,U,?_⟩;split
  ·exact ah
  ·obtain ⟨cs,pre,rest,_,ar⟩:=ah;exact ⟨cs,pre,rest,hM _ _ J rfl,ar⟩
 ·obtain ⟨b,J,_,ah⟩:=h;exact ⟨b,J,hM _ b J rfl,ah⟩
 ·obtain ⟨b,es,ck,J,_,ah⟩:=h;exact ⟨b,es,ck,J,hM _ b J rfl,ah⟩
 ·obtain ⟨r,b,es,ck,si,se,la,J,_,ah⟩:=h;exact ⟨r,b,es,ck,si,se,la,J,hM _ r J rfl,ah⟩
 ·obtain ⟨aF,J,U,ah⟩:=h;refine ⟨aF,J,U,?_⟩;split
  ·exact ah
  ·obtain ⟨cs,m,_,ar⟩:=ah;exact ⟨cs,m,hM _ _ J rfl,ar⟩
theorem aU.CI{os:List (Nat×aq)} : ∀ (ps:List Nat) (vs:List Value) (xs:List I) (ts:List (Nat×I)) (a:Act),aU c (au ts os) a w D E→(∀ p∈ps,p<c.n)→aE w D E xs vs→ps.length=vs.length →
  aU c (au (tc ps xs ts) os) { a with tmps:=(ps.zip vs).foldl (fun t q=>t.setIfInBounds q.1 q.2) a.tmps } w D E
 | [],[],xs,ts,a,h,_,hv,_=>by
  cases xs with
  |nil=>exact h
  |cons x xs=>simp[aE] at hv
 | [],_::_,_,_,_,_,_,_,ao=>by simp at ao
 |_::_,[],_,_,_,_,_,_,ao=>by simp at ao
 |p::ps,v::vs,xs,ts,a,h,hp,hv,ao=>by
  cases xs with
  |nil=>simp[aE] at hv
  |cons x xs =>
   simp only[aE] at hv;obtain ⟨v',rest,cs,e,J,U,ah⟩:=hv;simp only[zz7] at e;obtain ⟨rfl,rfl⟩:=e;have ar:=h.put (hp p (by simp)) (jh J U);rw[sM] at ar;have:=aU.CI ps vs xs ((p,x)::ts) (a.put (some p) v) ar (fun q hq=>hp q (by simp[hq])) ah (by simpa using ao);exact this
end
end Go.Abs
namespace Go.Abs
open Go Go.RowKit
def iG:bR→Bool
 | .mv _ | .pick .. | .bin .. | .eqv .. | .conv .. | .un .. | .fl .. | .ix .. | .lenT _ | .bld .. | .ext .. | .mk .. | .nilC _ | .ptrE .. | .max2 .. =>true
 | .ld .. | .fa .. | .ia .. | .is .. | .len _ | .va .. | .bs .. | .sl .. | .cap _ | .bs0 _ | .lk .. =>true
 |_=>false
def mw:bR→Bool
 | .alloc _ | .box _ | .bd .. | .call .. | .fF .. | .dm .. =>true
 |op=>iG op
def oR(ab:List FuncId):bR→Bool
 | .alloc _ | .box _=>true
 | .call f _ => !ab.contains f
 |op=>iG op
abbrev dW:=List (Nat×List Nat)
def gY(L:dW)(s:Nat):Option (List Nat):=(L.find? fun q=>q.1==s).map (·.2)
def cP(L:dW)(A:ai):Prop:=∀ s ns,gY L s=some ns→(A.t s).only (fun n=>ns.contains n)=true
def qt(L:dW):aO→Option (List Nat)
 | .t s=>gY L s
 | .c x=>if x.bq then some [] else none
def tD(a:Option (List Nat))(ns:List Nat):Bool:=match a with
 |some ms=>ms.all fun m=>ns.contains m
 |none=>false
def gZ(L:dW)(g:aC):Bool:=match g.dst with
 |none=>true
 |some d=>match gY L d with
  |none=>true
  |some ns=>match g.op with
   | .mv x | .nilC x | .fa _ _ x | .ia _ _ x _=>tD (qt L x) ns
   | .bin .. | .len _ | .bs .. | .bs0 _ | .conv .. | .lenT _=>true
   | .box _ | .alloc _=>ns.contains d
   |_=>false
def mr:bR→Option (List Nat)
 | .ld _ (.t x) | .fa _ _ (.t x) | .ia _ _ (.t x) _ | .is _ (.t x) _ | .len (.t x) | .va _ _ (.t x) | .sl _ (.t x) _ _ _ | .cap (.t x) | .lk _ _ _ (.t x) _=>some [x]
 | .bs _ _ ps=>if (ps.all fun x=>match x with | .t _=>true | .c _=>false)=true then some (jo ps) else none
 | .bs0 _=>some []
 |op=>if op.gv=0∧iG op=true then some [] else none
def rX(L:dW)(g:aC)(p:Nat→Bool):Bool:=match mr g.op with
 |some xs=>xs.all fun s=>match gY L s with | some ns=>ns.all p | none=>false
 |none=>false
def nF(ab:List FuncId)(L:dW)(g h:aC):Bool:=oR ab h.op||match h.op with
 | .bd _ (.t y) _=>match mr g.op with
  |some []=>true
  |_=>match gY L y with
   |some ms=>rX L g fun n => !ms.contains n
   |none=>false
 | .bd .. =>match mr g.op with
  |some []=>true
  |_=>false
 | .dm _ _ _ _ s _=>rX L g (fun _=>false)||tD (qt L s) []
 |_=>false
def mg(ab:List FuncId)(L:dW)(g h:aC):Bool:=iG g.op&&(nF ab L g h&&((match g.dst with
  |some d => !h.cW.contains d&&h.dst != some d
  |none=>true)&&(match h.dst with
  |some d => !g.cW.contains d
  |none=>true)))
theorem vB{op:bR}(h:iG op=true)(A:ai)(dst:Option Nat)(rest:List aC)(k:ai→cH):bj A dst op rest k=cL (bm A op) fun v=>k (A.aT dst v):=by
 cases op <;>first | rfl | cases h
inductive bM (P:Program) (Y:Value→List I→List (Nat×aq)→cA→Prop) (ab:List FuncId) (K:ai→Prop):cH→Prop where
 |done {A:ai} : K A→bM P Y ab K (.done A)
 |flat {f:FuncId} {avs cargs:List I} {a2:Option (List I)} {dst:Option Nat} {rest:List aC} {A:ai} (r:I):bf P f cargs r→r.flat=true→bM P Y ab K (az rest (A.aT dst r))→bM P Y ab K (.call f avs (some cargs) a2 dst rest A)
 |lead {f:FuncId} {avs cargs:List I} {a1:Option (List I)} {dst:Option Nat} {rest:List aC} {A:ai} (r:I):bf P f cargs r→bM P Y ab K (az rest (A.aT dst r))→bM P Y ab K (.call f avs a1 (some cargs) dst rest A)
 |bN {f:FuncId} {avs:List I} {a1 a2:Option (List I)} {dst:Option Nat} {rest:List aC} {ts:List (Nat×I)} {os0:List (Nat×aq)} (ρ:List (Nat×Nat)) (cargs:List I) (post:cA):cN P f cargs [] post →
   fX ρ [] os0→gE false (au ts os0) ρ [] avs cargs→(∀ r os',post r os'→gq false ρ [] os0 r os') →
   (∀ r os',post r os'→bM P Y ab K (az rest ((au ts (dv ρ os'++os0)).aT dst (r.bl (bF ρ)))))→bM P Y ab K (.call f avs a1 a2 dst rest (au ts os0))
 |any {p:Nat→Prop} {k:Nat→cH} : (∀ m,p m→bM P Y ab K (k m))→bM P Y ab K (.any p k)
 |wk {f:FuncId} {avs:List I} {a1 a2:Option (List I)} {dst:Option Nat} {rest:List aC} {ts:List (Nat×I)} {os0:List (Nat×aq)} (aN:Bool) (ρ:List (Nat×Nat)) (os:List (Nat×aq)) (cargs:List I) (post:cA):ab.contains f=true→cN P f cargs os post →
   fX ρ os os0→gE aN (au ts (eF (iv ρ os) os0)) ρ os avs cargs→(∀ r os',post r os'→gq aN ρ os os0 r os') →
   (∀ r os',post r os'→bM P Y ab K (az rest ((au ts (dv ρ os'++os0)).aT dst (r.bl (bF ρ)))))→bM P Y ab K (.call f avs a1 a2 dst rest (au ts os0))
 |ER {v:Value} {avs:List I} {dst:Option Nat} {rest:List aC} {ts:List (Nat×I)} {os0:List (Nat×aq)} (os:List (Nat×aq)) (cargs:List I) (post:cA):Y v cargs os post →
   fX [] os os0→gE false (au ts (eF (iv [] os) os0)) [] os avs cargs→(∀ r os',post r os'→gq false [] os os0 r os') →
   (∀ r os',post r os'→bM P Y ab K (az rest ((au ts (dv [] os'++os0)).aT dst (r.bl (bF [])))))→bM P Y ab K (.kq v avs dst rest (au ts os0))
theorem Ac(os:List (Nat×aq)):eF [] os=os:=by simp[eF]
section
variable {P:Program} {ab:List FuncId} {K:ai→Prop} {Y:Value→List I→List (Nat×aq)→cA→Prop}
theorem bM.xY{p:Nat→Prop}{k:Nat→cH}(h:bM P Y ab K (.any p k)):∀ m,p m→bM P Y ab K (k m):=by cases h;assumption
theorem cP.put{L:dW}{A B:ai}(h:cP L A)(ht:∀ k,B.t k=A.t k){dst:Option Nat}{v:I}(hv:∀ d,dst=some d→∀ ns,gY L d=some ns→v.only (fun n=>ns.contains n)=true):cP L (B.aT dst v):=by
 intro s ns hs';cases dst with
 |none=>exact (ht s).symm▸h s ns hs'
 |some d =>
  simp only[ai.aT,ai.put];by_cases af:s=d
  ·rw[if_pos af];exact hv d rfl ns (af▸hs')
  ·rw[if_neg af,ht];exact h s ns hs'
theorem ru{L:dW}{A:ai}(h:cP L A){x:aO}{ns:List Nat}(hx:tD (qt L x) ns=true):(ak A x).only (fun n=>ns.contains n)=true:=by
 cases x with
 |c x =>
  simp only[qt] at hx;split at hx
  ·rename_i hc;exact j0 _ x hc
  ·cases hx
 |t s =>
  simp only[qt] at hx;cases ao:gY L s with
  |none=>rw[ao] at hx;cases hx
  |some ms =>
   rw[ao] at hx;simp only[tD,X0] at hx;exact iz (fun n hn=>hx n (by simpa using hn)) _ (h s ms ao)
theorem GW{op:BinOp}{x y v:I}(p:Nat→Bool)(h:cv op x y=some v):v.only p=true:=by
 unfold cv at h
 (repeat' split at h) <;>first | (cases h;done) | (simp only[v6] at h;subst h;rfl)
theorem wA{p:Nat→Bool} : ∀ {xs:List I} {i:Nat} {x:I},I.cn p xs=true→xs[i]?=some x→x.only p=true
 | [],_,_,_,h=>by simp at h
 |a::xs,0,x,h,e=>by
  simp only[I.cn,t8] at h;simp only[List.getElem?_cons_zero,v6] at e;exact e▸h.1
 |a::xs,i+1,x,h,e=>by
  simp only[I.cn,t8] at h;exact wA (xs:=xs) h.2 (by simpa using e)
theorem Cg{L:dW}{A:ai}{g:aC}(h:cP L A)(hg:gZ L g=true){v:I}(hv:bm A g.op=some v):∀ d,g.dst=some d→∀ ns,gY L d=some ns→v.only (fun n=>ns.contains n)=true:=by
 intro d af ns hn;obtain ⟨dst,op,gd⟩:=g;simp only at af hv;subst af;simp only[gZ,hn] at hg;cases op <;>simp only at hg <;>(try (cases hg;done)) <;>simp only[bm] at hv <;>(try (cases hv;done))
 case mv x=>simp only[v6] at hv;exact hv▸ru h hg
 case nilC x =>
  have:=ru h hg;generalize ak A x=u at hv this;cases u <;>simp only[lF] at hv <;>first | (cases hv;done) | (simp only[v6] at hv;exact hv▸this)
 case bin op x y=>exact GW _ hv
 case conv k x=>split at hv <;>first | (cases hv;done) | (simp only[v6] at hv;subst hv;rfl)
 case lenT x=>split at hv <;>first | (cases hv;done) | (simp only[v6] at hv;subst hv;rfl)
 case len x=>(repeat' split at hv) <;>first | (cases hv;done) | (simp only[v6] at hv;subst hv;rfl)
 case bs0 e=>simp only[v6] at hv;subst hv;rfl
 case bs e ps =>
  split at hv
  ·split at hv
   ·rename_i hc;simp only[v6] at hv;subst hv;simp only[I.only];exact nE _ _ hc.2
   ·cases hv
  ·cases hv
 case fa f off x =>
  have hx:=ru h hg;split at hv
  ·rename_i fs he;rw[he] at hx;simp only[I.only] at hx;split at hv
   ·rename_i u hu;split at hv
    ·simp only[v6] at hv;subst hv;simp only[I.only];exact wA hx hu
    ·cases hv
   ·cases hv
  ·rename_i n q he;rw[he] at hx;simp only[I.only] at hx;split at hv
   ·split at hv
    ·simp only[v6] at hv;subst hv;simpa only[I.only] using hx
    ·cases hv
   ·cases hv
  ·cases hv
 case ia n esz x i =>
  have hx:=ru h hg;split at hv
  case h_2=>cases hv
  split at hv
  case isFalse=>cases hv
  split at hv
  ·rename_i fs he;rw[he] at hx;simp only[I.only] at hx;split at hv
   ·simp only[t7] at hv;obtain ⟨u,hu,rfl⟩:=hv;simp only[I.only];exact wA hx hu
   ·cases hv
  ·rename_i m q he;rw[he] at hx;simp only[I.only] at hx;split at hv
   ·split at hv
    ·simp only[v6] at hv;subst hv;simpa only[I.only] using hx
    ·cases hv
   ·cases hv
  ·cases hv
def ga(A:ai)(dst:Option Nat)(s:I)(B:ai):Prop:=(∀ t,dst≠some t→B.t t=A.t t)∧(s.only (fun _=>false)=true→ee A B)
def mT(A:ai)(dst:Option Nat)(s:I)(R:(ai→cH)→cH):Prop :=
 (∀ k,R k=.fail)∨(∃ B,(∀ k,R k=k B)∧ga A dst s B)∨∃ (p:Nat→Prop) (bz:Nat→ai),(∀ k,R k=.any p fun m=>k (bz m))∧∀ m,ga A dst s (bz m)
theorem qN{A B:ai}{dst:Option Nat}{v:I}{t:Nat}(ht:∀ k,B.t k=A.t k)(h:dst≠some t):(B.aT dst v).t t=A.t t:=by
 cases dst with
 |none=>exact ht t
 |some d =>
  have:t≠d:=fun e=>h (by rw[e]);simp only[ai.aT,ai.put,if_neg this];exact ht t
theorem Gn(A:ai)(dst:Option Nat)(esz bytes:Nat)(z s:I)(es ys:List I):mT A dst s (fN A dst esz bytes z es ys):=by
 cases dst with
 |none=>exact .inl fun _=>rfl
 |some d =>
  cases ho:A.o d with
  |some y=>exact .inl fun k=>by simp only[fN,ho]
  |none =>
   by_cases hc:(es.length+ys.length)*bytes≤140737488355328∧es.length+ys.length≤maxLen
   ·refine .inr (.inr ⟨_,fun m=>(A.aV d (.box (.agg (es++(ys++List.replicate m z))))).aT (some d) (.view d [] esz 0 (es.length+ys.length)),fun k=>by simp only[fN,ho];rw[if_pos hc],fun m=>⟨fun t ht=>qN (A:=A) (B:=A.aV d _) (fun _=>rfl) ht,fun _ n y hy =>?_⟩⟩);have:n≠d:=fun e=>by rw[e,ho] at hy;cases hy
    rw[h1];simp only[ai.aV,if_neg this];exact hy
   ·exact .inl fun k=>by simp only[fN,ho];rw[if_neg hc]
theorem Gt(A:ai)(dst:Option Nat)(esz bytes:Nat)(z s:I)(es ys:Option (List I)):mT A dst s (eW A dst esz bytes z s es ys):=by
 cases es with
 |none=>exact .inl fun _=>rfl
 |some es =>
  cases ys with
  |none=>exact .inl fun _=>rfl
  |some ys =>
   by_cases aW:ys=[]
   ·exact .inr (.inl ⟨A.aT dst s,fun k=>by simp only[eW,if_pos aW],fun t ht=>qN (A:=A) (fun _=>rfl) ht,fun _ n y hy=>by rw[h1];exact hy⟩)
   ·have gg:=fun s'=>Gn A dst esz bytes z s' es ys;cases s
    case nils=>simp only[mT,eW,if_neg aW];exact gg _
    case c0=>simp only[mT,eW,if_neg aW];exact gg _
    case view n p sz lo l =>
     cases ho:A.o n with
     |none=>exact .inl fun k=>by simp only[eW,if_neg aW,ho]
     |some y =>
      cases y with
      |box b =>
       cases hb:b.at p with
       |none=>exact .inl fun k=>by simp only[eW,if_neg aW,ho,hb]
       |some c =>
        cases c
        case agg fs =>
         by_cases J:lo+l+ys.length≤fs.length
         ·by_cases U:sz=esz∧I.cT ys=I.cT ((fs.drop (lo+l)).take ys.length)
          ·exact .inr (.inl ⟨(A.aV n (.box (iV b p (lo+l) fs ys))).aT dst (.view n p esz lo (l+ys.length)),fun k=>by simp only[eW,if_neg aW,ho,hb,if_pos J];rw[if_pos U],fun t ht=>qN (A:=A) (B:=A.aV n _) (fun _=>rfl) ht,fun h=>by simp[I.only] at h⟩)
          ·exact .inl fun k=>by simp only[eW,if_neg aW,ho,hb,if_pos J];rw[if_neg U]
         ·simp only[mT,eW,if_neg aW,ho,hb,if_neg J];exact gg _
        all_goals exact .inl fun k=>by simp only[eW,if_neg aW,ho,hb]
      |_=>exact .inl fun k=>by simp only[eW,if_neg aW,ho]
    all_goals exact .inl fun k=>by simp only[eW,if_neg aW]
theorem x2(A:ai)(dst:Option Nat)(e esz bytes:Nat)(z:I)(s x:aO)(rest:List aC):mT A dst (ak A s) (bj A dst (.dm e esz bytes z s x) rest):=by
 generalize ab:ak A s=xq;cases xq
 case own n l =>
  cases hx:ak A x
  case slice sz ys =>
   cases ho:A.o n with
   |none=>exact .inl fun k=>by simp only[bj,ab,hx,ho]
   |some y =>
    cases y with
    |bW T sz' es =>
     by_cases hc:wo e esz bytes l sz ys T sz' es
     ·exact .inr (.inl ⟨(A.aV n (.bW e esz (es++ys))).aT dst (.own n (es.length+ys.length)),fun k=>by simp only[bj,ab,hx,ho];rw[if_pos hc],fun t ht=>qN (A:=A) (B:=A.aV n _) (fun _=>rfl) ht,fun h=>by simp[I.only] at h⟩)
     ·exact .inl fun k=>by simp only[bj,ab,hx,ho];rw[if_neg hc]
    |dC T xs =>
     by_cases hc:wq e esz bytes l ys T xs z
     ·exact .inr (.inl ⟨(A.aV n (.dC e (xs++qg ys))).aT dst (.own n (xs.length+ys.length)),fun k=>by simp only[bj,ab,hx,ho];rw[if_pos hc],fun t ht=>qN (A:=A) (B:=A.aV n _) (fun _=>rfl) ht,fun h=>by simp[I.only] at h⟩)
     ·exact .inl fun k=>by simp only[bj,ab,hx,ho];rw[if_neg hc]
    |_=>exact .inl fun k=>by simp only[bj,ab,hx,ho]
  all_goals exact .inl fun k=>by simp only[bj,ab,hx]
 all_goals (simp only[mT,bj,ab];exact Gt ..)
theorem wL{A:ai}{d:Nat}{v:I}{n:Nat}{y:aq}{dst:Option Nat}{u:I}(h:dst≠some d):((A.put d v).aV n y).aT dst u=((A.aV n y).aT dst u).put d v:=by
 cases dst with
 |none=>rfl
 |some e =>
  have:e≠d:=fun he=>h (by rw[he]);simp only[ai.aT,ai.put,ai.aV,ai.mk.injEq,and_true]
  funext k
  by_cases J:k=e <;>by_cases U:k=d <;>simp_all
theorem Wi{A:ai}{d:Nat}{v:I}{dst:Option Nat}{u:I}(h:dst≠some d):(A.put d v).aT dst u=(A.aT dst u).put d v:=by
 cases dst with
 |none=>rfl
 |some e =>
  have:e≠d:=fun he=>h (by rw[he]);simp only[ai.aT,ai.put,ai.mk.injEq,and_true]
  funext k
  by_cases J:k=e <;>by_cases U:k=d <;>simp_all
theorem Gp{A:ai}{d:Nat}{v:I}{dst:Option Nat}(h:dst≠some d)(esz bytes:Nat)(z:I)(es ys:List I)(k:ai→cH):fN (A.put d v) dst esz bytes z es ys k=fN A dst esz bytes z es ys fun B=>k (B.put d v):=by
 cases dst with
 |none=>rfl
 |some e =>
  simp only[fN];have:(A.put d v).o=A.o:=rfl;rw[this];cases A.o e with
  |some _=>rfl
  |none =>
   simp only;split
   ·simp only[wL h]
   ·rfl
theorem Gu{A:ai}{d:Nat}{v:I}{dst:Option Nat}(h:dst≠some d)(esz bytes:Nat)(z s:I)(es ys:Option (List I))(k:ai→cH):eW (A.put d v) dst esz bytes z s es ys k=eW A dst esz bytes z s es ys fun B=>k (B.put d v):=by
 have ho:(A.put d v).o=A.o:=rfl;cases es with
 |none=>rfl
 |some es =>
  cases ys with
  |none=>rfl
  |some ys =>
   simp only[eW];split
   ·rw[Wi h]
   ·cases s <;>simp only[Gp h,ho]
    rename_i n p sz lo l;cases A.o n with
    |none=>rfl
    |some y =>
     cases y with
     |box b =>
      simp only;cases b.at p with
      |none=>rfl
      |some c =>
       cases c <;>simp only[wL h]
     |_=>rfl
theorem Gy{A:ai}{d:Nat}{v:I}{dst:Option Nat}(h:dst≠some d){e esz bytes:Nat}{z:I}{s x:aO}(hag:dZ A (A.put d v) (s.sl++x.sl))(rest rest':List aC)(k:ai→cH) :
  bj (A.put d v) dst (.dm e esz bytes z s x) rest k=bj A dst (.dm e esz bytes z s x) rest' fun B=>k (B.put d v):=by
 have ho:(A.put d v).o=A.o:=rfl;have hsrc:∀ y,eE (A.put d v) esz y=eE A esz y:=fun y=>by cases y <;>rfl
 simp only[bj,cY hag.l,cY hag.r,hsrc];cases ak A s <;>simp only[Gu h]
 rename_i n l;cases ak A x <;>simp only[ho]
 cases A.o n with
 |none=>rfl
 |some y=>cases y <;>simp only[wL h]
theorem bM.zE{L:dW}{f:FuncId}{avs:List I}{a1 a2:Option (List I)}{dst:Option Nat}{rest:List aC}{A:ai}(hi:cP L A)(af:∀ d,dst=some d→gY L d=none)(h:bM P Y ab K (.call f avs a1 a2 dst rest A)) :
  aR P Y false (fun B=>bM P Y ab K (az rest B)∧cP L B) (.call f avs a1 a2 dst [] A):=by
 have no:∀ {v:I},∀ d,dst=some d→∀ ns,gY L d=some ns→v.only (fun n=>ns.contains n)=true:=fun d e ns hn=>by rw[af d e] at hn;cases hn
 cases h with
 |flat r hc hf hw=>exact .flat r hc hf (.done ⟨hw,hi.put (fun _=>rfl) no⟩)
 |lead r hc hw=>exact .lead r hc (.done ⟨hw,hi.put (fun _=>rfl) no⟩)
 |bN ρ cargs post hc hg ha hb hw=>exact .bN false ρ [] cargs post rfl hc hg (by simp only[iv,X7,Ac];exact ha) hb fun r os' hp=>.done ⟨hw r os' hp,hi.put (B:=au _ (dv ρ os'++_)) (fun _=>rfl) no⟩
 |wk aN ρ os cargs post _ hc hg ha hb hw=>exact .bN aN ρ os cargs post rfl hc hg ha hb fun r os' hp=>.done ⟨hw r os' hp,hi.put (B:=au _ (dv ρ os'++_)) (fun _=>rfl) no⟩
theorem bM.Ie{L:dW}{v:Value}{avs:List I}{dst:Option Nat}{rest:List aC}{A:ai}(hi:cP L A)(af:∀ d,dst=some d→gY L d=none)(h:bM P Y ab K (.kq v avs dst rest A)) :
  aR P Y false (fun B=>bM P Y ab K (az rest B)∧cP L B) (.kq v avs dst [] A):=by
 have no:∀ {v:I},∀ d,dst=some d→∀ ns,gY L d=some ns→v.only (fun n=>ns.contains n)=true:=fun d e ns hn=>by rw[af d e] at hn;cases hn
 cases h with
 |ER os cargs post hc hg ha hb hw=>exact .tK os cargs post rfl hc hg ha hb fun r os' hp=>.done ⟨hw r os' hp,hi.put (B:=au _ (dv [] os'++_)) (fun _=>rfl) no⟩
theorem bM.one{L:dW}{A:ai}{g:aC}{rest:List aC}(hi:cP L A)(ho:mw g.op=true)(hL:gZ L g=true)(h:bM P Y ab K (bj A g.dst g.op rest (az rest))):aR P Y false (fun B=>bM P Y ab K (az rest B)∧cP L B) (bj A g.dst g.op [] (az [])):=by
 have hval:=fun v (hv:bm A g.op=some v)=>Cg hi hL hv;obtain ⟨dst,op,gd⟩:=g;simp only at ho h hval ⊢;have pure:iG op=true→aR P Y false (fun B=>bM P Y ab K (az rest B)∧cP L B) (bj A dst op [] (az [])):=by
  intro hsm;rw[vB hsm] at h ⊢;cases hv:bm A op with
  |none=>rw[hv] at h;cases h
  |some v=>rw[hv] at h;exact .done ⟨h,hi.put (fun _=>rfl) (hval v hv)⟩
 have unl:(∀ ns d,dst=some d→gY L d=some ns→gZ L ⟨dst,op,gd⟩=false)→∀ d,dst=some d→gY L d=none:=fun J d af=>by
  cases hn:gY L d with
  |none=>rfl
  |some ns=>rw[J ns d af hn] at hL;cases hL
 cases op with
 |alloc z =>
  cases dst with
  |none=>simp only[bj] at h;cases h
  |some d =>
   simp only[bj] at h ⊢;split at h
   case h_2=>cases h
   refine .done ⟨h,hi.put (B:=A.aV d _) (dst:=some d) (fun _=>rfl) fun d' e ns hn =>?_⟩;simp only[v6] at e;subst e;simpa only[gZ,hn,I.only] using hL
 |box x =>
  cases dst with
  |none=>simp only[bj] at h;cases h
  |some d =>
   simp only[bj] at h ⊢;split at h
   case h_2=>cases h
   split at h
   case isFalse=>cases h
   rename_i hv;rw[if_pos hv];refine .done ⟨h,hi.put (B:=A.aV d _) (dst:=some d) (fun _=>rfl) fun d' e ns hn =>?_⟩;simp only[v6] at e;subst e;simpa only[gZ,hn,I.only] using hL
 |bd s x v =>
  cases dst with
  |some d=>simp only[bj] at h;cases h
  |none =>
   simp only[bj] at h ⊢;split at h
   case h_2=>cases h
   rename_i n p hx;split at h
   case h_2=>cases h
   rename_i b hb;split at h
   case h_2=>cases h
   rename_i old hold;split at h
   case isFalse=>cases h
   rename_i hok;simp only[if_pos hok];exact .done ⟨h,fun s ns hn=>hi s ns hn⟩
 |call f args=>exact bM.zE hi (unl fun ns d e hn=>by subst e;simp only[gZ,hn]) h
 |fF x args =>
  have hu:=unl fun ns d e hn=>by subst e;simp only[gZ,hn]
  simp only[bj] at h ⊢;split at h
  ·exact bM.zE hi hu h
  ·exact bM.Ie hi hu h
  ·cases h
 |dm e esz bytes z s x =>
  have hu:=unl fun ns d e hn=>by subst e;simp only[gZ,hn]
  have sC:∀ B,ga A dst (ak A s) B→cP L B:=fun B hB t ns hn=>by
   rw[hB.1 t fun e=>by rw[hu t e] at hn;cases hn];exact hi t ns hn
  have hf:=x2 A dst e esz bytes z s x;rcases hf rest with J | ⟨B,J,U⟩ | ⟨p,bz,J,U⟩
  ·rw[J] at h;cases h
  ·rw[J] at h;have:bj A dst (.dm e esz bytes z s x) [] (az [])=az [] B:=(show bj A dst (.dm e esz bytes z s x) [] (az [])=bj A dst (.dm e esz bytes z s x) rest (az []) from rfl).trans (J _);rw[this];exact .done ⟨h,sC B U⟩
  ·rw[J] at h;have:bj A dst (.dm e esz bytes z s x) [] (az [])=.any p fun m=>az [] (bz m):=(show bj A dst (.dm e esz bytes z s x) [] (az [])=bj A dst (.dm e esz bytes z s x) rest (az []) from rfl).trans (J _);rw[this];exact .any rfl fun m hm=>.done ⟨h.xY m hm,sC _ (U m)⟩
 |_=>first | exact pure rfl | cases ho
def gb(g:aC)(A:ai)(v:I):Prop:=(gh A g∧v=.undef)∨(pass A g∧bm A g.op=some v)
theorem bM.xk{A:ai}{g:aC}{rest:List aC}(hs':iG g.op=true)(h:bM P Y ab K (az (g::rest) A)):∃ v,gb g A v∧bM P Y ab K (az rest (A.aT g.dst v)):=by
 have step:pass A g→bM P Y ab K (bj A g.dst g.op rest (az rest))→∃ v,gb g A v∧bM P Y ab K (az rest (A.aT g.dst v)):=by
  intro hp h;rw[vB hs'] at h;cases hv:bm A g.op with
  |none=>rw[hv] at h;cases h
  |some v=>rw[hv] at h;exact ⟨v,.inr ⟨hp,hv⟩,h⟩
 simp only[az] at h;split at h
 ·rename_i hg;exact step (by simp only[pass,hg]) h
 ·rename_i t b hg;split at h
  ·rename_i b' hb;split at h
   ·rename_i hbb;subst hbb;exact step (by simp only[pass,hg];exact hb) h
   ·rename_i hbb;exact ⟨_,.inl ⟨by simp only[gh,hg];exact .inl (by rw[hb,um hbb]),rfl⟩,h⟩
  ·rename_i hb;exact ⟨_,.inl ⟨by simp only[gh,hg];exact .inr hb,rfl⟩,h⟩
  ·cases h
theorem rW{A:ai}{g:aC}{rest:List aC}(hn:gh A g):az (g::rest) A=az rest (A.aT g.dst .undef):=by
 simp only[az];cases hg:g.guard with
 |none=>simp only[gh,hg] at hn
 |some tb =>
  obtain ⟨t,b⟩:=tb;simp only[gh,hg] at hn;rcases hn with hn | hn
  ·simp only[hn];rw[if_neg (by cases b <;>simp)]
  ·simp only[hn]
theorem gb.to{A:ai}{g:aC}{rest:List aC}{v:I}(hs':iG g.op=true)(h:gb g A v):az (g::rest) A=az rest (A.aT g.dst v):=by
 rcases h with ⟨hn,rfl⟩ | ⟨hp,hv⟩
 ·exact rW hn
 ·rw[mZ hp,vB hs',hv];rfl
theorem K4{A A':ai}{p:Nat→Bool}(ho:∀ n,p n=true→A'.o n=A.o n){x:I}(hx:x.only p=true):cC A' x=cC A x:=by
 cases x <;>simp only[cC]
 rename_i n q;rw[ho n (by simpa[I.only] using hx)]
mutual
theorem LY{A A':ai}{p:Nat→Bool}(ho:∀ n,p n=true→A'.o n=A.o n):∀ {x:I},x.only p=true→bh false A' x=bh false A x
 | .own n k,h=>by simp only[bh];rw[ho n (by simpa[I.only] using h)]
 | .func f caps,h=>by simp only[bh];rw[sk ho (xs:=caps) (by simpa[I.only] using h)]
 | .agg fs,h=>by simp only[bh];rw[sk ho (xs:=fs) (by simpa[I.only] using h)]
 | .undef,_ | .df,_ | .bool _,_ | .int _ _,_ | .bO _,_ | .nilp,_ | .dn,_ | .dS,_ | .any,_ | .raw _,_ | .nils _,_ | .c0 _,_ | .slice _ _,_ | .tuple _,_ | .ref _,_ | .iface _ _,_ | .ptr _ _,_ | .view _ _ _ _ _,_ | .mref _,_ | .db _,_ | .c7 _ _,_=>by simp[bh]
theorem sk{A A':ai}{p:Nat→Bool}(ho:∀ n,p n=true→A'.o n=A.o n):∀ {xs:List I},I.cn p xs=true→bZ false A' xs=bZ false A xs
 | [],_=>rfl
 |x::xs,h=>by
  simp only[I.cn,t8] at h;simp only[bZ,LY ho h.1,sk ho h.2]
end
theorem Ck{p:Nat→Bool}{f:aO→I} : ∀ {xs:List aO},(∀ x∈xs,(f x).only p=true)→I.cn p (xs.map f)=true
 | [],_=>rfl
 |x::xs,h=>by
  simp only[Z3,I.cn,t8];exact ⟨h x (by simp),Ck fun y hy=>h y (by simp[hy])⟩
theorem UF{A A':ai}{p:Nat→Bool}(ho:∀ n,p n=true→A'.o n=A.o n){x:I}(hx:x.only p=true):fQ A' x=fQ A x:=by
 cases x with
 |mref n=>simp only[fQ];rw[ho n (by simpa[I.only] using hx)]
 |raw v=>cases v <;>first | rfl | (rename_i o;cases o <;>rfl)
 |_=>rfl
theorem V8{A A':ai}{op:bR}{xs:List Nat}{p:Nat→Bool}(hm:mr op=some xs)(h:dZ A A' op.cW)(hx:∀ s∈xs,(A.t s).only p=true)(ho:∀ n,p n=true→A'.o n=A.o n):bm A' op=bm A op:=by
 have jy:op.gv=0→bm A' op=bm A op:=fun hc=>wJ hc h;have dl:=fun {x:I} (hx:x.only p=true)=>K4 ho hx;unfold mr at hm;split at hm
 ·rename_i s x;simp only[v6] at hm;subst hm;have e:=h x (by simp[bR.cW,aO.sl]);simp only[bm,ak,e,dl (hx x (by simp))]
 ·rename_i f off x;simp only[v6] at hm;subst hm;have e:=h x (by simp[bR.cW,aO.sl]);have k:=hx x (by simp);simp only[bm,ak,e];generalize A.t x=u at k ⊢;cases u with
  |ptr n q=>simp only[dl (x:=.ptr n q) k]
  |ref c=>cases c <;>rfl
  |_=>rfl
 ·rename_i n esz x i;simp only[v6] at hm;subst hm;have e:=h x (by simp[bR.cW,aO.sl]);have ei:=cY (x:=i) (fun m hm=>h m (by simp[bR.cW,hm]));have k:=hx x (by simp);simp only[bm,ei];generalize ak A i=w;simp only[ak,e];generalize A.t x=u at k ⊢;cases u with
  |ptr n q=>simp only[dl (x:=.ptr n q) k]
  |ref c=>cases c <;>rfl
  |_=>rfl
 ·rename_i esz x i;simp only[v6] at hm;subst hm;have e:=h x (by simp[bR.cW,aO.sl]);have ei:=cY (x:=i) (fun m hm=>h m (by simp[bR.cW,hm]));have k:=hx x (by simp);simp only[bm,ei];generalize ak A i=w;simp only[ak,e];generalize A.t x=u at k ⊢;cases u with
  |own n l=>simp only[ho n (by simpa[I.only] using k)]
  |view n q=>simp only[dl (x:=.ptr n q) (by simpa[I.only] using k)]
  |_=>rfl
 ·rename_i x;simp only[v6] at hm;subst hm;have e:=h x (by simp[bR.cW,aO.sl]);have k:=hx x (by simp);simp only[bm,ak,e];generalize A.t x=u at k ⊢;cases u with
  |own n l=>simp only[ho n (by simpa[I.only] using k)]
  |_=>rfl
 ·rename_i n esz x;simp only[v6] at hm;subst hm;have e:=h x (by simp[bR.cW,aO.sl]);have k:=hx x (by simp);simp only[bm,ak,e];generalize A.t x=u at k ⊢;cases u with
  |ptr n q=>simp only[dl (x:=.ptr n q) k]
  |ref c=>cases c <;>rfl
  |_=>rfl
 ·rename_i esz x lo hi mx;simp only[v6] at hm;subst hm;have e:=h x (by simp[bR.cW,aO.sl]);have e1:=oB (x:=lo) (fun m hm=>h m (by simp[bR.cW,hm]));have e2:=oB (x:=hi) (fun m hm=>h m (by simp[bR.cW,hm]));have e3:=oB (x:=mx) (fun m hm=>h m (by simp[bR.cW,hm]));have k:=hx x (by simp);simp only[bm,e1,e2,e3];generalize lo.map (ak A)=w1;generalize hi.map (ak A)=w2;generalize mx.map (ak A)=w3;simp only[ak,e];generalize A.t x=u at k ⊢;cases u with
  |view n q=>simp only[dl (x:=.ptr n q) (by simpa[I.only] using k)]
  |_=>rfl
 ·rename_i x;simp only[v6] at hm;subst hm;have e:=h x (by simp[bR.cW,aO.sl]);have k:=hx x (by simp);simp only[bm,ak,e];generalize A.t x=u at k ⊢;cases u with
  |view n q=>simp only[dl (x:=.ptr n q) (by simpa[I.only] using k)]
  |_=>rfl
 ·rename_i ty z ok x kk;simp only[v6] at hm;subst hm;have e:=h x (by simp[bR.cW,aO.sl]);have ek:=cY (x:=kk) (fun m hm=>h m (by simp[bR.cW,hm]));have k:=hx x (by simp);simp only[bm,ek];generalize ak A kk=w;simp only[ak,e,UF ho k]
 ·rename_i esz ps;split at hm
  case isFalse=>cases hm
  rename_i hall;simp only[v6] at hm;subst hm;have hev:ps.map (ak A')=ps.map (ak A):=lr h;have hon:I.cn p (ps.map (ak A))=true:=Ck fun x hx'=>by
   have J:=X0.1 hall x hx';cases x with
   |c _=>cases J
   |t s=>exact hx s (by simp only[jo,List.mem_flatMap];exact ⟨_,hx',by simp[aO.sl]⟩)
  simp only[bm,hev,sk ho hon]
 ·rfl
 ·split at hm
  ·rename_i hc;exact jy hc.1
  ·cases hm
theorem xZ{L:dW}{A:ai}{g:aC}{p:Nat→Bool}(hi:cP L A)(h:rX L g p=true):∃ xs,mr g.op=some xs∧∀ s∈xs,(A.t s).only p=true:=by
 unfold rX at h;split at h
 case h_2=>cases h
 rename_i xs hm;refine ⟨xs,hm,fun s hs' =>?_⟩;have J:=X0.1 h s hs';split at J
 case h_2=>cases J
 rename_i ns hn;exact iz (fun n U=>X0.1 J n (by simpa using U)) _ (hi s ns hn)
theorem gb.vS{A A':ai}{g:aC}{v:I}{xs:List Nat}{p:Nat→Bool}(h:gb g A v)(hm:mr g.op=some xs)(ha:dZ A A' g.cW)(hx:∀ s∈xs,(A.t s).only p=true)(ho:∀ n,p n=true→A'.o n=A.o n):gb g A' v:=by
 rcases h with ⟨h,rfl⟩ | ⟨h,k⟩
 ·exact .inl ⟨oY ha h,rfl⟩
 ·exact .inr ⟨my ha h,by rw[V8 hm (aC.jH ha) hx ho];exact k⟩
theorem gb.sC{L:dW}{A:ai}{g:aC}{v:I}(hi:cP L A)(hg:gZ L g=true)(h:gb g A v):cP L (A.aT g.dst v):=by
 rcases h with ⟨_,rfl⟩ | ⟨_,k⟩
 ·exact hi.put (fun _=>rfl) fun _ _ _ _=>rfl
 ·exact hi.put (fun _=>rfl) (Cg hi hg k)
theorem gb.cM{A A':ai}{g:aC}{v:I}(h:gb g A v)(hu:ee A A')(ha:dZ A A' g.cW):gb g A' v:=by
 rcases h with ⟨h,rfl⟩ | ⟨h,k⟩
 ·exact .inl ⟨oY ha h,rfl⟩
 ·exact .inr ⟨my ha h,CE hu (aC.jH ha) k⟩
theorem Bm{L:dW}{g h:aC}(hi:mg ab L g h=true):iG g.op=true∧nF ab L g h=true∧(∀ d,g.dst=some d→d∉h.cW)∧(∀ d,g.dst=some d→h.dst≠some d)∧(∀ d,h.dst=some d→d∉g.cW):=by
 simp only[mg,t8] at hi;obtain ⟨J,U,ah,ar⟩:=hi;refine ⟨J,U,fun d af =>?_,fun d af =>?_,fun d af =>?_⟩
 ·rw[af] at ah;simp at ah;exact ah.1
 ·rw[af] at ah;simp at ah;exact ah.2
 ·rw[af] at ar;simpa using ar
theorem x3{aN:Bool}{A A':ai}{ρ:List (Nat×Nat)}{os:List (Nat×aq)}(hu:ee A A'):∀ {xs cs:List I},gE aN A ρ os xs cs→gE aN A' ρ os xs cs
 | [],[],_=>trivial
 |x::xs,c::cs,h=>⟨h.1.imp id fun h=>AA hu h,x3 hu h.2⟩
 | [],_::_,h=>h.elim
 |_::_,[],h=>h.elim
theorem UP{A:ai}{d:Option Nat}{v:I}{ts:List (Nat×I)}{os:List (Nat×aq)}(h:A.aT d v=au ts os):∃ ts2,A=au ts2 os∧∀ X:List (Nat×aq),(au ts2 X).aT d v=au ts X:=by
 cases d with
 |none=>exact ⟨ts,h,fun _=>rfl⟩
 |some d =>
  have ht:∀ k,(A.aT (some d) v).t k=bU ts k:=fun k=>by rw[h];rfl
  have ho:A.o=aj os:=by
   have:(A.aT (some d) v).o=aj os:=by rw[h];rfl
   rwa [h1] at this
  refine ⟨(d,A.t d)::ts,?_,fun X =>?_⟩
  ·cases A with
   |mk t o =>
    simp only[au,ai.mk.injEq];refine ⟨funext fun k =>?_,ho⟩;have:=ht k;simp only[ai.aT,ai.put] at this;simp only[bU];by_cases hk:k=d
    ·subst hk;simp
    ·rw[if_neg hk] at this;have hk':¬ d=k:=fun e=>hk e.symm;simp only[hk,if_false];exact this
  ·simp only[ai.aT,ai.put,au,ai.mk.injEq,and_true]
   funext k
   have:=ht k;simp only[ai.aT,ai.put] at this;by_cases hk:k=d
   ·subst hk;simp at this ⊢;exact this
   ·have hk':¬ d=k:=fun e=>hk e.symm;simp only[bU,hk,if_false]
theorem V7{ρ:List (Nat×Nat)}{os0 os':List (Nat×aq)}{r:I}(hb:gq false ρ [] os0 r os'){n:Nat}{x:aq}(hx:aj os0 n=some x):aj (dv ρ os'++os0) n=some x:=by
 rw[qy];cases hp:pre ρ os' n with
 |none=>exact hx
 |some m =>
  obtain ⟨J,U⟩:=kJ hp;have:=(hb.oV m J (by simp[av,aj])).1;rw[U,hx] at this;cases this
theorem bM.Ib{A B:ai}{j:aC}{v:I}{f:FuncId}{args:List aO}{dst:Option Nat}{rest:List aC}(hj:iG j.op=true)(hv:gb j A v)(hB:B=A.aT j.dst v)(hf:ab.contains f=false)(hag:dZ A B (jo args))(af:∀ d,j.dst=some d→dst≠some d)(hr:∀ d,dst=some d→d∉j.cW)
  (h:bM P Y ab K (.call f (args.map (ak B)) (bZ true B (args.map (ak B))) (bZ false B (args.map (ak B))) dst rest B)):bM P Y ab K (.call f (args.map (ak A)) (bZ true A (args.map (ak A))) (bZ false A (args.map (ak A))) dst (j::rest) A):=by
 have eo:B.o=A.o:=by rw[hB,h1]
 have cM:ee B A:=fun n x hx=>by rwa [←eo]
 have up':ee A B:=fun n x hx=>by rwa [eo]
 have eav:args.map (ak B)=args.map (ak A):=lr hag;rw[eav] at h;have cont:∀ r:I,bM P Y ab K (az rest (B.aT dst r))→bM P Y ab K (az (j::rest) (A.aT dst r)):=fun r hw=>by
  have J:gb j (A.aT dst r) v:=hv.cM (fun n x hx=>by rwa [h1]) (lK hr);rw[J.to hj,pg (fun d hd'=>fun e=>af d e hd'),←hB];exact hw
 generalize e1:bZ true B (args.map (ak A))=a1 at h;generalize e2:bZ false B (args.map (ak A))=a2 at h;generalize hBm:B=B0 at h;cases h with
 |flat r hc hfl hw =>
  subst hBm;rw[kE cM e1];exact .flat r hc hfl (cont r hw)
 |lead r hc hw =>
  subst hBm;rw[kE cM e2];exact .lead r hc (cont r hw)
 |bN ρ cargs post hc hg ha hb hw =>
  rename_i ts os0;rw[hB] at hBm;obtain ⟨ts2,hA,hts⟩:=UP hBm;have hA':=hA;clear cont;subst hA;refine .bN ρ cargs post hc hg (x3 (A:=au ts os0) (A':=au ts2 os0) (fun n x hx=>hx) ha) hb fun r os' hp =>?_;have J:gb j ((au ts2 (dv ρ os'++os0)).aT dst (r.bl (bF ρ))) v:=hv.cM (fun n x hx=>by
   rw[h1];exact V7 (hb r os' hp) hx) (fun k hk=>by
    have:=lK (A:=au ts2 (dv ρ os'++os0)) (v:=r.bl (bF ρ)) hr k hk;rw[this];rfl)
  rw[J.to hj,pg (fun d hd'=>fun e=>af d e hd'),hts];exact hw r os' hp
 |wk aN ρ os cargs post hfs =>
  rw[hf] at hfs;cases hfs
theorem bM.ry{L:dW}{A:ai}{j g:aC}{rest:List aC}(hinv:cP L A)(hi:mg ab L j g=true)(hw:bM P Y ab K (az (j::g::rest) A)):bM P Y ab K (az (g::j::rest) A):=by
 obtain ⟨hj,ao,i1,i2,i3⟩:=Bm hi;obtain ⟨v,hv,hw⟩:=bM.xk hj hw;have ag:dZ (A.aT j.dst v) A g.cW:=(lK i1).symm;have ag':dZ A (A.aT j.dst v) g.cW:=lK i1;have cM:ee (A.aT j.dst v) A:=fun n x hx=>by rwa [h1] at hx
 have up':∀ (d:Option Nat) (u:I),ee A (A.aT d u):=fun d u n x hx=>by rwa [h1]
 by_cases hsg:iG g.op=true
 ·obtain ⟨u,hu,hw⟩:=bM.xk hsg hw;rw[(hu.cM cM ag).to hsg,(hv.cM (up' _ _) (lK i3)).to hj,←pg i2];exact hw
 ·-- the guard
  have guard:(gh (A.aT j.dst v) g∧az (g::rest) (A.aT j.dst v)=az rest ((A.aT j.dst v).aT g.dst .undef))∨(pass (A.aT j.dst v) g∧az (g::rest) (A.aT j.dst v)=bj (A.aT j.dst v) g.dst g.op rest (az rest))∨az (g::rest) (A.aT j.dst v)=.fail:=by
   cases hg:g.guard with
   |none=>exact .inr (.inl ⟨by simp only[pass,hg],by simp only[az,hg]⟩)
   |some tb =>
    obtain ⟨t,b⟩:=tb;cases ht:(A.aT j.dst v).t t with
    |bool b' =>
     by_cases hbb:b'=b
     ·subst hbb;have hp:pass (A.aT j.dst v) g:=by simp only[pass,hg,ht]
      exact .inr (.inl ⟨hp,mZ hp⟩)
     ·have hn:gh (A.aT j.dst v) g:=by simp only[gh,hg];exact .inl (by rw[ht,um hbb])
      exact .inl ⟨hn,rW hn⟩
    |undef =>
     have hn:gh (A.aT j.dst v) g:=by simp only[gh,hg];exact .inr ht
     exact .inl ⟨hn,rW hn⟩
    |_=>exact .inr (.inr (by simp only[az,hg,ht]))
  rcases guard with ⟨hn,he⟩ | ⟨hp,he⟩ | he
  ·rw[he] at hw;rw[rW (oY ag hn),(hv.cM (up' _ _) (lK i3)).to hj,←pg i2];exact hw
  ·rw[he] at hw;rw[mZ (my ag hp)];obtain ⟨dst,op,gd⟩:=g;simp only at hw hsg i2 i3 ⊢;cases op with
   |alloc z =>
    cases dst with
    |none=>simp only[bj] at hw;cases hw
    |some d =>
    simp only[bj] at hw ⊢;split at hw
    case h_2=>cases hw
    rename_i ho;rw[h1] at ho;simp only[ho];have J:gb j ((A.aV d (.box z)).put d (.ptr d [])) v:=hv.cM (fun n y hy=>by
     have:n≠d:=fun he=>by rw[he,ho] at hy;cases hy
     simp only[ai.put,ai.aV,this,if_false];exact hy) (fun k hk=>by
     have:k≠d:=fun he=>i3 d rfl (he▸hk);simp only[ai.put,ai.aV,this,if_false])
    rw[J.to hj];have e:((A.aT j.dst v).aV d (.box z)).put d (.ptr d [])=((A.aV d (.box z)).put d (.ptr d [])).aT j.dst v:=by
     cases hgd:j.dst with
     |none=>rfl
     |some e =>
      have hne:e≠d:=fun he=>i2 e hgd (by rw[he]);simp only[ai.aT,ai.put,ai.aV,ai.mk.injEq,and_true]
      funext k
      by_cases J:k=e <;>by_cases U:k=d <;>simp_all
    rw[←e];exact hw
   |box x =>
    have ex:ak (A.aT j.dst v) x=ak A x:=cY (aC.jH ag');cases dst with
    |none=>simp only[bj] at hw;cases hw
    |some d =>
    simp only[bj] at hw ⊢;split at hw
    case h_2=>cases hw
    rename_i ho;rw[h1] at ho;simp only[ho];rw[ex] at hw;split at hw
    case isFalse=>cases hw
    rename_i hval;rw[if_pos hval];have J:gb j ((A.aV d (.box (ak A x))).put d (.ptr d [])) v:=hv.cM (fun n y hy=>by
     have:n≠d:=fun he=>by rw[he,ho] at hy;cases hy
     simp only[ai.put,ai.aV,this,if_false];exact hy) (fun k hk=>by
     have:k≠d:=fun he=>i3 d rfl (he▸hk);simp only[ai.put,ai.aV,this,if_false])
    rw[J.to hj];have e:((A.aT j.dst v).aV d (.box (ak A x))).put d (.ptr d [])=((A.aV d (.box (ak A x))).put d (.ptr d [])).aT j.dst v:=by
     cases hgd:j.dst with
     |none=>rfl
     |some e =>
      have hne:e≠d:=fun he=>i2 e hgd (by rw[he]);simp only[ai.aT,ai.put,ai.aV,ai.mk.injEq,and_true]
      funext k
      by_cases J:k=e <;>by_cases U:k=d <;>simp_all
    rw[←e];exact hw
   |call f args =>
    simp only[bj] at hw ⊢;refine bM.Ib hj hv rfl (by simpa[nF,oR] using ao) (aC.jH ag') i2 i3 hw
   |bd s y u =>
    cases dst with
    |some d=>simp only[bj] at hw;cases hw
    |none =>
    have ey:ak (A.aT j.dst v) y=ak A y:=cY (aC.jH ag').l;have eu:ak (A.aT j.dst v) u=ak A u:=cY (aC.jH ag').r;simp only[bj] at hw ⊢;rw[ey,eu,h1] at hw;cases hx:ak A y <;>simp only[hx] at hw ⊢ <;>try (cases hw;done)
    rename_i n q;cases ho:A.o n with
    |none=>rw[ho] at hw;cases hw
    |some ob =>
    rw[ho] at hw;cases ob <;>simp only at hw ⊢ <;>try (cases hw;done)
    rename_i b;cases hb:b.at q with
    |none=>rw[hb] at hw;cases hw
    |some old =>
    rw[hb] at hw;simp only at hw ⊢;split at hw
    case isFalse=>cases hw
    rename_i hok;rw[if_pos hok];have J:gb j (A.aV n (.box (b.eh q (ak A u)))) v:=by
     have none0:mr j.op=some []→gb j (A.aV n (.box (b.eh q (ak A u)))) v:=fun hm=>hv.vS (p:=fun _=>false) hm (fun _ _=>rfl) (fun s hs'=>by cases hs') (fun m hm=>by cases hm);cases y with
     |c y =>
      simp only[nF,oR,iG,Bool.false_or] at ao;split at ao
      ·rename_i hm;exact none0 hm
      ·cases ao
     |t y =>
      simp only[nF,oR,iG,Bool.false_or] at ao;split at ao
      ·rename_i hm;exact none0 hm
      ·split at ao
       case h_2=>cases ao
       rename_i ms hms;obtain ⟨xs,hm,hx2⟩:=xZ hinv ao;refine hv.vS hm (fun _ _=>rfl) hx2 fun m hm2 =>?_;have hn:=hinv y ms hms;simp only[ak] at hx;rw[hx] at hn;have:m≠n:=fun e=>by subst e;simp[I.only] at hn hm2;exact hm2 hn
       simp only[ai.aV,if_neg this]
    rw[J.to hj];have e:(A.aT j.dst v).aV n (.box (b.eh q (ak A u)))=(A.aV n (.box (b.eh q (ak A u)))).aT j.dst v:=by cases j.dst <;>rfl
    rw[←e];exact hw
   |dm e esz bytes z s x =>
    have hag:dZ A (A.aT j.dst v) (s.sl++x.sl):=aC.jH ag';have he2:bj (A.aT j.dst v) dst (.dm e esz bytes z s x) rest (az rest)=bj A dst (.dm e esz bytes z s x) (j::rest) fun B=>az rest (B.aT j.dst v):=by
     cases hjd:j.dst with
     |none=>rfl
     |some d =>
      rw[hjd] at hag;exact Gy (fun e=>i2 d hjd e) hag rest (j::rest) (az rest)
    rw[he2] at hw;have ik:∀ B,ga A dst (ak A s) B→az (j::rest) B=az rest (B.aT j.dst v):=fun B hB=>by
     have hagB:dZ A B j.cW:=fun k hk=>hB.1 k fun e=>i3 k e hk;have:gb j B v:=by
      simp only[nF,oR,iG,Bool.false_or,Bool.or_eq_true] at ao;rcases ao with ao | ao
      ·obtain ⟨xs,hm,hx2⟩:=xZ hinv ao;exact hv.vS hm hagB hx2 fun m hm2=>by cases hm2
      ·have:=ru hinv ao;exact hv.cM (hB.2 (by simpa using this)) hagB
     rw[this.to hj]
    rcases x2 A dst e esz bytes z s x (j::rest) with J | ⟨B,J,U⟩ | ⟨p,bz,J,U⟩
    ·rw[J] at hw;cases hw
    ·rw[J] at hw ⊢;rw[ik B U];exact hw
    ·rw[J] at hw ⊢;exact .any fun m hm=>by rw[ik _ (U m)];exact hw.xY m hm
   |_=>first | exact absurd rfl hsg | (simp[nF,oR,iG] at ao)
  ·rw[he] at hw;cases hw
theorem bM.nc{L:dW}{g:aC} : ∀ {l:List aC} {r:List aC} {A:ai},cP L A→(∀ j∈l,mg ab L j g=true∧gZ L j=true)→bM P Y ab K (az (l++g::r) A)→bM P Y ab K (az (g::(l++r)) A)
 | [],r,A,_,_,h=>h
 |j::l,r,A,hinv,hi,h=>by
  have hj:=(Bm (hi j (by simp)).1).1;obtain ⟨v,hv,U⟩:=bM.xk (g:=j) (rest:=l++g::r) hj h;have ah:=bM.nc (l:=l) (r:=r) (hv.sC hinv (hi j (by simp)).2) (fun k hk=>hi k (by simp[hk])) U;refine bM.ry hinv (hi j (by simp)).1 ?_;rw[hv.to hj];exact ah
end
def qG:List Nat→Bool
 | []=>true
 |a::l => !l.contains a&&qG l
def pH(ab:List FuncId)(L:dW)(gs:List aC)(cl:List Nat):List Nat→List Nat→Bool
 |_,[]=>true
 |before,i::σ=>(before.all fun j=>(cl.getD i 0).testBit j||mg ab L (gs.getD j default) (gs.getD i default))&&pH ab L gs cl (i::before) σ
def s8(ab:List FuncId)(L:dW)(on:List (List Nat))(gs:List aC)(cl:List Nat)(σ:List Nat):Bool :=
 (Nat.beq σ.length gs.length&&(qG σ&&(σ.all (fun i=>decide (i<gs.length))&&((List.range gs.length).all (fun i=>σ.contains i)&&gs.all fun g=>mw g.op&&gZ L g))))&&(pH ab L gs cl [] σ&&(List.range gs.length).all fun i=>(on.getD i []).all (fun k=>decide (k<i))&&Nat.beq (cl.getD i 0) (kV cl (on.getD i [])))
theorem wh:∀ {l:List Nat},qG l=true→l.Nodup
 | [],_=>List.nodup_nil
 |a::l,h=>by
  simp only[qG,t8,Bool.not_eq_true',List.contains_eq_mem,decide_eq_false_iff_not] at h;exact List.nodup_cons.2 ⟨h.1,wh h.2⟩
theorem ub{ab:List FuncId}{L:dW}{gs:List aC}{cl:List Nat} : ∀ {σ before:List Nat},pH ab L gs cl before σ=true→∀ s1 i s2,σ=s1++i::s2→∀ j,j∈before∨j∈s1→(cl.getD i 0).testBit j=true∨mg ab L (gs.getD j default) (gs.getD i default)=true
 | [],_,_,s1,i,s2,e,_,_=>by cases s1 <;>cases e
 |a::σ,before,h,s1,i,s2,e,j,hj=>by
  simp only[pH,t8,X0,Bool.or_eq_true] at h;cases s1 with
  |nil =>
   simp only[List.nil_append,zz7] at e;obtain ⟨rfl,rfl⟩:=e;rcases hj with hj | hj
   ·exact h.1 j hj
   ·cases hj
  |cons b s1 =>
   simp only[Z9,zz7] at e;obtain ⟨rfl,rfl⟩:=e;refine ub h.2 s1 i s2 rfl j ?_;rcases hj with hj | hj
   ·exact .inl (List.mem_cons_of_mem _ hj)
   ·rcases zz8.1 hj with hj | hj
    ·exact .inl (by rw[hj];exact List.mem_cons_self)
    ·exact .inr hj
def dU(σ:List Nat)(listed:Array Bool):List Nat:=σ.filter fun i => !listed.getD i true
def gi(gs:List aC)(σ:List Nat)(listed:Array Bool):List aC:=(dU σ listed).map fun i=>gs.getD i default
theorem wS{σ:List Nat}{listed:Array Bool}{i:Nat}(hn:σ.Nodup)(hi:i∈σ)(ao:i<listed.size)(hu:listed.getD i true=false):∃ s1 s2,σ=s1++i::s2∧dU σ listed=(s1.filter fun j => !listed.getD j true)++i::(s2.filter fun j => !listed.getD j true) ∧
  dU σ (listed.setIfInBounds i true)=(s1.filter fun j => !listed.getD j true)++(s2.filter fun j => !listed.getD j true):=by
 obtain ⟨s1,s2,rfl⟩:=List.append_of_mem hi;have same:∀ j,j≠i→(listed.setIfInBounds i true).getD j true=listed.getD j true:=fun j hj=>getD_set_ne true (Ne.symm hj);have hit:(listed.setIfInBounds i true).getD i true=true:=by simp[ao]
 have hnd:=List.nodup_append.1 hn;have J:∀ j∈s1,j≠i:=fun j hj=>hnd.2.2 j hj i List.mem_cons_self;have U:∀ j∈s2,j≠i:=fun j hj e=>(List.nodup_cons.1 hnd.2.1).1 (e▸hj);refine ⟨s1,s2,rfl,?_,?_⟩
 ·simp only[dU,List.filter_append,List.filter_cons,hu,Bool.not_false,if_true]
 ·simp only[dU,List.filter_append,List.filter_cons,hit,Bool.not_true,Z2,if_false]
  congr 1
  ·exact List.filter_congr fun j hj=>by rw[same j (J j hj)]
  ·exact List.filter_congr fun j hj=>by rw[same j (U j hj)]
structure xR (ab:List FuncId) (L:dW) (l:List Oper) (gs:List aC) (σ:List Nat):Prop where
 nA:σ.Nodup
 lt:∀ i∈σ,i<gs.length
 all:∀ i,i<gs.length→i∈σ
 ok:∀ g∈gs,mw g.op=true∧gZ L g=true
 len:σ.length=gs.length
 ib:∀ i o,l[i]?=some o→∀ k∈ca o,k<i
 oL:∀ (S:Nat→Prop),(∀ i o,l[i]?=some o→S i→∀ k∈ca o,S k)→∀ s1 i s2 o,σ=s1++i::s2→l[i]?=some o→(∀ k∈ca o,S k)→∀ j∈s1,¬ S j→mg ab L (gs.getD j default) (gs.getD i default)=true
theorem VX{ab:List FuncId}{L:dW}{l:List Oper}{gs:List aC}{cl σ:List Nat}(hlen:gs.length=l.length)(h:s8 ab L (l.map ca) gs cl σ=true):xR ab L l gs σ:=by
 simp only[s8,t8,X0,decide_eq_true_eq,zz4,List.contains_eq_mem] at h;obtain ⟨⟨J,U,ah,ar,h5⟩,h6,h7⟩:=h;have fx:∀ i o,l[i]?=some o→(∀ k∈ca o,k<i)∧(∀ j,(cl.getD i 0).testBit j=true→j∈ca o∨∃ k∈ca o,(cl.getD k 0).testBit j=true):=by
  intro i o ho;have hi:i<l.length:=(Z5.1 ho).1;have h8:=h7 i (by omega);have hon:(l.map ca).getD i []=ca o:=by simp[Z0,ho]
  rw[hon] at h8;have hb:=Nat.eq_of_beq_eq_true h8.2;exact ⟨h8.1,fun j hj=>rC (by rw[←hb];exact hj)⟩
 refine ⟨wh U,ah,ar,h5,Nat.eq_of_beq_eq_true J,fun i o ho=>(fx i o ho).1,?_⟩;intro S hS s1 i s2 o e ho hon j hj hnj;have key:∀ n i o,i≤n→l[i]?=some o→(∀ k∈ca o,S k)→∀ j,(cl.getD i 0).testBit j=true→S j:=by
  intro n
  induction n with
  |zero =>
   intro i o hi ho hon j hj;obtain ⟨h8,h9⟩:=fx i o ho;rcases h9 j hj with h | ⟨k,hk,_⟩
   ·exact hon j h
   ·have:=h8 k hk;omega
  |succ n ih =>
   intro i o hi ho hon j hj;obtain ⟨h8,h9⟩:=fx i o ho;rcases h9 j hj with h | ⟨k,hk,hjk⟩
   ·exact hon j h
   ·have hki:=h8 k hk;have hkl:k<l.length:=Nat.lt_trans hki (Z5.1 ho).1;obtain ⟨ok,hok⟩:∃ ok,l[k]?=some ok:=⟨l[k],Y2 hkl⟩
    exact ih k ok (by omega) hok (hS k ok hok (hon k hk)) j hjk
 rcases ub h6 s1 i s2 e j (.inr hj) with h | h
 ·exact absurd (key i i o (Z4 _) ho hon j h) hnj
 ·exact h
section
variable {c:cO}
theorem sq{K:ai→Prop}{ab:List FuncId}{L:dW}{aS:Array Oper}{Q:Exit→Act→World→Prop}{o:Oper}{g:aC}{rest:List aC}{A:ai}{a:Act}{w:World}{Kw:Act→World→Prop}(hg:lh c.P c.n aS o=some g)(hi:cP L A)(ho:mw g.op=true∧gZ L g=true)(hwp:bM c.P c.Y ab K (az (g::rest) A))(hs':bV c A a w)
  (hK:∀ B a' w',bM c.P c.Y ab K (az rest B)→cP L B→bV c B a' w'→Kw a' w'):if Region.wanted o (yielded aS a.tmps) then o.wpIn c.bz 9 c.P a w Kw Q else (∀ f,o.about c.P w a.eval=some f→c.bz.fn f)∧Kw (a.put o.dst undef) w:=by
 obtain ⟨J,U,ah,ar⟩:=nd hg;have step:bM c.P c.Y ab K (bj A g.dst g.op rest (az rest))→o.wpIn c.bz 9 c.P a w Kw Q:=fun h =>
  sr J U.symm (by rw[U];exact ah) (bM.one (Y:=c.Y) hi ho.1 ho.2 h) hs' (fun B a' w' hw hs2=>by
   cases hw with
   |done hk=>exact hK B a' w' hk.1 hk.2 hs2)
 simp only[az] at hwp;rcases ar with ⟨h5,h6⟩ | ⟨j,b,t,h5,h6,h7⟩
 ·rw[h6] at hwp;have hw:Region.wanted o (yielded aS a.tmps)=true:=by simp[Region.wanted,h5]
  rw[hw,if_pos rfl];exact step hwp
 ·rw[h7] at hwp;simp only at hwp;split at hwp
  ·rename_i b' hb';rw[sx hs' h5 h6 hb'];split at hwp
   ·rename_i hbb;subst hbb;simp only[BEq.rfl,if_true];exact step hwp
   ·rename_i hbb;have:(b'==b)=false:=by simpa using hbb
    rw[this];simp only[Z2,if_false];exact ⟨fun f _=>lz c f,hK _ _ _ hwp (hi.put (fun _=>rfl) fun _ _ _ _=>rfl) (by rw[U];exact hs'.mD ah)⟩
  ·rename_i hb';rw[sy hs' h5 h6 hb'];simp only[Z2,if_false];exact ⟨fun f _=>lz c f,hK _ _ _ hwp (hi.put (fun _=>rfl) fun _ _ _ _=>rfl) (by rw[U];exact hs'.mD ah)⟩
  ·cases hwp
theorem Gk{K:ai→Prop}{fs:List FuncId}{L:dW}{aS:Array Oper}{gs:List aC}{σ:List Nat}{Q:Exit→Act→World→Prop}(hQ:∀ B a w,K B→bV c B a w→Q .normal a w)(hgs:fE c.P c.n aS aS.toList=some gs)(af:xR fs L aS.toList gs σ) :
  ∀ (fuel:Nat) (listed:Array Bool) (A:ai) (a:Act) (w:World),listed.size=aS.size→(∀ i o,aS.toList[i]?=some o→listed.getD i false=true→∀ k∈ca o,listed.getD k false=true)→(dU σ listed).length≤fuel →
   cP L A→bM c.P c.Y fs K (az (gi gs σ listed) A)→bV c A a w→wpAnyIn c.bz 9 c.P .any aS Q fuel listed a w:=by
 obtain ⟨hlen,hat⟩:=ic hgs;have onOf_mem:∀ (o:Oper) (e:Edge),e∈o.after→Region.binds .any e=true→e.on∈ca o:=fun o e he hb=>by
  simp only[ca,X1,X9];exact ⟨e,⟨by simpa using he,hb⟩,rfl⟩
 have of_onOf:∀ (o:Oper) (k:Nat),k∈ca o→∃ e∈o.after,Region.binds .any e=true∧e.on=k:=fun o k hk=>by
  simp only[ca,X1,X9] at hk;obtain ⟨e,⟨J,U⟩,ah⟩:=hk;exact ⟨e,by simpa using J,U,ah⟩
 have hgl:gs.length=aS.size:=by rw[hlen,X2]
 have last:∀ (listed:Array Bool) (A:ai) (a:Act) (w:World),listed.size=aS.size→Region.ready .any aS listed=[]→bM c.P c.Y fs K (az (gi gs σ listed) A)→bV c A a w→Q .normal a w:=by
  intro listed A a w hsz hr hwp ab;have hnone:dU σ listed=[]:=by
   have all:∀ n,∀ i,i<n→i<aS.size→listed.getD i true=true:=by
    intro n
    induction n with
    |zero=>intro i hi;omega
    |succ n ih =>
     intro i hi his;cases hb:listed.getD i true with
     |true=>rfl
     |false =>
      exfalso
      have ho:aS[i]?=some aS[i]:=zz2 his;have:i∈Region.ready .any aS listed:=mem_ready.2 ⟨hb,aS[i],ho,fun e he hbd=>by
       have hlt:=af.ib i aS[i] (by simp) e.on (onOf_mem _ e he hbd);have J:=ih e.on (by omega) (by omega);have U:e.on<listed.size:=by omega
       simpa[Array.getD_eq_getD_getElem?,U] using J⟩
      rw[hr] at this;cases this
   simp only[dU];refine List.filter_eq_nil_iff.2 fun i hi =>?_;have:=all (i+1) i (by omega) (by rw[←hgl];exact af.lt i hi);simp only[this,Bool.not_true,Z2,not_false_eq_true]
  simp only[gi,hnone,X7,az] at hwp;cases hwp with
  |done hk=>exact hQ A a w hk ab
 intro fuel
 induction fuel with
 |zero =>
  intro listed A a w hsz hcl hcnt hinv hwp ab;have hnone:dU σ listed=[]:=List.length_eq_zero_iff.1 (by omega);have hr:Region.ready .any aS listed=[]:=by
   refine List.eq_nil_iff_forall_not_mem.2 fun i hi =>?_;obtain ⟨J,o,ho,_⟩:=mem_ready.1 hi;have:i∈dU σ listed:=by
    simp only[dU,X9,J,Bool.not_false,and_true];exact af.all i (by rw[hgl];exact (Y0.1 ho).1)
   rw[hnone] at this;cases this
  exact ⟨hr,last listed A a w hsz hr hwp ab⟩
 |succ fuel ih =>
  intro listed A a w hsz hcl hcnt hinv hwp ab;refine ⟨fun hr=>last listed A a w hsz hr hwp ab,fun i hi =>?_⟩;obtain ⟨hun,o,ho,hall⟩:=mem_ready.1 hi;have hin:i<aS.size:=(Y0.1 ho).1;obtain ⟨s1,s2,hσ,e1,e2⟩:=wS af.nA (af.all i (by omega)) (by omega) hun;have hol:aS.toList[i]?=some o:=by simpa using ho
  obtain ⟨g,hgi,hcg⟩:=hat i o hol;have hon:∀ k∈ca o,listed.getD k false=true:=fun k hk=>by
   obtain ⟨e,J,U,ah⟩:=of_onOf o k hk;exact ah▸hall e J U
  have hgd:gs.getD i default=g:=by simp[Z0,hgi]
  have hwp':bM c.P c.Y fs K (az (g::gi gs σ (listed.setIfInBounds i true)) A):=by
   simp only[gi,e1,Y3,Z3,hgd] at hwp;simp only[gi,e2,Y3];refine bM.nc hinv (fun j hj =>?_) hwp;obtain ⟨k,hk,rfl⟩:=X1.1 hj;obtain ⟨hk1,hk2⟩:=X9.1 hk;have:=af.oL (fun k=>listed.getD k false=true) hcl s1 i s2 o hσ hol hon k hk1 (by
    have hks:k<listed.size:=by
     have:=af.lt k (by rw[hσ];exact List.mem_append_left _ hk1);omega
    simp[Array.getD_eq_getD_getElem?,hks] at hk2 ⊢;exact hk2)
   rw[hgd] at this;refine ⟨this,(af.ok _ ?_).2⟩;have hkl:=af.lt k (by rw[hσ];exact List.mem_append_left _ hk1);rw[Z0,Y2 hkl];exact List.getElem_mem _
  unfold wpOpIn;rw[ho];refine sq hcg hinv (af.ok g (List.mem_of_getElem? hgi)) hwp' ab fun B a' w' hw hiB hs'=>ih _ B a' w' (by simpa using hsz) ?_ ?_ hiB hw hs'
  ·intro m om hom hm k hk;by_cases hmi:m=i
   ·subst hmi;rw[hol,v6] at hom;subst hom;exact getD_set_true (hon k hk)
   ·rw[getD_set_ne false (Ne.symm hmi)] at hm;exact getD_set_true (hcl m om hom hm k hk)
  ·have:(dU σ listed).length=(dU σ (listed.setIfInBounds i true)).length+1:=by
    rw[e1,e2];simp;omega
   omega
def eZ(σ:List Nat)(gs:List aC):List aC:=σ.map fun i=>gs.getD i default
theorem ae.Wr{Q:Exit→ai→Prop}{A:ai}{on:List (List Nat)}{gs:List aC}(ab:List FuncId)(L:dW)(cl σ:List Nat)(af:s8 ab L on gs cl σ=true)(hi:cP L A)(h:∀ K:ai→Prop,(∀ B,Q .normal B→K B)→bM c.P c.Y ab K (az (eZ σ gs) A)):ae c (.cg (some on) gs) Q A:=by
 intro code hc a w hs';cases code <;>simp only[en] at hc <;>try (first | (cases hc;done) | ((repeat' split at hc) <;>cases hc;done))
 rename_i id aS draw;split at hc
 ·rename_i gs' hgs;split at hc
  case isFalse=>cases hc
  rename_i hok;simp only[v6,br.cg.injEq] at hc;obtain ⟨he,rfl⟩:=hc;cases draw with
  |false=>cases he
  |true =>
   simp only[cond_true,v6] at he;subst he;simp only[Bool.not_true,Bool.false_or] at hok;have hp:=VX (ic hgs).1 af;refine wpIn_region_any hok (Gk (K:=Q .normal) (fun B a w hk ab=>⟨B,hk,ab⟩) hgs hp aS.size (Array.replicate aS.size false) A a _ (by simp) ?_ ?_ hi ?_ ?_)
   ·intro i o _ h
    exfalso
    simp only[Array.getD_eq_getD_getElem?,Array.getElem?_replicate] at h;split at h <;>simp at h
   ·refine zz9 (List.length_filter_le _ _) ?_;rw[hp.len,(ic hgs).1,X2];exact Z4 _
   ·have hall:dU σ (Array.replicate aS.size false)=σ:=by
     simp only[dU];refine List.filter_eq_self.2 fun i hi =>?_;have J:=hp.lt i hi;rw[(ic hgs).1,X2] at J;simp[J]
    simp only[gi,hall];exact h _ fun _ hb=>hb
   ·obtain ⟨D,E,hs'⟩:=hs';exact ⟨D,E,hs'.grow (w' := { w with drawn:=w.drawn+1 }) ⟨rfl,rfl,rfl,Z4 _,fun _ _=>rfl⟩ (fun _ _ h=>h) (fun _ _ h _=>h) (fun b o h=>hs'.aQ b o h)⟩
 ·cases hc
def fh(ts:List (Nat×I)):dW→Prop
 | []=>True
 |(s,ns)::L=>(bU ts s).only (fun n=>ns.contains n)=true∧fh ts L
theorem cP.of{ts:List (Nat×I)}{os:List (Nat×aq)}{L:dW}(h:fh ts L):cP L (au ts os):=by
 intro s ns hn;simp only[au]
 induction L with
 |nil=>cases hn
 |cons q L ih =>
  obtain ⟨s',ns'⟩:=q;simp only[fh] at h;simp only[gY,List.find?_cons] at hn;split at hn
  ·rename_i e;simp only[Z7,v6] at hn;simp only[beq_iff_eq] at e;subst e hn;exact h.1
  ·exact ih h.2 hn
end
end Go.Abs
namespace Go.Abs
open Go Go.RowKit
open Enc (enc)
section
variable {α:Type} [Enc α] {P:Program} {Y:Value→List I→List (Nat×aq)→cA→Prop} {K:ai→Prop} {A:ai} {rest:List aC} {esz bytes:Nat}
theorem tv{n lo k:Nat}{xs:List α}(ho:A.o n=some (.box (.agg (xs.map enc))))(h:lo+k≤xs.length):eE A esz (.view n [] esz lo k)=some (((xs.drop lo).take k).map enc):=by
 have J:cC A (.ptr n [])=some (.agg (xs.map enc)):=by simp only[cC,ho];rfl
 simp only[eE,J,Z8];rw[if_pos ⟨h,trivial⟩,List.map_take,List.map_drop]
theorem W2{xs ys:List α}(h:xs.length=ys.length):I.cT (xs.map enc)=I.cT (ys.map enc):=by
 rw[xh,xh,h]
theorem x1{d:Option Nat}{e:Nat}(z:I)(ab:Enc.sz α=esz){n l:Nat}{xs ys:List α}(hy:ys≠[])(ho:A.o n=some (.box (.agg (xs.map enc))))(hr:l+ys.length≤xs.length) :
  fD A d e esz bytes z (enc ys) rest (.view n [] esz 0 l)=az rest ((A.aV n (.box (.agg ((xs.take l++(ys++xs.drop (l+ys.length))).map enc)))).aT d (.view n [] esz 0 (l+ys.length))):=by
 have J:=tv (A:=A) (esz:=esz) (lo:=0) (k:=l) ho (by omega);have U:(I.agg (xs.map (enc (α:=α)))).at []=some (.agg (xs.map enc)):=rfl;have ah:I.cT (ys.map (enc (α:=α)))=I.cT (((xs.map (enc (α:=α))).drop l).take ys.length):=by
  rw[←List.map_drop,←List.map_take];exact W2 (by rw[X6,List.length_drop];omega)
 simp only[fD,J,mN A esz ys ab,eW];rw[if_neg (by simpa using hy)];simp only[ho,U,Z8,Z1];rw[if_pos hr,if_pos ⟨rfl,by rw[Z8,Z1];exact ah⟩];simp only[iV,nT,Z8,Y3,List.map_take,List.map_drop]
theorem aR.Gq{d e:Nat}(z:α)(ab:Enc.sz α=esz){n l:Nat}{xs ys:List α}(hy:ys≠[])(ho:A.o n=some (.box (.agg (xs.map enc))))(ao:l≤xs.length)(hr:xs.length<l+ys.length)(hf:A.o d=none)(hb:(l+ys.length)*bytes≤140737488355328)(hml:l+ys.length≤maxLen)
  (h:∀ q,aR P Y false K (az rest ((A.aV d (.box (.agg ((xs.take l++(ys++List.replicate q z)).map enc)))).aT (some d) (.view d [] esz 0 (l+ys.length))))):aR P Y false K (fD A (some d) e esz bytes (enc z) (enc ys) rest (.view n [] esz 0 l)):=by
 have J:=tv (A:=A) (esz:=esz) (lo:=0) (k:=l) ho (by omega);have U:(I.agg (xs.map (enc (α:=α)))).at []=some (.agg (xs.map enc)):=rfl;have ar:(xs.take l).length=l:=by rw[X6];omega
 simp only[fD,J,List.drop_zero,mN A esz ys ab,eW];rw[if_neg (by simpa using hy)];simp only[ho,U,Z8,Z1];rw[if_neg (by omega)];simp only[fN,hf,Z8,ar];rw[if_pos ⟨hb,hml⟩];refine .any rfl fun q _ =>?_;have:=h q;simp only[Y3,List.map_replicate] at this;exact this
theorem aR.Gs{d e q0:Nat}(z:α){l:List α}(ab:Enc.sz α=esz)(ao:l≠[])(hf:A.o d=none)(hb:l.length*bytes≤140737488355328)(hml:l.length≤maxLen)
  (h:∀ m,aR P Y false K (az rest ((A.aV d (.box (.agg ((l++List.replicate m z).map enc)))).aT (some d) (.view d [] esz 0 l.length)))):aR P Y false K (fD A (some d) e esz bytes (enc z) (enc l) rest (.nils q0)):=by
 have hne:l.map (enc (α:=α))≠[]:=by simpa using ao
 have J:eE A esz (.nils q0)=some []:=rfl;simp only[fD,J,mN A esz l ab,eW,if_neg hne,fN,hf,List.length_nil,Z1,Z8,if_pos (y6 hb hml),List.nil_append];refine .any rfl fun m _ =>?_;have:=h m;simp only[Y3,List.map_replicate] at this;exact this
end
theorem qz(k:Nat):bU [] k=.df:=rfl
def gM(L:List Nat):List (Nat×I)→List (Nat×I)
 | []=>[]
 |(s,v)::ts=>if L.contains s=true then (s,v)::gM L ts else gM L ts
theorem Uj(L:List Nat):gM L []=[]:=rfl
theorem Ui(L:List Nat)(s:Nat)(v:I)(ts:List (Nat×I)):gM L ((s,v)::ts)=if L.contains s=true then (s,v)::gM L ts else gM L ts:=rfl
theorem BP(L:List Nat)(t:Nat):∀ ts,bU (gM L ts) t=.df∨bU (gM L ts) t=bU ts t
 | []=>.inl rfl
 |(s,v)::ts=>by
  simp only[gM];have ih:=BP L t ts;by_cases ab:L.contains s=true
  ·rw[if_pos ab];simp only[bU];split
   ·exact .inr rfl
   ·exact ih
  ·rw[if_neg ab];simp only[bU];split
   ·rename_i e;subst e
    left
    have:∀ ts,bU (gM L ts) t=.df:=by
     intro ts
     induction ts with
     |nil=>rfl
     |cons q ts ih2 =>
      obtain ⟨s',v'⟩:=q;simp only[gM];split
      ·rename_i h';simp only[bU];have:t≠s':=fun e=>ab (e▸h');rw[if_neg this];exact ih2
      ·exact ih2
    exact this ts
   ·exact ih
theorem ae.qm(L:List Nat){c:cO}{x:br}{Q:Exit→ai→Prop}{ts:List (Nat×I)}{os:List (Nat×aq)}(h:ae c x Q (au (gM L ts) os)):ae c x Q (au ts os):=by
 refine ae.sub ?_ h;rintro cc a w ⟨D,E,ab⟩;refine ⟨D,E,ab.sz,ab.er,fun t =>?_,ab.dH,ab.cU,ab.aQ,ab.bN,ab.cJ,ab.dM,ab.eK,ab.cM,ab.eS,ab.fp⟩;simp only[au];rcases BP L t ts with e | e
 ·rw[e];simp[aZ]
 ·rw[e];exact ab.dL t
theorem Bx:(∀ L,gM L []=[])∧(∀ L s v ts,gM L ((s,v)::ts)=if L.contains s=true then (s,v)::gM L ts else gM L ts)∧(∀ (a:Nat) l b,(a::l).contains b=(b==a||l.contains b))∧(∀ b:Nat,([]:List Nat).contains b=false)∧(∀ b,(false||b)=b)∧(∀ b,(true||b)=true)∧(∀ b,(b||true)=true)∧(∀ b,(b||false)=b)∧((false=true)=False) :=
 ⟨Uj,Ui,fun _ _ _=>List.contains_cons,fun _=>rfl,fun _=>rfl,fun _=>rfl,fun b=>by cases b <;>rfl,fun b=>by cases b <;>rfl,by simp⟩
end Go.Abs
namespace Go.Abs
open Go Go.RowKit
open Enc (enc)
def vT:Option aq→Option (List I×List I)
 |some (.bp ks vs)=>some (ks,vs)
 |_=>none
noncomputable def qC(A:ai)(n:Nat)(rest:List aC):Option (List I×List I)→cH
 |some (ks,vs)=>az rest (A.aV n (.bp ks vs))
 |none=>.fail
noncomputable def wa(A:ai)(n:Nat)(ty:cz)(k v:I)(rest:List aC):Option aq→cH
 |some (.bp ks vs)=>qC A n rest (fk ty k v ks vs)
 |_=>.fail
noncomputable def v8(A:ai)(ty:cz)(k v:I)(rest:List aC):I→cH
 | .mref n=>wa A n ty k v rest (A.o n)
 |_=>.fail
noncomputable def vX(A:ai)(n:Nat)(ty:cz)(k:I)(rest:List aC):Option aq→cH
 |some (.bp ks vs)=>qC A n rest (lE ty k ks vs)
 |_=>.fail
noncomputable def vW(A:ai)(ty:cz)(k:I)(rest:List aC):I→cH
 | .mref n=>vX A n ty k rest (A.o n)
 |_=>.fail
noncomputable def v7(A:ai)(d:Nat)(rest:List aC):Option aq→cH
 |none=>az rest ((A.aV d (.bp [] [])).put d (.mref d))
 |some _=>.fail
open Classical in
noncomputable def B5(A:ai)(d bytes:Nat)(z:I)(rest:List aC):I→cH
 | .int _ n=>if 0≤n∧n.toNat*bytes≤281474976710656∧n.toNat≤maxLen then az rest ((A.aV d (.box (.agg (List.replicate n.toNat z)))).put d (.view d [] 1 0 n.toNat)) else .fail
 |_=>.fail
noncomputable def sP(A:ai)(d bytes:Nat)(z n:I)(rest:List aC):Option aq→cH
 |none=>B5 A d bytes z rest n
 |some _=>.fail
noncomputable def tq(A:ai)(d:Nat)(rest:List aC):I→cH
 | .c7 ks vs=>az rest ((A.aV d (.it ks vs (List.range ks.length) none)).put d (.db d))
 |_=>.fail
noncomputable def tp(A:ai)(d:Nat)(x:I)(rest:List aC):Option aq→cH
 |none=>tq A d rest x
 |some _=>.fail
def uV:Option aq→Option I
 |some (.it ks vs _ cur)=>mc ks vs cur
 |_=>none
def uU(A:ai):I→Option I
 | .db n=>uV (A.o n)
 |_=>none
open Classical in
noncomputable def oZ(A:ai)(d:Option Nat)(n:Nat)(rest:List aC):Option aq→cH
 |some (.it ks vs left _)=>if left=[] then az rest (A.aT d (.tuple [.bool false])) else
   .any (fun i=>i∈left) fun i=>match ks[i]?,vs[i]? with
    |some kk,some x=>az rest ((A.aV n (.it ks vs (left.filter (· != i)) (some i))).aT d (.tuple [.bool true,kk,x]))
    |_,_=>.fail
 |_=>.fail
noncomputable def wj(A:ai)(d:Option Nat)(rest:List aC):I→cH
 | .db n=>oZ A d n rest (A.o n)
 |_=>.fail
section
variable (d:Option Nat) (rest:List aC) (A:ai)
theorem Vx(x:aO):bG A d (.nilC x) rest=cL (lF (ak A x)) (c6 d rest A):=rfl
theorem VB(neg:Bool)(x y:aO):bG A d (.ptrE neg x y) rest=cL (mC neg (iq (ak A x)) (iq (ak A y))) (c6 d rest A):=rfl
theorem Vq(ty:cz)(z:I)(ok:Bool)(m k:aO):bG A d (.lk ty z ok m k) rest=cL (qv ty z ok (ak A k) (fQ A (ak A m))) (c6 d rest A):=rfl
theorem UH(n:Nat):fQ A (.mref n)=vT (A.o n):=by
 simp only[fQ];cases A.o n with
 |none=>rfl
 |some y=>cases y <;>rfl
theorem Vv(ty:cz)(m k v:aO):bG A none (.eN ty m k v) rest=v8 A ty (ak A k) (ak A v) rest (ak A m):=by
 simp only[bG,bj];cases ak A m <;>rfl
theorem Vr(ty:cz)(m k:aO):bG A none (.ir ty m k) rest=vW A ty (ak A k) rest (ak A m):=by
 simp only[bG,bj];cases ak A m <;>rfl
theorem Vt(d:Nat):bG A (some d) .iu rest=v7 A d rest (A.o d):=by
 simp only[bG,bj];cases A.o d <;>rfl
theorem Vu(d e bytes:Nat)(z:I)(n:aO):bG A (some d) (.jY e bytes z n) rest=sP A d bytes z (ak A n) rest (A.o d):=by
 simp only[bG,bj];cases A.o d with
 |some _=>rfl
 |none=>simp only[sP];cases ak A n <;>rfl
theorem VC(d:Nat)(x:aO):bG A (some d) (.jm x) rest=tp A d (ak A x) rest (A.o d):=by
 simp only[bG,bj];cases A.o d with
 |some _=>rfl
 |none=>simp only[tp];cases ak A x <;>rfl
theorem Vf(x:aO):bG A d (.ent x) rest=cL (uU A (ak A x)) (c6 d rest A):=by
 simp only[bG,bj,bm];cases ak A x <;>rfl
theorem Vz(x:aO):bG A d (.hP x) rest=wj A d rest (ak A x):=by
 simp only[bG,bj];cases ak A x <;>rfl
end
theorem BV:(∀ rest A ty m k,bG A none (.ir ty m k) rest=vW A ty (ak A k) rest (ak A m))∧(∀ A ty k rest n,vW A ty k rest (.mref n)=vX A n ty k rest (A.o n))∧(∀ A n ty k rest ks vs,vX A n ty k rest (some (.bp ks vs))=qC A n rest (lE ty k ks vs)) ∧
  (∀ d rest A x y,bG A d (.max2 x y) rest=cL (qD (ak A x) (ak A y)) (c6 d rest A))∧(∀ a b,qD (.int .i64 a) (.int .i64 b)=some (.int .i64 (if b>a then b else a)))∧((I.any).bq=true) :=
 ⟨fun rest A=>Vr rest A,fun _ _ _ _ _=>rfl,fun _ _ _ _ _ _ _=>rfl,fun _ _ _ _ _=>rfl,fun _ _=>rfl,rfl⟩
theorem mq :
  (∀ d rest A x,bG A d (.nilC x) rest=cL (lF (ak A x)) (c6 d rest A))∧(∀ n p,lF (.ptr n p)=some (.ptr n p))∧(∀ x,lF (.ref x)=some (.ref x)) ∧
  (∀ d rest A neg x y,bG A d (.ptrE neg x y) rest=cL (mC neg (iq (ak A x)) (iq (ak A y))) (c6 d rest A))∧(iq .nilp=some true)∧(∀ n p,iq (.ptr n p)=some false)∧(∀ x,iq (.ref x)=some false) ∧
  (mC false (some true) (some true)=some (.bool true))∧(mC false (some false) (some true)=some (.bool false))∧(mC true (some true) (some true)=some (.bool false))∧(mC true (some false) (some true)=some (.bool true)) ∧
  (∀ d rest A ty z ok m k,bG A d (.lk ty z ok m k) rest=cL (qv ty z ok (ak A k) (fQ A (ak A m))) (c6 d rest A))∧(∀ A n,fQ A (.mref n)=vT (A.o n))∧(∀ A ks vs,fQ A (.c7 ks vs)=some (ks,vs))∧(∀ ks vs,vT (some (.bp ks vs))=some (ks,vs)) ∧
  (∀ ty z ok k ks vs,qv ty z ok k (some (ks,vs))=qw ok (fj ty z k ks vs))∧(∀ v b,qw false (some (v,b))=some v)∧(∀ v b,qw true (some (v,b))=some (.tuple [v,.bool b])) ∧
  (∀ rest A ty m k v,bG A none (.eN ty m k v) rest=v8 A ty (ak A k) (ak A v) rest (ak A m))∧(∀ A ty k v rest n,v8 A ty k v rest (.mref n)=wa A n ty k v rest (A.o n))∧(∀ A n ty k v rest ks vs,wa A n ty k v rest (some (.bp ks vs))=qC A n rest (fk ty k v ks vs)) ∧
  (∀ A n rest ks vs,qC A n rest (some (ks,vs))=az rest (A.aV n (.bp ks vs))) ∧
  (∀ rest A d,bG A (some d) .iu rest=v7 A d rest (A.o d))∧(∀ A d rest,v7 A d rest none=az rest ((A.aV d (.bp [] [])).put d (.mref d))) ∧
  (∀ rest A d e bytes z n,bG A (some d) (.jY e bytes z n) rest=sP A d bytes z (ak A n) rest (A.o d))∧(∀ A d bytes z n rest,sP A d bytes z n rest none=B5 A d bytes z rest n) ∧
  (∀ rest A d x,bG A (some d) (.jm x) rest=tp A d (ak A x) rest (A.o d))∧(∀ A d x rest,tp A d x rest none=tq A d rest x)∧(∀ A d rest ks vs,tq A d rest (.c7 ks vs)=az rest ((A.aV d (.it ks vs (List.range ks.length) none)).put d (.db d))) ∧
  (∀ d rest A x,bG A d (.ent x) rest=cL (uU A (ak A x)) (c6 d rest A))∧(∀ A n,uU A (.db n)=uV (A.o n))∧(∀ ks vs l cur,uV (some (.it ks vs l cur))=mc ks vs cur) ∧
  (∀ d rest A x,bG A d (.hP x) rest=wj A d rest (ak A x))∧(∀ A d rest n,wj A d rest (.db n)=oZ A d n rest (A.o n)) :=
 ⟨Vx,fun _ _=>rfl,fun _=>rfl,VB,rfl,fun _ _=>rfl,fun _=>rfl,rfl,rfl,rfl,rfl,Vq,UH,fun _ _ _=>rfl,fun _ _=>rfl,fun _ _ _ _ _ _=>rfl,fun _ _=>rfl,fun _ _=>rfl,
  fun rest A ty m k v=>Vv rest A ty m k v,fun _ _ _ _ _ _=>rfl,fun _ _ _ _ _ _ _ _=>rfl,fun _ _ _ _ _=>rfl,fun rest A d=>Vt rest A d,fun _ _ _=>rfl,fun rest A d e bytes z n=>Vu rest A d e bytes z n,fun _ _ _ _ _ _=>rfl,
  fun rest A d x=>VC rest A d x,fun _ _ _ _=>rfl,fun _ _ _ _ _=>rfl,Vf,fun _ _=>rfl,fun _ _ _ _=>rfl,Vz,fun _ _ _ _=>rfl⟩
theorem bt:(∀ n p z lo k,b5 none (.view n p z lo k)=true)∧(∀ n,b5 none (.mref n)=true)∧(∀ n p,b5 none (.ptr n p)=true)∧(∀ x,b5 none (.ref x)=true)∧b5 none .nilp=true∧b5 none .dn=true∧b5 none (.raw (.map none))=true∧(∀ ks vs,b5 none (.c7 ks vs)=true)∧(∀ {α:Type} [Enc α] (l:List α),b5 none (enc l)=true) :=
 ⟨fun _ _ _ _ _=>rfl,fun _=>rfl,fun _ _=>rfl,fun _=>rfl,rfl,rfl,rfl,fun _ _=>rfl,fun l=>by simp[lq,lp]⟩
section
variable {α:Type} [Enc α] [DecidableEq α] {ty:cz}
theorem sj(ay:∀ x y:α,bX ty (enc x) (enc y)=some (decide (x=y)))(k:α):∀ (ks:List α) (i:Nat),ev ty (enc k) (ks.map enc) i=some ((ks.findIdx? fun x=>decide (k=x)).map (· + i))
 | [],i=>rfl
 |x::ks,i=>by
  simp only[Z3,ev,ay,List.findIdx?_cons];by_cases h:k=x
  ·simp[h]
  ·simp only[h,decide_false,Z2,if_false];rw[sj ay k ks (i+1)];cases ks.findIdx? fun x=>decide (k=x) with
   |none=>rfl
   |some j=>simp;omega
theorem sI(ay:∀ x y:α,bX ty (enc x) (enc y)=some (decide (x=y)))(z:I)(k:α)(ks:List α)(vs:List I) :
  fj ty z (enc k) (ks.map enc) vs=match ks.findIdx? fun x=>decide (k=x) with
   |some i=>(vs[i]?).map fun v=>(v,true)
   |none=>some (z,false):=by
 simp only[fj,ay,Option.isSome_some,if_true,sj ay];cases ks.findIdx? fun x=>decide (k=x) <;>rfl
theorem wb(ay:∀ x y:α,bX ty (enc x) (enc y)=some (decide (x=y)))(k:α)(v:I)(hv:v.bS=true)(ks:List α)(vs:List I) :
  fk ty (enc k) v (ks.map enc) vs=match ks.findIdx? fun x=>decide (k=x) with
   |some i=>some (ks.map enc,vs.set i v)
   |none=>some ((ks++[k]).map enc,vs++[v]):=by
 simp only[fk,ay,Option.isSome_some,hv,Bq (kz k),and_self,if_true,sj ay];cases ks.findIdx? fun x=>decide (k=x) with
 |none=>simp
 |some i=>rfl
omit [Enc α] in
theorem pZ{k:α}{ks:List α} : (ks.findIdx? fun x=>decide (k=x)).isSome=decide (k∈ks):=by
 induction ks with
 |nil=>rfl
 |cons x ks ih =>
  simp only[List.findIdx?_cons,zz8];by_cases h:k=x
  ·simp[h]
  ·simp only[h,decide_false,Z2,if_false,Option.isSome_map,ih,false_or]
theorem fZ(ay:∀ x y:α,bX ty (enc x) (enc y)=some (decide (x=y)))(k:α)(ks:List α):fj ty (.bool false) (enc k) (ks.map enc) (List.replicate ks.length (.bool true))=some (.bool (decide (k∈ks)),decide (k∈ks)):=by
 rw[sI ay,←pZ];cases h:ks.findIdx? fun x=>decide (k=x) with
 |none=>rfl
 |some i =>
  have:=(List.findIdx?_eq_some_iff_getElem.1 h).1;simp[this]
def gD{α:Type}[DecidableEq α](ks:List α)(k:α):List α:=if k∈ks then ks else ks++[k]
theorem wc(ay:∀ x y:α,bX ty (enc x) (enc y)=some (decide (x=y)))(k:α)(ks:List α):fk ty (enc k) (.bool true) (ks.map enc) (List.replicate ks.length (.bool true))=some ((gD ks k).map enc,List.replicate (gD ks k).length (.bool true)):=by
 rw[wb ay k _ rfl];have hm:=pZ (k:=k) (ks:=ks);cases h:ks.findIdx? fun x=>decide (k=x) with
 |none =>
  rw[h] at hm;have:k∉ks:=by simpa using hm.symm
  simp only[gD,if_neg this]
  congr 2
  rw[Z6,List.length_singleton,List.replicate_succ']
 |some i =>
  rw[h] at hm;have:k∈ks:=by simpa using hm.symm
  simp only[gD,if_pos this]
  congr 2
  have:=(List.findIdx?_eq_some_iff_getElem.1 h).1;exact List.ext_getElem (by simp) fun j J U=>by
   simp only[List.getElem_set,List.getElem_replicate];split <;>rfl
end
theorem Ug{m sz lo l i:Nat}{fs:List I}(h:i<l):mi m [] sz lo l sz (i:Int) (some fs)=some (.ptr m [lo+i]):=by rw[Uf h];rfl
theorem zU:(∀ {α:Type} [Enc α] (x:α),(enc x).bq=true)∧(∀ n p z lo k,(I.view n p z lo k).bq=false)∧(∀ n,(I.mref n).bq=false)∧(∀ n p,(I.ptr n p).bq=false)∧(∀ n k,(I.own n k).bq=false) :=
 ⟨@kz,fun _ _ _ _ _=>rfl,fun _=>rfl,fun _ _=>rfl,fun _ _=>rfl⟩
end Go.Abs
namespace Go.Abs
open Go Go.RowKit
open Enc (enc)
theorem bC.Ge{A:ai}{d n T z:Nat}(af:A.t d=.nils z)(hn:A.o n=none)(hlt:n<1000000):bC A ((A.aV n (.dC T [])).put d (.own n 0)):=by
 rintro c a w ⟨D,E,h⟩;have ay:E n=none:=by have:=h.bN n;rw[hn] at this;exact this
 have ao:dQ w D E w D (fun m=>if m=n then some (.rw none 0) else E m):=by
  have eG:∀ {m:Nat} {e:bJ},E m=some e→(if m=n then some (.rw none 0) else E m)=some e:=fun {m e} he=>by
   have:m≠n:=fun e=>by rw[e,ay] at he;cases he
   rw[if_neg this];exact he
  refine ⟨fun _ _ h=>h,fun _ _ _ _ h=>h,fun m b aX he=>eG he,fun m aF l he =>?_,fun m b he=>eG he,fun m b he=>eG he,fun _ _ _ _ h=>h⟩
  ·have:m≠n:=fun e=>by rw[e,ay] at he;cases he
   exact ⟨aF,l,by simp only[if_neg this];exact he,Z4 _,fun _=>rfl⟩
 refine ⟨D,fun m=>if m=n then some (.rw none 0) else E m,h.sz,h.er,fun t =>?_,h.dH,h.cU,h.aQ,fun m =>?_,fun m m' e e' b J U ah ar =>?_,fun m e hm =>?_,h.eK,h.cM,h.eS,h.fp⟩
 ·simp only[ai.put,ai.aV];by_cases ht:t=d
  ·subst ht;simp only[if_true];have hv:=h.dL t;rw[af] at hv;obtain ⟨cs,q1,q2⟩:=hv;simp only[al] at q2;subst q2;refine ⟨[.slice none 0 0],by simpa[bu,I.isAgg] using q1,?_⟩;simp only[al,if_true];exact ⟨none,0,rfl,Z4 _,⟨_,_,_,rfl⟩,fun _=>trivial⟩
  ·simp only[if_neg ht];exact aZ.later ao (h.dL t)
 ·simp only[ai.put,ai.aV];by_cases hm:m=n
  ·subst hm;simp only[if_true,cR];exact ⟨none,by simp,by simp,trivial⟩
  ·simp only[if_neg hm];exact (h.bN m).later ao (by simp only[if_neg hm]) fun _ _ _ _=>⟨rfl,fun _ ho=>ho⟩
 ·by_cases hm:m=n <;>by_cases hm':m'=n
  ·rw[hm,hm']
  ·simp only[if_pos hm,v6] at J;subst J;simp[bJ.aF] at ah
  ·simp only[if_pos hm',v6] at U;subst U;simp[bJ.aF] at ar
  ·simp only[if_neg hm] at J;simp only[if_neg hm'] at U;exact h.cJ m m' e e' b J U ah ar
 ·have hmn:m≠n:=fun e=>by rw[e,h.jW (.inr hlt)] at hm;cases hm
  simp only[if_neg hmn];exact h.dM m e hm
theorem bC.Gf{ts:List (Nat×I)}{os:List (Nat×aq)}(d n T z:Nat)(af:bU ts d=.nils z)(hn:aj os n=none){B:ai}(h:bC (au ((d,.own n 0)::ts) ((n,.dC T [])::os)) B)(hlt:n<1000000:=by decide):bC (au ts os) B :=
 ((bC.Ge (A:=au ts os) (T:=T) af hn hlt).trans (by rw[qB,sM];exact bC.refl _)).trans h
theorem Gr{A:ai}{d:Option Nat}{e bytes n l:Nat}{xs:List Int}{y:Int}{rest:List aC}(ao:l=xs.length)(J:xs.length+1≤maxLen)(U:(xs.length+1)*bytes≤140737488355328) :
  oj A d e 1 bytes (.int .i64 0) n l e xs rest (enc [y])=az rest ((A.aV n (.dC e (xs++[y]))).aT d (.own n (xs.length+1))):=by
 show oj A d e 1 bytes (.int .i64 0) n l e xs rest (.slice 1 [.int .i64 y])=_
 simp only[oj];rw[if_pos ⟨ao,rfl,rfl,rfl,rfl,by simp,J,U⟩];rfl
def iJ(n k:Nat):I→I
 | .own n' k'=>if n'=n∧k'=k then .view n [] 1 0 k else .own n' k'
 |v=>v
def iI(n:Nat):I→I
 | .own n' k'=>if n'=n∧k'=0 then .nils 1 else .own n' k'
 |v=>v
def jr(f:I→I):aq→aq
 | .box v=>.box (f v)
 |y=>y
def qH(n k:Nat)(v:I):Prop:=v=.own n k∨v.only (fun j=>j != n)=true
def VK(n k:Nat)(y:aq):Prop:=y=.box (.own n k)∨y.only (fun j=>j != n)=true
theorem tF{n k:Nat}{v:I}(h:v.only (fun j=>j != n)=true):iJ n k v=v:=by
 cases v <;>try rfl
 rename_i n' k';simp only[I.only,bne_iff_ne,ne_eq] at h;simp only[iJ,h,false_and,if_false]
theorem EE{n:Nat}{v:I}(h:v.only (fun j=>j != n)=true):iI n v=v:=by
 cases v <;>try rfl
 rename_i n' k';simp only[I.only,bne_iff_ne,ne_eq] at h;simp only[iI,h,false_and,if_false]
theorem oU(f:I→I)(hf:f .df=.df)(ts:List (Nat×I))(t:Nat):bU (ts.map fun q=>(q.1,f q.2)) t=f (bU ts t):=by
 induction ts with
 |nil=>exact hf.symm
 |cons q ts ih =>
  obtain ⟨k,v⟩:=q;simp only[Z3,bU];split
  ·rfl
  ·exact ih
theorem sJ(f:aq→aq)(os:List (Nat×aq))(t:Nat):aj (os.map fun q=>(q.1,f q.2)) t=(aj os t).map f:=by
 induction os with
 |nil=>rfl
 |cons q os ih =>
  obtain ⟨k,v⟩:=q;simp only[Z3,aj];split
  ·rfl
  ·exact ih
theorem cR.cX{M:Nat→Prop}{w:World}{D:aP}{E E':aY}{p:Nat→Bool}(hp:∀ n,p n=true→E' n=E n){m:Nat}(ay:E' m=E m){y:aq}(hon:y.only p=true)(ho:cR M w D E m (some y)):cR M w D E' m (some y):=by
 cases y with
 |box x =>
  obtain ⟨b,cs,T,k1,k2,k3,k4,k5⟩:=ho;exact ⟨b,cs,T,ay.trans k1,k2,k3,al.cX hp _ _ (by simpa[aq.only] using hon) k4,k5⟩
 |bW T sz es =>
  obtain ⟨aF,k1,k2,k3⟩:=ho;refine ⟨aF,ay.trans k1,k2,?_⟩;cases aF with
  |none=>exact k3
  |some bc =>
   obtain ⟨b,cap⟩:=bc;obtain ⟨cs,pre,rest,q1,q2,q3,q4,q5⟩:=k3;exact ⟨cs,pre,rest,q1,q2,q3,aM.cX hp _ _ (by simpa[aq.only] using hon) q4,q5⟩
 |dC T xs =>
  obtain ⟨aF,k1,k2,k3⟩:=ho;exact ⟨aF,ay.trans k1,k2,k3⟩
 |dA x =>
  obtain ⟨b,k1,k2⟩:=ho;exact ⟨b,ay.trans k1,k2⟩
 |bp ks vs =>
  obtain ⟨b,es,ck,k1,k2,k3,k4,k5,k6,k7⟩:=ho;simp only[aq.only,t8] at hon;exact ⟨b,es,ck,ay.trans k1,k2,k3,k4,aE.cX hp _ _ hon.1 k5,aE.cX hp _ _ hon.2 k6,k7⟩
 |it ks vs left cur =>
  obtain ⟨r,b,es,ck,si,se,la,k1,k2,k3,k4,k5,k6,k7⟩:=ho;simp only[aq.only,t8] at hon;exact ⟨r,b,es,ck,si,se,la,ay.trans k1,k2,k3,k4,aE.cX hp _ _ hon.1 k5,aE.cX hp _ _ hon.2 k6,k7⟩
theorem rm(xs:List Int):(I.agg (xs.map enc)).aX=.eD (List.replicate xs.length .one):=by
 show cK.eD (I.cT _)=_
 congr 1
 induction xs with
 |nil=>rfl
 |cons x xs ih=>simp only[Z3,I.cT,ih,zz6,List.replicate_succ];rfl
theorem qP{w:World}{D:aP}{E:aY} : ∀ {xs:List Int},(∀ x∈xs,IntKind.i64.min≤x∧x≤IntKind.i64.max)→aM w D E (xs.map enc) (xs.map (Value.int .i64))
 | [],_=>rfl
 |x::xs,h=>⟨[.int .i64 x],xs.map (Value.int .i64),rfl,⟨rfl,h x (by simp)⟩,qP fun y hy=>h y (by simp[hy])⟩
theorem bC.Xq{ts:List (Nat×I)}{os:List (Nat×aq)}{n T:Nat}{B:ai}(hn:aj os n=some (.dC T []))
  (h:bC (au (ts.map fun q=>(q.1,iI n q.2)) (os.map fun q=>(q.1,jr (iI n) q.2))) B):bC (au ts os) B:=by
 refine bC.trans ?_ h;rintro c a w ⟨D,E,ab⟩;obtain ⟨aF,ay,-,hblk⟩:=ab.rA (n:=n) (T:=T) (xs:=[]) hn;have hnone:aF=none:=by
  cases aF with
  |none=>rfl
  |some bc=>obtain ⟨b,cap⟩:=bc;obtain ⟨_,_,_,_,_,h,_⟩:=hblk;exact absurd rfl h
 subst hnone;have conv:∀ (v:I) (cs:List Value),al w D E v cs→al w D E (iI n v) cs:=fun v cs hr=>by
  cases v <;>try exact hr
  rename_i n' k';simp only[iI];split
  ·rename_i bH;obtain ⟨rfl,rfl⟩:=bH;obtain ⟨blk',l,q3,q4,q5,q6⟩:=hr;rw[ay] at q3;simp only[v6,bJ.rw.injEq,List.length_nil] at q3;obtain ⟨rfl,rfl⟩:=q3;exact q6 rfl
  ·exact hr
 refine ⟨D,E,ab.sz,ab.er,fun t =>?_,ab.dH,ab.cU,ab.aQ,fun m =>?_,ab.cJ,ab.dM,ab.eK,ab.cM,ab.eS,ab.fp⟩
 ·show aZ w D E (bU _ t) _
  rw[oU _ rfl];have:=ab.dL t;simp only[au] at this;revert this;generalize bU ts t=v;intro hv;cases v <;>try exact hv
  rename_i n' k';obtain ⟨cs,q1,q2⟩:=hv;have:=conv _ _ q2
  revert this;simp only[iI];split
  ·intro this;exact ⟨cs,q1,this⟩
  ·intro this;exact ⟨cs,q1,this⟩
 ·show cR _ w D E m (aj _ m)
  rw[sJ];have:=ab.bN m;simp only[au] at this;revert this;cases aj os m with
  |none=>exact id
  |some y =>
   cases y <;>try exact id
   rename_i x;rintro ⟨b,cs,T,k1,k2,k3,k4,k5⟩;refine ⟨b,cs,T,?_,k2,k3,conv _ _ k4,k5⟩;rw[k1];have:(iI n x).aX=x.aX:=by
    cases x <;>try rfl
    simp only[iI];split <;>rfl
   rw[this]
theorem ae.Xp{c:cO}{x:br}{Q:Exit→ai→Prop}{ts:List (Nat×I)}{os:List (Nat×aq)}{n T:Nat}{xs:List Int}(hn:aj os n=some (.dC T xs))(hne:xs≠[])(hlt:n<1000000)
  (ht:∀ t,qH n xs.length (bU ts t)) (ho:∀ m y,aj os m=some y→m≠n→VK n xs.length y)
  (h:∀ q:Nat,ae c x Q (au (ts.map fun p=>(p.1,iJ n xs.length p.2)) ((n,.box (.agg ((xs++List.replicate q 0).map enc)))::os.map fun p=>(p.1,jr (iJ n xs.length) p.2)))):ae c x Q (au ts os):=by
 rintro code hc a w ⟨D,E,ab⟩;obtain ⟨aF,ay,hr,hblk⟩:=ab.rA (n:=n) hn;cases aF with
 |none=>exact absurd hblk hne
 |some bc =>
 obtain ⟨b,cap⟩:=bc;obtain ⟨cs,q,hM,hb,hcs,-,hcap,hmax,hD⟩:=hblk;have hp:∀ j,(fun j=>j != n) j=true→(fun j=>if j=n then some (bJ.aN b (.eD (List.replicate (xs.length+q) .one))) else E j) j=E j:=fun j hj=>by
  have:j≠n:=by simpa using hj
  simp only[if_neg this]
 have conv:∀ cs0,al w D E (.own n xs.length) cs0→al w D (fun j=>if j=n then some (bJ.aN b (.eD (List.replicate (xs.length+q) .one))) else E j) (.view n [] 1 0 xs.length) cs0:=fun cs0 hr=>by
  obtain ⟨blk',l,q3,q4,q5,q6⟩:=hr;rw[ay] at q3;simp only[v6,bJ.rw.injEq] at q3;obtain ⟨rfl,rfl⟩:=q3;have:=q6 rfl;refine ⟨b,_,0,List.replicate (xs.length+q) .one,if_pos rfl,rfl,rfl,?_,by rw[List.length_replicate];omega,by rw[List.length_replicate];omega,fun s ab =>?_⟩
  ·rw[this,List.length_replicate];simp only[Nat.zero_mul,Nat.add_zero,Nat.sub_zero,hcap]
  ·rw[List.eq_of_mem_replicate ab];rfl
 refine h q code hc a w ⟨D,fun j=>if j=n then some (.aN b (.eD (List.replicate (xs.length+q) .one))) else E j,ab.sz,ab.er,fun t =>?_,ab.dH,ab.cU,ab.aQ,fun m =>?_,fun m m' e e' b1 J U ah ar =>?_,fun m e hm =>?_,ab.eK,ab.cM,ab.eS,ab.fp⟩
 ·show aZ w D _ (bU _ t) _
  rw[oU _ rfl];have hv:=ab.dL t;simp only[au] at hv;rcases ht t with J | J
  ·rw[J] at hv ⊢;simp only[iJ,and_self,if_true];obtain ⟨cs0,q1,q2⟩:=hv;exact ⟨cs0,q1,conv _ q2⟩
  ·rw[tF J];exact aZ.cX hp J hv
 ·show cR _ w D _ m (aj _ m)
  simp only[aj];by_cases hm:m=n
  ·subst hm;simp only[if_true];refine ⟨b,cs,T,?_,hM,hb,?_,hD⟩
   ·simp only[if_true];rw[rm,Z6,List.length_replicate]
   ·show aM w D _ _ _
    rw[hcs];refine qP fun y hy =>?_;rcases X5.1 hy with hy | hy
    ·exact hr y hy
    ·rw[List.eq_of_mem_replicate hy];decide
  ·simp only[if_neg hm];rw[sJ];have hob:=ab.bN m;simp only[au] at hob;cases hy:aj os m with
   |none=>rw[hy] at hob;simp only[cR,Option.map_none] at hob ⊢;rw[if_neg hm];exact hob
   |some y =>
    rw[hy] at hob;rcases ho m y hy hm with rfl | J
    ·obtain ⟨b1,cs1,rQ,k1,k2,k3,k4,k5⟩:=hob;refine ⟨b1,cs1,rQ,?_,k2,k3,?_,k5⟩
     ·simp only[if_neg hm];rw[k1];simp only[iJ,and_self,if_true];rfl
     ·simp only[iJ,and_self,if_true];exact conv _ k4
    ·have e:jr (iJ n xs.length) y=y:=by
      cases y <;>try rfl
      simp only[aq.only] at J;simp only[jr,tF J]
     simp only[Z7,e];exact hob.cX hp (if_neg hm) J
 ·have cut:∀ m e,(if m=n then some (bJ.aN b (.eD (List.replicate (xs.length+q) .one))) else E m)=some e→∃ e2,E m=some e2∧e2.aF=e.aF:=fun m e he=>by
   by_cases hm:m=n
   ·subst hm;rw[if_pos rfl] at he;cases he;exact ⟨_,ay,rfl⟩
   ·rw[if_neg hm] at he;exact ⟨e,he,rfl⟩
  obtain ⟨e2,k1,k2⟩:=cut m e J;obtain ⟨e3,k3,k4⟩:=cut m' e' U;exact ab.cJ m m' e2 e3 b1 k1 k3 (k2.trans ah) (k4.trans ar)
 ·have hmn:m≠n:=fun e=>by rw[e,ab.jW (.inr hlt)] at hm;cases hm
  simp only[if_neg hmn];exact ab.dM m e hm
end Go.Abs
namespace Go.Abs
open Go Go.RowKit
def sE(n:Nat)(cl:List Nat)(i:Nat):Bool:=(List.range n).all fun j=>j==i||(cl.getD i 0).testBit j
def pf(ab:List FuncId)(L:dW)(on:List (List Nat))(gs:List aC)(cl:List Nat)(σ:List Nat):Bool :=
 (Nat.beq σ.length gs.length&&(qG σ&&(σ.all (fun i=>decide (i<gs.length))&&((List.range gs.length).all (fun i=>σ.contains i)&&(List.range gs.length).all fun i=>mw (gs.getD i default).op&&(gZ L (gs.getD i default)||(sE gs.length cl i&&σ.getLast?==some i))))))&&(pH ab L gs cl [] σ&&(List.range gs.length).all fun i=>(on.getD i []).all (fun k=>decide (k<i))&&Nat.beq (cl.getD i 0) (kV cl (on.getD i [])))
structure tV (ab:List FuncId) (L:dW) (l:List Oper) (gs:List aC) (σ:List Nat):Prop where
 nA:σ.Nodup
 lt:∀ i∈σ,i<gs.length
 all:∀ i,i<gs.length→i∈σ
 ok:∀ i,i<gs.length→mw (gs.getD i default).op=true
 qp:∀ i o,l[i]?=some o→gZ L (gs.getD i default)=true∨(σ.getLast?=some i∧∀ (S:Nat→Prop),(∀ i o,l[i]?=some o→S i→∀ k∈ca o,S k)→(∀ k∈ca o,S k)→∀ j,j<gs.length→j≠i→S j)
 len:σ.length=gs.length
 ib:∀ i o,l[i]?=some o→∀ k∈ca o,k<i
 oL:∀ (S:Nat→Prop),(∀ i o,l[i]?=some o→S i→∀ k∈ca o,S k)→∀ s1 i s2 o,σ=s1++i::s2→l[i]?=some o→(∀ k∈ca o,S k)→∀ j∈s1,¬ S j→mg ab L (gs.getD j default) (gs.getD i default)=true
theorem Cx{ab:List FuncId}{L:dW}{l:List Oper}{gs:List aC}{cl σ:List Nat}(hlen:gs.length=l.length)(h:pf ab L (l.map ca) gs cl σ=true):tV ab L l gs σ:=by
 simp only[pf,t8,X0,decide_eq_true_eq,zz4,List.contains_eq_mem] at h;obtain ⟨⟨J,U,ah,ar,h5⟩,h6,h7⟩:=h;have fx:∀ i o,l[i]?=some o→(∀ k∈ca o,k<i)∧(∀ j,(cl.getD i 0).testBit j=true→j∈ca o∨∃ k∈ca o,(cl.getD k 0).testBit j=true):=by
  intro i o ho;have hi:i<l.length:=(Z5.1 ho).1;have h8:=h7 i (by omega);have hon:(l.map ca).getD i []=ca o:=by simp[Z0,ho]
  rw[hon] at h8;have hb:=Nat.eq_of_beq_eq_true h8.2;exact ⟨h8.1,fun j hj=>rC (by rw[←hb];exact hj)⟩
 have keyS:∀ (S:Nat→Prop),(∀ i o,l[i]?=some o→S i→∀ k∈ca o,S k)→∀ n i o,i≤n→l[i]?=some o→(∀ k∈ca o,S k)→∀ j,(cl.getD i 0).testBit j=true→S j:=by
  intro S hS n
  induction n with
  |zero =>
   intro i o hi ho hon j hj;obtain ⟨h8,h9⟩:=fx i o ho;rcases h9 j hj with h | ⟨k,hk,_⟩
   ·exact hon j h
   ·have:=h8 k hk;omega
  |succ n ih =>
   intro i o hi ho hon j hj;obtain ⟨h8,h9⟩:=fx i o ho;rcases h9 j hj with h | ⟨k,hk,hjk⟩
   ·exact hon j h
   ·have hki:=h8 k hk;have hkl:k<l.length:=Nat.lt_trans hki (Z5.1 ho).1;obtain ⟨ok,hok⟩:∃ ok,l[k]?=some ok:=⟨l[k],Y2 hkl⟩
    exact ih k ok (by omega) hok (hS k ok hok (hon k hk)) j hjk
 refine ⟨wh U,ah,ar,fun i hi=>(h5 i hi).1,fun i o ho =>?_,Nat.eq_of_beq_eq_true J,fun i o ho=>(fx i o ho).1,?_⟩
 ·have hi:i<gs.length:=by rw[hlen];exact (Z5.1 ho).1
  have h5o:=(h5 i hi).2;rw[Bool.or_eq_true] at h5o;rcases h5o with h | h
  ·exact .inl h
  ·rw[t8] at h;obtain ⟨h,hla⟩:=h;refine .inr ⟨by simpa using hla,fun S hS hon j hj hji =>?_⟩;simp only[sE,X0,zz4,Bool.or_eq_true,beq_iff_eq] at h;rcases h j hj with e | e
   ·exact absurd e hji
   ·exact keyS S hS i i o (Z4 _) ho hon j e
 intro S hS s1 i s2 o e ho hon j hj hnj;have key:=keyS S hS;rcases ub h6 s1 i s2 e j (.inr hj) with h | h
 ·exact absurd (key i i o (Z4 _) ho hon j h) hnj
 ·exact h
section
variable {c:cO}
theorem Gl{K:ai→Prop}{fs:List FuncId}{L:dW}{aS:Array Oper}{gs:List aC}{σ:List Nat}{Q:Exit→Act→World→Prop}(hQ:∀ B a w,K B→bV c B a w→Q .normal a w)(hgs:fE c.P c.n aS aS.toList=some gs)(af:tV fs L aS.toList gs σ) :
  ∀ (fuel:Nat) (listed:Array Bool) (A:ai) (a:Act) (w:World),listed.size=aS.size→(∀ i o,aS.toList[i]?=some o→listed.getD i false=true→∀ k∈ca o,listed.getD k false=true)→(dU σ listed).length≤fuel →
   (dU σ listed=[]∨cP L A)→bM c.P c.Y fs K (az (gi gs σ listed) A)→bV c A a w→wpAnyIn c.bz 9 c.P .any aS Q fuel listed a w:=by
 obtain ⟨hlen,hat⟩:=ic hgs;have onOf_mem:∀ (o:Oper) (e:Edge),e∈o.after→Region.binds .any e=true→e.on∈ca o:=fun o e he hb=>by
  simp only[ca,X1,X9];exact ⟨e,⟨by simpa using he,hb⟩,rfl⟩
 have of_onOf:∀ (o:Oper) (k:Nat),k∈ca o→∃ e∈o.after,Region.binds .any e=true∧e.on=k:=fun o k hk=>by
  simp only[ca,X1,X9] at hk;obtain ⟨e,⟨J,U⟩,ah⟩:=hk;exact ⟨e,by simpa using J,U,ah⟩
 have hgl:gs.length=aS.size:=by rw[hlen,X2]
 have last:∀ (listed:Array Bool) (A:ai) (a:Act) (w:World),listed.size=aS.size→Region.ready .any aS listed=[]→bM c.P c.Y fs K (az (gi gs σ listed) A)→bV c A a w→Q .normal a w:=by
  intro listed A a w hsz hr hwp ab;have hnone:dU σ listed=[]:=by
   have all:∀ n,∀ i,i<n→i<aS.size→listed.getD i true=true:=by
    intro n
    induction n with
    |zero=>intro i hi;omega
    |succ n ih =>
     intro i hi his;cases hb:listed.getD i true with
     |true=>rfl
     |false =>
      exfalso
      have ho:aS[i]?=some aS[i]:=zz2 his;have:i∈Region.ready .any aS listed:=mem_ready.2 ⟨hb,aS[i],ho,fun e he hbd=>by
       have hlt:=af.ib i aS[i] (by simp) e.on (onOf_mem _ e he hbd);have J:=ih e.on (by omega) (by omega);have U:e.on<listed.size:=by omega
       simpa[Array.getD_eq_getD_getElem?,U] using J⟩
      rw[hr] at this;cases this
   simp only[dU];refine List.filter_eq_nil_iff.2 fun i hi =>?_;have:=all (i+1) i (by omega) (by rw[←hgl];exact af.lt i hi);simp only[this,Bool.not_true,Z2,not_false_eq_true]
  simp only[gi,hnone,X7,az] at hwp;cases hwp with
  |done hk=>exact hQ A a w hk ab
 intro fuel
 induction fuel with
 |zero =>
  intro listed A a w hsz hcl hcnt hinv hwp ab;have hnone:dU σ listed=[]:=List.length_eq_zero_iff.1 (by omega);have hr:Region.ready .any aS listed=[]:=by
   refine List.eq_nil_iff_forall_not_mem.2 fun i hi =>?_;obtain ⟨J,o,ho,_⟩:=mem_ready.1 hi;have:i∈dU σ listed:=by
    simp only[dU,X9,J,Bool.not_false,and_true];exact af.all i (by rw[hgl];exact (Y0.1 ho).1)
   rw[hnone] at this;cases this
  exact ⟨hr,last listed A a w hsz hr hwp ab⟩
 |succ fuel ih =>
  intro listed A a w hsz hcl hcnt hinv hwp ab;refine ⟨fun hr=>last listed A a w hsz hr hwp ab,fun i hi =>?_⟩;obtain ⟨hun,o,ho,hall⟩:=mem_ready.1 hi;have hin:i<aS.size:=(Y0.1 ho).1;obtain ⟨s1,s2,hσ,e1,e2⟩:=wS af.nA (af.all i (by omega)) (by omega) hun;have hinv:cP L A:=by
   rcases hinv with h | h
   ·rw[e1] at h;simp at h
   ·exact h
  have hol:aS.toList[i]?=some o:=by simpa using ho
  obtain ⟨g,hgi,hcg⟩:=hat i o hol;have hon:∀ k∈ca o,listed.getD k false=true:=fun k hk=>by
   obtain ⟨e,J,U,ah⟩:=of_onOf o k hk;exact ah▸hall e J U
  have hgd:gs.getD i default=g:=by simp[Z0,hgi]
  have hwp':bM c.P c.Y fs K (az (g::gi gs σ (listed.setIfInBounds i true)) A):=by
   simp only[gi,e1,Y3,Z3,hgd] at hwp;simp only[gi,e2,Y3];refine bM.nc hinv (fun j hj =>?_) hwp;obtain ⟨k,hk,rfl⟩:=X1.1 hj;obtain ⟨hk1,hk2⟩:=X9.1 hk;have:=af.oL (fun k=>listed.getD k false=true) hcl s1 i s2 o hσ hol hon k hk1 (by
    have hks:k<listed.size:=by
     have:=af.lt k (by rw[hσ];exact List.mem_append_left _ hk1);omega
    simp[Array.getD_eq_getD_getElem?,hks] at hk2 ⊢;exact hk2)
   rw[hgd] at this;have hkl:=af.lt k (by rw[hσ];exact List.mem_append_left _ hk1);have hks:k<aS.size:=by omega
   refine ⟨this,?_⟩;rcases af.qp k aS[k] (by simp) with h | h
   ·exact h
   ·exfalso
    have h9:=h.1;rw[hσ,List.getLast?_append] at h9;have hne:(i::s2).getLast?=some k:=by
     cases h10:(i::s2).getLast? with
     |none=>simp at h10
     |some q=>rw[h10] at h9;simpa using h9
    have hk2:k∈i::s2:=List.mem_of_getLast? hne;have hnd:=af.nA;rw[hσ] at hnd;exact (List.nodup_append.1 hnd).2.2 k hk1 k hk2 rfl
  unfold wpOpIn;rw[ho];have hgm:g∈gs:=List.mem_of_getElem? hgi;have hokg:mw g.op=true:=by
   have:=af.ok i (by omega)
   rwa [hgd] at this
  have hcl':∀ m om,aS.toList[m]?=some om→(listed.setIfInBounds i true).getD m false=true→∀ k∈ca om,(listed.setIfInBounds i true).getD k false=true:=by
   intro m om hom hm k hk;by_cases hmi:m=i
   ·subst hmi;rw[hol,v6] at hom;subst hom;exact getD_set_true (hon k hk)
   ·rw[getD_set_ne false (Ne.symm hmi)] at hm;exact getD_set_true (hcl m om hom hm k hk)
  have hfu:(dU σ (listed.setIfInBounds i true)).length≤fuel:=by
   have:(dU σ listed).length=(dU σ (listed.setIfInBounds i true)).length+1:=by
    rw[e1,e2];simp;omega
   omega
  rcases af.qp i o hol with hlb | ⟨hla,hlb⟩
  ·rw[hgd] at hlb;exact sq hcg hinv ⟨hokg,hlb⟩ hwp' ab fun B a' w' hw hiB hs'=>ih _ B a' w' (by simpa using hsz) hcl' hfu (.inr hiB) hw hs'
  ·have hnil:dU σ (listed.setIfInBounds i true)=[]:=by
    simp only[dU];refine List.filter_eq_nil_iff.2 fun j hj =>?_;have hjl:=af.lt j hj;by_cases hji:j=i
    ·subst hji;have:j<listed.size:=by omega
     simp[this]
    ·have h5:=hlb (fun k=>listed.getD k false=true) hcl hon j hjl hji;have hjs:j<listed.size:=by omega
     have h6:(listed.setIfInBounds i true).getD j true=listed.getD j true:=getD_set_ne true (Ne.symm hji);rw[h6];simp[Array.getD_eq_getD_getElem?,hjs] at h5 ⊢;exact h5
   have hin0:cP [] A:=fun s ns h=>by cases h
   exact sq (L:=[]) hcg hin0 ⟨hokg,by simp[gZ,gY];cases g.dst <;>rfl⟩ hwp' ab fun B a' w' hw hiB hs'=>ih _ B a' w' (by simpa using hsz) hcl' hfu (.inl hnil) hw hs'
theorem ae.Ws{Q:Exit→ai→Prop}{A:ai}{on:List (List Nat)}{gs:List aC}(ab:List FuncId)(L:dW)(cl σ:List Nat)(af:pf ab L on gs cl σ=true)(hi:cP L A)(h:∀ K:ai→Prop,(∀ B,Q .normal B→K B)→bM c.P c.Y ab K (az (eZ σ gs) A)):ae c (.cg (some on) gs) Q A:=by
 intro code hc a w hs';cases code <;>simp only[en] at hc <;>try (first | (cases hc;done) | ((repeat' split at hc) <;>cases hc;done))
 rename_i id aS draw;split at hc
 ·rename_i gs' hgs;split at hc
  case isFalse=>cases hc
  rename_i hok;simp only[v6,br.cg.injEq] at hc;obtain ⟨he,rfl⟩:=hc;cases draw with
  |false=>cases he
  |true =>
   simp only[cond_true,v6] at he;subst he;simp only[Bool.not_true,Bool.false_or] at hok;have hp:=Cx (ic hgs).1 af;refine wpIn_region_any hok (Gl (K:=Q .normal) (fun B a w hk ab=>⟨B,hk,ab⟩) hgs hp aS.size (Array.replicate aS.size false) A a _ (by simp) ?_ ?_ (.inr hi) ?_ ?_)
   ·intro i o _ h
    exfalso
    simp only[Array.getD_eq_getD_getElem?,Array.getElem?_replicate] at h;split at h <;>simp at h
   ·refine zz9 (List.length_filter_le _ _) ?_;rw[hp.len,(ic hgs).1,X2];exact Z4 _
   ·have hall:dU σ (Array.replicate aS.size false)=σ:=by
     simp only[dU];refine List.filter_eq_self.2 fun i hi =>?_;have J:=hp.lt i hi;rw[(ic hgs).1,X2] at J;simp[J]
    simp only[gi,hall];exact h _ fun _ hb=>hb
   ·obtain ⟨D,E,hs'⟩:=hs';exact ⟨D,E,hs'.grow (w' := { w with drawn:=w.drawn+1 }) ⟨rfl,rfl,rfl,Z4 _,fun _ _=>rfl⟩ (fun _ _ h=>h) (fun _ _ h _=>h) (fun b o h=>hs'.aQ b o h)⟩
 ·cases hc
end
def jS(on:List (List Nat)):List Nat:=on.foldl (fun acc ks=>acc++[kV acc ks]) []
def uQ(d:Option (List (List Nat)))(gs:List aC):Bool:=match d with
 |none=>true
 |some on=>sa on gs (jS on)
section
variable {c:cO} {Q:Exit→ai→Prop} {A:ai} {d:Option (List (List Nat))} {on:List (List Nat)} {gs:List aC}
theorem ae.j4(af:uQ d gs=true)(h:∀ K:ai→Prop,(∀ B,Q .normal B→K B)→aR c.P c.Y d.isSome K (az gs A)):ae c (.cg d gs) Q A:=by
 cases d with
 |none=>exact ae.cg (cl:=[]) rfl h
 |some on=>exact ae.cg (cl:=jS on) af h
theorem ae.gl{y:br}(af:uQ d gs=true)(h:∀ K:ai→Prop,(∀ B,ae c y Q B→K B)→aR c.P c.Y d.isSome K (az gs A)):ae c (.seq (.cg d gs) y) Q A :=
 ae.seq (ae.j4 af h)
theorem ae.qS(ab:List FuncId)(L:dW)(σ:List Nat)(af:s8 ab L on gs (jS on) σ=true)(hi:cP L A)(h:∀ K:ai→Prop,(∀ B,Q .normal B→K B)→bM c.P c.Y ab K (az (eZ σ gs) A)):ae c (.cg (some on) gs) Q A :=
 ae.Wr ab L (jS on) σ af hi h
theorem ae.qT(ab:List FuncId)(L:dW)(σ:List Nat)(af:pf ab L on gs (jS on) σ=true)(hi:cP L A)(h:∀ K:ai→Prop,(∀ B,Q .normal B→K B)→bM c.P c.Y ab K (az (eZ σ gs) A)):ae c (.cg (some on) gs) Q A :=
 ae.Ws ab L (jS on) σ af hi h
def gu(c:cO):br→(Exit→ai→Prop)→ai→Prop
 | .seq x y,Q,A=>gu c x (ej (fun B=>ae c y Q B) Q) A
 | .block id x,Q,A=>gu c x (jw id Q) A
 | .skip,Q,A=>Q .normal A
 | .exit id,Q,A=>Q (.exit id) A
 | .ret,Q,A=>Q .ret A
 | .cond b x y,Q,A=>aD (ak A b) (ae c x Q A) (ae c y Q A)
 |x,Q,A=>ae c x Q A
def Ue:br→Bool
 | .seq _ _ | .block _ _ | .skip | .exit _ | .ret | .cond _ _ _=>true
 |_=>false
theorem gu.ug:∀ (x:br) {Q:Exit→ai→Prop} {A:ai},gu c x Q A→ae c x Q A
 | .seq x y,_,_,h=>ae.seq (gu.ug x h)
 | .block id x,_,_,h=>ae.block (gu.ug x h)
 | .skip,_,_,h=>ae.skip h
 | .exit _,_,_,h=>ae.exit h
 | .ret,_,_,h=>ae.ret h
 | .cond _ _ _,_,_,h=>ae.jB h
 | .cg _ _,_,_,h | .loop _,_,_,h | .scope _,_,_,h | .label,_,_,h | .uh,_,_,h | .lS _ _ _ _,_,_,h=>h
theorem ae.of{x:br}(_:Ue x=true)(h:gu c x Q A):ae c x Q A:=gu.ug x h
theorem aK :
  (∀ c x y Q A,gu c (.seq x y) Q A=gu c x (ej (fun B=>ae c y Q B) Q) A)∧(∀ c id x Q A,gu c (.block id x) Q A=gu c x (jw id Q) A)∧(∀ c Q A,gu c .skip Q A=Q .normal A)∧(∀ c id Q A,gu c (.exit id) Q A=Q (.exit id) A)∧(∀ c Q A,gu c .ret Q A=Q .ret A) ∧
  (∀ c b x y Q A,gu c (.cond b x y) Q A=aD (ak A b) (ae c x Q A) (ae c y Q A))∧(∀ c d gs Q A,gu c (.cg d gs) Q A=ae c (.cg d gs) Q A)∧(∀ c x Q A,gu c (.loop x) Q A=ae c (.loop x) Q A)∧(∀ c f ps x y Q A,gu c (.lS f ps x y) Q A=ae c (.lS f ps x y) Q A) ∧
  (∀ k Q A,ej k Q .normal A=k A)∧(∀ k Q A,ej k Q .ret A=Q .ret A)∧(∀ k Q A i,ej k Q (.exit i) A=Q (.exit i) A)∧(∀ i Q A,jw i Q .normal A=Q .normal A)∧(∀ i Q A,jw i Q .ret A=Q .ret A)∧(∀ i Q A j,jw i Q (.exit j) A=if j=i then Q .normal A else Q (.exit j) A) ∧
  (∀ p q,aD (.bool true) p q=p)∧(∀ p q,aD (.bool false) p q=q)∧(type_of% @Bx) :=
 ⟨fun _ _ _ _ _=>rfl,fun _ _ _ _ _=>rfl,fun _ _ _=>rfl,fun _ _ _ _=>rfl,fun _ _ _=>rfl,fun _ _ _ _ _ _=>rfl,fun _ _ _ _ _=>rfl,fun _ _ _ _=>rfl,fun _ _ _ _ _ _ _=>rfl,fun _ _ _=>rfl,fun _ _ _=>rfl,fun _ _ _ _=>rfl,fun _ _ _=>rfl,fun _ _ _=>rfl,fun _ _ _ _=>rfl,
  fun p q=>by simp[aD],fun p q=>by simp[aD],Bx⟩
theorem aD.aI{t:Bool}{p q:Prop}(J:t=true→p)(U:t=false→q):aD (.bool t) p q:=⟨J,U⟩
theorem ae.aJ{g:aC}{r:List aC}(af:uQ d gs=true)(e:gs=g::r)(h:∀ K:ai→Prop,(∀ B,Q .normal B→K B)→aR c.P c.Y d.isSome K (az (g::r) A)):ae c (.cg d gs) Q A :=
 ae.j4 af (e▸h)
theorem aR.aA(L:List Nat){P:Program}{Y:Value→List I→List (Nat×aq)→cA→Prop}{dr:Bool}{x:br}{K:ai→Prop}{ts:List (Nat×I)}{os:List (Nat×aq)}(hK:∀ B,ae c x Q B→K B)(h:ae c x Q (au (gM L ts) os)):aR P Y dr K (.done (au ts os)) :=
 .done (hK _ (ae.qm L h))
theorem bM.aA(L:List Nat){P:Program}{Y:Value→List I→List (Nat×aq)→cA→Prop}{ab:List FuncId}{x:br}{K:ai→Prop}{ts:List (Nat×I)}{os:List (Nat×aq)}(hK:∀ B,ae c x Q B→K B)(h:ae c x Q (au (gM L ts) os)):bM P Y ab K (.done (au ts os)) :=
 .done (hK _ (ae.qm L h))
end
section
variable {c:cO} {A:ai} {o:Oper}
theorem zj{P:Program}{m:Nat}{aS:Array Oper}{l:List Oper}{gs:List aC}(h:fE P m aS (o::l)=some gs):∃ g gs',gs=g::gs'∧lh P m aS o=some g∧fE P m aS l=some gs':=by
 simp only[fE] at h;split at h
 ·rename_i g gs' J U;simp only[v6] at h;exact ⟨g,gs',h.symm,J,U⟩
 ·cases h
end
def tt(P:Program)(f:FuncId)(ch:List PanicEntry)(vs:Array Value)(w:World)(R:Ending→World→Prop):Prop :=
 Calls P f vs w fun e w'=>e=.panicked ch∧R (.returned (.tuple #[])) w'
theorem tt.mono{P:Program}{f:FuncId}{ch:List PanicEntry}{vs:Array Value}{w:World}{R R':Ending→World→Prop}(h:tt P f ch vs w R)(hr:∀ e w',R e w'→R' e w'):tt P f ch vs w R' :=
 Calls.mono h fun _ _ q=>⟨q.1,hr _ _ q.2⟩
def pd(post:List (Nat×aq)→Prop):cA:=fun r os'=>r=.tuple []∧post os'
def e8(P:Program)(f:FuncId)(ch:List PanicEntry)(args:List I)(os:List (Nat×aq))(post:List (Nat×aq)→Prop):Prop :=
 eX P f=true∧mU (tt P f ch) (fun w _ E=>gB P w (cB E)) args os (pd post)
def wF(ch:List PanicEntry)(post:List (Nat×aq)→Prop):Exit→ai→Prop
 | .panic ch',A=>ch'=ch∧iL [] (pd post) A
 |_,_=>False
theorem BB{P:Program}{n:Nat}{w:World}{D:aP}{E:aY}{Y:Value→List I→List (Nat×aq)→cA→Prop}{post:List (Nat×aq)→Prop}{fn:Func}{A:ai}{D':aP}{E':aY}{ch:List PanicEntry}(h:iL [] (pd post) A){R:World→Prop}(hR:∀ v w',kY w D E (pd post) v w'→R w') :
  ∀ (ds:List Deferred) (a:Act) (w':World),a.defers=ds→aU ⟨P,w,D,n,cB E,E,Y,none,none⟩ A a w' D' E'→LeavesInM Fence.wide 9 P fn a.tmps (fun e w'=>e=.panicked ch∧R w') ds (.panicking ch) w'
 | [],a,w',_,ab=>by
  obtain ⟨v,J,U⟩:=ab.sG (fn := { fn with results := #[] }) (rs:=[]) rfl h;exact ⟨rfl,hR v w' U⟩
 |d::ds,a,w',af,ab=>by
  obtain ⟨Bs,J,_⟩:=ab.er;rw[af] at J;cases Bs with
  |nil=>cases J
  |cons B Bs =>
   simp only[Z3,zz7] at J;obtain ⟨rfl,rfl⟩:=J;obtain ⟨k1,k2⟩:=ab.zV rfl af;exact ⟨by simp,.inl ⟨B,_,rfl,run_takeDeferred k1,BB h hR _ { a with defers:=Bs.map _ } _ rfl k2⟩⟩
theorem BE{w:World}{D:aP}{E:aY}{post:List (Nat×aq)→Prop}{v:Value}{w':World}(h:kY w D E (pd post) v w'):∃ v' D' E' r os',Ending.returned (.tuple #[])=.returned v'∧pd post r os'∧aZ w' D' E' r v'∧ju (fun b=>w.heap.size≤b∨cB E b) w' D' E' (aj os') ∧
   eU (fun b=>w.heap.size≤b∨cB E b) w w'∧(∀ b o,D b o→D' b o)∧(∀ b o,D' b o→b<w'.heap.size)∧(∀ b o,D' b o→b<w.heap.size→¬ cB E b→D b o) ∧
   (∀ n e,E n=some e→av os' n=true→∃ e',E' n=some e'∧e.le e')∧gC w D w':=by
 obtain ⟨D',E',r,os',J,U,ah⟩:=h;refine ⟨_,D',E',r,os',rfl,J,?_,ah⟩;obtain ⟨rfl,_⟩:=J;simp only[aZ];exact ⟨[],by simp,by simp[aE]⟩
theorem e8.mk{P:Program}{f:FuncId}{fn:Func}{x:br}{ch:List PanicEntry}{args:List I}{os:List (Nat×aq)}{post:List (Nat×aq)→Prop}(hf:P.funcs[f]?=some fn)(hcall:eX P f=true)(hc:(fn.body.bind (en P fn.ntmps))=some x)
  (hn:args.length≤fn.ntmps) (hn2:fn.ntmps≤1000000) (hos:∀ m,av os m=true→1000000≤m) (h:I.fV args→∀ (w:World) (D:aP) (E:aY),ae ⟨P,w,D,fn.ntmps,cB E,E,dh,none,none⟩ x (wF ch post) (au (bK 0 args) os)):e8 P f ch args os post:=by
 obtain ⟨body,hb,hc'⟩:=zz1.1 hc;refine ⟨hcall,fun w D E vs ao hD ho hv =>?_⟩;have hlen:=ri hv;have hsim:=xp (P:=P) (n:=fn.ntmps) (Y:=dh) hD ho hv (by omega) (fun m hm=>⟨zz9 hn2 (hos m hm),hos m hm⟩) (pA ao);refine (callsIn_wide (n:=9)).1 (callsIn_of_wp_marks hf hb trivial ?_);refine wpIn_mono (((h (pq _ _ hv) w D E).sub (tC args os)) body hc' _ w ⟨D,E,hsim⟩) ?_;rintro e a w' ⟨A,hq,D',E',ab⟩;cases e <;>simp only[wF] at hq
 obtain ⟨rfl,hq⟩:=hq;exact BB hq (fun v w' h=>BE h) a.defers a w' rfl ab
theorem e8.V1{P:Program}{f:FuncId}{ch:List PanicEntry}{args:List I}(hcall:eX P f=true)(h:∀ (w:World) (D:aP) (vs:List Value),aE w D c9 args vs→Calls P f vs.toArray w fun e w'=>e=.panicked ch∧w'=w)(hfl:I.nk args=true):e8 P f ch args [] (fun os'=>os'=[]):=by
 refine ⟨hcall,fun w D E vs _ hD ho hv =>?_⟩;refine Calls.mono (h w D vs (aE.flat _ _ hfl hv)) ?_;rintro e w' ⟨rfl,rfl⟩;refine ⟨rfl,BE (v:=.tuple #[]) ⟨D,E,.tuple [],[],⟨rfl,rfl⟩,by simp only[aZ];exact ⟨[],by simp,by simp[aE]⟩,?_,eU.refl _ _,fun _ _ h=>h,hD,fun _ _ h _ _=>h,fun n e h hn=>by simp[av,aj] at hn,.refl _ _⟩⟩;exact ⟨fun n=>ho.bN n,fun n m e e' b J U ah ar=>ho.cJ n m e e' b J U ah ar⟩
section
variable {c:cO} {A:ai} {Q:Exit→ai→Prop}
theorem sv{dr:Bool}{K:ai→Prop}{aS:Array Oper}{Q:Exit→Act→World→Prop}{l2:List Oper}(hQ:∀ B a w,K B→bV c B a w→wpListIn c.bz 9 c.P aS Q l2 a w):∀ (l:List Oper) (gs:List aC) (A:ai) (a:Act) (w:World),fE c.P c.n aS l=some gs→aR c.P c.Y dr K (az gs A) →
  bV c A a w→wpListIn c.bz 9 c.P aS Q (l++l2) a w
 | [],gs,A,a,w,hc,hwp,ab=>by
  simp only[fE,v6] at hc;subst hc;simp only[az] at hwp;cases hwp with
  |done hk=>exact hQ A a w hk ab
 |o::l,gs,A,a,w,hc,hwp,ab=>by
  simp only[fE] at hc;split at hc
  case h_2=>cases hc
  rename_i g gs' hg hgs;simp only[v6] at hc;subst hc;obtain ⟨J,U,ah,ar⟩:=nd hg;have step:aR c.P c.Y dr K (bj A g.dst g.op gs' (az gs'))→o.wpIn c.bz 9 c.P a w (wpListIn c.bz 9 c.P aS Q (l++l2)) Q:=fun h =>
   sr J U.symm (by rw[U];exact ah) h ab (fun B a' w' hw hs'=>sv hQ l gs' B a' w' hgs hw hs')
  simp only[Z9,wpListIn];simp only[az] at hwp;rcases ar with ⟨h5,h6⟩ | ⟨j,b,t,h5,h6,h7⟩
  ·rw[h6] at hwp;have hw:Region.wanted o (yielded aS a.tmps)=true:=by simp[Region.wanted,h5]
   rw[hw,if_pos rfl];exact step hwp
  ·rw[h7] at hwp;simp only at hwp;split at hwp
   ·rename_i b' hb';rw[sx ab h5 h6 hb'];split at hwp
    ·rename_i hbb;subst hbb;simp only[BEq.rfl,if_true];exact step hwp
    ·rename_i hbb;have:(b'==b)=false:=by simpa using hbb
     rw[this];simp only[Z2,if_false];exact ⟨fun f _=>lz c f,sv hQ l gs' _ _ w hgs hwp (by rw[U];exact ab.mD ah)⟩
   ·rename_i hb';rw[sy ab h5 h6 hb'];simp only[Z2,if_false];exact ⟨fun f _=>lz c f,sv hQ l gs' _ _ w hgs hwp (by rw[U];exact ab.mD ah)⟩
   ·cases hwp
theorem zi{P:Program}{m:Nat}{aS:Array Oper}{g:aC}{gs2:List aC} : ∀ {l:List Oper} {gs1:List aC},fE P m aS l=some (gs1++g::gs2)→∃ l1 o l2,l=l1++o::l2∧fE P m aS l1=some gs1∧lh P m aS o=some g
 | [],gs1,h=>by simp[fE] at h
 |o::l,[],h=>by
  obtain ⟨g',gs',e,J,U⟩:=zj h;simp only[List.nil_append,zz7] at e;obtain ⟨rfl,rfl⟩:=e;exact ⟨[],o,l,rfl,rfl,J⟩
 |o::l,k::gs1,h=>by
  obtain ⟨g',gs',e,J,U⟩:=zj h;simp only[Z9,zz7] at e;obtain ⟨rfl,rfl⟩:=e;obtain ⟨l1,o',l2,rfl,q1,q2⟩:=zi U;exact ⟨o::l1,o',l2,rfl,by simp only[fE,J,q1],q2⟩
inductive mW (P:Program) (Q:Exit→ai→Prop) (f:FuncId) (avs:List I):ai→Prop where
 |mk {ts:List (Nat×I)} {os0:List (Nat×aq)} (aN:Bool) (ρ:List (Nat×Nat)) (os:List (Nat×aq)) (cargs:List I) (ch:List PanicEntry) (post:List (Nat×aq)→Prop):e8 P f ch cargs os post→fX ρ os os0→gE aN (au ts (eF (iv ρ os) os0)) ρ os avs cargs →
  (∀ os',post os'→gq aN ρ os os0 (.tuple []) os')→(∀ os',post os'→Q (.panic ch) (au ts (dv ρ os'++os0)))→mW P Q f avs (au ts os0)
inductive l6 (P:Program) (Q:Exit→ai→Prop):bR→ai→Prop where
 |call {f:FuncId} {args:List aO} {A:ai} : mW P Q f (args.map (ak A)) A→l6 P Q (.call f args) A
 |fF {x:aO} {args:List aO} {f:Nat} {caps:List I} {A:ai} : ak A x=.func f caps→mW P Q (kC f) (hE f (args.map (ak A)) caps) A→l6 P Q (.fF x args) A
theorem wH{o:Oper}{g:bR}{f:FuncId}{avs:List I}{vs:List Value}{a:Act}{w:World}{D:aP}{E:aY}{Kw:Act→World→Prop}(hop0:c4 c.P o=some g)(h:mW c.P Q f avs A)(ab:aU c A a w D E)(hall:ft (aZ w D E) avs vs)
  (hrun:eX c.P f=true→(execOp a.eval o).run c.P w=.ok (.enter f vs.toArray) w):o.wpIn c.bz 9 c.P a w Kw (sH c Q):=by
 cases h with
 |mk aN ρ os cargs ch post hspec hgv ha hb hrest =>
  have hu:=hspec.2.use ab aN (fun h=>h.mono) ⟨fun _ _=>ab.oP,fun _=>ab.oP⟩ hgv ha (fun r os' hp=>by obtain ⟨rfl,hp⟩:=hp;exact hb os' hp) hall;refine ⟨km,?_⟩;rw[kQ hop0,hrun hspec.1,Oper.uponIn_enter];refine ⟨uN c,zG (Calls.mono hu ?_)⟩;rintro e w' ⟨rfl,v,r,os',D2,E2,he,⟨rfl,hp⟩,hs',hv,_⟩;exact ⟨_,hrest os' hp,D2,E2,hs'⟩
theorem Cu{o:Oper}{g:bR}{a:Act}{w:World}{Kw:Act→World→Prop}(hop:c4 c.P o=some g)(h:l6 c.P Q g A)(hsim:bV c A a w):o.wpIn c.bz 9 c.P a w Kw (sH c Q):=by
 have hop0:=hop;obtain ⟨D,E,ab⟩:=hsim;cases h with
 |call h =>
  unfold c4 at hop;split at hop <;>try (first | (simp at hop;done) | ((repeat' split at hop) <;>simp at hop;done))
  rename_i f' xs ts ho;split at hop
  case isFalse=>simp at hop
  simp only[t7,bR.call.injEq] at hop;obtain ⟨ys,hys,rfl,rfl⟩:=hop;have e:xs.map a.eval=(xs.toList.map a.eval).toArray:=by apply Array.ext';simp
  refine wH (vs:=xs.toList.map a.eval) hop0 h ab (kn ab xs.toList ts.toList ys hys) fun hc =>?_;simp only[execOp,ho,resolve,Act.eval,Deferred.ofValue,Sem.run_bind,Sem.run_pure,Result.andThen_ok,invoke,Array.append_empty,Array.empty_append,mH hc];rw[←e]
 |fF hx h =>
  rename_i x args f caps;unfold c4 at hop;split at hop <;>try (first | (simp at hop;done) | ((repeat' split at hop) <;>simp at hop;done))
  rename_i y xs ts _ ho;split at hop
  case h_2=>cases hop
  rename_i y' ys J U;simp only[v6,bR.fF.injEq] at hop;obtain ⟨rfl,rfl⟩:=hop;have hv:=bT ab J;rw[hx] at hv;obtain ⟨cs,q1,q2⟩:=hv;simp only[al] at q2;obtain ⟨vs,q3,q4⟩:=q2;have hval:a.eval y=jf f vs:=by simpa[bu,I.isAgg,q3] using q1.symm
  have e:xs.map a.eval=(xs.toList.map a.eval).toArray:=by apply Array.ext';simp
  have hargs:=kn ab xs.toList ts.toList ys U;rcases Nat.lt_or_ge f 1000000 with hf | hf
  ·rw[vc hf,vb hf] at h;rw[me hf] at hval;refine wH (vs:=xs.toList.map a.eval++vs) hop0 h ab (hargs.append (rh q4)) fun hc =>?_;simp only[execOp,ho,resolve,hval,Deferred.ofValue,Sem.run_bind,Sem.run_pure,Result.andThen_ok,invoke,Array.empty_append,mH hc];rw[e];simp
  ·obtain ⟨g,rfl⟩:∃ g:Nat,f=g+1000000:=⟨Nat.sub f 1000000,(Nat.sub_add_cancel hf).symm⟩
   rw[sd,u9] at h;rw[p5] at hval;refine wH (vs:=vs++xs.toList.map a.eval) hop0 h ab ((rh q4).append hargs) fun hc =>?_;simp only[execOp,ho,resolve,hval,Deferred.ofValue,Sem.run_bind,Sem.run_pure,Result.andThen_ok,invoke,Array.append_empty,mH hc];rw[e];simp
theorem ae.Wq{gs:List aC}(k:Nat){g:bR}{dst:Option Nat}(hk:gs=gs.take k++⟨dst,g,none⟩::gs.drop (k+1))(h:∀ K:ai→Prop,(∀ B,l6 c.P Q g B→K B)→aR c.P c.Y false K (az (gs.take k) A)):ae c (.cg none gs) Q A:=by
 intro code hc a w ab;cases code <;>simp only[en] at hc <;>try (first | (cases hc;done) | ((repeat' split at hc) <;>cases hc;done))
 rename_i id aS draw;split at hc
 case h_2=>cases hc
 rename_i gs' hgs;split at hc
 case isFalse=>cases hc
 simp only[v6,br.cg.injEq] at hc;obtain ⟨hdr,rfl⟩:=hc;cases draw with
 |true=>simp at hdr
 |false =>
  refine wpIn_region_list ?_;rw[hk] at hgs;obtain ⟨l1,o,l2,ao,J,U⟩:=zi hgs;rw[ao];refine sv (K:=l6 c.P Q g) (fun B a' w' hp hs' =>?_) l1 _ A a w J (h _ fun _ hb=>hb) ab;obtain ⟨q1,q2,q3,q4⟩:=nd U;have wn:Region.wanted o (yielded aS a'.tmps)=true:=by
   rcases q4 with ⟨a5,_⟩ | ⟨_,_,_,_,_,a5⟩
   ·simp[Region.wanted,a5]
   ·simp at a5
  simp only[wpListIn,wn,if_true];exact Cu q1 hp hs'
theorem ae.nL{gs gs1 gs2:List aC}{g:bR}{dst:Option Nat}(e:gs=gs1++⟨dst,g,none⟩::gs2)(h:∀ K:ai→Prop,(∀ B,l6 c.P Q g B→K B)→aR c.P c.Y false K (az gs1 A)):ae c (.cg none gs) Q A:=by
 subst e;refine ae.Wq gs1.length (g:=g) (dst:=dst) ?_ fun K hK =>?_
 ·simp
 ·simpa using h K hK
end
theorem WY{w:World}{b:Nat}{cs:Array Value}{T:TypeId}{fr:Nat×Nat}{v:Value}(h:w.heap[b]?=some (.cells cs T fr)):w.setCell ⟨b,0,none⟩ v=w.setRow b (cs.setIfInBounds 0 v):=by
 unfold World.setCell World.setRow
 congr 1
 apply Array.ext
 ·simp
 ·intro i J U;simp only[Array.getElem_modify];split
  ·rename_i e;subst e;obtain ⟨_,hv⟩:=Y0.1 h;simp[hv]
  ·rfl
def rM(P:Program)(f:FuncId):Prop:=eX P f=true∧∀ (b:Nat) (T:TypeId) (w:World) (x:Bool),w.heap[b]?=some (.cells #[.bool x] T (0,0))→CallsDIn Fence.wide 8 P f #[.pointer (some ⟨b,0,none⟩)] .returning w fun e u' w'=>(∃ v,e=.returned v)∧u'=.returning∧w'=w
def rI(P:Program)(f:FuncId)(ch:List PanicEntry):Prop:=eX P f=true∧∀ (b:Nat) (T:TypeId) (w:World) (x:Bool),w.heap[b]?=some (.cells #[.bool x] T (0,0)) →
 CallsDIn Fence.wide 8 P f #[.pointer (some ⟨b,0,none⟩)] (.panicking ch) w fun e u' w'=>(∃ v,e=.returned v)∧settle u'=.returning∧∃ w2,Below w.heap.size w w2∧w'=w2.setCell ⟨b,0,none⟩ (.bool false)
def jU(f:FuncId)(v:Value):Deferred := { target:=.fn (.func f) #[v],args := #[] }
def qR(rs:List bQ)(post:cA)(ch:List PanicEntry)(N:Nat):Exit→ai→Prop
 | .ret,A=>(∃ x,A.o N=some (.box (.bool x)))∧iL rs post A
 | .panic ch',A=>ch'=ch∧(∃ x,A.o N=some (.box (.bool x)))∧iL rs post (A.aV N (.box (.bool false)))
 |_,_=>False
section
variable {P:Program} {n:Nat} {w:World} {D:aP} {E:aY} {rs:List bQ} {post:cA} {fn:Func} {ch:List PanicEntry} {f:FuncId} {N b:Nat}
theorem BC(hrs:gF P fn.results.toList=some rs)(hEN:E N=some (.aN b .one)){A:ai}{D':aP}{E':aY}{u:FrameMode}(hx:∃ x,A.o N=some (.box (.bool x)))
  (hcase:(u=.returning∧iL rs post A∧rM P f)∨(u=.panicking ch∧iL rs post (A.aV N (.box (.bool false)))∧rI P f ch)) :
  ∀ (ds:List Deferred) (a:Act) (w':World),a.defers=ds→aU ⟨P,w,D,n,cB E,E,dh,none,some [jU f (.pointer (some ⟨b,0,none⟩))]⟩ A a w' D' E'→LeavesInM Fence.wide 9 P fn a.tmps (fun e w'=>∃ v,e=.returned v∧kY w D E post v w') ds u w'
 | [],a,w',af,ab=>by
  have J:a.defers=[jU f (.pointer (some ⟨b,0,none⟩))]:=ab.er;rw[af] at J;cases J
 |d::ds,a,w',af,ab=>by
  have J:a.defers=[jU f (.pointer (some ⟨b,0,none⟩))]:=ab.er;rw[af] at J;simp only[zz7] at J;obtain ⟨rfl,rfl⟩:=J
  ·skip
   obtain ⟨x,hx⟩:=hx;obtain ⟨b',cs,T,e1,e2,e3,e4,e5⟩:cR _ w' D' E' N (some (.box (.bool x))):=hx▸ab.bN N;have hfx:E' N=none∨E' N=some (.aN b .one):=ab.vp (n:=N) (e:=.aN b .one) hEN rfl;have hE':E' N=some (.aN b .one):=by
    rcases hfx with h | h
    ·rw[h] at e1;cases e1
    ·exact h
   rw[hE'] at e1;simp only[v6,bJ.aN.injEq] at e1;obtain ⟨rfl,_⟩:=e1;have hcs:cs = #[.bool x]:=by
    simp only[al] at e4;apply Array.ext';simpa using e4
   subst hcs;refine ⟨by rcases hcase with ⟨rfl,_⟩ | ⟨rfl,_⟩ <;>simp,.inr ⟨fun _=>by decide,.func f,#[.pointer (some ⟨b,0,none⟩)],f,#[.pointer (some ⟨b,0,none⟩)],rfl,?_,fun _ _=>trivial,?_⟩⟩
   ·have hcb:eX P f=true:=by rcases hcase with ⟨_,_,h⟩ | ⟨_,_,h⟩ <;>exact h.1
    simp only[jU,invoke,mH hcb,Array.empty_append]
   ·rcases hcase with ⟨rfl,hr,hi⟩ | ⟨rfl,hr,hc⟩
    ·refine (hi.2 b T w' x e3).mono ?_;rintro e u' w'' ⟨⟨v,rfl⟩,rfl,rfl⟩;obtain ⟨v,J,U⟩:=ab.sG hrs hr;exact ⟨v,J,v,rfl,U⟩
    ·refine (hc.2 b T w' x e3).mono ?_;rintro e u' w'' ⟨⟨v,rfl⟩,hu,w2,hb2,rfl⟩;have hs1:=ab.grow (D':=D') hb2 (fun _ _ h=>h) (fun _ _ h _=>h) (fun b o af=>Nat.lt_of_lt_of_le (ab.aQ b o af) hb2.size);have e3':w2.heap[b]?=some (.cells #[.bool x] T (0,0)):=(hb2.block b (fA e3)).trans e3;have hs2:=hs1.xd (y:=.bool false) (cs' := #[.bool false]) hx hE' rfl (by simp[al]);have hw:w2.setCell ⟨b,0,none⟩ (.bool false)=w2.setRow b #[.bool false]:=by
      rw[WY e3'];rfl
     rw[←hw] at hs2;obtain ⟨v,J,U⟩:=hs2.sG hrs hr;simp only[hu];exact ⟨v,J,v,rfl,U⟩
theorem oQ{bz:Fence}{m:Nat}{tmps:Array Value}{R R':Ending→World→Prop}(hr:∀ e w,R e w→R' e w):∀ (ds:List Deferred) (u:FrameMode) (w:World),LeavesInM bz m P fn tmps R ds u w→LeavesInM bz m P fn tmps R' ds u w
 | [],u,w,h=>by
  cases u with
  |run=>exact h
  |returning=>obtain ⟨v,J,U⟩:=h;exact ⟨v,J,hr _ _ U⟩
  |panicking c=>exact hr _ _ h
 |d::ds,u,w,h=>by
  obtain ⟨J,U⟩:=h;refine ⟨J,?_⟩;rcases U with ⟨r,w',k1,k2,k3⟩ | ⟨k1,fv,cap,g,args,k2,k3,k4,k5⟩
  ·exact .inl ⟨r,w',k1,k2,oQ hr ds u w' k3⟩
  ·refine .inr ⟨k1,fv,cap,g,args,k2,k3,k4,k5.mono fun e u' w' h =>?_⟩;cases e with
   |returned v=>exact oQ hr ds _ w' h
   |panicked c=>exact oQ hr ds _ w' h
   |outgrown=>exact hr _ _ h
def rf(P:Program)(fn:Func)(rest:Code)(slots:List Nat)(a:Act)(vs:Array Value)(w:World)(R:Ending→World→Prop):Prop :=
 vs.toList=slots.map (fun t=>a.tmps.getD t undef)→rest.wpIn Fence.wide 9 P (bodyPostM Fence.wide 9 P fn R) a w
theorem rf.mono{rest:Code}{slots:List Nat}{a:Act}{vs:Array Value}{w:World}{R R':Ending→World→Prop}(h:rf P fn rest slots a vs w R)(hr:∀ e w,R e w→R' e w):rf P fn rest slots a vs w R':=fun hv=>by
 refine wpIn_mono (h hv) fun e a' w' q =>?_;cases e <;>simp only[bodyPostM] at q ⊢ <;>first
  |exact oQ hr _ _ _ q
  |exact hr _ _ q
  |exact q
theorem EJ{w:World}{D:aP}{E:aY}(g:Nat→Value):∀ (slots:List Nat) (args:List I),aE w D E args (slots.map g)→∀ t,aZ w D E (bU (slots.zip args) t) (g t)
 | [],args,h,t=>by simp[bU,aZ]
 |s::slots,[],h,t=>by simp[bU,aZ]
 |s::slots,x::args,h,t=>by
  simp only[aE,Z3] at h;obtain ⟨v,rest,cs,e,J,U,ah⟩:=h;simp only[zz7] at e;obtain ⟨rfl,rfl⟩:=e;simp only[List.zip_cons_cons,bU];split
  ·rename_i hk;subst hk;exact jh J U
  ·exact EJ g slots args ah t
theorem WC{rest:Code}{x:br}{slots:List Nat}{a:Act}{args:List I}{os:List (Nat×aq)}{ts:Nat}(hrs:gF P fn.results.toList=some rs)(hx:en P n rest=some x)(hsz:a.tmps.size=n)(af:a.defers=[jU f (a.tmps.getD ts undef)])(hos:∀ m,av os m=true→n≤m∧1000000≤m)
  (hts:bU (slots.zip args) ts=.ptr N []) {y:Bool} (hN:aj os N=some (.box (.bool y))) (hi:rM P f) (hc:rI P f ch)
  (hAW:∀ (w:World) (D:aP) (E:aY) (d:Deferred),ae ⟨P,w,D,n,cB E,E,dh,none,some [d]⟩ x (qR rs post ch N) (au (slots.zip args) os)):mU (rf P fn rest slots a) (fun w _ E=>gB P w (cB E)) args os post:=by
 intro w D E vs ao hD ho hv hvs;have hvs':vs=slots.map (fun t=>a.tmps.getD t undef):=by simpa using hvs
 subst hvs';have htm:=EJ (fun t=>a.tmps.getD t undef) slots args hv;have hp:=htm ts;rw[hts] at hp;obtain ⟨b,aX,off,p1,p2,p3⟩:=kO hp;have hob:cR _ w D E N (some (.box (.bool y))):=hN▸ho.bN N;obtain ⟨b',cs,T,e1,_⟩:=hob;have hsh:aX=.one:=by
  rw[p1] at e1;simp only[v6,bJ.aN.injEq] at e1;rw[e1.2];rfl
 subst hsh;have hoff:off=0:=by simpa[cK.off] using p2.symm
 subst hoff;simp only[p3] at af;have hsim:aU ⟨P,w,D,n,cB E,E,dh,none,some [jU f (.pointer (some ⟨b,0,none⟩))]⟩ (au (slots.zip args) os) a w D E:=by
  refine ⟨hsz,af,htm,eU.refl _ _,fun _ _ h _=>h,hD,fun m =>?_,ho.cJ,fun m e h=>.inr ⟨e,h,.refl e⟩,fun m hm =>?_,fun _ _ h=>h,pA ao,.refl _ _⟩
  ·have h:=ho.bN m;simp only[au];cases hx:aj os m with
   |none=>rw[hx] at h;exact h
   |some x=>rw[hx] at h;exact cR.hJ h fun e b he hb=>.inr ⟨m,e,he,hb⟩
  ·refine hos m ?_;cases hx:aj os m with
   |none=>have h:=ho.bN m;rw[hx] at h;exact absurd h hm
   |some x=>simp[av,hx]
 refine wpIn_mono ((hAW w D E _) rest hx a w ⟨D,E,hsim⟩) ?_;rintro e a' w' ⟨A,hq,D',E',ab⟩;have bh:∀ e w',(∃ v,e=Ending.returned v∧kY w D E post v w')→∃ v D' E' r os',e=.returned v∧post r os'∧aZ w' D' E' r v∧ju (fun b=>w.heap.size≤b∨cB E b) w' D' E' (aj os') ∧
   eU (fun b=>w.heap.size≤b∨cB E b) w w'∧(∀ b o,D b o→D' b o)∧(∀ b o,D' b o→b<w'.heap.size)∧(∀ b o,D' b o→b<w.heap.size→¬ cB E b→D b o) ∧
   (∀ n e,E n=some e→av os' n=true→∃ e',E' n=some e'∧e.le e')∧gC w D w':=fun e w' ⟨v,J,D',E',r,os',U⟩=>⟨v,D',E',r,os',J,U⟩
 cases e <;>simp only[qR] at hq
 ·obtain ⟨J,U⟩:=hq;exact oQ bh _ _ _ (BC (ch:=ch) hrs p1 J (.inl ⟨rfl,U,hi⟩) a'.defers a' w' rfl ab)
 ·obtain ⟨rfl,J,U⟩:=hq;exact oQ bh _ _ _ (BC hrs p1 J (.inr ⟨rfl,U,hc⟩) a'.defers a' w' rfl ab)
end
def uM(P:Program)(n:Nat):Code→Option (br×FuncId×Nat×Nat×br)
 | .seq kK (.seq (.region _ aS false) rest)=>match aS.toList with
  | [o1,o2]=>match lh P n aS o1,o2.op with
   |some ⟨some t5,.mk g [.t ts],none⟩,.defer { callee:=.value (.tmp t),args,.. } =>if t=t5∧args = #[]∧o2.guard=none∧o2.dst=none then (match en P n kK,en P n rest with
     |some x0,some x=>some (x0,g,ts,t5,x)
     |_,_=>none)
    else none
   |_,_=>none
  |_=>none
 |_=>none
structure F3 (P:Program) (n:Nat) (x:br) (rs:List bQ) (post:cA) (ch:List PanicEntry) (g:FuncId) (ts t5:Nat) (tsl:List (Nat×I)) (os0:List (Nat×aq)) (ρ:List (Nat×Nat)) (os1:List (Nat×aq)) (slots:List Nat) (cargs:List I) (N:Nat) (y:Bool) (post1:cA):Prop where
 fx:bU tsl ts=.ptr (bF ρ N) []
 Bh:fX ρ os1 os0
 arg:gE false (au ((t5,.func g [.ptr (bF ρ N) []])::tsl) (eF (iv ρ os1) os0)) ρ os1 (slots.map (bU ((t5,.func g [.ptr (bF ρ N) []])::tsl))) cargs
 x6:∀ r os',post1 r os'→gq false ρ os1 os0 r os'
 Eu:bU (slots.zip cargs) ts=.ptr N []
 box:aj os1 N=some (.box (.bool y))
 lA:∀ m,av os1 m=true→n≤m∧1000000≤m
 rest:∀ (w:World) (D:aP) (E:aY) (d:Deferred),ae ⟨P,w,D,n,cB E,E,dh,none,some [d]⟩ x (qR rs post1 ch N) (au (slots.zip cargs) os1)
 ib:∀ r os',post1 r os'→∃ osF,r.flat=true∧r.bl (bF ρ)=r∧(∀ m z,aj osF m=some z→aj (dv ρ os'++os0) m=some z∧z.only (av osF)=true∧z.eb=true)∧post r osF
abbrev r9(P:Program)(w:World)(D:aP)(n:Nat)(E:aY)(b:Option (List Deferred)):cO:=⟨P,w,D,n,cB E,E,dh,none,b⟩
theorem aU.Uv{P:Program}{n:Nat}{w:World}{D:aP}{E:aY}{fe:Option (List Deferred)}{post:cA}{A:ai}{a:Act}{w':World}{D':aP}{E':aY}{r:I}{v:Value}{os:List (Nat×aq)}
  (ab:aU (r9 P w D n E fe) A a w' D' E') (J:∀ m z,aj os m=some z→A.o m=some z∧z.only (av os)=true∧z.eb=true) (hf:r.flat=true) (hv:aZ w' D' E' r v) (hp:post r os):kY w D E post v w':=by
 obtain ⟨D2,E2,hw,e2,e2n,q1,q2,q3,q4,q5,q6⟩:=ab.vQ J;exact ⟨D2,E2,r,os,hp,aZ.flat hf hv,q1,q2,q3,q4,q5,q6⟩
theorem cN.VI{P:Program}{f:FuncId}{fn:Func}{x0 x:br}{g:FuncId}{ts t5:Nat}{rs:List bQ}{args:List I}{os:List (Nat×aq)}{post:cA}{ch:List PanicEntry}(hf:P.funcs[f]?=some fn)(hcall:eX P f=true)(hc:(fn.body.bind (uM P fn.ntmps))=some (x0,g,ts,t5,x))
  (hrs:gF P fn.results.toList=some rs) (hn:args.length≤fn.ntmps) (hn2:fn.ntmps≤1000000) (hos:∀ m,av os m=true→1000000≤m) (hi:rM P g) (hca:rI P g ch) (hts:ts≠t5)
  (h:I.fV args→∀ (w:World) (D:aP) (E:aY),ae ⟨P,w,D,fn.ntmps,cB E,E,dh,none,some []⟩ x0 (ej (fun B=>∃ tsl os0 ρ os1 slots cargs N y post1,B=au tsl os0∧F3 P fn.ntmps x rs post ch g ts t5 tsl os0 ρ os1 slots cargs N y post1) (fun _ _=>False)) (au (bK 0 args) os)):cN P f args os post:=by
 obtain ⟨body,hb,hc⟩:=zz1.1 hc;refine ⟨hcall,fun w D E vs ao hD ho hv =>?_⟩;have hlen:=ri hv;have s0:=xp (P:=P) (n:=fn.ntmps) (Y:=dh) hD ho hv (by omega) (fun m hm=>⟨zz9 hn2 (hos m hm),hos m hm⟩) (pA ao);have hsim:aU (r9 P w D fn.ntmps E (some [])) (n2 args os) { tmps:=vs.toArray++Array.replicate (fn.ntmps-vs.toArray.size) undef,defers:=[] } w D E :=
  ⟨s0.sz,rfl,s0.dL,s0.dH,s0.cU,s0.aQ,s0.bN,s0.cJ,s0.dM,s0.eK,s0.cM,pA ao,s0.fp⟩
 obtain ⟨RR,hRR⟩:∃ RR:Ending→World→Prop,RR=fun e w'=>∃ v,e=.returned v∧kY w D E post v w':=⟨_,rfl⟩
 refine Calls.mono (R:=RR) ?_ (fun e w' q=>by rw[hRR] at q;obtain ⟨v,he,D',E',r,os',k⟩:=q;exact ⟨v,D',E',r,os',he,k⟩);refine (callsIn_wide (n:=9)).1 (callsIn_of_wp_marks hf hb trivial ?_);unfold uM at hc;split at hc
 case h_2=>cases hc
 rename_i kK id aS rest;split at hc
 case h_2=>cases hc
 rename_i o1 o2 hops;split at hc
 case h_2=>cases hc
 rename_i t5' g' ts' t dargs _ hg1 ho2;split at hc
 case isFalse=>cases hc
 rename_i hok;obtain ⟨rfl,rfl,hgd,hdst⟩:=hok;split at hc
 case h_2=>cases hc
 rename_i y0 y hx0 hx;simp only[v6,Prod.mk.injEq] at hc;obtain ⟨rfl,rfl,rfl,rfl,rfl⟩:=hc;refine wpIn_seq ?_;have hw0:=((h (pq _ _ hv) w D E).sub (tC args os)) kK hx0 _ w ⟨D,E,hsim⟩;refine wpIn_mono hw0 ?_;rintro e a1 w1 ⟨B,hq,D1,E1,hs1⟩;cases e <;>simp only[ej] at hq
 obtain ⟨tsl,os0,ρ,os1,slots,cargs,N,yb,post1,rfl,R⟩:=hq;simp only[Exit.then];refine wpIn_seq (wpIn_region_list ?_);rw[hops];obtain ⟨q1,q2,q3,q4⟩:=nd hg1;simp only at q1 q2;have wn1:∀ a:Act,Region.wanted o1 (yielded aS a.tmps)=true:=fun a=>by
  rcases q4 with ⟨a5,_⟩ | ⟨_,_,_,_,_,a5⟩
  ·simp[Region.wanted,a5]
  ·simp at a5
 have wn2:∀ a:Act,Region.wanted o2 (yielded aS a.tmps)=true:=fun a=>by simp[Region.wanted,hgd]
 simp only[wpListIn,wn1,if_true];have hmk:bm (au tsl os0) (.mk g' [.t ts'])=some (.func g' [.ptr (bF ρ N) []]):=by
  simp[bm,ak,au,R.fx,I.bS]
 have d1:=(CF (c:=r9 P w D fn.ntmps E (some [])) q1 hmk).does q3;rw[←q2] at d1;refine d1.wp q1 ⟨D1,E1,hs1⟩ fun a2 w2 hs2 =>?_;obtain ⟨D2,E2,hs2⟩:=hs2;simp only[wn2,if_true];rw[B1] at hs2
 -- the deferred call
 have hglt:=zF hi.1;have hfv:=hs2.dL t;simp only[au,bU,if_true] at hfv;obtain ⟨fc,f1,f2⟩:=hfv;simp only[al] at f2;obtain ⟨fvs,f3,f4⟩:=f2;have hval:a2.tmps.getD t undef=.func (.func g') #[] fvs.toArray:=by
  rw[←me hglt];simpa[bu,I.isAgg,f3] using f1.symm
 simp only[aE] at f4;obtain ⟨pv,prest,pcs,rfl,p1,p2,rfl⟩:=f4;have hpv:=hs2.dL ts';simp only[au,bU,if_neg hts,R.fx] at hpv;obtain ⟨pb,psh,poff,b1,b2,b3⟩:=kO hpv;obtain ⟨pb',psh',poff',b1',b2',b3'⟩:=kO (jh p1 p2);have hpeq:pv=a2.tmps.getD ts' undef:=by
  rw[b1] at b1';simp only[v6,bJ.aN.injEq] at b1';obtain ⟨rfl,rfl⟩:=b1';rw[b2] at b2';simp only[v6] at b2';subst b2';rw[b3,b3']
 have hdf:a2.defers=[]:=hs2.er;obtain ⟨a3,ha3⟩:∃ a3:Act,a3 = { a2 with defers:=[jU g' (a2.tmps.getD ts' undef)] } :=⟨_,rfl⟩
 have hrun:(o2.semAt Fence.wide.round a2.eval).run P w2=.ok (.defer (jU g' (a2.tmps.getD ts' undef))) w2:=by
  show (execOp a2.eval o2).run P w2=_
  have he:a2.eval (.tmp t)=.func (.func g') #[] #[pv]:=hval;simp[execOp,ho2,resolve,he,Deferred.ofValue,jU,hpeq]
 refine ⟨fun _ _=>trivial,?_⟩;rw[hrun,Oper.uponIn_defer,hdf,hdst];simp only[Exit.then];have hput:({ tmps:=a2.tmps,defers:=[jU g' (a2.tmps.getD ts' undef)] } : Act).put none undef=a3:=by rw[ha3];rfl
 rw[hput]
 -- the rest
 have hand:=WC (P:=P) (n:=fn.ntmps) (fn:=fn) (f:=g') (N:=N) (ch:=ch) (slots:=slots) (a:=a3) (args:=cargs) (os:=os1) (ts:=ts') hrs hx (by rw[ha3];exact hs2.sz) (by rw[ha3]) R.lA R.Eu R.box hi hca R.rest;have hs3:aU (r9 P w D fn.ntmps E (some [jU g' (a2.tmps.getD ts' undef)])) (au ((t,.func g' [.ptr (bF ρ N) []])::tsl) os0) a3 w2 D2 E2:=by
  rw[ha3];exact ⟨hs2.sz,rfl,hs2.dL,hs2.dH,hs2.cU,hs2.aQ,hs2.bN,hs2.cJ,hs2.dM,hs2.eK,hs2.cM,pA ao,hs2.fp⟩
 have hall:∀ l:List Nat,ft (aZ w2 D2 E2) (l.map (bU ((t,.func g' [.ptr (bF ρ N) []])::tsl))) (l.map fun k=>a3.tmps.getD k undef):=fun l=>by
  induction l with
  |nil=>exact .nil
  |cons k l ih=>exact .cons (hs3.dL k) ih
 have hus:=hand.use hs3 false (fun h hr=>h.mono hr) ⟨(fun h=>by cases h),fun _=>hs3.oP⟩ R.Bh R.arg R.x6 (hall slots);refine rf.mono hus ?_ (by simp);rintro e w' ⟨v,r,os',D4,E4,rfl,hp,hs4,hv4,_⟩;rw[hRR];obtain ⟨osF,g1,g2,g3,g4⟩:=R.ib r os' hp;rw[g2] at hv4;exact ⟨v,rfl,hs4.Uv g3 g1 hv4 g4⟩
def gf:aC:=⟨none,.mv (.c (.bool true)),none⟩
theorem G5{l:List Oper}{cl:List Nat}(h7:∀ i,i<l.length→(((l.map ca).getD i []).all (fun k=>decide (k<i))&&Nat.beq (cl.getD i 0) (kV cl ((l.map ca).getD i [])))=true)
  {S:Nat→Prop} (hS:∀ i o,l[i]?=some o→S i→∀ k∈ca o,S k):∀ n i o,i≤n→l[i]?=some o→(∀ k∈ca o,S k)→∀ j,(cl.getD i 0).testBit j=true→S j:=by
 have fx:∀ i o,l[i]?=some o→(∀ k∈ca o,k<i)∧(∀ j,(cl.getD i 0).testBit j=true→j∈ca o∨∃ k∈ca o,(cl.getD k 0).testBit j=true):=by
  intro i o ho;have hi:i<l.length:=(Z5.1 ho).1;have h8:=h7 i hi;have hon:(l.map ca).getD i []=ca o:=by simp[Z0,ho]
  rw[hon] at h8;simp only[t8,X0,decide_eq_true_eq] at h8;have hb:=Nat.eq_of_beq_eq_true h8.2;exact ⟨h8.1,fun j hj=>rC (by rw[←hb];exact hj)⟩
 intro n
 induction n with
 |zero =>
  intro i o hi ho hon j hj;obtain ⟨h8,h9⟩:=fx i o ho;rcases h9 j hj with h | ⟨k,hk,_⟩
  ·exact hon j h
  ·have:=h8 k hk;omega
 |succ n ih =>
  intro i o hi ho hon j hj;obtain ⟨h8,h9⟩:=fx i o ho;rcases h9 j hj with h | ⟨k,hk,hjk⟩
  ·exact hon j h
  ·have hki:=h8 k hk;have hkl:k<l.length:=Nat.lt_trans hki (Z5.1 ho).1;obtain ⟨ok,hok⟩:∃ ok,l[k]?=some ok:=⟨l[k],Y2 hkl⟩
   exact ih k ok (by omega) hok (hS k ok hok (hon k hk)) j hjk
def Ct(ab:List FuncId)(L:dW)(on:List (List Nat))(gs:List aC)(σ:List Nat)(m:Nat):Bool :=
 pf ab L on (gs.take m++[gf]) (jS on) (σ++[m])&&(sE (m+1) (jS on) m&&Nat.beq gs.length (m+1))
section
variable {c:cO}
theorem Gi{K:ai→Prop}{fs:List FuncId}{L:dW}{aS:Array Oper}{gs0 gs:List aC}{σ:List Nat}{Q:Exit→Act→World→Prop}{m:Nat}(hm:m<aS.size)(hQ:∀ (B:ai) (a:Act) (w:World) (Kw:Act→World→Prop),K B→bV c B a w→wpOpIn c.bz 9 c.P aS Q m Kw a w)
  (hgs:fE c.P c.n aS aS.toList=some gs0) (hsame:∀ i,i≠m→gs[i]?=gs0[i]?) (hgm:gs[m]?=some gf) (hgl:gs.length=aS.size) (af:tV fs L aS.toList gs σ)
  (hlast:∀ (S:Nat→Prop),(∀ i o,aS.toList[i]?=some o→S i→∀ k∈ca o,S k)→∀ o,aS.toList[m]?=some o→(∀ k∈ca o,S k)→∀ j,j<gs.length→j≠m→S j) :
  ∀ (fuel:Nat) (listed:Array Bool) (A:ai) (a:Act) (w:World),listed.size=aS.size→(∀ i o,aS.toList[i]?=some o→listed.getD i false=true→∀ k∈ca o,listed.getD k false=true)→(dU σ listed).length≤fuel →
   cP L A→listed.getD m true=false→bM c.P c.Y fs K (az (gi gs σ listed) A)→bV c A a w→wpAnyIn c.bz 9 c.P .any aS Q fuel listed a w:=by
 obtain ⟨hlen,hat⟩:=ic hgs;have onOf_mem:∀ (o:Oper) (e:Edge),e∈o.after→Region.binds .any e=true→e.on∈ca o:=fun o e he hb=>by
  simp only[ca,X1,X9];exact ⟨e,⟨by simpa using he,hb⟩,rfl⟩
 have of_onOf:∀ (o:Oper) (k:Nat),k∈ca o→∃ e∈o.after,Region.binds .any e=true∧e.on=k:=fun o k hk=>by
  simp only[ca,X1,X9] at hk;obtain ⟨e,⟨J,U⟩,ah⟩:=hk;exact ⟨e,by simpa using J,U,ah⟩
 have last:∀ (listed:Array Bool),listed.size=aS.size→Region.ready .any aS listed=[]→listed.getD m true=false→False:=by
  intro listed hsz hr hml;have all:∀ n,∀ i,i<n→i<aS.size→listed.getD i true=true:=by
   intro n
   induction n with
   |zero=>intro i hi;omega
   |succ n ih =>
    intro i hi his;cases hb:listed.getD i true with
    |true=>rfl
    |false =>
     exfalso
     have ho:aS[i]?=some aS[i]:=zz2 his;have:i∈Region.ready .any aS listed:=mem_ready.2 ⟨hb,aS[i],ho,fun e he hbd=>by
      have hlt:=af.ib i aS[i] (by simp) e.on (onOf_mem _ e he hbd);have J:=ih e.on (by omega) (by omega);have U:e.on<listed.size:=by omega
      simpa[Array.getD_eq_getD_getElem?,U] using J⟩
     rw[hr] at this;cases this
  have:=all (m+1) m (by omega) hm;rw[hml] at this;cases this
 intro fuel
 induction fuel with
 |zero =>
  intro listed A a w hsz hcl hcnt hinv hml hwp ab;have hnone:dU σ listed=[]:=List.length_eq_zero_iff.1 (by omega);have:m∈dU σ listed:=by
   simp only[dU,X9,hml,Bool.not_false,and_true];exact af.all m (by omega)
  rw[hnone] at this;cases this
 |succ fuel ih =>
  intro listed A a w hsz hcl hcnt hinv hml hwp ab;refine ⟨fun hr=>(last listed hsz hr hml).elim,fun i hi =>?_⟩;obtain ⟨hun,o,ho,hall⟩:=mem_ready.1 hi;have hin:i<aS.size:=(Y0.1 ho).1;obtain ⟨s1,s2,hσ,e1,e2⟩:=wS af.nA (af.all i (by omega)) (by omega) hun;have hol:aS.toList[i]?=some o:=by simpa using ho
  obtain ⟨g,hgi0,hcg⟩:=hat i o hol;have hon:∀ k∈ca o,listed.getD k false=true:=fun k hk=>by
   obtain ⟨e,J,U,ah⟩:=of_onOf o k hk;exact ah▸hall e J U
  by_cases him:i=m
  ·subst him;have hnil:dU σ listed=[i]:=by
    have hz:∀ j∈s1++s2,(!listed.getD j true)=false:=fun j hj=>by
     have hjσ:j∈σ:=by rw[hσ];rcases X5.1 hj with h | h <;>simp[h]
     have hjl:=af.lt j hjσ;have hji:j≠i:=fun e=>by
      subst e;have hnd:=af.nA;rw[hσ] at hnd;rcases X5.1 hj with h | h
      ·exact (List.nodup_append.1 hnd).2.2 j h j (by simp) rfl
      ·exact (List.nodup_cons.1 (List.nodup_append.1 hnd).2.1).1 h
     have h5:=hlast (fun k=>listed.getD k false=true) hcl o hol hon j hjl hji;have hjs:j<listed.size:=by omega
     simp[Array.getD_eq_getD_getElem?,hjs] at h5 ⊢;exact h5
    rw[e1];have f1:(s1.filter fun j => !listed.getD j true)=[]:=List.filter_eq_nil_iff.2 fun j hj=>by rw[hz j (List.mem_append_left _ hj)];simp
    have f2:(s2.filter fun j => !listed.getD j true)=[]:=List.filter_eq_nil_iff.2 fun j hj=>by rw[hz j (List.mem_append_right _ hj)];simp
    rw[f1,f2];rfl
   have hgd:gs.getD i default=gf:=by simp[Z0,hgm]
   simp only[gi,hnil,Z3,X7,hgd] at hwp;have e:az [gf] A=.done A:=rfl;rw[e] at hwp;cases hwp with
   |done hk=>exact hQ A a w _ hk ab
  have hgi:gs[i]?=some g:=by rw[hsame i him];exact hgi0
  have hgd:gs.getD i default=g:=by simp[Z0,hgi]
  have hwp':bM c.P c.Y fs K (az (g::gi gs σ (listed.setIfInBounds i true)) A):=by
   simp only[gi,e1,Y3,Z3,hgd] at hwp;simp only[gi,e2,Y3];refine bM.nc hinv (fun j hj =>?_) hwp;obtain ⟨k,hk,rfl⟩:=X1.1 hj;obtain ⟨hk1,hk2⟩:=X9.1 hk;have:=af.oL (fun k=>listed.getD k false=true) hcl s1 i s2 o hσ hol hon k hk1 (by
    have hks:k<listed.size:=by
     have:=af.lt k (by rw[hσ];exact List.mem_append_left _ hk1);omega
    simp[Array.getD_eq_getD_getElem?,hks] at hk2 ⊢;exact hk2)
   rw[hgd] at this;have hkl:=af.lt k (by rw[hσ];exact List.mem_append_left _ hk1);have hks:k<aS.size:=by omega
   refine ⟨this,?_⟩;rcases af.qp k aS[k] (by simp) with h | h
   ·exact h
   ·exfalso
    have h9:=h.1;rw[hσ,List.getLast?_append] at h9;have hne:(i::s2).getLast?=some k:=by
     cases h10:(i::s2).getLast? with
     |none=>simp at h10
     |some q=>rw[h10] at h9;simpa using h9
    have hk2:k∈i::s2:=List.mem_of_getLast? hne;have hnd:=af.nA;rw[hσ] at hnd;exact (List.nodup_append.1 hnd).2.2 k hk1 k hk2 rfl
  unfold wpOpIn;rw[ho];have hokg:mw g.op=true:=by
   have:=af.ok i (by omega)
   rwa [hgd] at this
  have hcl':∀ m om,aS.toList[m]?=some om→(listed.setIfInBounds i true).getD m false=true→∀ k∈ca om,(listed.setIfInBounds i true).getD k false=true:=by
   intro m om hom hm k hk;by_cases hmi:m=i
   ·subst hmi;rw[hol,v6] at hom;subst hom;exact getD_set_true (hon k hk)
   ·rw[getD_set_ne false (Ne.symm hmi)] at hm;exact getD_set_true (hcl m om hom hm k hk)
  have hfu:(dU σ (listed.setIfInBounds i true)).length≤fuel:=by
   have:(dU σ listed).length=(dU σ (listed.setIfInBounds i true)).length+1:=by
    rw[e1,e2];simp;omega
   omega
  have hml':(listed.setIfInBounds i true).getD m true=false:=by rw[getD_set_ne true him];exact hml
  rcases af.qp i o hol with hlb | ⟨hla,hlb⟩
  ·rw[hgd] at hlb;exact sq hcg hinv ⟨hokg,hlb⟩ hwp' ab fun B a' w' hw hiB hs'=>ih _ B a' w' (by simpa using hsz) hcl' hfu hiB hml' hw hs'
  ·exfalso
   have h5:=hlb (fun k=>listed.getD k false=true) hcl hon m (by omega) (Ne.symm him);have hms:m<listed.size:=by omega
   simp[Array.getD_eq_getD_getElem?,hms] at h5 hml;rw[hml] at h5;cases h5
theorem ae.jj{Q:Exit→ai→Prop}{A:ai}{on:List (List Nat)}{gs:List aC}(m:Nat)(ab:List FuncId)(L:dW)(σ:List Nat){g:bR}{dst:Option Nat}(af:Ct ab L on gs σ m=true)(hk:gs[m]?=some ⟨dst,g,none⟩)(hi:cP L A)
  (h:∀ K:ai→Prop,(∀ B,l6 c.P Q g B→K B)→bM c.P c.Y ab K (az (eZ (σ++[m]) (gs.take m++[gf])) A)):ae c (.cg (some on) gs) Q A:=by
 intro code hc a w hs';cases code <;>simp only[en] at hc <;>try (first | (cases hc;done) | ((repeat' split at hc) <;>cases hc;done))
 rename_i id aS draw;split at hc
 case h_2=>cases hc
 rename_i gs' hgs;split at hc
 case isFalse=>cases hc
 rename_i hok;simp only[v6,br.cg.injEq] at hc;obtain ⟨he,rfl⟩:=hc;cases draw with
 |false=>cases he
 |true =>
  simp only[cond_true,v6] at he;subst he;simp only[Bool.not_true,Bool.false_or] at hok;simp only[Ct,t8] at af;obtain ⟨hd1,hd2,hd3⟩:=af;have hglen:=Nat.eq_of_beq_eq_true hd3;have hops:gs'.length=aS.size:=by rw[(ic hgs).1,X2]
  have hXl:(gs'.take m++[gf]).length=aS.size:=by simp;omega
  have hp:=Cx (l:=aS.toList) (by rw[hXl,X2]) hd1;have h7:∀ i,i<aS.toList.length→(((aS.toList.map ca).getD i []).all (fun k=>decide (k<i))&&Nat.beq ((jS (aS.toList.map ca)).getD i 0) (kV (jS (aS.toList.map ca)) ((aS.toList.map ca).getD i [])))=true:=by
   simp only[pf,t8,X0,zz4] at hd1;intro i hi;have:=hd1.2.2 i (by rw[hXl];simpa using hi);simpa only[t8,X0] using this
  have hmlt:m<aS.size:=by omega
  refine wpIn_region_any hok (Gi (K:=l6 c.P Q g) (m:=m) hmlt (fun B a' w' Kw hpn hs2 =>?_) hgs (gs:=gs'.take m++[gf]) (fun i him =>?_) ?_ hXl hp (fun S hS o ho hon j hj hjm =>?_) aS.size (Array.replicate aS.size false) A a _ (by simp) ?_ ?_ hi (by simp[Array.getD_eq_getD_getElem?,hmlt]) ?_ ?_)
  ·obtain ⟨g1,hg1,hg2⟩:=(ic hgs).2 m aS[m] (by simp[hmlt]);rw[hk,v6] at hg1;subst hg1;obtain ⟨q1,q2,q3,q4⟩:=nd hg2;have wn:Region.wanted aS[m] (yielded aS a'.tmps)=true:=by
    rcases q4 with ⟨a5,_⟩ | ⟨_,_,_,_,_,a5⟩
    ·simp[Region.wanted,a5]
    ·simp at a5
   unfold wpOpIn;rw[zz2 hmlt];simp only[wn,if_true];exact Cu q1 hpn hs2
  ·rcases Nat.lt_or_ge i m with ao | ao
   ·rw[Y4 (by simp;omega),List.getElem?_take,if_pos ao]
   ·rw[zz3 (by rw[hXl];omega),zz3 (by omega)]
  ·rw[zz0 (by simp;omega)];simp[show min m gs'.length=m by omega]
  ·have hb:(jS (aS.toList.map ca)).getD m 0 |>.testBit j:=by
    simp only[sE,X0,zz4,Bool.or_eq_true,beq_iff_eq] at hd2;rcases hd2 j (by omega) with e | e
    ·exact absurd e hjm
    ·exact e
   exact G5 h7 hS m m o (Z4 _) ho hon j hb
  ·intro i o _ h
   exfalso
   simp only[Array.getD_eq_getD_getElem?,Array.getElem?_replicate] at h;split at h <;>simp at h
  ·refine zz9 (List.length_filter_le _ _) ?_;rw[hp.len,hXl];exact Z4 _
  ·have hall:dU (σ++[m]) (Array.replicate aS.size false)=σ++[m]:=by
    simp only[dU];refine List.filter_eq_self.2 fun i hi =>?_;have J:=hp.lt i hi;rw[hXl] at J;simp[J]
   simp only[gi,hall];exact h _ fun _ hb=>hb
  ·obtain ⟨D,E,hs'⟩:=hs';exact ⟨D,E,hs'.grow (w' := { w with drawn:=w.drawn+1 }) ⟨rfl,rfl,rfl,Z4 _,fun _ _=>rfl⟩ (fun _ _ h=>h) (fun _ _ h _=>h) (fun b o h=>hs'.aQ b o h)⟩
end
end Go.Abs
namespace Go.Abs
open Go Go.RowKit
open Enc (enc)
def kZ(w:World):aP:=fun b _=>b<w.heap.size
structure iK (P:Program) (t:TypeId) (α:Type) [Enc α]:Prop where
 cells:P.cellsOf t=Enc.sz α
 V2:0<Enc.sz α
 o8:∀ {H:Type} {enc0:TypeId×Value→H} {w:World} {fuel:Nat} {cs:List Value} {x:DataW H×List MemPlace},DataW.trod enc0 P w 0 (fun _=>true) true fuel t cs=some x→∃ a:α,al w (kZ w) c9 (enc a) cs
theorem VS{P:Program}{t:TypeId}(ht:P.underlying t=some (.int .i64))(hc:P.cellsOf t=1):iK P t Int :=
 ⟨hc,by decide,fun h=>by
  obtain ⟨n,rfl,_,hw⟩:=DataW.trod_int ht h;refine ⟨n,?_⟩;rw[eC,al];simp only[Lit.wf,t8,decide_eq_true_eq] at hw;exact ⟨rfl,hw.1,hw.2⟩⟩
theorem Ga(a:Addr)(i j:Nat):(a.add i).add j=a.add (i+j):=by
 unfold Addr.add;by_cases hi:i=0 <;>by_cases hj:j=0 <;>simp[hi,hj,Nat.add_assoc]
theorem VT{P:Program}{t e:TypeId}{α:Type}[Enc α](ht:P.underlying t=some (.slice e))(he:iK P e α)(hc:P.cellsOf t=1):iK P t (List α) :=
 ⟨hc,by rw[jV];exact Nat.one_pos,fun {H enc0 w fuel cs x} h=>by
  rcases DataW.trod_slice ht h with ⟨rfl,_⟩ | ⟨a,len,cap,elems,rest,n,_,rfl,_,hb,ao,hm,hlen,hel,_⟩
  ·refine ⟨[],?_⟩;simp only[gT,X7];rw[al];exact ⟨none,0,rfl,Z4 _,by decide,.inl rfl,by simp⟩
  ·have key:∀ k,k≤len→∃ (l:List α) (cs':List Value),l.length=k∧aM w (kZ w) c9 (l.map enc) cs'∧cs'.length=k*Enc.sz α∧∀ j v,cs'[j]?=some v→w.cell? (a.add j)=some v:=by
    intro k
    induction k with
    |zero=>exact fun _=>⟨[],[],rfl,by simp[aM],by simp,by simp⟩
    |succ k ih =>
     intro hk;obtain ⟨l,cs',J,U,ah,ar⟩:=ih (by omega);have h5:=hel k (by omega);have h6:k<elems.length:=by omega
     rw[Y2 h6] at h5;obtain ⟨ce,h7,h8⟩:=zz1.1 h5;obtain ⟨y,hy⟩:=he.o8 h8;rw[he.cells] at h7;obtain ⟨_,h9,h10⟩:=World.cells?_some h7;refine ⟨l++[y],cs'++ce,by simp[J],?_,by rw[Z6,ah,h9,Nat.succ_mul],fun j v hj =>?_⟩
     ·rw[Y3];refine jK _ _ _ _ U ?_;simp only[Z3,X7,aM];exact ⟨ce,[],by simp,hy,rfl⟩
     ·rcases Nat.lt_or_ge j cs'.length with hlt | hge
      ·rw[Y4 hlt] at hj;exact ar j v hj
      ·rw[zz0 hge] at hj;have hlt:j-cs'.length<Enc.sz α:=by
        have:=(Z5.1 hj).1;omega
       have:=h10 (j-cs'.length) hlt;rw[Ga,←ah,Nat.add_sub_cancel' hge] at this;rw[this];exact hj
   obtain ⟨l,cs',J,U,ah,ar⟩:=key len (Z4 _);refine ⟨l,?_⟩;simp only[gT,al,Z8];refine ⟨some a,cap,by rw[J],by omega,hm,?_,Gh l⟩;by_cases hz:len=0
   ·left;have:l=[]:=List.length_eq_zero_iff.1 (by omega);rw[this];rfl
   right
   have hpos:0<cs'.length:=by rw[ah];exact Nat.mul_pos (Nat.pos_of_ne_zero hz) he.V2
   have aW:=ar 0 cs'[0] (Y2 hpos);have hsp:a.spot=none:=by
    simp only[Addr.add,if_true] at aW;unfold World.cell? at aW;split at aW
    ·split at aW
     ·cases aW
     ·rename_i ab;cases bH:a.spot <;>simp_all
    ·cases aW
   have ha:∀ j,a.add j=⟨a.block,a.off+j,none⟩:=fun j=>by
    unfold Addr.add;split
    ·rename_i hj;subst hj;cases a;simp_all
    ·rfl
   refine ⟨a.block,a.off,cs',by cases a;simp_all,fun j v hj =>?_,U⟩;have h5:=ar j v hj;rw[ha] at h5;refine ⟨h5,?_⟩
   show (⟨a.block,a.off+j,none⟩:Addr).block<_
   exact World.block_lt_of_cell? w _ h5⟩
end Go.Abs
