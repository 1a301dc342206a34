/-
  A part of the proof that the law MarchLooks returns true for every input; three tables of Go's library start as the text lays them (the card ties them); conditions: none beyond the statement's own. (part 3 of 7)
-/
import Derived.Test.YthbdbocionnfgaaGreatDoorChecked
import Derived.KernelRfl
import Derived.RangeFuncIn
import Derived.Laws.Externs
import Derived.RecoverIn
import Derived.Test.YthbdbocionnfgaaGreatDoorNdb
set_option linter.unusedSimpArgs false
set_option linter.unusedVariables false
set_option maxHeartbeats 16000000
set_option maxRecDepth 100000
namespace Go.Proofs.YthbdbocionnfgaaGreatDoor
open Go Go.Abs Go.Abs.C
def VM:=[b 2 0,b 3 1,o 4 (.mv bC)]
def VN:=[L 22 3 2,o 23 (.call 44 [.t 22]),m 21 23,o 24 (.ext (.t 21) 0),o 25 (.ext (.t 21) 1),m 5 24,m 6 25]
def VO:=[L 27 3 2,o 28 (.call 45 [.t 27]),m 26 28,o 29 (.ext (.t 26) 0),o 30 (.ext (.t 26) 1),m 7 29,m 8 30]
def VP:=[L 32 3 2,o 33 (.call 46 [.t 32]),m 31 33,o 34 (.ext (.t 31) 0),o 35 (.ext (.t 31) 1),m 9 34,m 10 35]
def VQ:=[L 37 3 2,o 38 (.call 47 [.t 37]),m 36 38,o 39 (.ext (.t 36) 0),o 40 (.ext (.t 36) 1),m 11 39,m 12 40]
def VR:=[L 42 3 2,f 43 1 1 3,l 44 43,f 45 2 2 3,l 46 45,o 47 (.call 48 [.t 42,.t 44,.t 46]),m 41 47,o 48 (.ext (.t 41) 0),o 49 (.ext (.t 41) 1),m 13 48,m 14 49]
def VS:=[L 51 3 2,f 52 1 1 3,l 53 52,f 54 2 2 3,l 55 54,o 56 (.call 49 [.t 51,.t 53,.t 55]),m 50 56,o 57 (.ext (.t 50) 0),o 58 (.ext (.t 50) 1),m 15 57,m 16 58]
def VT:=[L 60 3 2,f 61 0 0 3,l 62 61,o 63 (.call 50 [.t 60,.t 62]),m 59 63,o 64 (.ext (.t 59) 0),o 65 (.ext (.t 59) 1),m 17 64,m 18 65]
def VU:=[L 67 3 2,f 68 0 0 3,l 69 68,o 70 (.call 51 [.t 67,.t 69]),m 66 70,o 71 (.ext (.t 66) 0),o 72 (.ext (.t 66) 1),m 19 71,m 20 72]
def VV:=[m 73 5,m 74 7,o 75 (.call 41 [.t 73,.t 74]),m 76 75,cN 77 6 76,cN 78 8 76,bV 79 (.bin .eql (.t 77) (.t 78)) 76,and 80 76 79,m 81 80,cN 82 9 81,cN 83 11 81,bV 84 (.call 42 [.t 82,.t 83]) 81,and 85 81 84,m 86 85,cN 87 10 86,cN 88 12 86,bV 89 (.bin .eql (.t 87) (.t 88)) 86,and 90 86 89,m 91 90,cN 92 13 91,cN 93 15 91,bV 94 (.bin .eql (.t 92) (.t 93)) 91,and 95 91 94,m 96 95,cN 97 14 96,cN 98 16 96,bV 99 (.bin .eql (.t 97) (.t 98)) 96,and 100 96 99,m 101 100,cN 102 17 101,cN 103 19 101,bV 104 (.call 52 [.t 102,.t 103]) 101,and 105 101 104,m 106 105,cN 107 18 106,cN 108 20 106,bV 109 (.bin .eql (.t 107) (.t 108)) 106,and 110 106 109,m 111 110,bV 112 (.call 18 []) 111,and 113 111 112,m 4 113]
def zW:bp:=(s (r VM) (s (r VN) (s (r VO) (s (r VP) (s (r VQ) (s (r VR) (s (r VS) (s (r VT) (s (r VU) (s (r VV) .ret))))))))))
def EN:List bK:=[.tmp 4]
theorem Kt:ct Tryz.prog Tryz.f8 zW:=e (by kernel_rfl)
theorem LP:cn Tryz.prog Tryz.f8 EN:=e (by kernel_rfl)
theorem Jp:cd Tryz.prog 8:=e (by kernel_rfl)
def Ou:=[b 1 0,o 2 (.alloc (.agg [.int .i64 0,.nils 4,.int .i64 0])),bJ 3 0]
def Ov:=[L 5 3 1,o 6 (.call 23 [.t 5]),m 4 6]
def Ow:=[m 7 4,o 8 (.bin .neq (.t 7) (bf 0))]
def Ox:=[o 9 (.bld [.int .i64 0,.nils 4,.int .i64 0] []),m 10 4,p (.bg (some 3) (.t 2) (.t 9)),m 3 10]
def Oy:=[L 11 3 1,o 12 (.call 57 [.t 11]),p (.bg (some 3) (.t 1) (.t 12))]
def Oz:=[f 13 1 1 1,l 14 13,o 15 (.len (.t 14)),f 16 2 2 1,p (.bg none (.t 16) (.t 15))]
def OA:=[L 17 3 1,p (.bg (some 3) (.t 2) (.t 17)),bJ 3 0]
def yY:bp:=(s (r Ou) (s (s (r Ov) (s (r Ow) (.cond (.t 8) (s (r Ox) .ret) .skip))) (s (r Oy) (s (r Oz) (s (r OA) .ret)))))
def DI:List bK:=[.cell 2 (some 3),.tmp 3]
theorem JE:ct Tryz.prog Tryz.f10 yY:=e (by kernel_rfl)
theorem KQ:cn Tryz.prog Tryz.f10 DI:=e (by kernel_rfl)
theorem Iz:cd Tryz.prog 10:=e (by kernel_rfl)
def Ph:=[b 2 0,o 4 (.mv (.c (.nils 5))),bJ 5 0]
def Pj:=[L 11 3 2,o 12 (.call 23 [.t 11]),m 6 12]
def Pn:=[m 13 6,o 14 (.bin .neq (.t 13) (bf 0))]
def Po:=[m 15 6,o 4 (.mv (.c (.nils 5))),m 5 15]
def Pp:=[m 16 1,o 17 (.call 61 [.t 16]),no 18 17,m 19 18,lb 20 1 19,fn 21 0 0 2 19,fp 22 21 19,on 23 (.bin .eql (.t 20) (.t 22)) 19,or 24 19 23]
def Pq:=[o 4 (.mv (.c (.nils 5))),bJ 5 90]
def Pr:=[f 26 0 0 2,l 27 26,f 28 1 1 2,l 29 28,f 30 2 2 2,l 31 30,f 32 2 2 2,l 33 32,o 34 (.sl 4 (.t 29) none (some (.t 31)) (some (.t 33))),o 35 (.call 62 [.t 27,.t 34]),m 25 35,o 36 (.ext (.t 25) 0),o 37 (.ext (.t 25) 1),m 7 36,m 8 37]
def Mm:=some [[],[0],[],[2],[],[4],[],[6],[3,5,7],[1,8],[9],[10],[10],[11,9,0,1,2,3,4,5,6,7,8,9,10,11],[12,13,0,1,2,3,4,5,6,7,8,9,10,11,12,13]]
def Ps:=[o 9 (.alloc (.nils 5))]
def Pt:=[m 38 7,m 39 1,o 40 (.call 63 [.t 38,.t 39])]
def Pu:=[o 10 (.alloc (.agg [.int .i64 0,.int .i64 0,.int .i64 0,.int .i64 0,.int .i64 0])),p (.bg (some 5) (.t 10) (.t 41))]
def Pk:=[l 42 9,o 43 (.len (.t 42)),o 44 (.bin .eql (.t 43) (bf 0)),m 45 44,fp 46 9 45,fp 47 9 45,on 48 (.len (.t 47)) 45,on 49 (.bin .sub (.t 48) (bf 1)) 45,on 50 (.is 5 (.t 46) (.t 49)) 45,on 51 (.ld (some 5) (.t 50)) 45,on 52 (.ld (some 5) (.t 10)) 45,on 53 (.eqv (.bg [(.i .i64),(.i .i64),(.i .i64),(.i .i64),(.i .i64)]) true (.t 51) (.t 52)) 45,or 54 45 53]
def Ml:=some [[],[0],[1],[2],[3],[3],[5,3],[6,3],[4,7,3],[8,3],[3],[9,10,3],[3,11]]
def Pl:=[l 55 9,L 56 5 10,o 57 (.bs 39 5 [.t 56]),o 58 (.dm 39 5 40 (.agg [.int .i64 0,.int .i64 0,.int .i64 0,.int .i64 0,.int .i64 0]) (.t 55) (.t 57)),p (.bg none (.t 9) (.t 58))]
def Pm:=[l 59 9,m 4 59,bJ 5 0]
def zf:bp:=(s (r Ph) (s (s (r Pj) (s (r Pn) (.cond (.t 14) (s (r Po) .ret) .skip))) (s (s (r Pp) (.cond (.t 24) (s (r Pq) .ret) .skip)) (s (.cw Mm Pr) (s (r Ps) (s (s (r Pt) (.block 0 (.mh (.t 40) [41] (r Pu) (.block 1 (s (.cw Ml Pk) (.cond (.t 54) (r Pl) .skip)))))) (s (r Pm) .ret)))))))
def D5:List bK:=[.tmp 4,.tmp 5]
theorem JP:ct Tryz.prog Tryz.f14 zf:=e (by kernel_rfl)
theorem K9:cn Tryz.prog Tryz.f14 D5:=e (by kernel_rfl)
theorem IJ:cd Tryz.prog 14:=e (by kernel_rfl)
def PB:=[b 2 0,b 3 1,o 4 (.mv bC)]
def PC:=[f 5 0 0 2,l 6 5,f 7 0 0 3,l 8 7,o 9 (.bin .eql (.t 6) (.t 8)),m 10 9,dV 11 2 2 2 10,dN 12 11 10,dV 13 2 2 3 10,dN 14 13 10,bV 15 (.bin .eql (.t 12) (.t 14)) 10,and 16 10 15,m 17 16,dV 18 1 1 2 17,dN 19 18 17,dV 20 1 1 3 17,dN 21 20 17,bV 22 (.call 52 [.t 19,.t 21]) 17,and 23 17 22,m 4 23]
def zh:bp:=(s (r PB) (s (r PC) .ret))
def D8:List bK:=[.tmp 4]
theorem JR:ct Tryz.prog Tryz.f16 zh:=e (by kernel_rfl)
theorem Lc:cn Tryz.prog Tryz.f16 D8:=e (by kernel_rfl)
theorem IL:cd Tryz.prog 16:=e (by kernel_rfl)
def PD:=[o 4 (.mv bC)]
def PE:=[m 6 0,o 7 (.len (.t 6)),m 8 1,o 9 (.len (.t 8)),o 10 (.bin .neq (.t 7) (.t 9))]
def PF:=[o 4 (.mv bC)]
def PG:=[m 11 0,o 12 (.len (.t 11)),bJ 13 0]
def PH:=[lt 14 13 12]
def PI:=[m 15 13,m 5 15]
def PJ:=[m 16 0,m 17 5,o 18 (.is 5 (.t 16) (.t 17)),L 19 5 18,m 20 1,m 21 5,o 22 (.is 5 (.t 20) (.t 21)),L 23 5 22,o 24 (.eqv (.bg [(.i .i64),(.i .i64),(.i .i64),(.i .i64),(.i .i64)]) true (.t 19) (.t 23))]
def Mr:=some [[],[],[0,1],[2],[],[],[4,5],[6],[3,7]]
def PK:=[o 4 (.mv bC)]
def PL:=[ad 25 13 1,m 13 25]
def PM:=[o 4 (.mv T)]
def zi:bp:=(s (r PD) (s (s (r PE) (.cond (.t 10) (s (r PF) .ret) .skip)) (s (s (r PG) (.block 0 (.loop (s (r PH) (s (.cond (.t 14) .skip (.exit 0)) (s (.block 1 (s (r PI) (s (.cw Mr PJ) (.cond (.t 24) (s (r PK) .ret) .skip)))) (r PL))))))) (s (r PM) .ret))))
def D9:List bK:=[.tmp 4]
theorem JS:ct Tryz.prog Tryz.f17 zi:=e (by kernel_rfl)
theorem Ld:cn Tryz.prog Tryz.f17 D9:=e (by kernel_rfl)
theorem IM:cd Tryz.prog 17:=e (by kernel_rfl)
def PN:=[o 0 (.mv bC)]
def PO:=[o 28 (.call 19 [(bf 0)]),m 27 28,o 29 (.ext (.t 27) 0),o 30 (.ext (.t 27) 1),o 1 (.alloc (.agg [.int .i64 0,.nils 4,.int .i64 0])),p (.bg (some 3) (.t 1) (.t 29)),m 2 30]
def PZ:=[o 32 (.call 19 [(bf 1)]),m 31 32,o 33 (.ext (.t 31) 0),o 34 (.ext (.t 31) 1),o 3 (.alloc (.agg [.int .i64 0,.nils 4,.int .i64 0])),p (.bg (some 3) (.t 3) (.t 33)),m 4 34]
def P0:=[L 36 3 1,o 37 (.call 27 [.t 36,(bf 7)]),m 35 37,o 38 (.ext (.t 35) 0),o 39 (.ext (.t 35) 1),p (.bg (some 3) (.t 1) (.t 38)),m 5 39]
def P1:=[L 41 3 1,o 42 (.call 10 [.t 41]),m 40 42,o 43 (.ext (.t 40) 0),o 44 (.ext (.t 40) 1),p (.bg (some 3) (.t 1) (.t 43)),m 6 44]
def P2:=[L 46 3 1,o 47 (.call 31 [.t 46,(bf 7),(bf 1)]),m 45 47,o 48 (.ext (.t 45) 0),o 49 (.ext (.t 45) 1),o 50 (.ext (.t 45) 2),o 7 (.alloc (.agg [.int .i64 0,.int .i64 0,.int .i64 0,.bool false])),p (.bg (some 3) (.t 1) (.t 48)),p (.bg (some 4) (.t 7) (.t 49)),m 8 50]
def P3:=[L 52 3 1,o 53 (.call 14 [.t 52,(bf 1)]),m 51 53,o 54 (.ext (.t 51) 0),o 55 (.ext (.t 51) 1),m 9 54,m 10 55]
def P4:=[L 57 3 1,o 58 (.call 53 [.t 57]),m 56 58,o 59 (.ext (.t 56) 0),o 60 (.ext (.t 56) 1),m 11 59,m 12 60]
def P5:=[L 62 3 1,o 63 (.call 10 [.t 62]),m 61 63,o 64 (.ext (.t 61) 0),o 65 (.ext (.t 61) 1),p (.bg (some 3) (.t 1) (.t 64)),m 13 65]
def P6:=[L 67 3 1,o 68 (.call 14 [.t 67,(bf 1)]),m 66 68,o 69 (.ext (.t 66) 0),o 70 (.ext (.t 66) 1),m 14 69,m 15 70]
def PQ:=[o 71 (.bld [.int .i64 0,.int .i64 0,.int .i64 0,.int .i64 0,.int .i64 0] [(0,(bf 1)),(2,(bf 1)),(3,(bf 7)),(4,(bf 1))]),o 16 (.alloc (.agg [.int .i64 0,.int .i64 0,.int .i64 0,.int .i64 0,.int .i64 0])),p (.bg (some 5) (.t 16) (.t 71))]
def PR:=[L 73 3 3,L 74 5 16,o 75 (.call 35 [.t 73,.t 74]),m 72 75,o 76 (.ext (.t 72) 0),o 77 (.ext (.t 72) 1),p (.bg (some 3) (.t 3) (.t 76)),m 17 77]
def PS:=[L 79 3 1,L 80 3 3,o 81 (.bs 24 3 [.t 79,.t 80]),o 82 (.call 37 [.t 81,(bf 7)]),m 78 82,o 83 (.ext (.t 78) 0),o 84 (.ext (.t 78) 1),m 18 83,m 19 84]
def PT:=[L 86 3 3,o 87 (.call 10 [.t 86]),m 85 87,o 88 (.ext (.t 85) 0),o 89 (.ext (.t 85) 1),p (.bg (some 3) (.t 3) (.t 88)),m 20 89]
def PU:=[L 91 3 3,o 92 (.call 14 [.t 91,(bf 0)]),m 90 92,o 93 (.ext (.t 90) 0),o 94 (.ext (.t 90) 1),m 21 93,m 22 94]
def PV:=[L 96 3 1,o 97 (.bld [.int .i64 0,.int .i64 0,.int .i64 0,.int .i64 0,.int .i64 0] [(0,(bf 2)),(1,(bf 1)),(3,(bf 7)),(4,(bf 1))]),o 98 (.call 35 [.t 96,.t 97]),m 95 98,o 99 (.ext (.t 95) 0),o 100 (.ext (.t 95) 1),p (.bg (some 3) (.t 1) (.t 99)),m 23 100]
def PW:=[L 102 3 1,o 103 (.call 46 [.t 102]),m 101 103,o 104 (.ext (.t 101) 0),o 105 (.ext (.t 101) 1),m 24 104,m 25 105]
def PX:=[m 106 2,o 107 (.bin .eql (.t 106) (bf 0)),m 108 107,cN 109 4 108,bV 110 (.bin .eql (.t 109) (bf 0)) 108,and 111 108 110,m 112 111,cN 113 5 112,bV 114 (.bin .eql (.t 113) (bf 0)) 112,and 115 112 114,m 116 115,cN 117 6 116,bV 118 (.bin .eql (.t 117) (bf 0)) 116,and 119 116 118,m 120 119,cN 121 8 120,bV 122 (.bin .eql (.t 121) (bf 0)) 120,and 123 120 122,m 124 123,cN 125 10 124,bV 126 (.bin .eql (.t 125) (bf 0)) 124,and 127 124 126,m 128 127,cN 129 12 128,bV 130 (.bin .eql (.t 129) (bf 0)) 128,and 131 128 130,m 132 131,cN 133 13 132,bV 134 (.bin .eql (.t 133) (bf 0)) 132,and 135 132 134,m 136 135,cN 137 15 136,bV 138 (.bin .eql (.t 137) (bf 0)) 136,and 139 136 138,m 140 139,cN 141 17 140,bV 142 (.bin .eql (.t 141) (bf 0)) 140,and 143 140 142,m 144 143,cN 145 19 144,bV 146 (.bin .eql (.t 145) (bf 0)) 144,and 147 144 146,m 148 147,cN 149 20 148,bV 150 (.bin .eql (.t 149) (bf 0)) 148,and 151 148 150,m 152 151,cN 153 22 152,bV 154 (.bin .eql (.t 153) (bf 0)) 152,and 155 152 154,m 156 155,cN 157 23 156,bV 158 (.bin .eql (.t 157) (bf 0)) 156,and 159 156 158,m 160 159,cN 161 25 160,bV 162 (.bin .eql (.t 161) (bf 0)) 160,and 163 160 162,m 26 163]
def PY:=[m 164 26,m 165 164,bV 166 (.ld (some 4) (.t 7)) 165,bV 167 (.bld [.int .i64 0,.int .i64 0,.int .i64 0,.bool false] [(0,(bf 1)),(1,(bf 1)),(2,(bf 7))]) 165,bV 168 (.eqv (.bg [(.i .i64),(.i .i64),(.i .i64),.b]) false (.t 166) (.t 167)) 165,and 169 165 168,m 170 169,cN 171 9 170,bV 172 (.len (.t 171)) 170,bV 173 (.bin .eql (.t 172) (bf 0)) 170,and 174 170 173,m 175 174,cN 176 11 175,bV 177 (.bin .eql (.t 176) (.c (.bQ ⟨#[112,111,117,110,100,32,48,32,49,10,112,111,117,110,100,32,55,10,115,101,110,100,32,55,32,49,32,49,10]⟩))) 175,and 178 175 177,m 179 178,cN 180 14 179,bV 181 (.ld (some 5) (.t 16)) 179,bV 182 (.bs 39 5 [.t 181]) 179,bV 183 (.call 17 [.t 180,.t 182]) 179,and 184 179 183,m 185 184,cN 186 18 185,bV 187 (.bs 3 1 [(bf 1)]) 185,bV 188 (.call 41 [.t 186,.t 187]) 185,and 189 185 188,m 190 189,cN 191 21 190,bV 192 (.bld [.int .i64 0,.int .i64 0,.int .i64 0,.int .i64 0,.int .i64 0] [(0,(bf 2)),(1,(bf 1)),(3,(bf 7)),(4,(bf 1))]) 190,bV 193 (.bs 39 5 [.t 192]) 190,bV 194 (.call 17 [.t 191,.t 193]) 190,and 195 190 194,m 196 195,cN 197 24 196,bV 198 (.len (.t 197)) 196,bV 199 (.bin .eql (.t 198) (bf 0)) 196,and 200 196 199,m 0 200]
def zj:bp:=(s (r PN) (s (r PO) (s (r PZ) (s (r P0) (s (r P1) (s (r P2) (s (r P3) (s (r P4) (s (r P5) (s (r P6) (s (r PQ) (s (r PR) (s (r PS) (s (r PT) (s (r PU) (s (r PV) (s (r PW) (s (r PX) (s (r PY) .ret)))))))))))))))))))
def Ea:List bK:=[.tmp 0]
theorem JT:ct Tryz.prog Tryz.f18 zj:=e (by kernel_rfl)
theorem Le:cn Tryz.prog Tryz.f18 Ea:=e (by kernel_rfl)
theorem IN:cd Tryz.prog 18:=e (by kernel_rfl)
def P7:=[o 2 (.alloc (.agg [.int .i64 0,.nils 4,.int .i64 0])),bJ 3 0]
def P8:=[m 4 0,o 5 (.call 61 [.t 4]),no 6 5]
def P9:=[o 7 (.bld [.int .i64 0,.nils 4,.int .i64 0] []),p (.bg (some 3) (.t 2) (.t 7)),bJ 3 90]
def Qa:=[m 8 0,o 9 (.bld [.int .i64 0,.nils 4,.int .i64 0] [(0,(.t 8))]),p (.bg (some 3) (.t 2) (.t 9)),bJ 3 0]
def zk:bp:=(s (r P7) (s (s (r P8) (.cond (.t 6) (s (r P9) .ret) .skip)) (s (r Qa) .ret)))
def Eb:List bK:=[.cell 2 (some 3),.tmp 3]
theorem JU:ct Tryz.prog Tryz.f19 zk:=e (by kernel_rfl)
theorem Lf:cn Tryz.prog Tryz.f19 Eb:=e (by kernel_rfl)
theorem IP:cd Tryz.prog 19:=e (by kernel_rfl)
def Qb:=[b 1 0,bJ 2 0]
def Qc:=[f 3 0 0 1,l 4 3]
def Qi:=[o 6 (.bin .eql (.t 4) (bf 1)),m 5 6]
def Qj:=[o 7 (.bin .eql (.t 4) (bf 2)),m 5 7]
def Qk:=[f 8 1 1 1,l 9 8,o 10 (.call 67 [.t 9]),m 11 10,dV 12 2 2 1 11,dN 13 12 11,bV 14 (.bin .eql (.t 13) (bf 0)) 11,and 15 11 14,m 16 15,dV 17 3 3 1 16,dN 18 17 16,bV 19 (.bin .eql (.t 18) (bf 0)) 16,and 20 16 19]
def Ql:=[bJ 2 0]
def Qm:=[o 22 (.bin .eql (.t 4) (bf 3)),m 21 22]
def Qn:=[o 23 (.bin .eql (.t 4) (bf 4)),m 21 23]
def Qo:=[o 24 (.bin .eql (.t 4) (bf 5)),m 21 24]
def Qp:=[o 25 (.bin .eql (.t 4) (bf 6)),m 21 25]
def Qd:=[o 26 (.bin .eql (.t 4) (bf 7)),m 21 26]
def Qe:=[o 27 (.bin .eql (.t 4) (bf 8)),m 21 27]
def Qf:=[f 28 1 1 1,l 29 28,o 30 (.call 67 [.t 29]),m 31 30,dV 32 2 2 1 31,dN 33 32 31,bV 34 (.call 64 [.t 33]) 31,and 35 31 34,m 36 35,dV 37 3 3 1 36,dN 38 37 36,bV 39 (.call 68 [.t 38,(bf 1),(bf 200)]) 36,and 40 36 39]
def Qg:=[bJ 2 0]
def Qh:=[bJ 2 1]
def zl:bp:=(s (r Qb) (s (s (r Qc) (.block 0 (s (s (r Qi) (.cond (.t 5) .skip (r Qj))) (.cond (.t 5) (s (r Qk) (.cond (.t 20) (s (r Ql) .ret) .skip)) (s (s (r Qm) (.cond (.t 21) .skip (s (r Qn) (.cond (.t 21) .skip (s (r Qo) (.cond (.t 21) .skip (s (r Qp) (.cond (.t 21) .skip (s (r Qd) (.cond (.t 21) .skip (r Qe))))))))))) (.cond (.t 21) (s (r Qf) (.cond (.t 40) (s (r Qg) .ret) .skip)) .skip)))))) (s (r Qh) .ret)))
def Ec:List bK:=[.tmp 2]
theorem JV:ct Tryz.prog Tryz.f22 zl:=e (by kernel_rfl)
theorem Lg:cn Tryz.prog Tryz.f22 Ec:=e (by kernel_rfl)
theorem IQ:cd Tryz.prog 22:=e (by kernel_rfl)
def Qq:=[b 1 0,bJ 2 0]
def Qr:=[L 6 3 1,o 7 (.call 69 [.t 6]),m 5 7,o 8 (.ext (.t 5) 0),o 9 (.ext (.t 5) 1),m 3 8,m 4 9]
def Qs:=[m 10 4,m 2 10]
def zm:bp:=(s (r Qq) (s (r Qr) (s (r Qs) .ret)))
def Ed:List bK:=[.tmp 2]
theorem JW:ct Tryz.prog Tryz.f23 zm:=e (by kernel_rfl)
theorem Lh:cn Tryz.prog Tryz.f23 Ed:=e (by kernel_rfl)
theorem IS:cd Tryz.prog 23:=e (by kernel_rfl)
def Qt:=[b 1 0,bJ 2 0]
def Qu:=[f 5 0 0 1,l 6 5,o 7 (.call 64 [.t 6]),no 8 7,m 9 8,fn 10 1 1 1 9,fp 11 10 9,on 12 (.len (.t 11)) 9,on 13 (.bin .gtr (.t 12) (bf 200)) 9,or 14 9 13,m 15 14,fn 16 2 2 1 15,fp 17 16 15,fn 18 1 1 1 15,fp 19 18 15,on 20 (.len (.t 19)) 15,on 21 (.call 68 [.t 17,(bf 0),.t 20]) 15,on 22 (.un .not (.t 21)) 15,or 23 15 22]
def Qv:=[bJ 2 91]
def Qw:=[L 25 3 1,f 26 1 1 1,l 27 26,o 28 (.len (.t 27)),o 29 (.call 65 [.t 25,.t 28]),m 24 29,o 30 (.ext (.t 24) 0),o 31 (.ext (.t 24) 1),o 3 (.alloc (.agg [.int .i64 0,.nils 1,.int .i64 0,.nils 4,.nils 4])),p (.bg (some 5) (.t 3) (.t 30)),m 4 31]
def Qx:=[m 32 4,no 33 32]
def Qy:=[bJ 2 91]
def Qz:=[bJ 2 0]
def zn:bp:=(s (r Qt) (s (s (r Qu) (.cond (.t 23) (s (r Qv) .ret) .skip)) (s (s (r Qw) (s (r Qx) (.cond (.t 33) (s (r Qy) .ret) .skip))) (s (r Qz) .ret))))
def Ee:List bK:=[.tmp 2]
theorem JX:ct Tryz.prog Tryz.f24 zn:=e (by kernel_rfl)
theorem Li:cn Tryz.prog Tryz.f24 Ee:=e (by kernel_rfl)
theorem IT:cd Tryz.prog 24:=e (by kernel_rfl)
def QA:=[b 2 0,o 4 (.alloc (.agg [.int .i64 0,.nils 4,.int .i64 0])),bJ 5 0]
def QB:=[L 9 3 2,o 10 (.call 69 [.t 9]),m 8 10,o 11 (.ext (.t 8) 0),o 12 (.ext (.t 8) 1),m 6 11,m 7 12]
def QC:=[m 14 7,o 15 (.bin .neq (.t 14) (bf 0)),m 13 15]
def QD:=[o 16 (.bld [.int .i64 0,.nils 4,.int .i64 0] []),m 17 7,p (.bg (some 3) (.t 4) (.t 16)),m 5 17]
def QE:=[m 19 1,o 20 (.call 71 [.t 19]),no 21 20,m 18 21]
def QF:=[o 22 (.bld [.int .i64 0,.nils 4,.int .i64 0] []),p (.bg (some 3) (.t 4) (.t 22)),bJ 5 1]
def QG:=[m 24 6,o 25 (.nilC (.t 24)),f 26 1 1 25,l 27 26,m 28 1,o 29 (.lk (.i .i64) (.bool false) false (.t 27) (.t 28)),m 30 29,lb 31 6 30,lb 32 1 30,on 33 (.call 72 [.t 31,.t 32]) 30,or 34 30 33,m 23 34]
def QH:=[o 35 (.bld [.int .i64 0,.nils 4,.int .i64 0] []),p (.bg (some 3) (.t 4) (.t 35)),bJ 5 92]
def QI:=[L 36 3 2,m 37 1,o 38 (.bld [.int .i64 0,.int .i64 0,.int .i64 0,.int .i64 0] [(0,(bf 1)),(1,(.t 37))]),o 39 (.call 73 [.t 36,.t 38]),o 40 (.ext (.t 39) 0),o 41 (.ext (.t 39) 1),p (.bg (some 3) (.t 4) (.t 40)),m 5 41]
def zo:bp:=(s (r QA) (s (r QB) (s (.block 0 (s (r QC) (.cond (.t 13) (s (r QD) .ret) (s (r QE) (.cond (.t 18) (s (r QF) .ret) (s (r QG) (.cond (.t 23) (s (r QH) .ret) .skip))))))) (s (r QI) .ret))))
def Ef:List bK:=[.cell 4 (some 3),.tmp 5]
theorem JY:ct Tryz.prog Tryz.f27 zo:=e (by kernel_rfl)
theorem Lj:cn Tryz.prog Tryz.f27 Ef:=e (by kernel_rfl)
theorem IU:cd Tryz.prog 27:=e (by kernel_rfl)
def QJ:=[b 3 0,o 6 (.alloc (.agg [.int .i64 0,.nils 4,.int .i64 0])),o 7 (.alloc (.agg [.int .i64 0,.int .i64 0,.int .i64 0,.bool false])),bJ 8 0]
def QK:=[L 13 3 3,o 14 (.call 69 [.t 13]),m 12 14,o 15 (.ext (.t 12) 0),o 16 (.ext (.t 12) 1),m 9 15,m 10 16]
def QP:=[m 18 10,o 19 (.bin .neq (.t 18) (bf 0)),m 17 19]
def QR:=[o 20 (.bld [.int .i64 0,.nils 4,.int .i64 0] []),o 21 (.bld [.int .i64 0,.int .i64 0,.int .i64 0,.bool false] []),m 22 10,p (.bg (some 3) (.t 6) (.t 20)),p (.bg (some 4) (.t 7) (.t 21)),m 8 22]
def QS:=[m 24 1,o 25 (.call 71 [.t 24]),no 26 25,m 23 26]
def QT:=[o 27 (.bld [.int .i64 0,.nils 4,.int .i64 0] []),o 28 (.bld [.int .i64 0,.int .i64 0,.int .i64 0,.bool false] []),p (.bg (some 3) (.t 6) (.t 27)),p (.bg (some 4) (.t 7) (.t 28)),bJ 8 1]
def QU:=[m 30 2,o 31 (.call 61 [.t 30]),no 32 31,m 33 32,lb 34 2 33,fn 35 0 0 3 33,fp 36 35 33,on 37 (.bin .eql (.t 34) (.t 36)) 33,or 38 33 37,m 29 38]
def QV:=[o 39 (.bld [.int .i64 0,.nils 4,.int .i64 0] []),o 40 (.bld [.int .i64 0,.int .i64 0,.int .i64 0,.bool false] []),p (.bg (some 3) (.t 6) (.t 39)),p (.bg (some 4) (.t 7) (.t 40)),bJ 8 90]
def QW:=[m 42 9,o 43 (.nilC (.t 42)),f 44 1 1 43,l 45 44,m 46 1,o 47 (.lk (.i .i64) (.bool false) false (.t 45) (.t 46)),no 48 47,m 41 48]
def QX:=[o 49 (.bld [.int .i64 0,.nils 4,.int .i64 0] []),o 50 (.bld [.int .i64 0,.int .i64 0,.int .i64 0,.bool false] []),p (.bg (some 3) (.t 6) (.t 49)),p (.bg (some 4) (.t 7) (.t 50)),bJ 8 93]
def QL:=[m 51 9,o 52 (.nilC (.t 51)),f 53 3 3 52,l 54 53,ad 55 54 1,m 56 2,m 57 1,o 58 (.bld [.int .i64 0,.int .i64 0,.int .i64 0,.bool false] [(0,(.t 55)),(1,(.t 56)),(2,(.t 57))]),o 11 (.alloc (.agg [.int .i64 0,.int .i64 0,.int .i64 0,.bool false])),p (.bg (some 4) (.t 11) (.t 58))]
def QM:=[L 60 3 3,m 61 1,m 62 2,f 63 0 0 11,l 64 63,o 65 (.bld [.int .i64 0,.int .i64 0,.int .i64 0,.int .i64 0] [(0,(bf 3)),(1,(.t 61)),(2,(.t 62)),(3,(.t 64))]),o 66 (.call 73 [.t 60,.t 65]),m 59 66,o 67 (.ext (.t 59) 0),o 68 (.ext (.t 59) 1),p (.bg (some 3) (.t 3) (.t 67)),m 10 68]
def QN:=[m 69 10,o 70 (.bin .neq (.t 69) (bf 0))]
def QO:=[o 71 (.bld [.int .i64 0,.nils 4,.int .i64 0] []),o 72 (.bld [.int .i64 0,.int .i64 0,.int .i64 0,.bool false] []),m 73 10,p (.bg (some 3) (.t 6) (.t 71)),p (.bg (some 4) (.t 7) (.t 72)),m 8 73]
def vW:=[L 74 3 3,L 75 4 11,p (.bg (some 3) (.t 6) (.t 74)),p (.bg (some 4) (.t 7) (.t 75)),bJ 8 0]
def Ms:=some [[],[],[0,0],[1,2,0,1,2],[3,0,1,2,3]] -- DRAW BAD
def zp:bp:=(s (r QJ) (s (r QK) (s (.block 0 (s (r QP) (.cond (.t 17) (s (r QR) .ret) (s (r QS) (.cond (.t 23) (s (r QT) .ret) (s (r QU) (.cond (.t 29) (s (r QV) .ret) (s (r QW) (.cond (.t 41) (s (r QX) .ret) .skip))))))))) (s (r QL) (s (r QM) (s (s (r QN) (.cond (.t 70) (s (r QO) .ret) .skip)) (s (.cw Ms vW) .ret)))))))
def Eg:List bK:=[.cell 6 (some 3),.cell 7 (some 4),.tmp 8]
theorem JZ:ct Tryz.prog Tryz.f31 zp:=e (by kernel_rfl)
theorem Lk:cn Tryz.prog Tryz.f31 Eg:=e (by kernel_rfl)
theorem IV:cd Tryz.prog 31:=e (by kernel_rfl)
def QY:=[b 2 0,b 3 1,o 4 (.alloc (.agg [.int .i64 0,.nils 4,.int .i64 0])),bJ 5 0]
def QZ:=[L 10 3 2,o 11 (.call 69 [.t 10]),m 9 11,o 12 (.ext (.t 9) 0),o 13 (.ext (.t 9) 1),m 6 12,m 7 13]
def Q0:=[m 15 7,o 16 (.bin .neq (.t 15) (bf 0)),m 14 16]
def Q1:=[o 17 (.bld [.int .i64 0,.nils 4,.int .i64 0] []),m 18 7,p (.bg (some 3) (.t 4) (.t 17)),m 5 18]
def Q2:=[L 20 5 3,o 21 (.call 70 [.t 20]),no 22 21,m 23 22,fn 24 2 2 3 23,fp 25 24 23,fn 26 0 0 2 23,fp 27 26 23,on 28 (.bin .neq (.t 25) (.t 27)) 23,or 29 23 28,m 19 29]
def Q3:=[o 30 (.bld [.int .i64 0,.nils 4,.int .i64 0] []),p (.bg (some 3) (.t 4) (.t 30)),bJ 5 95]
def Q4:=[f 31 0 0 3,l 32 31,o 33 (.call 80 [.t 32]),f 34 3 3 3,l 35 34,f 36 1 1 3,l 37 36,f 38 4 4 3,l 39 38,o 40 (.bld [.int .i64 0,.int .i64 0,.int .i64 0,.int .i64 0] [(0,(.t 33)),(1,(.t 35)),(2,(.t 37)),(3,(.t 39))]),o 8 (.alloc (.agg [.int .i64 0,.int .i64 0,.int .i64 0,.int .i64 0])),p (.bg (some 4) (.t 8) (.t 40))]
def Mt:=some [[],[0],[1],[],[3],[],[5],[],[7],[2,4,6,8],[],[10,9,2,0,1,2,3,4,5,6,7,8,9,10]]
def Q5:=[m 41 6,L 42 4 8,o 43 (.call 81 [.t 41,.t 42]),no 44 43]
def Q6:=[L 45 3 2,o 46 (.call 57 [.t 45]),p (.bg (some 3) (.t 4) (.t 46)),bJ 5 0]
def Q7:=[L 47 3 2,L 48 4 8,o 49 (.call 73 [.t 47,.t 48]),o 50 (.ext (.t 49) 0),o 51 (.ext (.t 49) 1),p (.bg (some 3) (.t 4) (.t 50)),m 5 51]
def zq:bp:=(s (r QY) (s (r QZ) (s (.block 0 (s (r Q0) (.cond (.t 14) (s (r Q1) .ret) (s (r Q2) (.cond (.t 19) (s (r Q3) .ret) .skip))))) (s (.cw Mt Q4) (s (s (r Q5) (.cond (.t 44) (s (r Q6) .ret) .skip)) (s (r Q7) .ret))))))
def Ei:List bK:=[.cell 4 (some 3),.tmp 5]
theorem J0:ct Tryz.prog Tryz.f35 zq:=e (by kernel_rfl)
theorem Ll:cn Tryz.prog Tryz.f35 Ei:=e (by kernel_rfl)
theorem IW:cd Tryz.prog 35:=e (by kernel_rfl)
def Q8:=[o 4 (.mv (.c (.nils 1))),bJ 5 0]
def Q9:=[m 12 0,m 13 1,o 14 (.call 83 [.t 12,.t 13]),m 11 14,o 15 (.ext (.t 11) 0),o 16 (.ext (.t 11) 1),m 6 15,m 7 16]
def Ra:=[o 8 (.mv (.c (.nils 1)))]
def Rb:=[m 17 6,o 18 (.len (.t 17)),bJ 19 0]
def Rc:=[lt 20 19 18]
def Re:=[o 21 (.is 1 (.t 17) (.t 19)),l 22 21,m 10 22]
def Rf:=[m 23 10,o 24 (.nilC (.t 23)),f 25 1 1 24,l 26 25,m 27 1,o 28 (.lk (.i .i64) (.bool false) false (.t 26) (.t 27))]
def Rg:=[m 29 8,m 30 10,o 31 (.nilC (.t 30)),f 32 0 0 31,l 33 32,o 34 (.bs 3 1 [.t 33]),o 35 (.dm 3 1 8 (.int .i64 0) (.t 29) (.t 34)),m 8 35]
def Rh:=[ad 36 19 1,m 19 36]
def Ri:=[m 37 8,m 38 7,m 4 37,m 5 38]
def zr:bp:=(s (r Q8) (s (r Q9) (s (r Ra) (s (s (r Rb) (.block 0 (.loop (s (r Rc) (s (.cond (.t 20) .skip (.exit 0)) (s (.block 1 (s (r Re) (s (r Rf) (.cond (.t 28) (r Rg) .skip)))) (r Rh))))))) (s (r Ri) .ret)))))
def Ej:List bK:=[.tmp 4,.tmp 5]
theorem J1:ct Tryz.prog Tryz.f37 zr:=e (by kernel_rfl)
theorem Lm:cn Tryz.prog Tryz.f37 Ej:=e (by kernel_rfl)
theorem IX:cd Tryz.prog 37:=e (by kernel_rfl)
def Rj:=[o 4 (.mv bC)]
def Rk:=[m 6 0,o 7 (.len (.t 6)),m 8 1,o 9 (.len (.t 8)),o 10 (.bin .neq (.t 7) (.t 9))]
def Rl:=[o 4 (.mv bC)]
def Rm:=[m 11 0,o 12 (.len (.t 11)),bJ 13 0]
def Rn:=[lt 14 13 12]
def Ro:=[m 15 13,m 5 15]
def Rp:=[m 16 0,m 17 5,o 18 (.is 1 (.t 16) (.t 17)),l 19 18,m 20 1,m 21 5,o 22 (.is 1 (.t 20) (.t 21)),l 23 22,o 24 (.bin .neq (.t 19) (.t 23))]
def Mu:=some [[],[],[0,1],[2],[],[],[4,5],[6],[3,7]]
def Rq:=[o 4 (.mv bC)]
def Rr:=[ad 25 13 1,m 13 25]
def Rs:=[o 4 (.mv T)]
def zt:bp:=(s (r Rj) (s (s (r Rk) (.cond (.t 10) (s (r Rl) .ret) .skip)) (s (s (r Rm) (.block 0 (.loop (s (r Rn) (s (.cond (.t 14) .skip (.exit 0)) (s (.block 1 (s (r Ro) (s (.cw Mu Rp) (.cond (.t 24) (s (r Rq) .ret) .skip)))) (r Rr))))))) (s (r Rs) .ret))))
def Ek:List bK:=[.tmp 4]
theorem J2:ct Tryz.prog Tryz.f41 zt:=e (by kernel_rfl)
theorem Ln:cn Tryz.prog Tryz.f41 Ek:=e (by kernel_rfl)
theorem IY:cd Tryz.prog 41:=e (by kernel_rfl)
def Rt:=[o 4 (.mv bC)]
def Ru:=[m 6 0,o 7 (.len (.t 6)),m 8 1,o 9 (.len (.t 8)),o 10 (.bin .neq (.t 7) (.t 9))]
def Rv:=[o 4 (.mv bC)]
def Rw:=[m 11 0,o 12 (.len (.t 11)),bJ 13 0]
def Rx:=[lt 14 13 12]
def Ry:=[m 15 13,m 5 15]
def Rz:=[m 16 0,m 17 5,o 18 (.is 4 (.t 16) (.t 17)),L 19 4 18,m 20 1,m 21 5,o 22 (.is 4 (.t 20) (.t 21)),L 23 4 22,o 24 (.eqv (.bg [(.i .i64),(.i .i64),(.i .i64),.b]) true (.t 19) (.t 23))]
def Mv:=some [[],[],[0,1],[2],[],[],[4,5],[6],[3,7]]
def RA:=[o 4 (.mv bC)]
def RB:=[ad 25 13 1,m 13 25]
def RC:=[o 4 (.mv T)]
def zu:bp:=(s (r Rt) (s (s (r Ru) (.cond (.t 10) (s (r Rv) .ret) .skip)) (s (s (r Rw) (.block 0 (.loop (s (r Rx) (s (.cond (.t 14) .skip (.exit 0)) (s (.block 1 (s (r Ry) (s (.cw Mv Rz) (.cond (.t 24) (s (r RA) .ret) .skip)))) (r RB))))))) (s (r RC) .ret))))
def El:List bK:=[.tmp 4]
theorem J3:ct Tryz.prog Tryz.f42 zu:=e (by kernel_rfl)
theorem Lo:cn Tryz.prog Tryz.f42 El:=e (by kernel_rfl)
theorem IZ:cd Tryz.prog 42:=e (by kernel_rfl)
def RD:=[b 1 0,o 2 (.mv (.c (.nils 1))),bJ 3 0]
def RE:=[L 9 3 1,o 10 (.call 69 [.t 9]),m 8 10,o 11 (.ext (.t 8) 0),o 12 (.ext (.t 8) 1),m 4 11,m 5 12]
def RG:=[m 13 5,o 14 (.bin .neq (.t 13) (bf 0))]
def RH:=[m 15 5,o 2 (.mv (.c (.nils 1))),m 3 15]
def RI:=[o 6 (.mv (.c (.nils 1)))]
def RJ:=[m 16 4,o 17 (.nilC (.t 16)),f 18 1 1 17,l 19 18,o 20 (.jl (.t 19))]
def vX:=[o 21 (.gZ (.t 20)),o 22 (.ext (.t 21) 0)]
def RK:=[o 23 (.ent (.t 20)),o 24 (.ext (.t 23) 0),m 7 24]
def RL:=[m 25 6,m 26 7,o 27 (.bs 3 1 [.t 26]),o 28 (.dm 3 1 8 (.int .i64 0) (.t 25) (.t 27)),m 6 28]
def RM:=[m 29 6,o 30 (.call 89 [.t 29])]
def RF:=[m 31 6,m 2 31,bJ 3 0]
def zw:bp:=(s (r RD) (s (r RE) (s (s (r RG) (.cond (.t 14) (s (r RH) .ret) .skip)) (s (r RI) (s (s (r RJ) (.block 0 (.loop (s (r vX) (s (.cond (.t 22) .skip (.exit 0)) (.block 1 (s (r RK) (r RL)))))))) (s (r RM) (s (r RF) .ret)))))))
def Em:List bK:=[.tmp 2,.tmp 3]
theorem J4:ct Tryz.prog Tryz.f44 zw:=e (by kernel_rfl)
theorem Lp:cn Tryz.prog Tryz.f44 Em:=e (by kernel_rfl)
theorem I0:cd Tryz.prog 44:=e (by kernel_rfl)
def RN:=[b 1 0,o 2 (.mv (.c (.nils 1))),bJ 3 0]
def RO:=[L 5 3 1,o 6 (.call 24 [.t 5]),m 4 6]
def RP:=[m 7 4,o 8 (.bin .neq (.t 7) (bf 0))]
def RQ:=[m 9 4,o 2 (.mv (.c (.nils 1))),m 3 9]
def RS:=[L 10 3 1,o 11 (.call 75 [.t 10]),o 12 (.fl 1 1 none (.t 11)),m 2 12,bJ 3 0]
def zx:bp:=(s (r RN) (s (s (r RO) (s (r RP) (.cond (.t 8) (s (r RQ) .ret) .skip))) (s (r RS) .ret)))
def En:List bK:=[.tmp 2,.tmp 3]
theorem J5:ct Tryz.prog Tryz.f45 zx:=e (by kernel_rfl)
theorem Lq:cn Tryz.prog Tryz.f45 En:=e (by kernel_rfl)
theorem I1:cd Tryz.prog 45:=e (by kernel_rfl)
def RT:=[b 1 0,o 2 (.mv (.c (.nils 4))),bJ 3 0]
def RU:=[L 10 3 1,o 11 (.call 69 [.t 10]),m 9 11,o 12 (.ext (.t 9) 0),o 13 (.ext (.t 9) 1),m 4 12,m 5 13]
def RW:=[m 14 5,o 15 (.bin .neq (.t 14) (bf 0))]
def RX:=[m 16 5,o 2 (.mv (.c (.nils 4))),m 3 16]
def RY:=[o 6 (.mv (.c (.nils 4)))]
def RZ:=[m 17 4,o 18 (.call 85 [.t 17]),o 19 (.len (.t 18)),bJ 20 0]
def R0:=[lt 21 20 19]
def R1:=[o 22 (.is 1 (.t 18) (.t 20)),l 23 22,m 8 23]
def R2:=[m 24 6,m 25 4,o 26 (.nilC (.t 25)),f 27 2 2 26,l 28 27,m 29 8,o 30 (.lk (.i .i64) (.nilp) false (.t 28) (.t 29)),o 31 (.nilC (.t 30)),L 32 4 31,o 33 (.bs 48 4 [.t 32]),o 34 (.dm 48 4 32 (.agg [.int .i64 0,.int .i64 0,.int .i64 0,.bool false]) (.t 24) (.t 33)),m 6 34]
def R3:=[ad 35 20 1,m 20 35]
def RV:=[m 36 6,m 2 36,bJ 3 0]
def zy:bp:=(s (r RT) (s (r RU) (s (s (r RW) (.cond (.t 15) (s (r RX) .ret) .skip)) (s (r RY) (s (s (r RZ) (.block 0 (.loop (s (r R0) (s (.cond (.t 21) .skip (.exit 0)) (s (.block 1 (s (r R1) (r R2))) (r R3))))))) (s (r RV) .ret))))))
def Eo:List bK:=[.tmp 2,.tmp 3]
theorem J6:ct Tryz.prog Tryz.f46 zy:=e (by kernel_rfl)
theorem Lr:cn Tryz.prog Tryz.f46 Eo:=e (by kernel_rfl)
theorem I2:cd Tryz.prog 46:=e (by kernel_rfl)
def R4:=[b 1 0,o 2 (.mv (.c (.nils 4))),bJ 3 0]
def R5:=[L 5 3 1,o 6 (.call 24 [.t 5]),m 4 6]
def R6:=[m 7 4,o 8 (.bin .neq (.t 7) (bf 0))]
def R7:=[m 9 4,o 2 (.mv (.c (.nils 4))),m 3 9]
def R8:=[L 10 3 1,o 11 (.call 75 [.t 10]),o 12 (.fl 3 3 none (.t 11)),m 2 12,bJ 3 0]
def zA:bp:=(s (r R4) (s (s (r R5) (s (r R6) (.cond (.t 8) (s (r R7) .ret) .skip))) (s (r R8) .ret)))
def Ep:List bK:=[.tmp 2,.tmp 3]
theorem J7:ct Tryz.prog Tryz.f47 zA:=e (by kernel_rfl)
theorem Ls:cn Tryz.prog Tryz.f47 Ep:=e (by kernel_rfl)
theorem I3:cd Tryz.prog 47:=e (by kernel_rfl)
def R9:=[b 3 0,bJ 6 0,bJ 7 0]
def Sa:=[L 11 3 3,o 12 (.call 69 [.t 11]),m 10 12,o 13 (.ext (.t 10) 0),o 14 (.ext (.t 10) 1),m 8 13,m 9 14]
def Sb:=[m 16 9,o 17 (.bin .neq (.t 16) (bf 0)),m 15 17]
def Sc:=[m 18 9,bJ 6 0,m 7 18]
def Sd:=[m 20 1,o 21 (.call 61 [.t 20]),no 22 21,m 23 22,lb 24 1 23,fn 25 0 0 3 23,fp 26 25 23,on 27 (.bin .eql (.t 24) (.t 26)) 23,or 28 23 27,m 19 28]
def Se:=[bJ 6 0,bJ 7 90]
def Sf:=[m 30 2,o 31 (.call 90 [.t 30]),no 32 31,m 29 32]
def Sg:=[bJ 6 0,bJ 7 94]
def Sh:=[m 33 8,o 34 (.nilC (.t 33)),f 35 4 4 34,l 36 35,m 37 1,m 38 2,o 39 (.bld [.int .i64 0,.int .i64 0] [(0,(.t 37)),(1,(.t 38))]),o 40 (.lk (.bg [(.i .i64),(.i .i64)]) (.agg [.int .i64 0,.int .i64 0,.int .i64 0,.int .i64 0]) false (.t 36) (.t 39)),o 41 (.fl 0 0 none (.t 40)),m 6 41,bJ 7 0]
def zB:bp:=(s (r R9) (s (r Sa) (s (.block 0 (s (r Sb) (.cond (.t 15) (s (r Sc) .ret) (s (r Sd) (.cond (.t 19) (s (r Se) .ret) (s (r Sf) (.cond (.t 29) (s (r Sg) .ret) .skip))))))) (s (r Sh) .ret))))
def Er:List bK:=[.tmp 6,.tmp 7]
theorem J8:ct Tryz.prog Tryz.f48 zB:=e (by kernel_rfl)
theorem Lt:cn Tryz.prog Tryz.f48 Er:=e (by kernel_rfl)
theorem I4:cd Tryz.prog 48:=e (by kernel_rfl)
def Si:=[b 3 0,bJ 6 0,bJ 7 0]
def Sj:=[L 9 3 3,o 10 (.call 24 [.t 9]),m 8 10]
def Sk:=[m 11 8,o 12 (.bin .neq (.t 11) (bf 0))]
def Sl:=[m 13 8,bJ 6 0,m 7 13]
def Sm:=[m 14 1,o 15 (.call 64 [.t 14]),no 16 15,m 17 16,lb 18 1 17,fn 19 0 0 3 17,fp 20 19 17,on 21 (.bin .eql (.t 18) (.t 20)) 17,or 22 17 21]
def Sn:=[bJ 6 0,bJ 7 90]
def Sp:=[m 23 2,o 24 (.call 68 [.t 23,(bf 1),(bf 200)]),no 25 24]
def Sq:=[bJ 6 0,bJ 7 94]
def Sr:=[L 26 3 3,o 27 (.call 75 [.t 26]),m 28 1,m 29 2,o 30 (.call 88 [.t 27,.t 28,.t 29]),m 6 30,bJ 7 0]
def zC:bp:=(s (r Si) (s (s (r Sj) (s (r Sk) (.cond (.t 12) (s (r Sl) .ret) .skip))) (s (s (r Sm) (.cond (.t 22) (s (r Sn) .ret) .skip)) (s (s (r Sp) (.cond (.t 25) (s (r Sq) .ret) .skip)) (s (r Sr) .ret)))))
def Es:List bK:=[.tmp 6,.tmp 7]
theorem J9:ct Tryz.prog Tryz.f49 zC:=e (by kernel_rfl)
theorem Lu:cn Tryz.prog Tryz.f49 Es:=e (by kernel_rfl)
theorem I5:cd Tryz.prog 49:=e (by kernel_rfl)
def St:=[b 2 0,b 3 1,o 4 (.mv (.c (.nils 4))),bJ 5 0]
def Su:=[L 7 3 2,o 8 (.call 23 [.t 7]),m 6 8]
def Sv:=[m 9 6,o 10 (.bin .neq (.t 9) (bf 0))]
def Sw:=[m 11 6,o 4 (.mv (.c (.nils 4))),m 5 11]
def Sx:=[l 12 3,o 13 (.call 71 [.t 12]),no 14 13]
def Sy:=[o 4 (.mv (.c (.nils 4))),bJ 5 1]
def Sz:=[f 15 1 1 2,l 16 15,o 17 (.call 59 [.t 16]),o 18 (.mk 92 [.t 3]),o 19 (.call 91 [.t 17,.t 18]),m 4 19,bJ 5 0]
def zD:bp:=(s (r St) (s (s (r Su) (s (r Sv) (.cond (.t 10) (s (r Sw) .ret) .skip))) (s (s (r Sx) (.cond (.t 14) (s (r Sy) .ret) .skip)) (s (r Sz) .ret))))
def Et:List bK:=[.tmp 4,.tmp 5]
theorem Ka:ct Tryz.prog Tryz.f50 zD:=e (by kernel_rfl)
theorem Lv:cn Tryz.prog Tryz.f50 Et:=e (by kernel_rfl)
theorem I6:cd Tryz.prog 50:=e (by kernel_rfl)
def SA:=[b 2 0,o 4 (.mv (.c (.nils 4))),bJ 5 0]
def SB:=[L 10 3 2,m 11 1,o 12 (.call 74 [.t 10,.t 11]),m 6 12]
def SE:=[m 13 6,o 14 (.bin .neq (.t 13) (bf 0))]
def SF:=[m 15 6,o 4 (.mv (.c (.nils 4))),m 5 15]
def SG:=[o 7 (.mv (.c (.nils 4)))]
def SH:=[f 16 1 1 2,l 17 16,o 18 (.len (.t 17)),bJ 19 0]
def SI:=[lt 20 19 18]
def SJ:=[o 21 (.is 4 (.t 17) (.t 19)),L 22 4 21,o 9 (.alloc (.agg [.int .i64 0,.int .i64 0,.int .i64 0,.int .i64 0])),p (.bg (some 4) (.t 9) (.t 22))]
def SK:=[f 23 1 1 9,l 24 23,m 25 1,o 26 (.bin .eql (.t 24) (.t 25))]
def SL:=[m 27 7,L 28 4 9,o 29 (.bs 37 4 [.t 28]),o 30 (.dm 37 4 32 (.agg [.int .i64 0,.int .i64 0,.int .i64 0,.int .i64 0]) (.t 27) (.t 29)),m 7 30]
def SC:=[ad 31 19 1,m 19 31]
def SD:=[m 32 7,m 4 32,bJ 5 0]
def zE:bp:=(s (r SA) (s (s (r SB) (s (r SE) (.cond (.t 14) (s (r SF) .ret) .skip))) (s (r SG) (s (s (r SH) (.block 0 (.loop (s (r SI) (s (.cond (.t 20) .skip (.exit 0)) (s (.block 1 (s (r SJ) (s (r SK) (.cond (.t 26) (r SL) .skip)))) (r SC))))))) (s (r SD) .ret)))))
def Eu:List bK:=[.tmp 4,.tmp 5]
theorem Kb:ct Tryz.prog Tryz.f51 zE:=e (by kernel_rfl)
theorem Lw:cn Tryz.prog Tryz.f51 Eu:=e (by kernel_rfl)
theorem I7:cd Tryz.prog 51:=e (by kernel_rfl)
def SM:=[o 4 (.mv bC)]
def SN:=[m 6 0,o 7 (.len (.t 6)),m 8 1,o 9 (.len (.t 8)),o 10 (.bin .neq (.t 7) (.t 9))]
def SO:=[o 4 (.mv bC)]
def SP:=[m 11 0,o 12 (.len (.t 11)),bJ 13 0]
def SQ:=[lt 14 13 12]
def SR:=[m 15 13,m 5 15]
def SS:=[m 16 0,m 17 5,o 18 (.is 4 (.t 16) (.t 17)),L 19 4 18,m 20 1,m 21 5,o 22 (.is 4 (.t 20) (.t 21)),L 23 4 22,o 24 (.eqv (.bg [(.i .i64),(.i .i64),(.i .i64),(.i .i64)]) true (.t 19) (.t 23))]
def Mw:=some [[],[],[0,1],[2],[],[],[4,5],[6],[3,7]]
def SU:=[o 4 (.mv bC)]
def SV:=[ad 25 13 1,m 13 25]
def SW:=[o 4 (.mv T)]
def zF:bp:=(s (r SM) (s (s (r SN) (.cond (.t 10) (s (r SO) .ret) .skip)) (s (s (r SP) (.block 0 (.loop (s (r SQ) (s (.cond (.t 14) .skip (.exit 0)) (s (.block 1 (s (r SR) (s (.cw Mw SS) (.cond (.t 24) (s (r SU) .ret) .skip)))) (r SV))))))) (s (r SW) .ret))))
def Ev:List bK:=[.tmp 4]
theorem Kc:ct Tryz.prog Tryz.f52 zF:=e (by kernel_rfl)
theorem Lx:cn Tryz.prog Tryz.f52 Ev:=e (by kernel_rfl)
theorem I8:cd Tryz.prog 52:=e (by kernel_rfl)
def SX:=[b 1 0,o 2 (.mv (.c (.bQ ⟨#[]⟩))),bJ 3 0]
def SY:=[L 8 3 1,o 9 (.call 23 [.t 8]),m 4 9]
def S2:=[m 10 4,o 11 (.bin .neq (.t 10) (bf 0))]
def S3:=[m 12 4,o 2 (.mv (.c (.bQ ⟨#[]⟩))),m 3 12]
def S4:=[f 13 0 0 1,l 14 13,f 15 2 2 1,l 16 15,o 17 (.bs 3 1 [.t 14,.t 16]),o 18 (.call 93 [(.c (.bQ ⟨#[112,111,117,110,100]⟩)),.t 17]),m 5 18]
def S5:=[f 19 1 1 1,l 20 19,o 21 (.len (.t 20)),bJ 22 0]
def S6:=[lt 23 22 21]
def S7:=[o 24 (.is 4 (.t 20) (.t 22)),L 25 4 24,o 7 (.alloc (.agg [.int .i64 0,.int .i64 0,.int .i64 0,.int .i64 0])),p (.bg (some 4) (.t 7) (.t 25))]
def S8:=[f 26 0 0 7,l 27 26,o 28 (.bin .leq (.t 27) (bf 2))]
def S9:=[m 29 5,o 30 (.call 94 []),f 31 0 0 7,l 32 31,o 33 (.is 1 (.t 30) (.t 32)),l 34 33,f 35 1 1 7,l 36 35,o 37 (.bs 3 1 [.t 36]),o 38 (.call 93 [.t 34,.t 37]),o 39 (.bin .add (.t 29) (.t 38)),m 5 39]
def My:=some [[],[],[],[2],[1,3],[4],[],[6],[7],[5,8,1],[0,9],[10,9,0,1,2,3,4,5,6,7,8,9,10]]
def SZ:=[m 40 5,o 41 (.call 94 []),f 42 0 0 7,l 43 42,o 44 (.is 1 (.t 41) (.t 43)),l 45 44,f 46 1 1 7,l 47 46,f 48 2 2 7,l 49 48,f 50 3 3 7,l 51 50,o 52 (.bs 3 1 [.t 47,.t 49,.t 51]),o 53 (.call 93 [.t 45,.t 52]),o 54 (.bin .add (.t 40) (.t 53)),m 5 54]
def Mx:=some [[],[],[],[2],[1,3],[4],[],[6],[],[8],[],[10],[7,9,11],[5,12,1],[0,13],[14,13,0,1,2,3,4,5,6,7,8,9,10,11,12,13,14]]
def S0:=[ad 55 22 1,m 22 55]
def S1:=[m 56 5,m 2 56,bJ 3 0]
def zG:bp:=(s (r SX) (s (s (r SY) (s (r S2) (.cond (.t 11) (s (r S3) .ret) .skip))) (s (r S4) (s (s (r S5) (.block 0 (.loop (s (r S6) (s (.cond (.t 23) .skip (.exit 0)) (s (.block 1 (s (r S7) (s (r S8) (.cond (.t 28) (.cw My S9) (.cw Mx SZ))))) (r S0))))))) (s (r S1) .ret)))))
def Ew:List bK:=[.tmp 2,.tmp 3]
theorem Kd:ct Tryz.prog Tryz.f53 zG:=e (by kernel_rfl)
theorem Ly:cn Tryz.prog Tryz.f53 Ew:=e (by kernel_rfl)
theorem I9:cd Tryz.prog 53:=e (by kernel_rfl)
def Ta:=[b 1 0,o 2 (.alloc (.agg [.int .i64 0,.nils 4,.int .i64 0]))]
def Tb:=[f 3 1 1 1,l 4 3,o 5 (.call 59 [.t 4]),f 6 1 1 1,p (.bg none (.t 6) (.t 5))]
def Tc:=[L 7 3 1,p (.bg (some 3) (.t 2) (.t 7))]
def u7:bp:=(s (r Ta) (s (r Tb) (s (r Tc) .ret)))
def xm:List bK:=[.cell 2 (some 3)]
theorem AL:ct Tryz.prog Tryz.f57 u7:=e (by kernel_rfl)
theorem AT:cn Tryz.prog Tryz.f57 xm:=e (by kernel_rfl)
theorem Ar:cd Tryz.prog 57:=e (by kernel_rfl)
def vY:=[o 2 (.mv (.c (.nils 4)))]
def qA:=[m 3 0,o 4 (.nilS false (.t 3))]
def vZ:=[o 2 (.mv (.c (.nils 4)))]
def qB:=[o 5 (.bs0 4),m 6 0,o 7 (.dm 37 4 32 (.agg [.int .i64 0,.int .i64 0,.int .i64 0,.int .i64 0]) (.t 5) (.t 6)),m 2 7]
def u9:bp:=(s (r vY) (s (s (r qA) (.cond (.t 4) (s (r vZ) .ret) .skip)) (s (r qB) .ret)))
def xn:List bK:=[.tmp 2]
theorem AM:ct Tryz.prog Tryz.f59 u9:=e (by kernel_rfl)
theorem AU:cn Tryz.prog Tryz.f59 xn:=e (by kernel_rfl)
theorem As:cd Tryz.prog 59:=e (by kernel_rfl)
def Td:=[o 2 (.mv bC)]
def Te:=[m 3 0,o 4 (.call 105 [.t 3,(bf 0),(bf 5)]),m 2 4]
def zH:bp:=(s (r Td) (s (r Te) .ret))
def Ey:List bK:=[.tmp 2]
theorem Ke:ct Tryz.prog Tryz.f61 zH:=e (by kernel_rfl)
theorem Lz:cn Tryz.prog Tryz.f61 Ey:=e (by kernel_rfl)
theorem Ja:cd Tryz.prog 61:=e (by kernel_rfl)
def Tf:=[o 4 (.mv (.c (.nilp))),o 5 (.mv bC)]
def Tg:=[m 9 0,o 10 (.call 106 [.t 9]),m 6 10]
def Th:=[m 11 1,o 12 (.len (.t 11)),bJ 13 0]
def Ti:=[lt 14 13 12]
def Tj:=[o 15 (.is 4 (.t 11) (.t 13)),L 16 4 15,o 8 (.alloc (.agg [.int .i64 0,.int .i64 0,.int .i64 0,.int .i64 0])),p (.bg (some 4) (.t 8) (.t 16))]
def Tk:=[m 17 6,L 18 4 8,o 19 (.call 81 [.t 17,.t 18]),no 20 19]
def Tl:=[o 4 (.mv (.c (.nilp))),o 5 (.mv bC)]
def Tm:=[ad 21 13 1,m 13 21]
def Tn:=[m 22 6,m 4 22,o 5 (.mv T)]
def vb:bp:=(s (r Tf) (s (r Tg) (s (s (r Th) (.block 0 (.loop (s (r Ti) (s (.cond (.t 14) .skip (.exit 0)) (s (.block 1 (s (r Tj) (s (r Tk) (.cond (.t 20) (s (r Tl) .ret) .skip)))) (r Tm))))))) (s (r Tn) .ret))))
def xp:List bK:=[.tmp 4,.tmp 5]
theorem AN:ct Tryz.prog Tryz.f62 vb:=e (by kernel_rfl)
theorem AV:cn Tryz.prog Tryz.f62 xp:=e (by kernel_rfl)
theorem Au:cd Tryz.prog 62:=e (by kernel_rfl)
def Tp:=[b 2 0,b 3 1,o 4 (.mv (.c (.dy)))]
def Tq:=[o 5 (.mk 107 [.t 2,.t 3]),m 4 5]
def zI:bp:=(s (r Tp) (s (r Tq) .ret))
def Ez:List bK:=[.tmp 4]
theorem Kf:ct Tryz.prog Tryz.f63 zI:=e (by kernel_rfl)
theorem LA:cn Tryz.prog Tryz.f63 Ez:=e (by kernel_rfl)
theorem Jb:cd Tryz.prog 63:=e (by kernel_rfl)
def Tr:=[o 2 (.mv bC)]
def Ts:=[m 3 0,o 4 (.call 68 [.t 3,(bf 0),(bf 5)]),m 2 4]
def zJ:bp:=(s (r Tr) (s (r Ts) .ret))
def EA:List bK:=[.tmp 2]
theorem Kg:ct Tryz.prog Tryz.f64 zJ:=e (by kernel_rfl)
theorem LB:cn Tryz.prog Tryz.f64 EA:=e (by kernel_rfl)
theorem Jc:cd Tryz.prog 64:=e (by kernel_rfl)
def Tt:=[b 2 0,o 4 (.alloc (.agg [.int .i64 0,.nils 1,.int .i64 0,.nils 4,.nils 4])),o 5 (.mv bC)]
def Tu:=[f 10 0 0 2,l 11 10,o 12 (.bld [.int .i64 0,.nils 1,.int .i64 0,.nils 4,.nils 4] [(0,(.t 11))]),o 6 (.alloc (.agg [.int .i64 0,.nils 1,.int .i64 0,.nils 4,.nils 4])),p (.bg (some 5) (.t 6) (.t 12))]
def Tx:=[bJ 7 0]
def Ty:=[m 13 7,m 14 1,lt 15 13 14]
def Tz:=[f 18 1 1 2,l 19 18,m 20 7,o 21 (.is 4 (.t 19) (.t 20)),L 22 4 21,o 23 (.call 22 [.t 22]),o 24 (.bin .neq (.t 23) (bf 0))]
def TA:=[L 25 5 6,p (.bg (some 5) (.t 4) (.t 25)),o 5 (.mv bC)]
def TB:=[L 27 5 6,f 28 1 1 2,l 29 28,m 30 7,o 31 (.is 4 (.t 29) (.t 30)),L 32 4 31,o 33 (.call 76 [.t 27,.t 32]),m 26 33,o 34 (.ext (.t 26) 0),o 35 (.ext (.t 26) 1),o 8 (.alloc (.agg [.int .i64 0,.nils 1,.int .i64 0,.nils 4,.nils 4])),p (.bg (some 5) (.t 8) (.t 34)),m 9 35]
def Mz:=some [[],[],[1],[],[2,3],[4],[0,5],[6],[7],[7],[],[10,8,6,0,1,2,3,4,5,6,7,8,10],[9,11,0,1,2,3,4,5,6,7,8,9,10,11]]
def TC:=[m 36 9,no 37 36]
def TD:=[L 38 5 6,p (.bg (some 5) (.t 4) (.t 38)),o 5 (.mv bC)]
def TE:=[L 39 5 8,p (.bg (some 5) (.t 6) (.t 39))]
def Tv:=[m 16 7,ad 17 16 1,m 7 17]
def Tw:=[L 40 5 6,p (.bg (some 5) (.t 4) (.t 40)),o 5 (.mv T)]
def zK:bp:=(s (r Tt) (s (r Tu) (s (s (r Tx) (.block 0 (.loop (s (s (r Ty) (.cond (.t 15) .skip (.exit 0))) (s (.block 1 (s (s (r Tz) (.cond (.t 24) (s (r TA) .ret) .skip)) (s (.cw Mz TB) (s (s (r TC) (.cond (.t 37) (s (r TD) .ret) .skip)) (r TE))))) (r Tv)))))) (s (r Tw) .ret))))
def EB:List bK:=[.cell 4 (some 5),.tmp 5]
theorem Kh:ct Tryz.prog Tryz.f65 zK:=e (by kernel_rfl)
theorem LC:cn Tryz.prog Tryz.f65 EB:=e (by kernel_rfl)
theorem Jd:cd Tryz.prog 65:=e (by kernel_rfl)
def TF:=[b 1 0,o 2 (.mv bC)]
def TG:=[f 3 0 0 1,l 4 3]
def TK:=[o 6 (.bin .eql (.t 4) (bf 1)),m 5 6]
def TL:=[o 7 (.bin .eql (.t 4) (bf 2)),m 5 7]
def TM:=[f 8 1 1 1,l 9 8,o 10 (.call 71 [.t 9]),m 11 10,dV 12 2 2 1 11,dN 13 12 11,bV 14 (.bin .eql (.t 13) (bf 0)) 11,and 15 11 14,m 16 15,dV 17 3 3 1 16,dN 18 17 16,bV 19 (.bin .eql (.t 18) (bf 0)) 16,and 20 16 19,m 2 20]
def TN:=[o 22 (.bin .eql (.t 4) (bf 3)),m 21 22]
def TO:=[o 23 (.bin .eql (.t 4) (bf 4)),m 21 23]
def TP:=[o 24 (.bin .eql (.t 4) (bf 5)),m 21 24]
def TQ:=[o 25 (.bin .eql (.t 4) (bf 6)),m 21 25]
def TR:=[o 26 (.bin .eql (.t 4) (bf 7)),m 21 26]
def TH:=[o 27 (.bin .eql (.t 4) (bf 8)),m 21 27]
def TI:=[f 28 1 1 1,l 29 28,o 30 (.call 71 [.t 29]),m 31 30,dV 32 2 2 1 31,dN 33 32 31,bV 34 (.call 61 [.t 33]) 31,and 35 31 34,m 36 35,dV 37 3 3 1 36,dN 38 37 36,bV 39 (.call 90 [.t 38]) 36,and 40 36 39,m 2 40]
def TJ:=[o 2 (.mv bC)]
def zL:bp:=(s (r TF) (s (s (r TG) (.block 0 (s (s (r TK) (.cond (.t 5) .skip (r TL))) (.cond (.t 5) (s (r TM) .ret) (s (s (r TN) (.cond (.t 21) .skip (s (r TO) (.cond (.t 21) .skip (s (r TP) (.cond (.t 21) .skip (s (r TQ) (.cond (.t 21) .skip (s (r TR) (.cond (.t 21) .skip (r TH))))))))))) (.cond (.t 21) (s (r TI) .ret) .skip)))))) (s (r TJ) .ret)))
def EC:List bK:=[.tmp 2]
theorem Ki:ct Tryz.prog Tryz.f66 zL:=e (by kernel_rfl)
theorem LD:cn Tryz.prog Tryz.f66 EC:=e (by kernel_rfl)
theorem Je:cd Tryz.prog 66:=e (by kernel_rfl)
def TS:=[o 2 (.mv bC)]
def TT:=[m 3 0,o 4 (.call 68 [.t 3,(bf 1),(bf 9999)]),m 2 4]
def zM:bp:=(s (r TS) (s (r TT) .ret))
def ED:List bK:=[.tmp 2]
theorem Kj:ct Tryz.prog Tryz.f67 zM:=e (by kernel_rfl)
theorem LF:cn Tryz.prog Tryz.f67 ED:=e (by kernel_rfl)
theorem Jf:cd Tryz.prog 67:=e (by kernel_rfl)
def TU:=[o 6 (.mv bC)]
def TV:=[m 7 1,m 8 0,o 9 (.bin .leq (.t 7) (.t 8)),m 10 9,cN 11 0 10,cN 12 2 10,bV 13 (.bin .leq (.t 11) (.t 12)) 10,and 14 10 13,m 6 14]
def zN:bp:=(s (r TU) (s (r TV) .ret))
def EE:List bK:=[.tmp 6]
theorem Kk:ct Tryz.prog Tryz.f68 zN:=e (by kernel_rfl)
theorem LG:cn Tryz.prog Tryz.f68 EE:=e (by kernel_rfl)
theorem Jg:cd Tryz.prog 68:=e (by kernel_rfl)
def TW:=[b 1 0,o 2 (.mv (.c (.nilp))),bJ 3 0]
def TX:=[f 6 0 0 1,l 7 6,o 8 (.call 61 [.t 7]),no 9 8,m 10 9,fn 11 1 1 1 10,fp 12 11 10,on 13 (.len (.t 12)) 10,on 14 (.bin .gtr (.t 13) (bf 200)) 10,or 15 10 14,m 16 15,fn 17 2 2 1 16,fp 18 17 16,fn 19 1 1 1 16,fp 20 19 16,on 21 (.len (.t 20)) 16,on 22 (.call 105 [.t 18,(bf 0),.t 21]) 16,on 23 (.un .not (.t 22)) 16,or 24 16 23]
def TY:=[o 2 (.mv (.c (.nilp))),bJ 3 91]
def TZ:=[f 26 0 0 1,l 27 26,f 28 1 1 1,l 29 28,o 30 (.call 62 [.t 27,.t 29]),m 25 30,o 31 (.ext (.t 25) 0),o 32 (.ext (.t 25) 1),m 4 31,m 5 32]
def T0:=[m 33 5,no 34 33]
def T1:=[o 2 (.mv (.c (.nilp))),bJ 3 91]
def T2:=[m 35 4,m 2 35,bJ 3 0]
def vc:bp:=(s (r TW) (s (s (r TX) (.cond (.t 24) (s (r TY) .ret) .skip)) (s (r TZ) (s (s (r T0) (.cond (.t 34) (s (r T1) .ret) .skip)) (s (r T2) .ret)))))
def xq:List bK:=[.tmp 2,.tmp 3]
theorem AO:ct Tryz.prog Tryz.f69 vc:=e (by kernel_rfl)
theorem AW:cn Tryz.prog Tryz.f69 xq:=e (by kernel_rfl)
theorem Av:cd Tryz.prog 69:=e (by kernel_rfl)
def T3:=[b 1 0,o 2 (.mv bC)]
def T4:=[f 3 0 0 1,l 4 3,o 5 (.call 105 [.t 4,(bf 1),(bf 4)]),m 6 5,dV 7 1 1 1 6,dN 8 7 6,bV 9 (.call 61 [.t 8]) 6,and 10 6 9,m 11 10,dV 12 2 2 1 11,dN 13 12 11,bV 14 (.call 61 [.t 13]) 11,and 15 11 14,m 16 15,dV 17 1 1 1 16,dN 18 17 16,dV 19 2 2 1 16,dN 20 19 16,bV 21 (.bin .neq (.t 18) (.t 20)) 16,and 22 16 21,m 23 22,dV 24 3 3 1 23,dN 25 24 23,bV 26 (.call 71 [.t 25]) 23,and 27 23 26,m 28 27,dV 29 4 4 1 28,dN 30 29 28,bV 31 (.call 90 [.t 30]) 28,and 32 28 31,m 2 32]
def zO:bp:=(s (r T3) (s (r T4) .ret))
def EF:List bK:=[.tmp 2]
theorem Kl:ct Tryz.prog Tryz.f70 zO:=e (by kernel_rfl)
theorem LH:cn Tryz.prog Tryz.f70 EF:=e (by kernel_rfl)
theorem Jh:cd Tryz.prog 70:=e (by kernel_rfl)
def T5:=[o 2 (.mv bC)]
def T6:=[m 3 0,o 4 (.call 105 [.t 3,(bf 1),(bf 9999)]),m 2 4]
def zP:bp:=(s (r T5) (s (r T6) .ret))
def EG:List bK:=[.tmp 2]
theorem Km:ct Tryz.prog Tryz.f71 zP:=e (by kernel_rfl)
theorem LI:cn Tryz.prog Tryz.f71 EG:=e (by kernel_rfl)
theorem Ji:cd Tryz.prog 71:=e (by kernel_rfl)
def BH:=[o 4 (.mv bC)]
def BI:=[m 7 0,o 8 (.nilC (.t 7)),f 9 2 2 8,l 10 9,o 11 (.jl (.t 10))]
def v7:=[o 12 (.gZ (.t 11)),o 13 (.ext (.t 12) 0)]
def T7:=[o 14 (.ent (.t 11)),o 15 (.ext (.t 14) 1),m 6 15]
def T8:=[m 16 6,o 17 (.nilC (.t 16)),f 18 2 2 17,l 19 18,m 20 1,o 21 (.bin .eql (.t 19) (.t 20))]
def T9:=[o 4 (.mv T)]
def Ua:=[o 4 (.mv bC)]
def zQ:bp:=(s (r BH) (s (s (r BI) (.block 0 (.loop (s (r v7) (s (.cond (.t 13) .skip (.exit 0)) (.block 1 (s (r T7) (s (r T8) (.cond (.t 21) (s (r T9) .ret) .skip))))))))) (s (r Ua) .ret)))
def EH:List bK:=[.tmp 4]
theorem Kn:ct Tryz.prog Tryz.f72 zQ:=e (by kernel_rfl)
theorem LJ:cn Tryz.prog Tryz.f72 EH:=e (by kernel_rfl)
theorem Jj:cd Tryz.prog 72:=e (by kernel_rfl)
def Ub:=[b 2 0,b 3 1,o 4 (.alloc (.agg [.int .i64 0,.nils 4,.int .i64 0])),bJ 5 0]
def Uc:=[f 6 1 1 2,l 7 6,o 8 (.len (.t 7)),o 9 (.bin .eql (.t 8) (bf 200))]
def Ud:=[o 10 (.bld [.int .i64 0,.nils 4,.int .i64 0] []),p (.bg (some 3) (.t 4) (.t 10)),bJ 5 2]
def Ue:=[L 11 3 2,o 12 (.call 57 [.t 11]),p (.bg (some 3) (.t 2) (.t 12))]
def Uf:=[f 13 1 1 2,l 14 13,L 15 4 3,o 16 (.bs 37 4 [.t 15]),o 17 (.dm 37 4 32 (.agg [.int .i64 0,.int .i64 0,.int .i64 0,.int .i64 0]) (.t 14) (.t 16)),f 18 1 1 2,p (.bg none (.t 18) (.t 17))]
def Ug:=[L 19 3 2,p (.bg (some 3) (.t 4) (.t 19)),bJ 5 0]
def zR:bp:=(s (r Ub) (s (s (r Uc) (.cond (.t 9) (s (r Ud) .ret) .skip)) (s (r Ue) (s (r Uf) (s (r Ug) .ret)))))
def EI:List bK:=[.cell 4 (some 3),.tmp 5]
theorem Ko:ct Tryz.prog Tryz.f73 zR:=e (by kernel_rfl)
theorem LK:cn Tryz.prog Tryz.f73 EI:=e (by kernel_rfl)
theorem Jk:cd Tryz.prog 73:=e (by kernel_rfl)
def Uh:=[b 2 0,bJ 4 0]
def Ui:=[L 6 3 2,o 7 (.call 24 [.t 6]),m 5 7]
def Uj:=[m 8 5,o 9 (.bin .neq (.t 8) (bf 0))]
def Uk:=[m 10 5,m 4 10]
def Ul:=[m 11 1,o 12 (.call 67 [.t 11]),no 13 12]
def Um:=[bJ 4 1]
def Un:=[bJ 4 0]
def zS:bp:=(s (r Uh) (s (s (r Ui) (s (r Uj) (.cond (.t 9) (s (r Uk) .ret) .skip))) (s (s (r Ul) (.cond (.t 13) (s (r Um) .ret) .skip)) (s (r Un) .ret))))
def EJ:List bK:=[.tmp 4]
theorem Kp:ct Tryz.prog Tryz.f74 zS:=e (by kernel_rfl)
theorem LL:cn Tryz.prog Tryz.f74 EJ:=e (by kernel_rfl)
theorem Jl:cd Tryz.prog 74:=e (by kernel_rfl)
def Uo:=[b 1 0,o 2 (.alloc (.agg [.int .i64 0,.nils 1,.int .i64 0,.nils 4,.nils 4]))]
def Up:=[L 6 3 1,f 7 1 1 1,l 8 7,o 9 (.len (.t 8)),o 10 (.call 65 [.t 6,.t 9]),m 5 10,o 11 (.ext (.t 5) 0),o 12 (.ext (.t 5) 1),o 3 (.alloc (.agg [.int .i64 0,.nils 1,.int .i64 0,.nils 4,.nils 4])),p (.bg (some 5) (.t 3) (.t 11)),m 4 12]
def Uq:=[L 13 5 3,p (.bg (some 5) (.t 2) (.t 13))]
def zT:bp:=(s (r Uo) (s (r Up) (s (r Uq) .ret)))
def EK:List bK:=[.cell 2 (some 5)]
theorem Kq:ct Tryz.prog Tryz.f75 zT:=e (by kernel_rfl)
theorem LM:cn Tryz.prog Tryz.f75 EK:=e (by kernel_rfl)
theorem Jm:cd Tryz.prog 75:=e (by kernel_rfl)
def BJ:=[b 2 0,b 3 1,o 4 (.alloc (.agg [.int .i64 0,.nils 1,.int .i64 0,.nils 4,.nils 4])),o 5 (.mv bC)]
def BK:=[f 9 1 1 2,l 10 9,f 11 1 1 3,l 12 11,o 13 (.call 78 [.t 10,.t 12]),m 6 13]
def BL:=[L 14 5 2,f 15 3 3 3,l 16 15,o 17 (.call 79 [.t 14,.t 16]),m 7 17]
def BM:=[m 18 7,o 19 (.bin .geq (.t 18) (bf 0)),m 20 19,dV 21 3 3 2 20,dN 22 21 20,cN 23 7 20,bV 24 (.max2 (.t 23) (bf 0)) 20,bV 25 (.is 4 (.t 22) (.t 24)) 20,dV 26 1 1 25 20,dN 27 26 20,dV 28 2 2 3 20,dN 29 28 20,bV 30 (.bin .eql (.t 27) (.t 29)) 20,and 31 20 30,m 32 31,dV 33 3 3 2 32,dN 34 33 32,cN 35 7 32,bV 36 (.max2 (.t 35) (bf 0)) 32,bV 37 (.is 4 (.t 34) (.t 36)) 32,dV 38 2 2 37 32,dN 39 38 32,dV 40 1 1 3 32,dN 41 40 32,bV 42 (.bin .eql (.t 39) (.t 41)) 32,and 43 32 42,m 8 43]
def AY:=some [[],[0],[1],[2],[3,2],[2],[5,2],[4,6,2],[7,2],[8,2],[2],[10,2],[9,11,2],[2,12],[13,2],[14],[15,14],[14],[17,14],[16,18,14],[19,14],[20,14],[14],[22,14],[21,23,14],[14,24],[25,14,0,1,2,3,4,5,6,7,8,9,10,11,12,13,14,15,16,17,18,19,20,21,22,23,24,25]]
def UU:=[f 44 0 0 3,l 45 44]
def UZ:=[o 47 (.bin .eql (.t 45) (bf 1)),m 46 47]
def U0:=[m 48 6,m 49 48,on 50 (.ld (some 5) (.t 2)) 49,fn 51 1 1 3 49,fp 52 51 49,on 53 (.call 108 [.t 50,.t 52]) 49,or 54 49 53]
def U1:=[L 55 5 2,p (.bg (some 5) (.t 4) (.t 55)),o 5 (.mv bC)]
def U2:=[f 56 1 1 2,l 57 56,f 58 1 1 3,l 59 58,o 60 (.call 109 [.t 57,.t 59]),f 61 1 1 2,p (.bg none (.t 61) (.t 60))]
def U3:=[L 62 5 2,p (.bg (some 5) (.t 4) (.t 62)),o 5 (.mv T)]
def Ur:=[o 64 (.bin .eql (.t 45) (bf 2)),m 63 64]
def Us:=[f 65 1 1 2,l 66 65,f 67 1 1 3,l 68 67,o 69 (.call 110 [.t 66,.t 68]),f 70 1 1 2,p (.bg none (.t 70) (.t 69))]
def Ut:=[L 71 5 2,m 72 6,p (.bg (some 5) (.t 4) (.t 71)),m 5 72]
def Uu:=[o 74 (.bin .eql (.t 45) (bf 3)),m 73 74]
def Uv:=[m 75 6,no 76 75,m 77 76,fn 78 2 2 3 77,fp 79 78 77,fn 80 0 0 2 77,fp 81 80 77,on 82 (.bin .eql (.t 79) (.t 81)) 77,or 83 77 82,m 84 83,fn 85 3 3 3 84,fp 86 85 84,fn 87 2 2 2 84,fp 88 87 84,on 89 (.bin .add (.t 88) (bf 1)) 84,on 90 (.bin .neq (.t 86) (.t 89)) 84,or 91 84 90]
def Uw:=[L 92 5 2,p (.bg (some 5) (.t 4) (.t 92)),o 5 (.mv bC)]
def Ux:=[f 93 1 1 2,l 94 93,f 95 1 1 3,l 96 95,o 97 (.call 110 [.t 94,.t 96]),f 98 1 1 2,p (.bg none (.t 98) (.t 97))]
def Uy:=[f 99 3 3 3,l 100 99,f 101 2 2 2,p (.bg none (.t 101) (.t 100))]
def v8:=[o 102 (.bs0 4),f 103 3 3 2,l 104 103,o 105 (.dm 48 4 32 (.agg [.int .i64 0,.int .i64 0,.int .i64 0,.bool false]) (.t 102) (.t 104)),f 106 3 3 3,l 107 106,f 108 2 2 3,l 109 108,f 110 1 1 3,l 111 110,o 112 (.bld [.int .i64 0,.int .i64 0,.int .i64 0,.bool false] [(0,(.t 107)),(1,(.t 109)),(2,(.t 111))]),o 113 (.bs 48 4 [.t 112]),o 114 (.dm 48 4 32 (.agg [.int .i64 0,.int .i64 0,.int .i64 0,.bool false]) (.t 105) (.t 113)),f 115 3 3 2,p (.bg none (.t 115) (.t 114))]
def MA:=some [[],[],[1],[0,2],[],[4],[],[6],[],[8],[5,7,9],[10],[3,11,3],[0,1,2,3,4,5,6,7,8,9,10,11,12],[13,12,12,0,1,2,3,4,5,6,7,8,9,10,11,12]] -- DRAW BAD
def Uz:=[L 116 5 2,p (.bg (some 5) (.t 4) (.t 116)),o 5 (.mv T)]
def UA:=[o 118 (.bin .eql (.t 45) (bf 4)),m 117 118]
def UB:=[m 119 8,no 120 119,m 121 120,fn 122 3 3 2 121,fp 123 122 121,lb 124 7 121,on 125 (.is 4 (.t 123) (.t 124)) 121,fn 126 3 3 125 121,fp 127 126 121,or 128 121 127]
def UC:=[L 129 5 2,p (.bg (some 5) (.t 4) (.t 129)),o 5 (.mv bC)]
def UD:=[o 130 (.bs0 4),f 131 3 3 2,l 132 131,o 133 (.dm 48 4 32 (.agg [.int .i64 0,.int .i64 0,.int .i64 0,.bool false]) (.t 130) (.t 132)),f 134 3 3 2,p (.bg none (.t 134) (.t 133))]
def UE:=[f 135 3 3 2,l 136 135,m 137 7,o 138 (.is 4 (.t 136) (.t 137)),f 139 3 3 138,p (.bg none (.t 139) T)]
def UF:=[L 140 5 2,p (.bg (some 5) (.t 4) (.t 140)),o 5 (.mv T)]
def UG:=[o 142 (.bin .eql (.t 45) (bf 5)),m 141 142]
def UH:=[m 143 8,no 144 143]
def UI:=[L 145 5 2,p (.bg (some 5) (.t 4) (.t 145)),o 5 (.mv bC)]
def UJ:=[L 146 5 2,m 147 7,o 148 (.call 111 [.t 146,.t 147]),p (.bg (some 5) (.t 4) (.t 148)),o 5 (.mv T)]
def UK:=[o 150 (.bin .eql (.t 45) (bf 6)),m 149 150]
def UL:=[m 151 8,no 152 151,m 153 152,fn 154 3 3 2 153,fp 155 154 153,lb 156 7 153,on 157 (.is 4 (.t 155) (.t 156)) 153,fn 158 3 3 157 153,fp 159 158 153,on 160 (.un .not (.t 159)) 153,or 161 153 160]
def UM:=[L 162 5 2,p (.bg (some 5) (.t 4) (.t 162)),o 5 (.mv bC)]
def UN:=[L 163 5 2,m 164 7,o 165 (.call 111 [.t 163,.t 164]),p (.bg (some 5) (.t 2) (.t 165))]
def UO:=[f 166 1 1 2,l 167 166,f 168 1 1 3,l 169 168,o 170 (.call 109 [.t 167,.t 169]),f 171 1 1 2,p (.bg none (.t 171) (.t 170))]
def UP:=[L 172 5 2,p (.bg (some 5) (.t 4) (.t 172)),o 5 (.mv T)]
def UQ:=[f 173 2 2 3,l 174 173,f 175 0 0 2,l 176 175,o 177 (.bin .eql (.t 174) (.t 176)),m 178 177,on 179 (.ld (some 5) (.t 2)) 178,fn 180 2 2 3 178,fp 181 180 178,fn 182 3 3 3 178,fp 183 182 178,on 184 (.call 88 [.t 179,.t 181,.t 183]) 178,on 185 (.bin .neq (.t 184) (bf 0)) 178,or 186 178 185]
def UR:=[L 187 5 2,p (.bg (some 5) (.t 4) (.t 187)),o 5 (.mv bC)]
def US:=[f 188 0 0 3,l 189 188,o 190 (.bin .eql (.t 189) (bf 7))]
def UT:=[m 191 6,m 192 191,on 193 (.ld (some 5) (.t 2)) 192,fn 194 1 1 3 192,fp 195 194 192,on 196 (.call 108 [.t 193,.t 195]) 192,or 197 192 196]
def UW:=[L 198 5 2,p (.bg (some 5) (.t 4) (.t 198)),o 5 (.mv bC)]
def UX:=[f 199 1 1 2,l 200 199,f 201 1 1 3,l 202 201,o 203 (.call 109 [.t 200,.t 202]),f 204 1 1 2,p (.bg none (.t 204) (.t 203))]
def UY:=[L 205 5 2,L 206 4 3,o 207 (.call 112 [.t 205,.t 206]),p (.bg (some 5) (.t 4) (.t 207)),o 5 (.mv T)]
def lJ:bp:=(s (r BJ) (s (r BK) (s (r BL) (s (.cw AY BM) (s (s (r UU) (.block 0 (s (r UZ) (.cond (.t 46) (s (s (r U0) (.cond (.t 54) (s (r U1) .ret) .skip)) (s (r U2) (s (r U3) .ret))) (s (r Ur) (.cond (.t 63) (s (r Us) (s (r Ut) .ret)) (s (r Uu) (.cond (.t 73) (s (s (r Uv) (.cond (.t 91) (s (r Uw) .ret) .skip)) (s (r Ux) (s (r Uy) (s (.cw MA v8) (s (r Uz) .ret))))) (s (r UA) (.cond (.t 117) (s (s (r UB) (.cond (.t 128) (s (r UC) .ret) .skip)) (s (r UD) (s (r UE) (s (r UF) .ret)))) (s (r UG) (.cond (.t 141) (s (s (r UH) (.cond (.t 144) (s (r UI) .ret) .skip)) (s (r UJ) .ret)) (s (r UK) (.cond (.t 149) (s (s (r UL) (.cond (.t 161) (s (r UM) .ret) .skip)) (s (r UN) (s (r UO) (s (r UP) .ret)))) .skip)))))))))))))) (s (s (r UQ) (.cond (.t 186) (s (r UR) .ret) .skip)) (s (s (r US) (.cond (.t 190) (s (s (r UT) (.cond (.t 197) (s (r UW) .ret) .skip)) (r UX)) .skip)) (s (r UY) .ret))))))))
def l8:List bK:=[.cell 4 (some 5),.tmp 5]
theorem mH:ct Tryz.prog Tryz.f76 lJ:=e (by kernel_rfl)
theorem mJ:cn Tryz.prog Tryz.f76 l8:=e (by kernel_rfl)
theorem mG:cd Tryz.prog 76:=e (by kernel_rfl)
def U4:=[o 4 (.mv bC)]
def U5:=[m 7 0,o 8 (.len (.t 7)),bJ 9 0]
def U6:=[lt 10 9 8]
def U7:=[o 11 (.is 1 (.t 7) (.t 9)),l 12 11,m 6 12]
def U8:=[m 13 6,m 14 1,o 15 (.bin .eql (.t 13) (.t 14))]
def U9:=[o 4 (.mv T)]
def Va:=[ad 16 9 1,m 9 16]
def Vb:=[o 4 (.mv bC)]
def zU:bp:=(s (r U4) (s (s (r U5) (.block 0 (.loop (s (r U6) (s (.cond (.t 10) .skip (.exit 0)) (s (.block 1 (s (r U7) (s (r U8) (.cond (.t 15) (s (r U9) .ret) .skip)))) (r Va))))))) (s (r Vb) .ret)))
def EL:List bK:=[.tmp 4]
theorem Kr:ct Tryz.prog Tryz.f78 zU:=e (by kernel_rfl)
theorem LN:cn Tryz.prog Tryz.f78 EL:=e (by kernel_rfl)
theorem Jn:cd Tryz.prog 78:=e (by kernel_rfl)
def Vc:=[b 2 0,bJ 4 0]
def Vd:=[f 7 3 3 2,l 8 7,o 9 (.len (.t 8)),bJ 10 0]
def Ve:=[lt 11 10 9]
def Vf:=[m 12 10,o 13 (.is 4 (.t 8) (.t 10)),L 14 4 13,o 6 (.alloc (.agg [.int .i64 0,.int .i64 0,.int .i64 0,.bool false])),m 5 12,p (.bg (some 4) (.t 6) (.t 14))]
def Vg:=[f 15 0 0 6,l 16 15,m 17 1,o 18 (.bin .eql (.t 16) (.t 17))]
def Vh:=[m 19 5,m 4 19]
def Vi:=[ad 20 10 1,m 10 20]
def Vj:=[bJ 4 (-1)]
def zV:bp:=(s (r Vc) (s (s (r Vd) (.block 0 (.loop (s (r Ve) (s (.cond (.t 11) .skip (.exit 0)) (s (.block 1 (s (r Vf) (s (r Vg) (.cond (.t 18) (s (r Vh) .ret) .skip)))) (r Vi))))))) (s (r Vj) .ret)))
def EM:List bK:=[.tmp 4]
theorem Ks:ct Tryz.prog Tryz.f79 zV:=e (by kernel_rfl)
theorem LO:cn Tryz.prog Tryz.f79 EM:=e (by kernel_rfl)
theorem Jo:cd Tryz.prog 79:=e (by kernel_rfl)
def Vk:=[bJ 2 0]
def Vl:=[o 3 (.iI),p (.eS (.i .i64) (.t 3) (bf 1) (bf 7)),p (.eS (.i .i64) (.t 3) (bf 2) (bf 5)),p (.eS (.i .i64) (.t 3) (bf 3) (bf 8)),p (.eS (.i .i64) (.t 3) (bf 4) (bf 6)),m 4 3,m 5 0,o 6 (.lk (.i .i64) (.int .i64 0) false (.t 4) (.t 5)),m 2 6]
def zX:bp:=(s (r Vk) (s (r Vl) .ret))
def EO:List bK:=[.tmp 2]
theorem Ku:ct Tryz.prog Tryz.f80 zX:=e (by kernel_rfl)
theorem LQ:cn Tryz.prog Tryz.f80 EO:=e (by kernel_rfl)
theorem Jq:cd Tryz.prog 80:=e (by kernel_rfl)
def BN:=[b 3 1,o 4 (.alloc (.bool false))]
def BO:=[L 6 4 3,o 7 (.call 66 [.t 6]),o 8 (.call 114 [.t 7])]
def qC:=[m 9 0,o 10 (.nilC (.t 9)),f 11 5 5 10,l 12 11,f 13 0 0 3,l 14 13,o 15 (.lk (.i .i64) (.dy) false (.t 12) (.t 14)),L 16 4 3,o 17 (.fA (.t 15) [.t 16])]
def MB:=some [[],[0],[1],[2],[],[4],[3,5],[],[6,7]]
def Vm:=[p (.bg none (.t 4) T)]
def Zn:List bK:=[.cell 4 none]
theorem LR:cn Tryz.prog Tryz.f81 Zn:=e (by kernel_rfl)
theorem Jr:cd Tryz.prog 81:=e (by kernel_rfl)
def Vn:=[o 4 (.mv (.c (.nils 1))),bJ 5 0]
def Vo:=[o 6 (.mv (.c (.nils 1)))]
def Vs:=[m 11 0,o 12 (.len (.t 11)),bJ 13 0]
def Vt:=[lt 14 13 12]
def Vu:=[m 15 13,o 16 (.is 3 (.t 11) (.t 13)),L 17 3 16,o 8 (.alloc (.agg [.int .i64 0,.nils 4,.int .i64 0])),m 7 15,p (.bg (some 3) (.t 8) (.t 17))]
def Vv:=[L 19 3 8,o 20 (.call 69 [.t 19]),m 18 20,o 21 (.ext (.t 18) 0),o 22 (.ext (.t 18) 1),m 9 21,m 10 22]
def Vw:=[m 23 10,o 24 (.bin .neq (.t 23) (bf 0)),m 25 24,lb 26 7 25,on 27 (.bin .gtr (.t 26) (bf 0)) 25,lb 28 27 25,cN 29 0 28,cN 30 7 28,bV 31 (.bin .sub (.t 30) (bf 1)) 28,bV 32 (.is 3 (.t 29) (.t 31)) 28,dV 33 0 0 32 28,dN 34 33 28,dV 35 0 0 8 28,dN 36 35 28,bV 37 (.bin .geq (.t 34) (.t 36)) 28,on 38 (.pick (.t 28) (.t 37) bC) 25,or 39 25 38]
def MC:=some [[],[0],[1],[2],[3,2],[4,2,2],[5],[5],[7,5],[6,8,5],[9,5],[10,5],[5],[12,5],[11,13,5],[5,14,2],[2,15]]
def Vx:=[o 4 (.mv (.c (.nils 1))),bJ 5 96]
def Vy:=[m 40 6,m 41 9,o 42 (.bs 80 1 [.t 41]),o 43 (.dm 80 1 8 (.nilp) (.t 40) (.t 42)),m 6 43]
def Vz:=[ad 44 13 1,m 13 44]
def Vp:=[m 45 1,o 46 (.call 71 [.t 45]),no 47 46]
def Vq:=[o 4 (.mv (.c (.nils 1))),bJ 5 1]
def Vr:=[m 48 6,m 4 48,bJ 5 0]
def zY:bp:=(s (r Vn) (s (r Vo) (s (s (r Vs) (.block 0 (.loop (s (r Vt) (s (.cond (.t 14) .skip (.exit 0)) (s (.block 1 (s (r Vu) (s (r Vv) (s (s (.cw MC Vw) (.cond (.t 39) (s (r Vx) .ret) .skip)) (r Vy))))) (r Vz))))))) (s (s (r Vp) (.cond (.t 47) (s (r Vq) .ret) .skip)) (s (r Vr) .ret)))))
def EP:List bK:=[.tmp 4,.tmp 5]
theorem Kv:ct Tryz.prog Tryz.f83 zY:=e (by kernel_rfl)
theorem LS:cn Tryz.prog Tryz.f83 EP:=e (by kernel_rfl)
theorem Js:cd Tryz.prog 83:=e (by kernel_rfl)
def BP:=[o 2 (.mv (.c (.nils 1)))]
def BQ:=[o 3 (.mv (.c (.nils 1)))]
def BR:=[m 5 0,o 6 (.nilC (.t 5)),f 7 2 2 6,l 8 7,o 9 (.jl (.t 8))]
def wa:=[o 10 (.gZ (.t 9)),o 11 (.ext (.t 10) 0)]
def VA:=[o 12 (.ent (.t 9)),o 13 (.ext (.t 12) 0),m 4 13]
def VB:=[m 14 3,m 15 4,o 16 (.bs 3 1 [.t 15]),o 17 (.dm 3 1 8 (.int .i64 0) (.t 14) (.t 16)),m 3 17]
def VC:=[m 18 3,o 19 (.call 89 [.t 18])]
def VD:=[m 20 3,m 2 20]
def zZ:bp:=(s (r BP) (s (r BQ) (s (s (r BR) (.block 0 (.loop (s (r wa) (s (.cond (.t 11) .skip (.exit 0)) (.block 1 (s (r VA) (r VB)))))))) (s (r VC) (s (r VD) .ret)))))
def ER:List bK:=[.tmp 2]
theorem Kx:ct Tryz.prog Tryz.f85 zZ:=e (by kernel_rfl)
theorem LU:cn Tryz.prog Tryz.f85 ER:=e (by kernel_rfl)
theorem Jt:cd Tryz.prog 85:=e (by kernel_rfl)
def VE:=[b 3 0,bJ 6 0]
def VF:=[f 9 4 4 3,l 10 9,o 11 (.len (.t 10)),bJ 12 0]
def VG:=[lt 13 12 11]
def VH:=[o 14 (.is 4 (.t 10) (.t 12)),L 15 4 14,o 8 (.alloc (.agg [.int .i64 0,.int .i64 0,.int .i64 0,.int .i64 0])),p (.bg (some 4) (.t 8) (.t 15))]
def VI:=[f 16 1 1 8,l 17 16,m 18 1,o 19 (.bin .eql (.t 17) (.t 18)),m 20 19,dV 21 2 2 8 20,dN 22 21 20,cN 23 2 20,bV 24 (.bin .eql (.t 22) (.t 23)) 20,and 25 20 24]
def VJ:=[f 26 0 0 8,l 27 26,m 6 27]
def VK:=[ad 28 12 1,m 12 28]
def VL:=[bJ 6 0]
def z7:bp:=(s (r VE) (s (s (r VF) (.block 0 (.loop (s (r VG) (s (.cond (.t 13) .skip (.exit 0)) (s (.block 1 (s (r VH) (s (r VI) (.cond (.t 25) (s (r VJ) .ret) .skip)))) (r VK))))))) (s (r VL) .ret)))
def ES:List bK:=[.tmp 6]
theorem Ky:ct Tryz.prog Tryz.f88 z7:=e (by kernel_rfl)
theorem LV:cn Tryz.prog Tryz.f88 ES:=e (by kernel_rfl)
theorem Ju:cd Tryz.prog 88:=e (by kernel_rfl)
theorem Aw:cd Tryz.prog 89:=e (by kernel_rfl)
def VW:=[o 2 (.mv bC)]
def VX:=[m 3 0,o 4 (.call 105 [.t 3,(bf 1),(bf 200)]),m 2 4]
def z8:bp:=(s (r VW) (s (r VX) .ret))
def ET:List bK:=[.tmp 2]
theorem Kz:ct Tryz.prog Tryz.f90 z8:=e (by kernel_rfl)
theorem LW:cn Tryz.prog Tryz.f90 ET:=e (by kernel_rfl)
theorem Jv:cd Tryz.prog 90:=e (by kernel_rfl)
def VY:=[o 4 (.mv (.c (.nils 4)))]
def VZ:=[m 8 0,m 9 1,o 10 (.call 118 [.t 8,.t 9]),m 5 10]
def V1:=[m 11 5,o 12 (.bin .eql (.t 11) (.c (.int .i64 (-1))))]
def V2:=[m 13 0,m 4 13]
def V3:=[m 14 5,ad 15 14 1,m 6 15]
def BU:=[m 16 6,m 17 0,o 18 (.len (.t 17)),lt 19 16 18]
def V4:=[m 22 0,m 23 6,o 24 (.is 4 (.t 22) (.t 23)),L 25 4 24,o 7 (.alloc (.agg [.int .i64 0,.int .i64 0,.int .i64 0,.int .i64 0])),p (.bg (some 4) (.t 7) (.t 25))]
def V5:=[m 26 1,L 27 4 7,o 28 (.fA (.t 26) [.t 27]),no 29 28]
def V6:=[m 30 0,m 31 5,L 32 4 7,o 33 (.is 4 (.t 30) (.t 31)),p (.bg (some 4) (.t 33) (.t 32))]
def V7:=[m 34 5,ad 35 34 1,m 5 35]
def V0:=[m 20 6,ad 21 20 1,m 6 21]
def BS:=[m 36 0,m 37 5,o 38 (.sl 4 (.t 36) (some (.t 37)) none none),p (.jw 4 (.agg [.int .i64 0,.int .i64 0,.int .i64 0,.int .i64 0]) (.t 38))]
def BT:=[m 39 0,m 40 5,o 41 (.sl 4 (.t 39) none (some (.t 40)) none),m 4 41]
def vd:bp:=(s (r VY) (s (r VZ) (s (s (r V1) (.cond (.t 12) (s (r V2) .ret) .skip)) (s (s (r V3) (.block 0 (.loop (s (s (r BU) (.cond (.t 19) .skip (.exit 0))) (s (.block 1 (s (r V4) (s (r V5) (.cond (.t 29) (s (r V6) (r V7)) .skip)))) (r V0)))))) (s (r BS) (s (r BT) .ret))))))
def xr:List bK:=[.tmp 4]
theorem AP:ct Tryz.prog Tryz.f91 vd:=e (by kernel_rfl)
theorem AX:cn Tryz.prog Tryz.f91 xr:=e (by kernel_rfl)
theorem Ax:cd Tryz.prog 91:=e (by kernel_rfl)
def V8:=[b 2 0,o 3 (.mv bC)]
def V9:=[f 4 1 1 2,l 5 4,l 6 1,o 7 (.bin .neq (.t 5) (.t 6)),m 3 7]
def Aa:bp:=(s (r V8) (s (r V9) .ret))
def EU:List bK:=[.tmp 3]
theorem KA:ct Tryz.prog Tryz.f92 Aa:=e (by kernel_rfl)
theorem LX:cn Tryz.prog Tryz.f92 EU:=e (by kernel_rfl)
theorem Jw:cd Tryz.prog 92:=e (by kernel_rfl)
def BV:=[o 4 (.mv (.c (.bQ ⟨#[]⟩)))]
def BW:=[m 7 1,o 8 (.len (.t 7)),bJ 9 0]
def BX:=[lt 10 9 8]
def BY:=[o 11 (.is 1 (.t 7) (.t 9)),l 12 11,m 6 12]
def BZ:=[m 13 0,m 14 6,o 15 (.call 119 [.t 14]),o 16 (.bin .add (.c (.bQ ⟨#[32]⟩)) (.t 15)),o 17 (.bin .add (.t 13) (.t 16)),m 0 17]
def B1:=[ad 18 9 1,m 9 18]
def B3:=[m 19 0,o 20 (.bin .add (.t 19) (.c (.bQ ⟨#[10]⟩))),m 4 20]
def Ab:bp:=(s (r BV) (s (s (r BW) (.block 0 (.loop (s (r BX) (s (.cond (.t 10) .skip (.exit 0)) (s (.block 1 (s (r BY) (r BZ))) (r B1))))))) (s (r B3) .ret)))
def EV:List bK:=[.tmp 4]
theorem KB:ct Tryz.prog Tryz.f93 Ab:=e (by kernel_rfl)
theorem LY:cn Tryz.prog Tryz.f93 EV:=e (by kernel_rfl)
theorem Jx:cd Tryz.prog 93:=e (by kernel_rfl)
def Wa:=[o 0 (.mv (.c (.nils 1)))]
def Wb:=[o 1 (.bs 9 1 [(.c (.bQ ⟨#[]⟩)),(.c (.bQ ⟨#[112,111,117,110,100]⟩)),(.c (.bQ ⟨#[114,101,108,101,97,115,101]⟩)),(.c (.bQ ⟨#[115,101,110,100]⟩)),(.c (.bQ ⟨#[99,97,108,108]⟩)),(.c (.bQ ⟨#[100,111,110,101]⟩)),(.c (.bQ ⟨#[98,97,99,107]⟩)),(.c (.bQ ⟨#[116,97,107,101]⟩)),(.c (.bQ ⟨#[114,101,102,117,115,101]⟩))]),m 0 1]
def Ac:bp:=(s (r Wa) (s (r Wb) .ret))
def EW:List bK:=[.tmp 0]
theorem KC:ct Tryz.prog Tryz.f94 Ac:=e (by kernel_rfl)
theorem LZ:cn Tryz.prog Tryz.f94 EW:=e (by kernel_rfl)
theorem Jy:cd Tryz.prog 94:=e (by kernel_rfl)
def NQ:=[o 6 (.mv bC)]
def NR:=[m 7 0,m 8 1,o 9 (.bin .geq (.t 7) (.t 8)),m 10 9,cN 11 0 10,cN 12 2 10,bV 13 (.bin .leq (.t 11) (.t 12)) 10,and 14 10 13,m 6 14]
def yZ:bp:=(s (r NQ) (s (r NR) .ret))
def DJ:List bK:=[.tmp 6]
theorem JF:ct Tryz.prog Tryz.f105 yZ:=e (by kernel_rfl)
theorem KR:cn Tryz.prog Tryz.f105 DJ:=e (by kernel_rfl)
theorem IA:cd Tryz.prog 105:=e (by kernel_rfl)
def NS:=[o 2 (.mv (.c (.nilp)))]
def NT:=[m 4 0,o 5 (.iI),o 6 (.iI),o 7 (.iI),o 8 (.bld [.int .i64 0,.raw (.map none),.raw (.map none),.int .i64 0,.raw (.map none),.raw (.map none)] [(0,(.t 4)),(1,(.t 5)),(2,(.t 6)),(4,(.t 7))]),b 9 8,m 3 9]
def NU:=[m 10 3,o 11 (.iI),m 12 3,o 13 (.mk 1000125 [.t 12]),p (.eS (.i .i64) (.t 11) (bf 1) (.t 13)),m 14 3,o 15 (.mk 1000126 [.t 14]),p (.eS (.i .i64) (.t 11) (bf 2) (.t 15)),m 16 3,o 17 (.mk 1000127 [.t 16]),p (.eS (.i .i64) (.t 11) (bf 3) (.t 17)),m 18 3,o 19 (.mk 1000128 [.t 18]),p (.eS (.i .i64) (.t 11) (bf 4) (.t 19)),m 20 3,o 21 (.mk 1000129 [.t 20]),p (.eS (.i .i64) (.t 11) (bf 5) (.t 21)),m 22 3,o 23 (.mk 1000130 [.t 22]),p (.eS (.i .i64) (.t 11) (bf 6) (.t 23)),m 24 3,o 25 (.mk 1000131 [.t 24]),p (.eS (.i .i64) (.t 11) (bf 7) (.t 25)),m 26 3,o 27 (.mk 1000132 [.t 26]),p (.eS (.i .i64) (.t 11) (bf 8) (.t 27)),m 28 11,o 29 (.nilC (.t 10)),f 30 5 5 29,p (.bg none (.t 30) (.t 28))]
def NV:=[m 31 3,m 2 31]
def y5:bp:=(s (r NS) (s (r NT) (s (r NU) (s (r NV) .ret))))
def DK:List bK:=[.tmp 2]
theorem JG:ct Tryz.prog Tryz.f106 y5:=e (by kernel_rfl)
theorem KS:cn Tryz.prog Tryz.f106 DK:=e (by kernel_rfl)
theorem IB:cd Tryz.prog 106:=e (by kernel_rfl)
def NW:=[l 12 1,o 13 (.call 85 [.t 12]),o 14 (.len (.t 13)),bJ 15 0]
def NX:=[lt 16 15 14]
def N5:=[o 17 (.is 1 (.t 13) (.t 15)),l 18 17,m 5 18]
def N6:=[l 19 1,o 20 (.nilC (.t 19)),f 21 2 2 20,l 22 21,m 23 5,o 24 (.lk (.i .i64) (.nilp) false (.t 22) (.t 23)),m 6 24]
def N7:=[l 25 1,o 26 (.nilC (.t 25)),f 27 0 0 26,l 28 27,l 29 2,m 30 6,o 31 (.nilC (.t 30)),f 32 2 2 31,l 33 32,m 34 5,o 35 (.bld [.int .i64 0,.int .i64 0,.int .i64 0,.int .i64 0,.int .i64 0] [(0,(bf 1)),(1,(.t 28)),(2,(.t 29)),(3,(.t 33)),(4,(.t 34))]),o 7 (.alloc (.agg [.int .i64 0,.int .i64 0,.int .i64 0,.int .i64 0,.int .i64 0])),p (.bg (some 5) (.t 7) (.t 35))]
def L2:=some [[],[0],[1],[2],[],[],[5],[6],[7],[],[3,4,8,9],[],[11,10,0,1,2,3,4,5,6,7,8,9,10,11]]
def N8:=[m 36 6,o 37 (.nilC (.t 36)),f 38 3 3 37,l 39 38]
def N9:=[f 40 0 0 7,p (.bg none (.t 40) (bf 3))]
def nJ:=[m 41 6,o 42 (.nilC (.t 41)),f 43 1 1 42,l 44 43,l 45 2,o 46 (.bin .eql (.t 44) (.t 45)),m 47 46,cN 48 0 47,bV 49 (.ld (some 5) (.t 7)) 47,bV 50 (.fA (.t 48) [.t 49]) 47,bV 51 (.un .not (.t 50)) 47,and 52 47 51]
def L3:=some [[],[0],[1],[2],[],[3,4],[5],[6],[6],[7,8,6,6],[9,6],[6,10]]
def Oa:=[ad 53 15 1,m 15 53]
def Ob:=[bJ 8 1]
def NY:=[m 54 8,o 55 (.bin .leq (.t 54) (bf 200))]
def NZ:=[l 59 1,o 60 (.nilC (.t 59)),f 61 4 4 60,l 62 61,l 63 2,m 64 8,o 65 (.bld [.int .i64 0,.int .i64 0] [(0,(.t 63)),(1,(.t 64))]),o 66 (.lk (.bg [(.i .i64),(.i .i64)]) (.agg [.int .i64 0,.int .i64 0,.int .i64 0,.int .i64 0]) true (.t 62) (.t 65)),m 58 66,o 67 (.ext (.t 58) 0),o 68 (.ext (.t 58) 1),o 9 (.alloc (.agg [.int .i64 0,.int .i64 0,.int .i64 0,.int .i64 0])),p (.bg (some 4) (.t 9) (.t 67)),m 10 68]
def L0:=some [[],[0],[1],[2],[],[],[4,5],[3,6],[7],[8],[8],[],[11,9,0,1,2,3,4,5,6,7,8,9,11],[10,12,0,1,2,3,4,5,6,7,8,9,10,11,12]]
def N0:=[l 69 1,o 70 (.nilC (.t 69)),f 71 0 0 70,l 72 71,l 73 2,f 74 1 1 9,l 75 74,m 76 8,o 77 (.bld [.int .i64 0,.int .i64 0,.int .i64 0,.int .i64 0,.int .i64 0] [(0,(bf 2)),(1,(.t 72)),(2,(.t 73)),(3,(.t 75)),(4,(.t 76))]),o 11 (.alloc (.agg [.int .i64 0,.int .i64 0,.int .i64 0,.int .i64 0,.int .i64 0])),p (.bg (some 5) (.t 11) (.t 77))]
def L1:=some [[],[0],[1],[2],[],[],[5],[],[3,4,6,7],[],[9,8,0,1,2,3,4,5,6,7,8,9]]
def N1:=[f 78 0 0 9,l 79 78,o 80 (.bin .eql (.t 79) (bf 8))]
def N2:=[f 81 0 0 11,p (.bg none (.t 81) (bf 4))]
def N3:=[m 82 10,m 83 82,cN 84 0 83,bV 85 (.ld (some 5) (.t 11)) 83,bV 86 (.fA (.t 84) [.t 85]) 83,bV 87 (.un .not (.t 86)) 83,and 88 83 87]
def N4:=[m 56 8,ad 57 56 1,m 8 57]
def y7:bp:=(s (s (r NW) (.block 0 (.loop (s (r NX) (s (.cond (.t 16) .skip (.exit 0)) (s (.block 1 (s (r N5) (s (r N6) (s (.cw L2 N7) (s (s (r N8) (.cond (.t 39) (r N9) .skip)) (s (.cw L3 nJ) (.cond (.t 52) .ret .skip))))))) (r Oa))))))) (s (r Ob) (.block 2 (.loop (s (s (r NY) (.cond (.t 55) .skip (.exit 2))) (s (.block 3 (s (.cw L0 NZ) (s (.cw L1 N0) (s (s (r N1) (.cond (.t 80) (r N2) .skip)) (s (r N3) (.cond (.t 88) .ret .skip)))))) (r N4)))))))
def DL:List bK:=[]
theorem JH:ct Tryz.prog Tryz.f107 y7:=e (by kernel_rfl)
theorem KT:cn Tryz.prog Tryz.f107 DL:=e (by kernel_rfl)
theorem Af:cd Tryz.prog 107:=e (by kernel_rfl)
def Oc:=[b 2 0,o 4 (.mv bC)]
def Od:=[f 7 3 3 2,l 8 7,o 9 (.len (.t 8)),bJ 10 0]
def Oe:=[lt 11 10 9]
def Of:=[o 12 (.is 4 (.t 8) (.t 10)),L 13 4 12,o 6 (.alloc (.agg [.int .i64 0,.int .i64 0,.int .i64 0,.bool false])),p (.bg (some 4) (.t 6) (.t 13))]
def Og:=[f 14 2 2 6,l 15 14,m 16 1,o 17 (.bin .eql (.t 15) (.t 16))]
def Oh:=[o 4 (.mv T)]
def Oi:=[ad 18 10 1,m 10 18]
def Oj:=[o 4 (.mv bC)]
def y8:bp:=(s (r Oc) (s (s (r Od) (.block 0 (.loop (s (r Oe) (s (.cond (.t 11) .skip (.exit 0)) (s (.block 1 (s (r Of) (s (r Og) (.cond (.t 17) (s (r Oh) .ret) .skip)))) (r Oi))))))) (s (r Oj) .ret)))
def DM:List bK:=[.tmp 4]
theorem JI:ct Tryz.prog Tryz.f108 y8:=e (by kernel_rfl)
theorem KU:cn Tryz.prog Tryz.f108 DM:=e (by kernel_rfl)
theorem IC:cd Tryz.prog 108:=e (by kernel_rfl)
def Ol:=[o 4 (.mv (.c (.nils 1)))]
def Om:=[bJ 5 0]
def On:=[m 6 5,m 7 0,o 8 (.len (.t 7)),lt 9 6 8,m 10 9,cN 11 0 10,cN 12 5 10,bV 13 (.is 1 (.t 11) (.t 12)) 10,dN 14 13 10,cN 15 1 10,bV 16 (.bin .lss (.t 14) (.t 15)) 10,and 17 10 16]
def Oo:=[m 18 5,ad 19 18 1,m 5 19]
def Oq:=[m 20 5,m 21 0,o 22 (.len (.t 21)),lt 23 20 22,m 24 23,cN 25 0 24,cN 26 5 24,bV 27 (.is 1 (.t 25) (.t 26)) 24,dN 28 27 24,cN 29 1 24,bV 30 (.bin .eql (.t 28) (.t 29)) 24,and 31 24 30]
def Ot:=[m 32 0,m 4 32]
def qy:=[o 33 (.bs0 1),m 34 0,m 35 5,o 36 (.sl 1 (.t 34) none (some (.t 35)) none),o 37 (.dm 3 1 8 (.int .i64 0) (.t 33) (.t 36)),m 38 1,o 39 (.bs 3 1 [.t 38]),o 40 (.dm 3 1 8 (.int .i64 0) (.t 37) (.t 39)),m 41 0,m 42 5,o 43 (.sl 1 (.t 41) (some (.t 42)) none none),o 44 (.dm 3 1 8 (.int .i64 0) (.t 40) (.t 43)),m 4 44]
def L4:=some [[],[],[],[1,2],[0,3],[],[5],[4,6,4],[],[],[8,9],[7,10,7],[11,11,0,1,2,3,4,5,6,7,8,9,10,11]] -- DRAW BAD
def y9:bp:=(s (r Ol) (s (r Om) (s (.block 0 (.loop (s (s (r On) (.cond (.t 17) .skip (.exit 0))) (.block 1 (r Oo))))) (s (s (r Oq) (.cond (.t 31) (s (r Ot) .ret) .skip)) (s (.cw L4 qy) .ret)))))
def DN:List bK:=[.tmp 4]
theorem JJ:ct Tryz.prog Tryz.f109 y9:=e (by kernel_rfl)
theorem KV:cn Tryz.prog Tryz.f109 DN:=e (by kernel_rfl)
theorem ID:cd Tryz.prog 109:=e (by kernel_rfl)
def OB:=[o 4 (.mv (.c (.nils 1)))]
def OC:=[o 5 (.mv (.c (.nils 1)))]
def OD:=[m 8 0,o 9 (.len (.t 8)),bJ 10 0]
def OE:=[lt 11 10 9]
def OF:=[o 12 (.is 1 (.t 8) (.t 10)),l 13 12,m 7 13]
def OG:=[m 14 7,m 15 1,o 16 (.bin .neq (.t 14) (.t 15))]
def OH:=[m 17 5,m 18 7,o 19 (.bs 3 1 [.t 18]),o 20 (.dm 3 1 8 (.int .i64 0) (.t 17) (.t 19)),m 5 20]
def OI:=[ad 21 10 1,m 10 21]
def OJ:=[m 22 5,m 4 22]
def za:bp:=(s (r OB) (s (r OC) (s (s (r OD) (.block 0 (.loop (s (r OE) (s (.cond (.t 11) .skip (.exit 0)) (s (.block 1 (s (r OF) (s (r OG) (.cond (.t 16) (r OH) .skip)))) (r OI))))))) (s (r OJ) .ret))))
def DO:List bK:=[.tmp 4]
theorem JK:ct Tryz.prog Tryz.f110 za:=e (by kernel_rfl)
theorem KW:cn Tryz.prog Tryz.f110 DO:=e (by kernel_rfl)
theorem IE:cd Tryz.prog 110:=e (by kernel_rfl)
def OK:=[b 2 0,o 4 (.alloc (.agg [.int .i64 0,.nils 1,.int .i64 0,.nils 4,.nils 4]))]
def vS:=[o 5 (.bs0 4),f 6 3 3 2,l 7 6,m 8 1,o 9 (.sl 4 (.t 7) none (some (.t 8)) none),o 10 (.dm 48 4 32 (.agg [.int .i64 0,.int .i64 0,.int .i64 0,.bool false]) (.t 5) (.t 9)),f 11 3 3 2,l 12 11,m 13 1,ad 14 13 1,o 15 (.sl 4 (.t 12) (some (.t 14)) none none),o 16 (.dm 48 4 32 (.agg [.int .i64 0,.int .i64 0,.int .i64 0,.bool false]) (.t 10) (.t 15)),f 17 3 3 2,p (.bg none (.t 17) (.t 16))]
def L5:=some [[],[],[1],[],[2,3],[0,4],[],[6],[],[8],[7,9],[5,10,5],[0,1,2,3,4,5,6,7,8,9,10,11],[12,11,11,0,1,2,3,4,5,6,7,8,9,10,11]] -- DRAW BAD
def OL:=[L 18 5 2,p (.bg (some 5) (.t 4) (.t 18))]
def zb:bp:=(s (r OK) (s (.cw L5 vS) (s (r OL) .ret)))
def DP:List bK:=[.cell 4 (some 5)]
theorem JL:ct Tryz.prog Tryz.f111 zb:=e (by kernel_rfl)
theorem KX:cn Tryz.prog Tryz.f111 DP:=e (by kernel_rfl)
theorem IF:cd Tryz.prog 111:=e (by kernel_rfl)
def OM:=[b 2 0,b 3 1,o 4 (.alloc (.agg [.int .i64 0,.nils 1,.int .i64 0,.nils 4,.nils 4]))]
def vT:=[o 5 (.bs0 4),f 6 4 4 2,l 7 6,o 8 (.dm 91 4 32 (.agg [.int .i64 0,.int .i64 0,.int .i64 0,.int .i64 0]) (.t 5) (.t 7)),f 9 0 0 3,l 10 9,f 11 2 2 3,l 12 11,f 13 3 3 3,l 14 13,f 15 1 1 3,l 16 15,o 17 (.bld [.int .i64 0,.int .i64 0,.int .i64 0,.int .i64 0] [(0,(.t 10)),(1,(.t 12)),(2,(.t 14)),(3,(.t 16))]),o 18 (.bs 91 4 [.t 17]),o 19 (.dm 91 4 32 (.agg [.int .i64 0,.int .i64 0,.int .i64 0,.int .i64 0]) (.t 8) (.t 18)),f 20 4 4 2,p (.bg none (.t 20) (.t 19))]
def L6:=some [[],[],[1],[0,2],[],[4],[],[6],[],[8],[],[10],[5,7,9,11],[12],[3,13,3],[0,1,2,3,4,5,6,7,8,9,10,11,12,13,14],[15,14,14,0,1,2,3,4,5,6,7,8,9,10,11,12,13,14]] -- DRAW BAD
def ON:=[L 21 5 2,p (.bg (some 5) (.t 4) (.t 21))]
def zc:bp:=(s (r OM) (s (.cw L6 vT) (s (r ON) .ret)))
def DQ:List bK:=[.cell 4 (some 5)]
theorem JM:ct Tryz.prog Tryz.f112 zc:=e (by kernel_rfl)
theorem KY:cn Tryz.prog Tryz.f112 DQ:=e (by kernel_rfl)
theorem IG:cd Tryz.prog 112:=e (by kernel_rfl)
theorem Ag:cd Tryz.prog 113:=e (by kernel_rfl)
def OO:=[m 2 0,no 3 2]
def zd:bp:=(s (r OO) (.cond (.t 3) .uR .skip))
def DR:List bK:=[]
theorem JN:ct Tryz.prog Tryz.f114 zd:=e (by kernel_rfl)
theorem KZ:cn Tryz.prog Tryz.f114 DR:=e (by kernel_rfl)
theorem Ah:cd Tryz.prog 114:=e (by kernel_rfl)
def OP:=[bJ 4 0]
def OQ:=[m 6 0,o 7 (.len (.t 6)),bJ 8 0]
def OR:=[lt 9 8 7]
def OS:=[m 10 8,m 5 10]
def OT:=[m 11 1,m 12 0,m 13 5,o 14 (.is 4 (.t 12) (.t 13)),L 15 4 14,o 16 (.fA (.t 11) [.t 15])]
def OU:=[m 17 5,m 4 17]
def OV:=[ad 18 8 1,m 8 18]
def OW:=[bJ 4 (-1)]
def ze:bp:=(s (r OP) (s (s (r OQ) (.block 0 (.loop (s (r OR) (s (.cond (.t 9) .skip (.exit 0)) (s (.block 1 (s (r OS) (s (r OT) (.cond (.t 16) (s (r OU) .ret) .skip)))) (r OV))))))) (s (r OW) .ret)))
def DS:List bK:=[.tmp 4]
theorem JO:ct Tryz.prog Tryz.f118 ze:=e (by kernel_rfl)
theorem K0:cn Tryz.prog Tryz.f118 DS:=e (by kernel_rfl)
theorem IH:cd Tryz.prog 118:=e (by kernel_rfl)
theorem II:cd Tryz.prog 119:=e (by kernel_rfl)
def OX:=[b 3 1]
def qz:=[m 4 0,o 5 (.nilC (.t 4)),f 6 1 1 5,l 7 6,f 8 1 1 3,l 9 8,o 10 (.lk (.i .i64) (.bool false) false (.t 7) (.t 9)),no 11 10,m 12 11,cN 13 0 12,dV 14 1 1 3 12,dN 15 14 12,bV 16 (.call 72 [.t 13,.t 15]) 12,bV 17 (.un .not (.t 16)) 12,and 18 12 17,o 19 (.call 114 [.t 18])]
def L7:=some [[],[0],[1],[2],[],[4],[3,5],[6],[7],[8],[8],[10,8],[9,11,8,8],[12,8],[8,13],[14,12]]
def OY:=[m 20 0,o 21 (.nilC (.t 20)),f 22 1 1 21,l 23 22,f 24 1 1 3,l 25 24,p (.eS (.i .i64) (.t 23) (.t 25) T)]
def L8:=some [[],[0],[1],[2],[],[4],[3,5,0,1,2,3,4,5]]
def uV:bp:=(s (r OX) (s (.cw L7 qz) (.cw L8 OY)))
def DT:List bK:=[]
theorem AB:ct Tryz.prog Tryz.f125 uV:=e (by kernel_rfl)
theorem K1:cn Tryz.prog Tryz.f125 DT:=e (by kernel_rfl)
theorem Ai:cd Tryz.prog 125:=e (by kernel_rfl)
def OZ:=[b 3 1]
def vU:=[m 4 0,o 5 (.nilC (.t 4)),f 6 1 1 5,l 7 6,f 8 1 1 3,l 9 8,o 10 (.lk (.i .i64) (.bool false) false (.t 7) (.t 9)),o 11 (.call 114 [.t 10])]
def L9:=some [[],[0],[1],[2],[],[4],[3,5],[6]]
def O0:=[m 12 0,o 13 (.nilC (.t 12)),f 14 1 1 13,l 15 14,f 16 1 1 3,l 17 16,p (.iH (.i .i64) (.t 15) (.t 17))]
def Ma:=some [[],[0],[1],[2],[],[4],[3,5]]
def uW:bp:=(s (r OZ) (s (.cw L9 vU) (.cw Ma O0)))
def DU:List bK:=[]
theorem AD:ct Tryz.prog Tryz.f126 uW:=e (by kernel_rfl)
theorem K2:cn Tryz.prog Tryz.f126 DU:=e (by kernel_rfl)
theorem Aj:cd Tryz.prog 126:=e (by kernel_rfl)
def O1:=[b 3 1]
def nK:=[m 4 0,o 5 (.nilC (.t 4)),f 6 1 1 5,l 7 6,f 8 1 1 3,l 9 8,o 10 (.lk (.i .i64) (.bool false) false (.t 7) (.t 9)),m 11 10,dV 12 2 2 3 11,dN 13 12 11,cN 14 0 11,bV 15 (.nilC (.t 14)) 11,dV 16 0 0 15 11,dN 17 16 11,bV 18 (.bin .neq (.t 13) (.t 17)) 11,and 19 11 18,m 20 19,dV 21 3 3 3 20,dN 22 21 20,cN 23 0 20,bV 24 (.nilC (.t 23)) 20,dV 25 3 3 24 20,dN 26 25 20,bV 27 (.bin .add (.t 26) (bf 1)) 20,bV 28 (.bin .eql (.t 22) (.t 27)) 20,and 29 20 28,o 30 (.call 114 [.t 29])]
def Mb:=some [[],[0],[1],[2],[],[4],[3,5],[6],[7],[8,7],[7],[10,7],[11,7],[12,7],[9,13,7],[7,14],[15,7],[16],[17,16],[16],[19,16],[20,16],[21,16],[22,16],[18,23,16],[16,24],[25,16]]
def O2:=[m 31 0,o 32 (.nilC (.t 31)),f 33 1 1 32,l 34 33,f 35 1 1 3,l 36 35,p (.iH (.i .i64) (.t 34) (.t 36))]
def Mc:=some [[],[0],[1],[2],[],[4],[3,5]]
def O3:=[m 37 0,o 38 (.nilC (.t 37)),f 39 3 3 38,l 40 39,ad 41 40 1,o 42 (.nilC (.t 37)),f 43 3 3 42,p (.bg none (.t 43) (.t 41))]
def O4:=[m 44 0,o 45 (.nilC (.t 44)),f 46 2 2 45,l 47 46,f 48 3 3 3,l 49 48,f 50 3 3 3,l 51 50,f 52 2 2 3,l 53 52,f 54 1 1 3,l 55 54,o 56 (.bld [.int .i64 0,.int .i64 0,.int .i64 0,.bool false] [(0,(.t 51)),(1,(.t 53)),(2,(.t 55))]),b 57 56,p (.eS (.i .i64) (.t 47) (.t 49) (.t 57))]
def Md:=some [[],[0],[1],[2],[],[4],[],[6],[],[8],[],[10],[7,9,11],[12],[3,5,13,0,1,2,3,4,5,6,7,8,9,10,11,12,13]]
def uX:bp:=(s (r O1) (s (.cw Mb nK) (s (.cw Mc O2) (s (r O3) (.cw Md O4)))))
def DV:List bK:=[]
theorem AE:ct Tryz.prog Tryz.f127 uX:=e (by kernel_rfl)
theorem K3:cn Tryz.prog Tryz.f127 DV:=e (by kernel_rfl)
theorem Ak:cd Tryz.prog 127:=e (by kernel_rfl)
def O5:=[b 3 1]
def BD:=[m 5 0,L 6 4 3,o 7 (.call 151 [.t 5,.t 6]),m 4 7]
def BE:=[m 8 4,o 9 (.nilC (.t 8)),f 10 3 3 9,l 11 10,no 12 11,o 13 (.call 114 [.t 12])]
def O6:=[m 14 4,o 15 (.nilC (.t 14)),f 16 3 3 15,p (.bg none (.t 16) T)]
def uY:bp:=(s (r O5) (s (r BD) (s (r BE) (r O6))))
def DW:List bK:=[]
theorem AF:ct Tryz.prog Tryz.f128 uY:=e (by kernel_rfl)
theorem K4:cn Tryz.prog Tryz.f128 DW:=e (by kernel_rfl)
theorem Al:cd Tryz.prog 128:=e (by kernel_rfl)
def O7:=[b 3 1]
def BF:=[m 4 0,L 5 4 3,o 6 (.call 151 [.t 4,.t 5])]
def O8:=[m 7 0,o 8 (.nilC (.t 7)),f 9 2 2 8,l 10 9,f 11 3 3 3,l 12 11,p (.iH (.i .i64) (.t 10) (.t 12))]
def Me:=some [[],[0],[1],[2],[],[4],[3,5]]
def uZ:bp:=(s (r O7) (s (r BF) (.cw Me O8)))
def DX:List bK:=[]
theorem AG:ct Tryz.prog Tryz.f129 uZ:=e (by kernel_rfl)
theorem K5:cn Tryz.prog Tryz.f129 DX:=e (by kernel_rfl)
theorem Am:cd Tryz.prog 129:=e (by kernel_rfl)
def O9:=[b 3 1]
def vV:=[m 4 0,L 5 4 3,o 6 (.call 151 [.t 4,.t 5]),o 7 (.nilC (.t 6)),f 8 3 3 7,l 9 8,o 10 (.call 114 [.t 9])]
def Pa:=[m 11 0,o 12 (.nilC (.t 11)),f 13 2 2 12,l 14 13,f 15 3 3 3,l 16 15,p (.iH (.i .i64) (.t 14) (.t 16))]
def Mf:=some [[],[0],[1],[2],[],[4],[3,5]]
def Pb:=[m 17 0,o 18 (.nilC (.t 17)),f 19 1 1 18,l 20 19,f 21 1 1 3,l 22 21,p (.eS (.i .i64) (.t 20) (.t 22) T)]
def Mg:=some [[],[0],[1],[2],[],[4],[3,5,0,1,2,3,4,5]]
def u3:bp:=(s (r O9) (s (r vV) (s (.cw Mf Pa) (.cw Mg Pb))))
def DY:List bK:=[]
theorem AH:ct Tryz.prog Tryz.f130 u3:=e (by kernel_rfl)
theorem K6:cn Tryz.prog Tryz.f130 DY:=e (by kernel_rfl)
theorem An:cd Tryz.prog 130:=e (by kernel_rfl)
def Pc:=[b 3 1]
def nL:=[m 4 0,L 5 4 3,o 6 (.call 152 [.t 4,.t 5]),m 7 6,cN 8 0 7,bV 9 (.nilC (.t 8)) 7,dV 10 1 1 9 7,dN 11 10 7,dV 12 1 1 3 7,dN 13 12 7,bV 14 (.lk (.i .i64) (.bool false) false (.t 11) (.t 13)) 7,bV 15 (.un .not (.t 14)) 7,and 16 7 15,m 17 16,cN 18 0 17,dV 19 1 1 3 17,dN 20 19 17,bV 21 (.call 72 [.t 18,.t 20]) 17,bV 22 (.un .not (.t 21)) 17,and 23 17 22,o 24 (.call 114 [.t 23])]
def Mh:=some [[],[],[0,1],[2,2],[3],[4,3],[5,3],[6,3],[3],[8,3],[7,9,3],[10,3],[3,11],[12,3],[13],[13],[15,13],[14,16,13,13],[17,13],[13,18],[19,17]]
def Pd:=[m 25 0,o 26 (.nilC (.t 25)),f 27 4 4 26,l 28 27,f 29 2 2 3,l 30 29,f 31 3 3 3,l 32 31,o 33 (.bld [.int .i64 0,.int .i64 0] [(0,(.t 30)),(1,(.t 32))]),L 34 4 3,p (.eS (.bg [(.i .i64),(.i .i64)]) (.t 28) (.t 33) (.t 34))]
def Mi:=some [[],[0],[1],[2],[],[4],[],[6],[5,7],[],[3,8,9,0,1,2,3,4,5,6,7,8,9]]
def Pe:=[m 35 0,o 36 (.nilC (.t 35)),f 37 1 1 36,l 38 37,f 39 1 1 3,l 40 39,p (.eS (.i .i64) (.t 38) (.t 40) T)]
def Mj:=some [[],[0],[1],[2],[],[4],[3,5,0,1,2,3,4,5]]
def u4:bp:=(s (r Pc) (s (.cw Mh nL) (s (.cw Mi Pd) (.cw Mj Pe))))
def DZ:List bK:=[]
theorem AI:ct Tryz.prog Tryz.f131 u4:=e (by kernel_rfl)
theorem K7:cn Tryz.prog Tryz.f131 DZ:=e (by kernel_rfl)
theorem Ao:cd Tryz.prog 131:=e (by kernel_rfl)
def Pf:=[b 3 1]
def BG:=[m 4 0,L 5 4 3,o 6 (.call 152 [.t 4,.t 5]),o 7 (.call 114 [.t 6])]
def Pg:=[m 8 0,o 9 (.nilC (.t 8)),f 10 4 4 9,l 11 10,f 12 2 2 3,l 13 12,f 14 3 3 3,l 15 14,o 16 (.bld [.int .i64 0,.int .i64 0] [(0,(.t 13)),(1,(.t 15))]),L 17 4 3,p (.eS (.bg [(.i .i64),(.i .i64)]) (.t 11) (.t 16) (.t 17))]
def Mk:=some [[],[0],[1],[2],[],[4],[],[6],[5,7],[],[3,8,9,0,1,2,3,4,5,6,7,8,9]]
def u5:bp:=(s (r Pf) (s (r BG) (.cw Mk Pg)))
def D0:List bK:=[]
theorem AJ:ct Tryz.prog Tryz.f132 u5:=e (by kernel_rfl)
theorem K8:cn Tryz.prog Tryz.f132 D0:=e (by kernel_rfl)
theorem Ap:cd Tryz.prog 132:=e (by kernel_rfl)
def Pv:=[b 3 1,o 4 (.mv (.c (.nilp)))]
def Pw:=[m 8 0,o 9 (.nilC (.t 8)),f 10 2 2 9,l 11 10,f 12 3 3 3,l 13 12,o 14 (.lk (.i .i64) (.nilp) true (.t 11) (.t 13)),m 7 14,o 15 (.ext (.t 7) 0),o 16 (.ext (.t 7) 1),m 5 15,m 6 16]
def Mn:=some [[],[0],[1],[2],[],[4],[3,5],[6],[7],[7],[8,0,1,2,3,4,5,6,7,8],[9,10,0,1,2,3,4,5,6,7,8,9,10]]
def nM:=[m 17 6,m 18 17,cN 19 5 18,bV 20 (.nilC (.t 19)) 18,dV 21 1 1 20 18,dN 22 21 18,dV 23 2 2 3 18,dN 24 23 18,bV 25 (.bin .eql (.t 22) (.t 24)) 18,and 26 18 25,m 27 26,cN 28 5 27,bV 29 (.nilC (.t 28)) 27,dV 30 2 2 29 27,dN 31 30 27,dV 32 1 1 3 27,dN 33 32 27,bV 34 (.bin .eql (.t 31) (.t 33)) 27,and 35 27 34,o 36 (.call 114 [.t 35])]
def Mo:=some [[],[0],[1],[2,1],[3,1],[4,1],[1],[6,1],[5,7,1],[1,8],[9,1],[10],[11,10],[12,10],[13,10],[10],[15,10],[14,16,10],[10,17],[18,10]]
def Px:=[m 37 5,m 4 37]
def u6:bp:=(s (r Pv) (s (.cw Mn Pw) (s (.cw Mo nM) (s (r Px) .ret))))
def D6:List bK:=[.tmp 4]
theorem AK:ct Tryz.prog Tryz.f151 u6:=e (by kernel_rfl)
theorem La:cn Tryz.prog Tryz.f151 D6:=e (by kernel_rfl)
theorem Aq:cd Tryz.prog 151:=e (by kernel_rfl)
def Py:=[b 3 1,o 4 (.mv bC)]
def Pz:=[m 8 0,o 9 (.nilC (.t 8)),f 10 4 4 9,l 11 10,f 12 2 2 3,l 13 12,f 14 3 3 3,l 15 14,o 16 (.bld [.int .i64 0,.int .i64 0] [(0,(.t 13)),(1,(.t 15))]),o 17 (.lk (.bg [(.i .i64),(.i .i64)]) (.agg [.int .i64 0,.int .i64 0,.int .i64 0,.int .i64 0]) true (.t 11) (.t 16)),m 7 17,o 18 (.ext (.t 7) 0),o 19 (.ext (.t 7) 1),o 5 (.alloc (.agg [.int .i64 0,.int .i64 0,.int .i64 0,.int .i64 0])),p (.bg (some 4) (.t 5) (.t 18)),m 6 19]
def Mp:=some [[],[0],[1],[2],[],[4],[],[6],[5,7],[3,8],[9],[10],[10],[],[13,11,0,1,2,3,4,5,6,7,8,9,10,11,13],[12,14,0,1,2,3,4,5,6,7,8,9,10,11,12,13,14]]
def PA:=[f 20 2 2 3,l 21 20,m 22 0,o 23 (.nilC (.t 22)),f 24 0 0 23,l 25 24,o 26 (.bin .neq (.t 21) (.t 25)),m 27 26,cN 28 6 27,bV 29 (.un .not (.t 28)) 27,and 30 27 29,m 4 30]
def Mq:=some [[],[0],[],[2],[3],[4],[1,5],[6],[7],[8,7],[7,9],[10,7,0,1,2,3,4,5,6,7,8,9,10]]
def zg:bp:=(s (r Py) (s (.cw Mp Pz) (s (.cw Mq PA) .ret)))
def D7:List bK:=[.tmp 4]
theorem JQ:ct Tryz.prog Tryz.f152 zg:=e (by kernel_rfl)
theorem Lb:cn Tryz.prog Tryz.f152 D7:=e (by kernel_rfl)
theorem IK:cd Tryz.prog 152:=e (by kernel_rfl)
end Go.Proofs.YthbdbocionnfgaaGreatDoor
namespace Go.Abs
open Go Go.RowKit
open Enc (enc)
def ay(x:I)(p q:Prop):Prop:=match x with
 | .bool t=>(t=true→p)∧(t=false→q)
 |_=>False
theorem ae.iG{c:cV}{A:ai}{Q:Exit→ai→Prop}{b:aO}{x y:bp}(h:ay (ak A b) (ae c x Q A) (ae c y Q A)):ae c (.cond b x y) Q A:=by
 generalize hb:ak A b=v at h;unfold ay at h;split at h
 ·exact ae.cond hb h.1 h.2
 ·exact h.elim
def oi(r:I):Option (List I)→Prop
 |some xs=>jX xs=r
 |none=>False
theorem ZK(rs:List bK)(r:I)(A:ai):ku rs r .ret A=oi r (e9 A rs):=by
 simp only[ku,oi];cases e9 A rs <;>simp
theorem ZJ(rs:List bK)(r:I)(A:ai):ku rs r .normal A=oi r (e9 A rs):=by
 simp only[ku,oi];cases e9 A rs <;>simp
def rI(s:Option Nat)(A:ai):Option I→Option I
 |some x=>if b8 s x=true then bj true A x else none
 |none=>none
def kb:Option I→Option (List I)→Option (List I)
 |some x,some xs=>some (x::xs)
 |_,_=>none
theorem ZD(A:ai):e9 A []=some []:=rfl
theorem ZE(A:ai)(t:Nat)(rs:List bK):e9 A (.tmp t::rs)=kb (bj true A (A.t t)) (e9 A rs):=by
 simp only[e9,tQ];cases bj true A (A.t t) <;>cases e9 A rs <;>rfl
theorem ZC(A:ai)(a:Nat)(s:Option Nat)(rs:List bK):e9 A (.cell a s::rs)=kb (rI s A (gQ A (A.t a))) (e9 A rs):=by
 simp only[e9,tQ,lL];cases gQ A (A.t a) with
 |none=>cases e9 A rs <;>rfl
 |some x =>
  by_cases h:b8 s x=true
  ·simp only[rI,if_pos h];cases bj true A x <;>cases e9 A rs <;>rfl
  ·simp only[rI,if_neg h];cases e9 A rs <;>rfl
def sQ(aL:Bool)(A:ai):Option I→Option I
 |some x=>if x.bx=true then some (.ref x) else (cX A 9 x).map .ref
 |none=>none
theorem NI(A:ai)(n:Nat)(p:List Nat):bj true A (.ptr n p)=sQ true A (fm p (A.o n)):=by
 simp only[bj,lL,gQ,if_true,sQ];cases fm p (A.o n) <;>rfl
open Classical in
noncomputable def kj(sz lo k:Nat):Option (List I)→Option I
 |some fs=>if I.ca ((fs.drop lo).take k)=true then some (.slice sz ((fs.drop lo).take k)) else none
 |none=>none
theorem vO(A:ai)(n:Nat)(p:List Nat)(sz lo k:Nat):bj true A (.view n p sz lo k)=kj sz lo k (fC (fm p (A.o n))):=by
 simp only[bj,lL,gQ,if_true];cases fm p (A.o n) with
 |none=>rfl
 |some c=>cases c <;>simp only[fC,I.dH,kj] <;>(split <;>simp_all)
open Classical in
noncomputable def ki(k:Nat):Option aq→Option I
 |some (.bW _ sz es)=>if k=es.length∧I.ca es=true then some (.slice sz es) else none
 |_=>none
theorem NH(aL:Bool)(A:ai)(n k:Nat):bj aL A (.own n k)=ki k (A.o n):=by
 simp only[bj];cases A.o n with
 |none=>rfl
 |some y=>cases y <;>simp only[ki] <;>(split <;>simp_all)
theorem vN(aL:Bool)(A:ai)(fs:List I):bj aL A (.agg fs)=(bY aL A fs).map .agg:=by simp only[bj]
theorem NC(aL:Bool)(A:ai)(f:FuncId)(fs:List I):bj aL A (.func f fs)=if f<1000000 then (bY aL A fs).map (.func f) else some .any:=by simp only[bj]
theorem ND(aL:Bool)(A:ai)(k:IntKind)(n:Int):bj aL A (.int k n)=some (.int k n):=by simp only[bj]
theorem NB(aL:Bool)(A:ai)(n:Bool):bj aL A (.bool n)=some (.bool n):=by simp only[bj]
theorem NL(aL:Bool)(A:ai)(n:ByteArray):bj aL A (.bQ n)=some (.bQ n):=by simp only[bj]
theorem NG(aL:Bool)(A:ai)(n:Nat):bj aL A (.nils n)=some (.slice n []):=by simp only[bj]
theorem NK(aL:Bool)(A:ai)(n:Nat)(es:List I):bj aL A (.slice n es)=if I.ca es=true then some (.slice n es) else none:=by simp only[bj]
theorem NJ(aL:Bool)(A:ai)(x:I):bj aL A (.ref x)=if x.bx=true then some (.ref x) else none:=by simp only[bj]
theorem vQ(aL:Bool)(A:ai):bY aL A []=some []:=by simp only[bY]
theorem vP(aL:Bool)(A:ai)(x:I)(xs:List I):bY aL A (x::xs)=kb (bj aL A x) (bY aL A xs):=by
 simp only[bY];cases bj aL A x <;>cases bY aL A xs <;>rfl
theorem KF(fs:List I):(I.agg fs).bx=I.ca fs:=by simp only[I.bx]
theorem KK(n:Nat)(fs:List I):(I.slice n fs).bx=I.ca fs:=by simp only[I.bx]
theorem KJ(x:I):(I.ref x).bx=x.bx:=by simp only[I.bx]
theorem KI(k:IntKind)(n:Int):(I.int k n).bx=true:=by simp only[I.bx]
theorem KG(n:Bool):(I.bool n).bx=true:=by simp only[I.bx]
theorem KL(n:ByteArray):(I.bQ n).bx=true:=by simp only[I.bx]
theorem KH(f:FuncId)(fs:List I):(I.func f fs).bx=I.ca fs:=by simp only[I.bx]
theorem KN:I.ca []=true:=by simp only[I.ca]
theorem KM(x:I)(xs:List I):I.ca (x::xs)=(x.bx&&I.ca xs):=by simp only[I.ca]
theorem HZ(k:IntKind)(a b:Int):cE .add (.int k a) (.int k b)=some (.int k (k.wrap (a+b))):=by simp[cE]
theorem Ih(k:IntKind)(a b:Int):cE .sub (.int k a) (.int k b)=some (.int k (k.wrap (a-b))):=by simp[cE]
theorem H8(k:IntKind)(a b:Int):cE .mul (.int k a) (.int k b)=some (.int k (k.wrap (a*b))):=by simp[cE]
theorem Ic(k:IntKind)(a b:Int):cE .quo (.int k a) (.int k b)=if b=0 then none else some (.int k (k.wrap (a.tdiv b))):=by simp[cE]
theorem Ie(k:IntKind)(a b:Int):cE .rem (.int k a) (.int k b)=if b=0 then none else some (.int k (a.tmod b)):=by simp[cE]
theorem H0(k:IntKind)(a b:Int):cE .and (.int k a) (.int k b)=some (.int k (k.wrap ((BitVec.ofInt k.bits a &&& BitVec.ofInt k.bits b).toNat:Int))):=by simp[cE]
theorem Ib(k:IntKind)(a b:Int):cE .or (.int k a) (.int k b)=some (.int k (k.wrap ((BitVec.ofInt k.bits a ||| BitVec.ofInt k.bits b).toNat:Int))):=by simp[cE]
theorem Ii(k:IntKind)(a b:Int):cE .xor (.int k a) (.int k b)=some (.int k (k.wrap ((BitVec.ofInt k.bits a ^^^ BitVec.ofInt k.bits b).toNat:Int))):=by simp[cE]
theorem H2(k:IntKind)(a b:Int):cE .andNot (.int k a) (.int k b)=some (.int k (k.wrap ((BitVec.ofInt k.bits a &&& ~~~ BitVec.ofInt k.bits b).toNat:Int))):=by simp[cE]
theorem If(k k':IntKind)(a b:Int):cE .shl (.int k a) (.int k' b)=if 0≤b then some (.int k (k.wrap (a*2^(min b.toNat k.bits)))) else none:=by simp[cE]
theorem Ig(k k':IntKind)(a b:Int):cE .shr (.int k a) (.int k' b)=if 0≤b then some (.int k (a.fdiv (2^(min b.toNat k.bits)))) else none:=by simp[cE]
theorem H3(k:IntKind)(a b:Int):cE .eql (.int k a) (.int k b)=some (.bool (a==b)):=by simp[cE]
theorem H9(k:IntKind)(a b:Int):cE .neq (.int k a) (.int k b)=some (.bool (a != b)):=by simp[cE]
theorem H7(k:IntKind)(a b:Int):cE .lss (.int k a) (.int k b)=some (.bool (decide (a<b))):=by simp[cE]
theorem H6(k:IntKind)(a b:Int):cE .leq (.int k a) (.int k b)=some (.bool (decide (a≤b))):=by simp[cE]
theorem H5(k:IntKind)(a b:Int):cE .gtr (.int k a) (.int k b)=some (.bool (decide (b<a))):=by simp[cE]
theorem H4(k:IntKind)(a b:Int):cE .geq (.int k a) (.int k b)=some (.bool (decide (b≤a))):=by simp[cE]
theorem yD :
  (∀ ts os d v,(au ts os).put d v=au ((d,v)::ts) os)∧(∀ ts os d v,(au ts os).aS (some d) v=au ((d,v)::ts) os)∧(∀ (A:ai) v,A.aS none v=A) ∧
  (∀ ts os d x,(au ts os).aT d x=au ts ((d,x)::os))∧(∀ ts os k,(au ts os).t k=bZ ts k)∧(∀ ts os k,(au ts os).o k=aj os k) ∧
  (∀ j v r k,bZ ((j,v)::r) k=if k=j then v else bZ r k)∧(∀ j v r k,aj ((j,v)::r) k=if k=j then some v else aj r k)∧(∀ k,aj [] k=none) ∧
  (∀ A k,ak A (.t k)=A.t k)∧(∀ A x,ak A (.c x)=x)∧(∀ d rest A v,de d rest A v=aB rest (A.aS d v))∧(∀ v k,cS (some v) k=k v)∧(∀ A,aB [] A=.done A) :=
 ⟨tn,CV,XY,qZ,XZ,XX,cu,dE,nS,Nc,Nb,Xt,Ij,HC⟩
theorem Dk :
  (∀ d rest A op,aB (⟨d,op,none⟩::rest) A=bL A d op rest)∧(∀ d rest A op t b,aB (⟨d,op,some (t,b)⟩::rest) A=gS (A.t t) b d op rest A) ∧
  (∀ d rest A op,gS (.bool true) true d op rest A=bL A d op rest)∧(∀ d rest A op,gS (.bool false) false d op rest A=bL A d op rest) ∧
  (∀ d rest A op,gS (.bool true) false d op rest A=aB rest (A.aS d .undef))∧(∀ d rest A op,gS (.bool false) true d op rest A=aB rest (A.aS d .undef))∧(∀ d rest A op b,gS .undef b d op rest A=aB rest (A.aS d .undef)) ∧
  (∀ d rest A x,bL A d (.mv x) rest=aB rest (A.aS d (ak A x)))∧(∀ d rest A c a b,bL A d (.pick c a b) rest=rq A d a b rest (ak A c)) ∧
  (∀ A d a b rest,rq A d a b rest (.bool true)=aB rest (A.aS d (ak A a)))∧(∀ A d a b rest,rq A d a b rest (.bool false)=aB rest (A.aS d (ak A b))) ∧
  (∀ d rest A op x y,bL A d (.bin op x y) rest=cS (cE op (ak A x) (ak A y)) (de d rest A)) ∧
  (∀ d rest A ty neg x y,bL A d (.eqv ty neg x y) rest=cS ((b7 ty (ak A x) (ak A y)).map fun b=>.bool (if neg then !b else b)) (de d rest A)) ∧
  (∀ d rest A op x,bL A d (.un op x) rest=cS (rY op (ak A x)) (de d rest A))∧(∀ b,rY .not (.bool b)=some (.bool !b))∧(∀ k n,rY .neg (.int k n)=some (.int k (k.wrap (0-n))))∧(∀ k n,rY .xor (.int k n)=some (.int k (oV k n))) ∧
  (∀ d rest A k x,bL A d (.conv k x) rest=cS (vl k (ak A x)) (de d rest A))∧(∀ k k' n,vl k (.int k' n)=some (.int k (k.wrap n))) ∧
  (∀ d rest A s x,bL A d (.ld s x) rest=cS (nY s (gQ A (ak A x))) (de d rest A))∧(∀ d rest A f off x,bL A d (.fa f off x) rest=cS (jg A f off (ak A x)) (de d rest A)) ∧
  (∀ d rest A f off s x,bL A d (.fl f off s x) rest=cS (kl f off s (ak A x).dH) (de d rest A))∧(∀ d rest A n esz x i,bL A d (.ia n esz x i) rest=cS (qF A n esz (ak A x) (ak A i)) (de d rest A)) ∧
  (∀ d rest A esz x i,bL A d (.is esz x i) rest=cS (qI A esz (ak A x) (ak A i)) (de d rest A))∧(∀ d rest A n esz s x i,bL A d (.ix n esz s x i) rest=cS (qL n esz s (ak A x) (ak A i)) (de d rest A)) ∧
  (∀ d rest A x,bL A d (.len x) rest=cS (jB A (ak A x)) (de d rest A))∧(∀ d rest A n esz x,bL A d (.va n esz x) rest=cS (oF A n esz (ak A x)) (de d rest A)) ∧
  (∀ d rest A zs ps,bL A d (.bld zs ps) rest=cS ((dO zs (ps.map fun p=>(p.1,ak A p.2))).map .agg) (de d rest A))∧(∀ d rest A x i,bL A d (.ext x i) rest=cS (vE i (ak A x)) (de d rest A))∧(∀ i fs,vE i (.tuple fs)=fs[i]?) ∧
  (∀ d rest A f caps,bL A d (.mk f caps) rest=cS (if ((caps.map (ak A)).all fun y=>y.bS)=true then some (.func f (caps.map (ak A))) else none) (de d rest A)) ∧
  (∀ rest A d z,bL A (some d) (.alloc z) rest=uM A d z rest (A.o d))∧(∀ A d z rest,uM A d z rest none=aB rest ((A.aT d (.box z)).put d (.ptr d []))) ∧
  (∀ rest A d x,bL A (some d) (.box x) rest=sF A d (ak A x) rest (A.o d))∧(∀ A d z rest,sF A d z rest none=sG A d z rest z.bS)∧(∀ A d z rest,sG A d z rest true=aB rest ((A.aT d (.box z)).put d (.ptr d []))) ∧
  (∀ rest A s x v,bL A none (.bg s x v) rest=dB A s (ak A v) rest (ak A x))∧(∀ A s v rest n p,dB A s v rest (.ptr n p)=ua A s n p v rest (A.o n))∧(∀ A s n p v rest b,ua A s n p v rest (some (.box b))=dk A s n p b v rest (b.at p)) ∧
  (∀ d rest A f args,bL A d (.call f args) rest=.call f (args.map (ak A)) (bY true A (args.map (ak A))) (bY false A (args.map (ak A))) d rest A) ∧
  (∀ d rest A x args,bL A d (.fA x args) rest=qh A d (args.map (ak A)) rest (ak A x))∧(∀ A d args rest f caps,qh A d args rest (.func f caps)=if f<1000000 then .call f (args++caps) (bY true A (args++caps)) (bY false A (args++caps)) d rest A else .call (kU f) (caps++args) (bY true A (caps++args)) (bY false A (caps++args)) d rest A) :=
 ⟨Ho,Hp,Wy,Wv,Wx,Ww,Wz,YC,YG,fun _ _ _ _ _=>rfl,fun _ _ _ _ _=>rfl,Yd,Ym,YL,fun _=>rfl,fun _ _=>rfl,fun _ _=>rfl,Yk,fun _ _ _=>rfl,Yt,Yo,Yp,Yq,Yr,Ys,Yu,YM,Ye,Yn,fun _ _=>rfl,Yy,
  Yb,fun _ _ _ _=>rfl,Yf,fun _ _ _ _=>rfl,fun _ _ _ _=>rfl,YK,fun _ _ _ _ _ _=>rfl,fun _ _ _ _ _ _ _=>rfl,Yh,Yi,fun A d args rest f caps=>by
   simp only[qh];split
   ·rename_i h;rw[vH h,vG h]
   ·rename_i h;simp only[ib,if_neg h]⟩
theorem dK{A:ai}{s:Option Nat}{n:Nat}{p:List Nat}{b v old:I}{rest:List aI}(J:v.bS=true)(U:b8 s v=true)(ah:v.aX=old.aX):dk A s n p b v rest (some old)=aB rest (A.aT n (.box (b.ep p v))):=by
 simp only[dk];rw[if_pos ⟨J,U,ah⟩]
theorem F4 :
  (∀ A x,gQ A (.ref x)=some x)∧(∀ A n p,gQ A (.ptr n p)=fm p (A.o n))∧(∀ p c,fm p (some (.box c))=c.at p)∧(∀ c:I,c.at []=some c)∧(∀ (c:I) i p,c.at (i::p)=kL i p c.dH) ∧
  (∀ i p fs,kL i p (some fs)=nx p fs[i]?)∧(∀ p f,nx p (some f)=f.at p)∧(∀ c v:I,c.ep [] v=v)∧(∀ (c:I) i p v,c.ep (i::p) v=tU c i p v c.dH)∧(∀ c i p v fs,tU c i p v (some fs)=xQ fs i p v fs[i]?) ∧
  (∀ fs i p v f,xQ fs i p v (some f)=.agg (fs.set i (f.ep p v)))∧(∀ fs,(I.agg fs).dH=some fs)∧(∀ x:I,fC (some x)=x.dH) ∧
  (∀ s x,nY s (some x)=if b8 s x=true then some x else none) ∧
  (∀ A f off c,jg A f off (.ref c)=qt f off c.dH)∧(∀ A f off n p,jg A f off (.ptr n p)=qp n p f off (fC (fm p (A.o n))))∧(∀ f off fs,qt f off (some fs)=o6 fs f off fs[f]?)∧(∀ fs f off v,o6 fs f off (some v)=db fs f off (.ref v)) ∧
  (∀ n p f off fs,qp n p f off (some fs)=db fs f off (.ptr n (p++[f])))∧(∀ A n esz x kk k,qF A n esz x (.int kk k)=nN A n esz k x)∧(∀ A n esz k c,nN A n esz k (.ref c)=lT k n (s8 n esz k c.dH)) ∧
  (∀ A n esz k m p,nN A n esz k (.ptr m p)=lT k n (qG n esz m p k (fC (fm p (A.o m)))))∧(∀ n esz k fs,s8 n esz k (some fs)=lS n esz fs ((fs[k.toNat]?).map .ref))∧(∀ n esz m p k fs,qG n esz m p k (some fs)=lS n esz fs (some (.ptr m (p++[k.toNat])))) ∧
  (∀ A esz x kk k,qI A esz x (.int kk k)=jS A esz k x)∧(∀ n esz s x kk k,qL n esz s x (.int kk k)=tc n esz s k x.dH)∧(∀ n esz s k fs,tc n esz s k (some fs)=lT k n (lS n esz fs (nY s fs[k.toNat]?))) ∧
  (∀ A n esz m p,oF A n esz (.ptr m p)=r2 n esz m p (fC (fm p (A.o m))))∧(∀ n esz m p fs,r2 n esz m p (some fs)=r0 n esz fs (.view m p esz 0 n)) ∧
  (∀ A sz es,jB A (.slice sz es)=some (.int .i64 es.length))∧(∀ A n,jB A (.nils n)=some (.int .i64 0))∧(∀ A n,jB A (.c0 n)=some (.int .i64 0)) :=
 ⟨fun _ _=>rfl,fun _ _ _=>rfl,fun _ _=>rfl,yM,HR,fun _ _ _=>rfl,fun _ _=>rfl,nd,ZZ,fun _ _ _ _ _=>rfl,fun _ _ _ _ _=>rfl,fun _=>rfl,fun _=>rfl,fun _ _=>rfl,fun _ _ _ _=>rfl,fun _ _ _ _ _=>rfl,fun _ _ _=>rfl,fun _ _ _ _=>rfl,
  fun _ _ _ _ _=>rfl,fun _ _ _ _ _ _=>rfl,fun _ _ _ _ _=>rfl,fun _ _ _ _ _ _=>rfl,fun _ _ _ _=>rfl,fun _ _ _ _ _ _=>rfl,fun _ _ _ _ _=>rfl,fun _ _ _ _ _ _=>rfl,fun _ _ _ _ _=>rfl,fun _ _ _ _ _=>rfl,fun _ _ _ _ _=>rfl,fun _ _ _=>rfl,fun _ _=>rfl,fun _ _=>rfl⟩
theorem Bn :
  (∀ A n p,bj true A (.ptr n p)=sQ true A (fm p (A.o n)))∧(∀ A x,sQ true A (some x)=if x.bx=true then some (.ref x) else (cX A 9 x).map .ref)∧(∀ A n p sz lo k,bj true A (.view n p sz lo k)=kj sz lo k (fC (fm p (A.o n)))) ∧
  (∀ A n p,bj false A (.ptr n p)=none)∧(∀ A n p sz lo k,bj false A (.view n p sz lo k)=none)∧(∀ x,kb none x=none)∧(∀ x,kb x none=none) ∧
  (∀ aL A n k,bj aL A (.own n k)=ki k (A.o n))∧(∀ aL A fs,bj aL A (.agg fs)=(bY aL A fs).map .agg)∧(∀ aL A f fs,bj aL A (.func f fs)=if f<1000000 then (bY aL A fs).map (.func f) else some .any)∧(∀ aL A k n,bj aL A (.int k n)=some (.int k n))∧(∀ aL A b,bj aL A (.bool b)=some (.bool b)) ∧
  (∀ aL A s,bj aL A (.bQ s)=some (.bQ s))∧(∀ aL A n,bj aL A (.nils n)=some (.slice n []))∧(∀ aL A n es,bj aL A (.slice n es)=if I.ca es=true then some (.slice n es) else none)∧(∀ aL A x,bj aL A (.ref x)=if x.bx=true then some (.ref x) else none) ∧
  (∀ aL A,bY aL A []=some [])∧(∀ aL A x xs,bY aL A (x::xs)=kb (bj aL A x) (bY aL A xs))∧(∀ x xs,kb (some x) (some xs)=some (x::xs)) ∧
  (∀ fs,(I.agg fs).bx=I.ca fs)∧(∀ n fs,(I.slice n fs).bx=I.ca fs)∧(∀ x,(I.ref x).bx=x.bx)∧(∀ k n,(I.int k n).bx=true)∧(∀ n,(I.bool n).bx=true)∧(∀ n,(I.bQ n).bx=true)∧(∀ f fs,(I.func f fs).bx=I.ca fs) ∧
  I.ca []=true∧(∀ x xs,I.ca (x::xs)=(x.bx&&I.ca xs)) ∧
  (∀ rs r A,ku rs r .ret A=oi r (e9 A rs))∧(∀ rs r A,ku rs r .normal A=oi r (e9 A rs))∧(∀ r xs,oi r (some xs)=(jX xs=r))∧(∀ A,e9 A []=some [])∧(∀ A t rs,e9 A (.tmp t::rs)=kb (bj true A (A.t t)) (e9 A rs)) ∧
  (∀ A a s rs,e9 A (.cell a s::rs)=kb (rI s A (gQ A (A.t a))) (e9 A rs))∧(∀ s A x,rI s A (some x)=if b8 s x=true then bj true A x else none)∧(∀ x,jX [x]=x)∧(∀ x y xs,jX (x::y::xs)=.tuple (x::y::xs)) :=
 ⟨NI,fun _ _=>rfl,vO,fun _ _ _=>rfl,fun _ _ _ _ _ _=>rfl,fun _=>rfl,fun x=>by cases x <;>rfl,NH,vN,NC,ND,NB,NL,NG,NK,NJ,vQ,vP,fun _ _=>rfl,KF,KK,KJ,KI,KG,KL,KH,KN,KM,
  ZK,ZJ,fun _ _=>rfl,ZD,ZE,ZC,fun _ _ _=>rfl,fun _=>rfl,fun _ _ _=>rfl⟩
theorem yR :
  (∀ k a b,cE .add (.int k a) (.int k b)=some (.int k (k.wrap (a+b))))∧(∀ k a b,cE .sub (.int k a) (.int k b)=some (.int k (k.wrap (a-b))))∧(∀ k a b,cE .mul (.int k a) (.int k b)=some (.int k (k.wrap (a*b)))) ∧
  (∀ k a b,cE .quo (.int k a) (.int k b)=if b=0 then none else some (.int k (k.wrap (a.tdiv b))))∧(∀ k a b,cE .rem (.int k a) (.int k b)=if b=0 then none else some (.int k (a.tmod b))) ∧
  (∀ k a b,cE .and (.int k a) (.int k b)=some (.int k (k.wrap ((BitVec.ofInt k.bits a &&& BitVec.ofInt k.bits b).toNat:Int))))∧(∀ k a b,cE .or (.int k a) (.int k b)=some (.int k (k.wrap ((BitVec.ofInt k.bits a ||| BitVec.ofInt k.bits b).toNat:Int)))) ∧
  (∀ k a b,cE .xor (.int k a) (.int k b)=some (.int k (k.wrap ((BitVec.ofInt k.bits a ^^^ BitVec.ofInt k.bits b).toNat:Int))))∧(∀ k a b,cE .andNot (.int k a) (.int k b)=some (.int k (k.wrap ((BitVec.ofInt k.bits a &&& ~~~ BitVec.ofInt k.bits b).toNat:Int)))) ∧
  (∀ k k' a b,cE .shl (.int k a) (.int k' b)=if 0≤b then some (.int k (k.wrap (a*2^(min b.toNat k.bits)))) else none)∧(∀ k k' a b,cE .shr (.int k a) (.int k' b)=if 0≤b then some (.int k (a.fdiv (2^(min b.toNat k.bits)))) else none) ∧
  (∀ k a b,cE .eql (.int k a) (.int k b)=some (.bool (a==b)))∧(∀ k a b,cE .neq (.int k a) (.int k b)=some (.bool (a != b)))∧(∀ k a b,cE .lss (.int k a) (.int k b)=some (.bool (decide (a<b))))∧(∀ k a b,cE .leq (.int k a) (.int k b)=some (.bool (decide (a≤b)))) ∧
  (∀ k a b,cE .gtr (.int k a) (.int k b)=some (.bool (decide (b<a))))∧(∀ k a b,cE .geq (.int k a) (.int k b)=some (.bool (decide (b≤a)))) :=
 ⟨HZ,Ih,H8,Ic,Ie,H0,Ib,Ii,H2,If,Ig,H3,H9,H7,H6,H5,H4⟩
end Go.Abs
namespace Go.Abs
open Go Go.RowKit
open Enc (enc)
section
variable {α:Type} [Enc α]
theorem XD(A:ai)(l:List α):jB A (enc l)=some (.int .i64 l.length):=by simp[hs,jB]
theorem Xg{A:ai}(esz:Nat){k:Int}{l:List α}(h:0≤k∧k.toNat<l.length)(ab:Enc.sz α=esz):jS A esz k (enc l)=some (.ref (enc l[k.toNat])):=by
 simp only[hs,jS,ab,zz8,true_and];rw[if_pos ⟨h.1,by omega⟩];simp[h.2]
theorem eM{A:ai}(esz:Nat){k:Nat}{l:List α}(h:k<l.length)(ab:Enc.sz α=esz):jS A esz k (enc l)=some (.ref (enc l[k])):=by
 have:=Xg (A:=A) esz (k:=(k:Int)) (l:=l) ⟨by omega,by simpa using h⟩ ab;simpa using this
end
mutual
/-- What every value in memory keeps to: whole numbers within their kind,slices no longer than a slice can be. -/
def I.wf:I→Prop
 | .agg fs=>I.gl fs
 | .int k n=>k.min≤n∧n≤k.max
 | .bQ s=>s.size≤maxLen
 | .slice _ es=>es.length≤maxLen∧I.gl es
 | .ref c=>c.wf
 | .func _ caps=>I.gl caps
 | .iface _ v=>v.wf
 |_=>True
def I.gl:List I→Prop
 | []=>True
 |x::xs=>x.wf∧I.gl xs
end
mutual
theorem tL{w:World}{D:aP}{E:a8} : ∀ (x:I) (cs:List Value),al w D E x cs→x.wf
 | .agg fs,cs,h=>by simp only[al,I.wf] at *;exact xu fs cs h
 | .int k n,cs,h=>by simp only[al,I.wf] at *;exact h.2
 | .bQ s,cs,h=>by simp only[al,I.wf] at *;exact h.2
 | .slice sz es,cs,h=>by
  simp only[al,I.wf] at *;obtain ⟨a,cap,_,J,U,ah,_⟩:=h;refine ⟨by omega,?_⟩;rcases ah with rfl | ⟨b,off,cs',_,_,ar⟩
  ·simp[I.gl]
  ·exact xu es cs' ar
 | .ref c,cs,h=>by simp only[al,I.wf] at *;obtain ⟨b,off,cs',_,_,h⟩:=h;exact tL c cs' h
 | .func f caps,cs,h=>by simp only[al,I.wf] at *;obtain ⟨vs,_,h⟩:=h;exact pV caps vs h
 | .iface t v,cs,h=>by simp only[al,I.wf] at *;obtain ⟨u,cs',_,_,h⟩:=h;exact tL v cs' h
 | .bool _,_,_ | .nilp,_,_ | .dy,_,_ | .dW,_,_ | .any,_,_ | .raw _,_,_ | .nils _,_,_ | .c0 _,_,_ | .ptr _ _,_,_ | .own _ _,_,_ | .view _ _ _ _ _,_,_ | .mref _,_,_ | .dj _,_,_ | .df _ _,_,_ | .undef,_,_ | .du,_,_ | .tuple _,_,_=>by simp[I.wf]
theorem xu{w:World}{D:aP}{E:a8} : ∀ (xs:List I) (cs:List Value),aN w D E xs cs→I.gl xs
 | [],_,_=>by simp[I.gl]
 |x::xs,cs,h=>by
  simp only[aN,I.gl] at *;obtain ⟨c1,c2,_,J,U⟩:=h;exact ⟨tL x c1 J,xu xs c2 U⟩
theorem pV{w:World}{D:aP}{E:a8} : ∀ (xs:List I) (vs:List Value),aJ w D E xs vs→I.gl xs
 | [],_,_=>by simp[I.gl]
 |x::xs,vs,h=>by
  simp only[aJ,I.gl] at *;obtain ⟨v,rest,cs,_,_,J,U⟩:=h;exact ⟨tL x cs J,pV xs rest U⟩
end
theorem aaC{α:Type}[Enc α](l:List α):I.gl (l.map enc)↔∀ x∈l,(enc x:I).wf:=by
 induction l with
 |nil=>simp[I.gl]
 |cons x l ih=>simp[I.gl,ih]
theorem mA{α:Type}[Enc α](l:List α):(enc l:I).wf↔l.length≤maxLen∧∀ x∈l,(enc x:I).wf:=by
 simp only[hs,I.wf,zz8,aaC]
theorem aZ.wf{P:Program}{f:FuncId}{args:List I}{r:I}(hc:eZ P f=true)(h:I.gl args→aZ P f args r):aZ P f args r :=
 ⟨hc,fun w D vs ao J U=>(h (pV _ _ U)).2 w D vs ao J U⟩
theorem aZ.b5{P:Program}{f:FuncId}{fn:Func}{x:bp}{rs:List bK}{args:List I}{r:I}(hf:P.funcs[f]?=some fn)(hcall:eZ P f=true)(hc:(fn.body.bind (eA P fn.ntmps))=some x)
  (hrs:gP P fn.results.toList=some rs) (hn:args.length≤fn.ntmps) (h:I.gl args→∀ (w:World) (D:aP) (E:a8),ae ⟨P,w,D,fn.ntmps,cI E,E,dv,none,none⟩ x (ku rs r) (au (bI 0 args) [])):aZ P f args r :=
 aZ.wf hcall fun hw=>aZ.mk hf hcall hc hrs hn (h hw)
theorem kB{α:Type}[Enc α] :
  (∀ A (l:List α),jB A (enc l)=some (.int .i64 l.length))∧(∀ n (x:x5 n α),(enc x).dH=some (x.l.map enc)) :=
 ⟨XD,fun _ _=>rfl⟩
end Go.Abs
namespace Go.Abs
open Go Go.RowKit
open Enc (enc)
def pC(neg:Bool):I→Option I
 | .nils _=>some (.bool (!neg))
 | .slice _ es=>if es.isEmpty then none else some (.bool neg)
 | .view _ _ _ _ _=>some (.bool neg)
 |_=>none
def CC:I→Option I
 | .bQ s=>some (.int .i64 s.size)
 |_=>none
open Classical in
noncomputable def mz(n:Nat)(p:List Nat)(sz l0 k esz:Nat)(lo hi mx:Option I):Option (List I)→Option I
 |some fs=>if sz=esz then ly n p sz l0 k fs.length lo hi mx else none
 |none=>none
noncomputable def j5(A:ai)(esz:Nat)(lo hi mx:Option I):I→Option I
 | .slice sz es=>if sz=esz then iT sz es lo hi mx else none
 | .nils sz=>if sz=esz then iT sz [] lo hi mx else none
 | .c0 sz=>if sz=esz then iT sz [] lo hi mx else none
 | .view n p sz l0 k=>mz n p sz l0 k esz lo hi mx (fC (fm p (A.o n)))
 |_=>none
open Classical in
noncomputable def fg(esz:Nat):Option (List I)→Option I
 |some es=>if (es.all fun e=>e.size==esz)=true∧I.ca es=true then some (.slice esz es) else none
 |none=>none
open Classical in
noncomputable def qd(A:ai)(d:Option Nat)(e esz bytes n l T sz':Nat)(es:List I)(rest:List aI):I→cM
 | .slice sz ys=>if w0 e esz bytes l sz ys T sz' es then aB rest ((A.aT n (.bW e esz (es++ys))).aS d (.own n (es.length+ys.length))) else .fail
 |_=>.fail
open Classical in
noncomputable def oM(A:ai)(d:Option Nat)(e esz bytes:Nat)(z:I)(n l T:Nat)(xs:List Int)(rest:List aI):I→cM
 | .slice _ ys=>if w4 e esz bytes l ys T xs z then aB rest ((A.aT n (.dC e (xs++qH ys))).aS d (.own n (xs.length+ys.length))) else .fail
 |_=>.fail
noncomputable def qb(A:ai)(d:Option Nat)(e esz bytes:Nat)(z:I)(n l:Nat)(x:I)(rest:List aI):Option aq→cM
 |some (.bW T sz' es)=>qd A d e esz bytes n l T sz' es rest x
 |some (.dC T xs)=>oM A d e esz bytes z n l T xs rest x
 |_=>.fail
noncomputable def fK(A:ai)(d:Option Nat)(e esz bytes:Nat)(z x:I)(rest:List aI):I→cM
 | .own n l=>qb A d e esz bytes z n l x rest (A.o n)
 |s=>eY A d esz bytes z s (eH A esz s) (eH A esz x) (aB rest)
section
variable (d:Option Nat) (rest:List aI) (A:ai)
noncomputable def pD(neg:Bool)(x:I):Bool→cM
 |true=>.any (fun m=>m<2) (fun m=>aB rest (A.aS d (.bool (m==0))))
 |false=>cS (pC neg x) (de d rest A)
theorem YE(neg:Bool)(x:aO):bL A d (.nilS neg x) rest=pD d rest A neg (ak A x) (jL (ak A x)):=by
 simp only[bL,bl,bn];cases jL (ak A x)
 ·simp only[zz2,if_false,pD,pC];cases ak A x <;>rfl
 ·rfl
theorem Yv(x:aO):bL A d (.lenT x) rest=cS (CC (ak A x)) (de d rest A):=by
 simp only[bL,bl,bn];cases ak A x <;>rfl
theorem YJ(esz:Nat)(x:aO)(lo hi mx:Option aO):bL A d (.sl esz x lo hi mx) rest=cS (j5 A esz (lo.map (ak A)) (hi.map (ak A)) (mx.map (ak A)) (ak A x)) (de d rest A):=by
 simp only[bL,bl,bn];cases ak A x <;>try rfl
 rename_i n p sz l0 k;simp only[j5,lL,gQ];cases fm p (A.o n) with
 |none=>rfl
 |some c=>cases c <;>simp only[fC,I.dH,mz] <;>(first | rfl | (split <;>rfl))
theorem Yg(T esz:Nat)(ps:List aO):bL A d (.bs T esz ps) rest=cS (fg esz (bY false A (ps.map (ak A)))) (de d rest A):=by
 simp only[bL,bl,bn];cases bY false A (ps.map (ak A)) <;>simp only[fg] <;>rfl
theorem Yc(e esz bytes:Nat)(z:I)(s x:aO):bL A d (.dm e esz bytes z s x) rest=fK A d e esz bytes z (ak A x) rest (ak A s):=by
 simp only[bL,bl];generalize ak A s=s';generalize ak A x=x';cases s' <;>simp only[fK]
 rename_i n l;cases x' <;>simp only <;>generalize A.o n=z <;>(cases z with
  |none=>rfl
  |some y=>cases y <;>simp only[qb,qd,oM])
end
theorem Dl :
  (∀ d rest A neg x,bL A d (.nilS neg x) rest=pD d rest A neg (ak A x) (jL (ak A x)))∧(∀ d rest A neg x,pD d rest A neg x false=cS (pC neg x) (de d rest A))∧(∀ z,jL (.nils z)=false)∧(∀ n p sz lo k,jL (.view n p sz lo k)=false)∧(∀ d rest A x,bL A d (.lenT x) rest=cS (CC (ak A x)) (de d rest A)) ∧
  (∀ d rest A esz x lo hi mx,bL A d (.sl esz x lo hi mx) rest=cS (j5 A esz (lo.map (ak A)) (hi.map (ak A)) (mx.map (ak A)) (ak A x)) (de d rest A)) ∧
  (∀ d rest A T esz ps,bL A d (.bs T esz ps) rest=cS (fg esz (bY false A (ps.map (ak A)))) (de d rest A))∧(∀ d rest A e esz bytes z s x,bL A d (.dm e esz bytes z s x) rest=fK A d e esz bytes z (ak A x) rest (ak A s)) ∧
  (∀ A d e esz bytes z x rest n l,fK A d e esz bytes z x rest (.own n l)=qb A d e esz bytes z n l x rest (A.o n))∧(∀ A d e esz bytes z n l x rest T sz es,qb A d e esz bytes z n l x rest (some (.bW T sz es))=qd A d e esz bytes n l T sz es rest x)∧(∀ A d e esz bytes z n l x rest T xs,qb A d e esz bytes z n l x rest (some (.dC T xs))=oM A d e esz bytes z n l T xs rest x) ∧
  (∀ neg z,pC neg (.nils z)=some (.bool (!neg))) :=
 ⟨YE,fun _ _ _ _ _=>rfl,fun _=>rfl,fun _ _ _ _ _=>rfl,Yv,YJ,Yg,Yc,fun _ _ _ _ _ _ _ _ _ _=>rfl,fun _ _ _ _ _ _ _ _ _ _ _ _ _=>rfl,fun _ _ _ _ _ _ _ _ _ _ _ _=>rfl,fun _ _=>rfl⟩
theorem nZ(p:Nat→Bool)(xs ys:List I):I.cv p (xs++ys)=(I.cv p xs&&I.cv p ys):=by
 induction xs with
 |nil=>simp[I.cv]
 |cons x xs ih=>simp[I.cv,ih,Bool.and_assoc]
section
variable {α:Type} [Enc α]
theorem oN{A:ai}{d:Option Nat}(e:Nat)(esz bytes n:Nat){l:Nat}{es ys:List α}{rest:List aI}(ao:l=es.length)(ab:Enc.sz α=esz)(hy:ys≠[])(J:es.length+ys.length≤maxLen)(U:(es.length+ys.length)*bytes≤140737488355328) :
  qd A d e esz bytes n l e esz (es.map enc) rest (enc ys)=aB rest ((A.aT n (.bW e esz ((es++ys).map enc))).aS d (.own n (es++ys).length)):=by
 simp only[hs,qd];rw[if_pos ⟨by simpa using ao,ab,rfl,rfl,by simpa using hy,by simpa using J,by simpa using U⟩];simp
theorem qg(esz:Nat){ys:List α}(ab:Enc.sz α=esz):fg esz (some (ys.map enc))=some (enc ys):=by
 have J:((ys.map enc).all fun e:I=>e.size==esz)=true:=by
  simp only[zx0,zx1];rintro x ⟨y,_,rfl⟩;simp[Enc.size,ab]
 simp only[fg,hs];rw[if_pos ⟨J,iB ys⟩,ab]
theorem iy(esz:Nat)(y:α)(ab:Enc.sz α=esz):fg esz (some [enc y])=some (enc [y]):=qg (ys:=[y]) esz ab
theorem o7(sz:Nat){T k:Nat}{es:List α}(hk:k=es.length)(ab:Enc.sz α=sz):ki k (some (.bW T sz (es.map enc)))=some (enc es):=by
 simp only[ki,zz8];rw[if_pos ⟨hk,iB es⟩,hs,ab]
theorem fR(p:Nat→Bool)(l:List α):I.cv p (l.map enc)=true:=by
 induction l with
 |nil=>rfl
 |cons x l ih=>simp only[zz3,I.cv,cA,ih,Bool.and_self]
theorem XE(A:ai)(n k T sz:Nat)(es:List α)(ho:A.o n=some (.bW T sz (es.map enc)))(hk:k=es.length):jB A (.own n k)=some (.int .i64 es.length):=by
 simp only[jB,ho,zz8,hk,if_true]
end
theorem Cj :
  (∀ n:Int,fg 1 (some [.int .i64 n])=some (enc [n]))∧(∀ (T:Nat) (es:List Int),ki es.length (some (.bW T 1 (es.map enc)))=some (enc es)) :=
 ⟨fun n=>iy 1 n rfl,fun _ _=>o7 1 rfl rfl⟩
theorem bw.Hr{A:ai}{d n T sz z:Nat}(af:A.t d=.nils z)(hn:A.o n=none)(hlt:n<1000000):bw A ((A.aT n (.bW T sz [])).put d (.own n 0)):=by
 rintro c a w ⟨D,E,h⟩;have aA:E n=none:=by have:=h.bP n;rw[hn] at this;exact this
 have ao:dT w D E w D (fun m=>if m=n then some (.rw none 0) else E m):=by
  have eK:∀ {m:Nat} {e:bN},E m=some e→(if m=n then some (.rw none 0) else E m)=some e:=fun {m e} he=>by
   have:m≠n:=fun e=>by rw[e,aA] at he;cases he
   rw[if_neg this];exact he
  refine ⟨fun _ _ h=>h,fun _ _ _ _ h=>h,fun m b aX he=>eK he,fun m aK l he =>?_,fun m b he=>eK he,fun m b he=>eK he,fun _ _ _ _ h=>h⟩
  ·have:m≠n:=fun e=>by rw[e,aA] at he;cases he
   exact ⟨aK,l,by simp only[if_neg this];exact he,zz4 _,fun _=>rfl⟩
 refine ⟨D,fun m=>if m=n then some (.rw none 0) else E m,h.sz,h.eB,fun t =>?_,h.dM,h.c4,h.aR,fun m =>?_,fun m m' e e' b J U ah ar =>?_,fun m e hm =>?_,h.eN,h.cU,h.eU,h.fw⟩
 ·simp only[ai.put,ai.aT];by_cases ht:t=d
  ·subst ht;simp only[if_true];have hv:=h.dP t;rw[af] at hv;obtain ⟨cs,q1,q2⟩:=hv;simp only[al] at q2;subst q2;refine ⟨[.slice none 0 0],by simpa[bE,I.isAgg] using q1,?_⟩;simp only[al,if_true];exact ⟨none,0,rfl,zz4 _,⟨_,_,_,rfl⟩,fun _=>trivial⟩
  ·simp only[if_neg ht];exact bd.later ao (h.dP t)
 ·simp only[ai.put,ai.aT];by_cases hm:m=n
  ·subst hm;simp only[if_true,cY];exact ⟨none,by simp,by simp,trivial⟩
  ·simp only[if_neg hm];exact (h.bP m).later ao (by simp only[if_neg hm]) fun _ _ _ _=>⟨rfl,fun _ ho=>ho⟩
 ·by_cases hm:m=n <;>by_cases hm':m'=n
  ·rw[hm,hm']
  ·simp only[if_pos hm,v6] at J;subst J;simp[bN.aK] at ah
  ·simp only[if_pos hm',v6] at U;subst U;simp[bN.aK] at ar
  ·simp only[if_neg hm] at J;simp only[if_neg hm'] at U;exact h.cO m m' e e' b J U ah ar
 ·have hmn:m≠n:=fun e=>by rw[e,h.km (.inr hlt)] at hm;cases hm
  simp only[if_neg hmn];exact h.dQ m e hm
theorem bw.p9{ts:List (Nat×I)}{os:List (Nat×aq)}(d n T sz z:Nat)(af:bZ ts d=.nils z)(hn:aj os n=none){B:ai}(h:bw (au ((d,.own n 0)::ts) ((n,.bW T sz [])::os)) B)(hlt:n<1000000:=by decide):bw (au ts os) B :=
 ((bw.Hr (A:=au ts os) (T:=T) (sz:=sz) af hn hlt).trans (by rw[qZ,tn];exact bw.refl _)).trans h
theorem C9:(∀ k n,b8 none (.int k n)=true)∧(∀ b,b8 none (.bool b)=true)∧(∀ z es,b8 none (.slice z es)=true)∧(∀ f es,b8 none (.func f es)=true)∧(∀ z,b8 none (.nils z)=true)∧(∀ n k,b8 none (.own n k)=true) :=
 ⟨fun _ _=>rfl,fun _=>rfl,fun _ _=>rfl,fun _ _=>rfl,fun _=>rfl,fun _ _=>rfl⟩
theorem bq:(type_of% @yD)∧(type_of% @Dk)∧(type_of% @Dl)∧(type_of% @Cj)∧(type_of% @C9)∧(type_of% @F4)∧(type_of% @Bn)∧(type_of% @yR)∧(∀ n:Int,(enc n:I)=.int .i64 n)∧(∀ n:Bool,(enc n:I)=.bool n) ∧
  (∀ {α β:Type} (f:α→β) (x:α) (xs:List α),List.map f (x::xs)=f x::List.map f xs)∧(∀ {α β:Type} (f:α→β),List.map f []=[])∧(∀ {α:Type} (xs:List α),[]++xs=xs)∧(∀ n:Nat,(n:Int).toNat=n)∧(∀ {α β:Type} (f:α→β) (x:α),Option.map f (some x)=some (f x)) ∧
  (∀ n:Nat,0≤(n:Int))∧((!true)=false)∧((!false)=true)∧((false=true)=False)∧((true=false)=False) :=
 ⟨@yD,@Dk,@Dl,@Cj,@C9,@F4,@Bn,@yR,eG,M0,fun _ _ _=>rfl,fun _=>rfl,fun _=>rfl,fun _=>rfl,fun _ _=>rfl,fun n=>Int.natCast_nonneg n,rfl,rfl,by simp,by simp⟩
end Go.Abs
namespace Go.Abs
open Go Go.RowKit
open Enc (enc)
theorem kC.b5{P:Program}{f:FuncId}{fn:Func}{x:bp}{rs:List bK}{Y:Value→List I→List (Nat×aq)→cC→Prop}{args:List I}{os:List (Nat×aq)}{post:cC}(hf:P.funcs[f]?=some fn)(hcall:eZ P f=true)(hc:(fn.body.bind (eA P fn.ntmps))=some x)
  (hrs:gP P fn.results.toList=some rs) (hn:args.length≤fn.ntmps) (hn2:fn.ntmps≤1000000) (hos:∀ m,aw os m=true→1000000≤m) (h:I.gl args→∀ (w:World) (D:aP) (E:a8),ae ⟨P,w,D,fn.ntmps,cI E,E,Y,none,none⟩ x (oh rs post) (au (bI 0 args) os)):kC P f Y args os post:=by
 obtain ⟨body,hb,hc'⟩:=zw6.1 hc;refine ⟨hcall,fun w D E vs hy hD ho hv =>?_⟩;exact (kC.tw hf hb hcall hc' hrs hn (fun m hm=>⟨zw9 hn2 (hos m hm),hos m hm⟩) (fun w D E=>(h (pV _ _ hv) w D E).sub (ud args os))).2 w D E vs hy hD ho hv
theorem cP.b5{P:Program}{f:FuncId}{fn:Func}{x:bp}{rs:List bK}{args:List I}{os:List (Nat×aq)}{post:cC}(hf:P.funcs[f]?=some fn)(hcall:eZ P f=true)(hc:(fn.body.bind (eA P fn.ntmps))=some x)
  (hrs:gP P fn.results.toList=some rs) (hn:args.length≤fn.ntmps) (hn2:fn.ntmps≤1000000) (hos:∀ m,aw os m=true→1000000≤m) (h:I.gl args→∀ (w:World) (D:aP) (E:a8),ae ⟨P,w,D,fn.ntmps,cI E,E,dv,none,none⟩ x (oh rs post) (au (bI 0 args) os)):cP P f args os post :=
 cP.C4 (kC.b5 hf hcall hc hrs hn hn2 hos h)
theorem Cg{A:ai} : ∀ n x,aj [] n=some x→A.o n=some x∧x.only (aw [])=true∧x.eh=true:=fun n x h=>by simp[aj] at h
theorem wh{A:ai}{k:Nat}{c:I}(J:A.o k=some (.box c))(U:∀ p,c.only p=true):∀ n x,aj [(k,.box c)] n=some x→A.o n=some x∧x.only (aw [(k,.box c)])=true∧x.eh=true:=fun n x h=>by
 simp only[aj] at h;split at h
 ·rename_i hn;subst hn;simp only[v6] at h;subst h;exact ⟨J,U _,rfl⟩
 ·cases h
theorem gJ{k:Nat}{x:aq}{m:Nat} : aw [(k,x)] m=true↔m=k:=by
 simp only[aw,aj];split <;>simp_all
theorem fW.one{aL:Bool}{k d:Nat}{x:aq}{os0:List (Nat×aq)}{r c:I}(J:∀ p,c.only p=true)(U:aL=true→c.dI=true)(ah:r.only (aw [(k,.box c)])=true)(ar:aL=true→r.dI=true):fW aL [(k,d)] [(k,x)] os0 r [(k,.box c)]:=by
 refine ⟨fun m x h =>?_,fun m m' h h' _ =>?_,fun m h =>?_,fun m h h' =>?_,ah,ar⟩
 ·simp only[aj] at h;split at h
  ·simp only[v6] at h;subst h;exact ⟨J _,rfl,U⟩
  ·cases h
 ·rw[gJ.1 h,gJ.1 h']
 ·rw[gJ.1 h];exact gJ.2 rfl
 ·rw[gJ.1 h] at h';have:aw [(k,x)] k=true:=gJ.2 rfl;rw[this] at h';cases h'
mutual
theorem rE(ρ:Nat→Nat):∀ x:I,x.bx=true→x.bh ρ=x
 | .agg fs,h=>by simp only[I.bh,I.bx] at *;rw[mX ρ fs h]
 | .slice _ es,h=>by simp only[I.bh,I.bx] at *;rw[mX ρ es h]
 | .ref x,h=>by simp only[I.bh,I.bx] at *;rw[rE ρ x h]
 | .func _ caps,h=>by simp only[I.bh,I.bx] at *;rw[mX ρ caps h]
 | .iface _ v,h=>by simp only[I.bh,I.bx] at *;rw[rE ρ v h]
 | .bool _,_ | .int _ _,_ | .bQ _,_ | .nilp,_ | .dy,_ | .dW,_ | .any,_ | .raw _,_ | .nils _,_ | .c0 _,_=>by simp only[I.bh]
 | .df ks vs,h=>by simp only[I.bh,I.bx,t8] at *;rw[mX ρ ks h.1,mX ρ vs h.2]
 | .ptr _ _,h | .own _ _,h | .view _ _ _ _ _,h | .mref _,h | .dj _,h | .undef,h | .du,h | .tuple _,h=>by simp[I.bx] at h
theorem mX(ρ:Nat→Nat):∀ xs:List I,I.ca xs=true→I.dp ρ xs=xs
 | [],_=>rfl
 |x::xs,h=>by
  simp only[I.ca,t8] at h;simp only[I.dp,rE ρ x h.1,mX ρ xs h.2]
end
theorem xy :
  (∀ (k:IntKind) n (ρ:Nat→Nat),(I.int k n).bh ρ=.int k n)∧(∀ (b:Bool) (ρ:Nat→Nat),(I.bool b).bh ρ=.bool b)∧(∀ n p (ρ:Nat→Nat),(I.ptr n p).bh ρ=.ptr (ρ n) p) ∧
  (∀ n p sz lo k (ρ:Nat→Nat),(I.view n p sz lo k).bh ρ=.view (ρ n) p sz lo k)∧(∀ fs (ρ:Nat→Nat),(I.agg fs).bh ρ=.agg (I.dp ρ fs))∧(∀ fs (ρ:Nat→Nat),(I.tuple fs).bh ρ=.tuple (I.dp ρ fs))∧(∀ f fs (ρ:Nat→Nat),(I.func f fs).bh ρ=.func f (I.dp ρ fs)) ∧
  (∀ ρ:Nat→Nat,I.dp ρ []=[])∧(∀ (ρ:Nat→Nat) x xs,I.dp ρ (x::xs)=x.bh ρ::I.dp ρ xs)∧(∀ (ρ:Nat→Nat) (x:I),(aq.box x).bh ρ=.box (x.bh ρ)) ∧
  (∀ (z:Nat) (ρ:Nat→Nat),(I.nils z).bh ρ=.nils z)∧(∀ (z:Nat) (ρ:Nat→Nat),(I.c0 z).bh ρ=.c0 z) ∧
  (∀ n,bH [] n=n)∧(∀ a b r n,bH ((a,b)::r) n=if n=a then b else bH r n)∧(∀ ρ,dn ρ []=[])∧(∀ ρ k x os,dn ρ ((k,x)::os)=(bH ρ k,x.bh (bH ρ))::dn ρ os) :=
 ⟨fun _ _ _=>by simp only[I.bh],fun _ _=>by simp only[I.bh],fun _ _ _=>by simp only[I.bh],fun _ _ _ _ _ _=>by simp only[I.bh],fun _ _=>by simp only[I.bh],fun _ _=>by simp only[I.bh],fun _ _ _=>by simp only[I.bh],
  fun _=>rfl,fun _ _ _=>by simp only[I.dp],fun _ _=>rfl,fun _ _=>by simp only[I.bh],fun _ _=>by simp only[I.bh],fun _=>rfl,fun _ _ _ _=>rfl,fun _=>rfl,fun _ _ _ _=>rfl⟩
section
variable {α:Type} [Enc α]
theorem kS(ρ:Nat→Nat)(x:α):(enc x).bh ρ=enc x:=rE ρ _ (kd x)
theorem pP(ρ:Nat→Nat)(l:List α):I.dp ρ (l.map enc)=l.map enc:=mX ρ _ (iB l)
class sf (α:Type) [Enc α]:Prop where
 dI:∀ x:α,(enc x).dI=true
theorem M2[sf α](x:α):(enc x).dI=true:=sf.dI x
theorem XA[sf α](l:List α):I.jj (l.map enc)=true:=by
 induction l with
 |nil=>rfl
 |cons x l ih=>simp only[zz3,I.jj,M2,ih,Bool.and_self]
theorem nh(A:ai)(esz:Nat)(l:List α)(ab:Enc.sz α=esz):eH A esz (enc l)=some (l.map enc):=by
 simp only[hs,eH,ab,if_true]
theorem uh(l:List α):jL (enc l)=l.isEmpty:=by
 simp only[hs,jL];cases l <;>rfl
theorem C2(neg:Bool)(l:List α)(h:l≠[]):pC neg (enc l)=some (.bool neg):=by
 simp only[hs,pC];cases l with
 |nil=>exact absurd rfl h
 |cons=>rfl
section
variable {P:Program} {Y:Value→List I→List (Nat×aq)→cC→Prop} {K:ai→Prop} {A:ai} {rest:List aI} {d:Nat} {e esz bytes:Nat} {q:Nat}
theorem aQ.uN(z:α){l:List α}(ab:Enc.sz α=esz)(ao:l≠[])(hf:A.o d=none)(hb:l.length*bytes≤140737488355328)(hml:l.length≤maxLen)
  (h:∀ m,aQ P Y false K (aB rest ((A.aT d (.box (.agg ((l++List.replicate m z).map enc)))).aS (some d) (.view d [] esz 0 l.length)))):aQ P Y false K (fK A (some d) e esz bytes (enc z) (enc l) rest (.c0 q)):=by
 have hne:l.map (enc (α:=α))≠[]:=by simpa using ao
 have J:eH A esz (.c0 q)=some []:=rfl;simp only[fK,J,nh A esz l ab,eY,if_neg hne,fX,hf,List.length_nil,zz1,zz8,if_pos (y6 hb hml),zv3];refine .any rfl fun m _ =>?_;have:=h m;simp only[zy5,List.map_replicate] at this;exact this
theorem HM(z:I)(ab:Enc.sz α=esz):fK A (some d) e esz bytes z (enc ([]:List α)) rest (.c0 q)=aB rest (A.aS (some d) (.c0 q)):=by
 have J:eH A esz (.c0 q)=some []:=rfl;simp only[fK,J,nh A esz ([]:List α) ab,eY,zx4,if_true]
theorem Yj(esz:Nat)(z:I)(x:aO)(rest:List aI)(A:ai):bL A none (.jw esz z x) rest=mI A esz z (aB rest) (ak A x):=rfl
theorem Z3(z:α)(k:Nat):I.cQ (List.replicate k (enc z))=List.replicate k (Enc.aX α):=by
 have:List.replicate k (enc z)=(List.replicate k z).map (enc (α:=α)):=by simp
 rw[this,rQ];simp
theorem KO(z:α){n lo k:Nat}{xs:List α}(ho:A.o n=some (.box (.agg (xs.map enc))))(hk:lo+k≤xs.length) :
  mI A esz (enc z) (aB rest) (.view n [] esz lo k)=aB rest (A.aT n (.box (.agg ((xs.take lo++(List.replicate k z++xs.drop (lo+k))).map enc)))):=by
 have J:I.cQ (List.replicate k (enc z))=I.cQ (((xs.map (enc (α:=α))).drop lo).take k):=by
  rw[Z3,←List.map_drop,←List.map_take,rQ,zx3,List.length_drop]
  congr 1;omega
 have U:(I.agg (xs.map (enc (α:=α)))).at []=some (.agg (xs.map enc)):=rfl;simp only[mI,ho,U];rw[if_pos ⟨rfl,J⟩];simp only[iS,nd,zy5,List.map_take,List.map_drop,List.map_replicate,List.length_replicate]
theorem Z8{n:Nat}{p:List Nat}{sz k total i:Nat}(h:i≤total)(aY:0<total):ly n p sz 0 k total none (some (.int .i64 i)) none=some (.view n p sz 0 i):=by
 simp only[ly,jd];rw[if_pos ⟨by omega,by omega,by omega⟩,if_neg (by omega)];simp
theorem Z9{n:Nat}{p:List Nat}{sz k total i:Nat}(h:i≤k)(hk:k≤total)(aY:i<total):ly n p sz 0 k total (some (.int .i64 i)) none none=some (.view n p sz i (k-i)):=by
 simp only[ly,jd];rw[if_pos ⟨by omega,by omega,by omega⟩,if_neg (by omega)];simp
theorem Xl{m:Nat}{p:List Nat}{sz lo l j:Nat}{fs:List I}(h:j<l):lU m p sz lo l sz (j:Int) (some fs)=some (.ptr m (p++[lo+j])):=by
 simp only[lU,true_and];rw[if_pos ⟨by omega,by omega⟩];simp
theorem qu{sz k:Nat}{xs:List α}(ab:Enc.sz α=sz):kj sz 0 k (some (xs.map enc))=some (enc (xs.take k)):=by
 have h:((xs.map (enc (α:=α))).drop 0).take k=(xs.take k).map enc:=by rw[List.drop_zero,List.map_take]
 simp only[kj,h];rw[if_pos (iB _),hs,ab]
end
end
theorem Xh(A:ai)(esz m:Nat)(p:List Nat)(sz lo l:Nat)(k:Int):jS A esz k (.view m p sz lo l)=lU m p sz lo l esz k (fC (fm p (A.o m))):=rfl
theorem XF(A:ai)(m:Nat)(p:List Nat)(sz lo l:Nat):jB A (.view m p sz lo l)=some (.int .i64 l):=rfl
theorem Z6(A:ai)(esz:Nat)(lo hi mx:Option I)(n:Nat)(p:List Nat)(l0 k:Nat):j5 A esz lo hi mx (.view n p esz l0 k)=mz n p esz l0 k esz lo hi mx (fC (fm p (A.o n))):=rfl
theorem Z7(n:Nat)(p:List Nat)(sz l0 k:Nat)(lo hi mx:Option I)(fs:List I):mz n p sz l0 k sz lo hi mx (some fs)=ly n p sz l0 k fs.length lo hi mx:=by simp[mz]
theorem hl :
  (∀ A esz m p sz lo l k,jS A esz k (.view m p sz lo l)=lU m p sz lo l esz k (fC (fm p (A.o m))))∧(∀ A m p sz lo l,jB A (.view m p sz lo l)=some (.int .i64 l)) ∧
  (∀ A esz lo hi mx n p l0 k,j5 A esz lo hi mx (.view n p esz l0 k)=mz n p esz l0 k esz lo hi mx (fC (fm p (A.o n))))∧(∀ n p sz l0 k lo hi mx fs,mz n p sz l0 k sz lo hi mx (some fs)=ly n p sz l0 k fs.length lo hi mx) ∧
  (∀ esz z x rest A,bL A none (.jw esz z x) rest=mI A esz z (aB rest) (ak A x))∧(∀ rest A d esz,bL A d (.bs0 esz) rest=aB rest (A.aS d (.c0 esz))) :=
 ⟨Xh,XF,Z6,Z7,Yj,fun _ _ _ _=>rfl⟩
theorem mg(rs:List bK)(post:cC)(A:ai):oh rs post .ret A=ja rs post A:=rfl
theorem bw.jh{ts:List (Nat×I)}{os0:List (Nat×aq)}(ns:List Nat)(d:Nat){x y:I}(af:bZ ts d=x)(h:bj true (au ts (kY ns os0)) x=some y)(ho:cF (fun n => !ns.contains n) (ec ns os0)) :
  bw (au ts os0) (au ((d,y)::kh ns ts) (ec ns os0)):=by
 rintro c a w ⟨D,E,ab⟩;obtain ⟨D1,E1,hs1,hw⟩:=ab.BA ns ho;have hu:ev (au ts (kY ns os0)) (au ts os0):=fun n z hz=>by
  simp only[au,py] at hz ⊢;split at hz
  ·exact hz
  ·cases hz
 have hx:x.bS=true:=by cases x <;>first | rfl | simp[bj] at h
 have hv:=ab.dP d;simp only[au] at hv;rw[af] at hv;have J:aJ w D E [x] [a.tmps.getD d undef]:=lu [x] _ (.cons hv .nil) (by intro z hz;simp only[zx5] at hz;subst hz;exact hx);have U:=lN (E':=E1) ab hu hw [x] [y] _ J (by simp only[bY,h]);have ah:bd w D1 E1 y (a.tmps.getD d undef):=by
  simp only[aJ] at U;obtain ⟨v',rest,cs,e,k1,k2,_⟩:=U;simp only[zw8] at e;obtain ⟨e1,_⟩:=e;rw[e1];exact jC k1 k2
 refine ⟨D1,E1,hs1.sz,hs1.eB,fun t =>?_,hs1.dM,hs1.c4,hs1.aR,hs1.bP,hs1.cO,hs1.dQ,hs1.eN,hs1.cU,hs1.eU,hs1.fw⟩;simp only[au,bZ];split
 ·rename_i ht;subst ht;exact ah
 ·exact hs1.dP t
theorem Zo{w:World}{D:aP}{E:a8}{p:List Nat}{c x y:I}{cs:List Value}(hr:al w D E c cs)(h:c.at p=some x)(hxy:∀ ds,al w D E x ds→al w D E y ds)(ab:y.aX=x.aX):al w D E (c.ep p y) cs∧(c.ep p y).aX=c.aX:=by
 obtain ⟨off,c1,c2,c3,J,rfl,U,ah⟩:=xt p c x cs hr h;obtain ⟨off',k1,k2,k3,k4⟩:=tK p c x y _ c2 hr h (hxy c2 ah) ab;rw[J,v6] at k1;subst k1;refine ⟨?_,k4⟩;have e:(c1++c2++c3).take off++c2++(c1++c2++c3).drop (off+c2.length)=c1++c2++c3:=by
  rw[zy2 c1 c2 c3,←U,List.take_left,List.drop_length_add_append,List.drop_left,zy2]
 rw[←e];exact k3
theorem bw.Hs{A:ai}{m n T sz z:Nat}{p:List Nat}{b:I}(hm:A.o m=some (.box b))(hp:b.at p=some (.nils z))(hn:A.o n=none)(hlt:n<1000000):bw A ((A.aT n (.bW T sz [])).aT m (.box (b.ep p (.own n 0)))):=by
 rintro c a w ⟨D,E,h⟩;have aA:E n=none:=by have:=h.bP n;rw[hn] at this;exact this
 have hmn:m≠n:=fun e=>by rw[e,hn] at hm;cases hm
 have ao:dT w D E w D (fun m=>if m=n then some (.rw none 0) else E m):=by
  have eK:∀ {m:Nat} {e:bN},E m=some e→(if m=n then some (.rw none 0) else E m)=some e:=fun {m e} he=>by
   have:m≠n:=fun e=>by rw[e,aA] at he;cases he
   rw[if_neg this];exact he
  refine ⟨fun _ _ h=>h,fun _ _ _ _ h=>h,fun m b aX he=>eK he,fun m aK l he =>?_,fun m b he=>eK he,fun m b he=>eK he,fun _ _ _ _ h=>h⟩
  ·have:m≠n:=fun e=>by rw[e,aA] at he;cases he
   exact ⟨aK,l,by simp only[if_neg this];exact he,zz4 _,fun _=>rfl⟩
 refine ⟨D,fun m=>if m=n then some (.rw none 0) else E m,h.sz,h.eB,fun t=>bd.later ao (h.dP t),h.dM,h.c4,h.aR,fun k =>?_,fun m m' e e' b J U ah ar =>?_,fun m e hm =>?_,h.eN,h.cU,h.eU,h.fw⟩
 ·simp only[ai.aT];by_cases hk:k=m
  ·subst hk;have ho:=h.bP k;rw[hm] at ho;obtain ⟨b',cs,T',J,U,ah,ar,h5⟩:=ho;obtain ⟨q1,q2⟩:=Zo (y:=.own n 0) (al.later ao _ _ ar) hp (fun ds af=>by
    simp only[al] at af;subst af;simp only[al,if_true];exact ⟨none,0,rfl,zz4 _,⟨_,_,_,rfl⟩,fun _=>trivial⟩) rfl
   simp only[if_true,cY];exact ⟨b',cs,T',by rw[q2];simp only[if_neg hmn];exact J,U,ah,q1,h5⟩
  ·simp only[if_neg hk];by_cases hkn:k=n
   ·subst hkn;simp only[if_true,cY];exact ⟨none,by simp,by simp,trivial⟩
   ·simp only[if_neg hkn];exact (h.bP k).later ao (by simp only[if_neg hkn]) fun _ _ _ _=>⟨rfl,fun _ ho=>ho⟩
 ·by_cases hm:m=n <;>by_cases hm':m'=n
  ·rw[hm,hm']
  ·simp only[if_pos hm,v6] at J;subst J;simp[bN.aK] at ah
  ·simp only[if_pos hm',v6] at U;subst U;simp[bN.aK] at ar
  ·simp only[if_neg hm] at J;simp only[if_neg hm'] at U;exact h.cO m m' e e' b J U ah ar
 ·have hmn:m≠n:=fun e=>by rw[e,h.km (.inr hlt)] at hm;cases hm
  simp only[if_neg hmn];exact h.dQ m e hm
theorem bw.Ht{ts:List (Nat×I)}{os:List (Nat×aq)}(m n T sz z:Nat)(p:List Nat)(b:I)(hm:aj os m=some (.box b))(hp:b.at p=some (.nils z))(hn:aj os n=none){B:ai}(h:bw (au ts ((m,.box (b.ep p (.own n 0)))::(n,.bW T sz [])::os)) B)(hlt:n<1000000:=by decide):bw (au ts os) B :=
 ((bw.Hs (A:=au ts os) (T:=T) (sz:=sz) hm hp hn hlt).trans (by rw[qZ,qZ];exact bw.refl _)).trans h
mutual
theorem iM{p q:Nat→Bool}(h:∀ n,p n=true→q n=true):∀ x:I,x.only p=true→x.only q=true
 | .agg fs,hx | .tuple fs,hx=>by simp only[I.only] at *;exact ij h fs hx
 | .slice _ es,hx=>by simp only[I.only] at *;exact ij h es hx
 | .ref x,hx=>by simp only[I.only] at *;exact iM h x hx
 | .func _ caps,hx=>by simp only[I.only] at *;exact ij h caps hx
 | .iface _ v,hx=>by simp only[I.only] at *;exact iM h v hx
 | .ptr _ _,hx | .own _ _,hx | .view _ _ _ _ _,hx | .mref _,hx | .dj _,hx=>by simp only[I.only] at *;exact h _ hx
 | .df ks vs,hx=>by simp only[I.only,t8] at *;exact ⟨ij h ks hx.1,ij h vs hx.2⟩
 | .bool _,_ | .int _ _,_ | .bQ _,_ | .nilp,_ | .dy,_ | .dW,_ | .any,_ | .raw _,_ | .nils _,_ | .c0 _,_ | .undef,_ | .du,_=>by simp[I.only]
theorem ij{p q:Nat→Bool}(h:∀ n,p n=true→q n=true):∀ xs:List I,I.cv p xs=true→I.cv q xs=true
 | [],_=>rfl
 |x::xs,hx=>by
  simp only[I.cv,t8] at *;exact ⟨iM h x hx.1,ij h xs hx.2⟩
end
theorem aq.iM{p q:Nat→Bool}(h:∀ n,p n=true→q n=true)(x:aq)(hx:x.only p=true):x.only q=true:=by
 cases x with
 |box y=>simp only[aq.only] at *;exact Abs.iM h y hx
 |bW T sz es=>simp only[aq.only] at *;exact ij h es hx
 |dF o=>rfl
 |dC T xs=>rfl
 |bt ks vs=>simp only[aq.only,t8] at *;exact ⟨ij h ks hx.1,ij h vs hx.2⟩
 |it ks vs left cur=>simp only[aq.only,t8] at *;exact ⟨ij h ks hx.1,ij h vs hx.2⟩
theorem Co{x:I}(h:x.bx=true):x.bS=true:=by
 cases x <;>first | rfl | simp[I.bx] at h
theorem sA{aL:Bool}{A0:ai}{ρ:List (Nat×Nat)}{os:List (Nat×aq)} : ∀ xs:List I,I.ca xs=true→gO aL A0 ρ os xs xs
 | [],_=>trivial
 |x::xs,h=>by
  simp only[I.ca,t8] at h;exact ⟨.inl ⟨(rE _ x h.1).symm,kq _ x h.1,Co h.1⟩,sA xs h.2⟩
structure eV (os os':List (Nat×aq)):Prop where
 same:∀ m,aw os' m=aw os m
 ok:∀ m x,aj os' m=some x→x.only (aw os')=true∧x.eh=true
 lQ:∀ m,aw os m=true→1000000≤m
def yr(P:Program)(g:FuncId)(caps:List I)(N:Nat)(item:Nat→List I):Prop :=
 ∀ (Y:Value→List I→List (Nat×aq)→cC→Prop) (v:Value) (bf:Nat→List (Nat×aq)→Prop) (Ix:List (Nat×aq)→Prop) (os:List (Nat×aq)),v.oneCell'=true →
  (∀ k os' post,k<N→bf k os'→(∀ r os2,(r=.bool true∧bf (k+1) os2)∨(r=.bool false∧Ix os2)→post r os2)→Y v (item k) os' post) →
  (∀ k os',bf k os'→eV os os')→(∀ os',Ix os'→eV os os')→bf 0 os→kC P g Y (.raw v::caps) os (fun r os'=>r=.tuple []∧(bf N os'∨Ix os'))
def en(o:Obj)(os:List (Nat×aq)):List (Nat×aq):=(1999999,.dF o)::os
theorem kX(o:Obj)(os:List (Nat×aq))(m:Nat):aw (en o os) m=(decide (m=1999999)||aw os m):=by
 simp only[en,aw,aj];by_cases h:m=1999999 <;>simp[h]
theorem pz(o:Obj)(os:List (Nat×aq))(m:Nat):aj (en o os) m=if m=1999999 then some (.dF o) else aj os m:=rfl
theorem eV.en{os os':List (Nat×aq)}(h:eV os os')(o o':Obj):eV (en o os) (en o' os'):=by
 refine ⟨fun m=>by rw[kX,kX,h.same],fun m x hx =>?_,fun m hm =>?_⟩
 ·rw[pz] at hx;split at hx
  ·cases hx;exact ⟨rfl,rfl⟩
  ·obtain ⟨J,U⟩:=h.ok m x hx;exact ⟨x.iM (fun n hn=>by rw[kX,hn];simp) J,U⟩
 ·rw[kX] at hm;simp only[Bool.or_eq_true,decide_eq_true_eq] at hm;rcases hm with rfl | hm
  ·decide
  ·exact h.lQ m hm
def tI:List Nat→List I→List (Nat×I)→List (Nat×I)
 |p::ps,v::vs,ts=>tI ps vs ((p,v)::ts)
 |_,_,ts=>ts
def nf(ρ:List (Nat×Nat))(p:Nat→Bool)(ts:List (Nat×I)):List (Nat×I)→Prop
 | []=>True
 |(k,v)::r=>bZ ts k=v.bh (bH ρ)∧v.only p=true∧nf ρ p ts r
theorem FK{ρ:List (Nat×Nat)}{p:Nat→Bool}{ts:List (Nat×I)} : ∀ {tsR:List (Nat×I)},nf ρ p ts tsR→∀ k,bZ tsR k=.du∨(bZ ts k=(bZ tsR k).bh (bH ρ)∧(bZ tsR k).only p=true)
 | [],_,k=>.inl rfl
 |(j,v)::r,h,k=>by
  simp only[nf] at h;simp only[bZ];split
  ·rename_i hk;subst hk;exact .inr ⟨h.1,h.2.1⟩
  ·exact FK h.2.2 k
section
variable {c:cV} {a:Act} {w:World} {D:aP} {E:a8}
theorem aV.xR{A:ai}(h:aV c A a w D E){n b:Nat}{o o':Obj}(hn:A.o n=some (.dF o))(aA:E n=some (.op b))(ho:pn o'=true):aV c (A.aT n (.dF o')) a (w.putObj b o') D E:=by
 have hob:=h.bP n;rw[hn] at hob;obtain ⟨b',k1,k2,k3,k4,k5⟩:=hob;rw[aA] at k1;cases k1;have hnc:o.isCells=false:=by cases o <;>first | rfl | cases k4
 have hlt:b<w.heap.size:=fD k3;have ao:dT w D E (w.putObj b o') D E:=⟨fun _ _ h=>h,fun b1 o1 v _ hv=>vh k3 hnc hv,fun _ _ _ h=>h,fun _ aK l h=>⟨aK,l,h,zz4 _,fun _=>rfl⟩,fun _ _ h=>h,fun _ _ h=>h,fun b1 es ck af hm=>(World.putObj_heap_other (fun e1=>k5 0 (by rw[←e1];exact af))).trans hm⟩
 refine ⟨h.sz,h.eB.mono fun B _ hB=>(World.putObj_heap_other (fun e=>by rw[e,k3] at hB;cases hB;cases k4)).trans hB,fun t=>bd.later ao (h.dP t),h.dM.trans ⟨rfl,rfl,rfl,by simp,fun k hk=>World.putObj_heap_other (fun e=>hk (e▸k2))⟩,h.c4,
  fun b1 o1 af=>by have:=h.aR b1 o1 af;simpa using this,fun m =>?_,h.cO,h.dQ,h.eN,h.cU,h.eU,h.kA ao⟩
 simp only[ai.aT];by_cases hm:m=n
 ·subst hm;simp only[if_true,cY];exact ⟨b,aA,k2,World.putObj_heap_same hlt,ho,k5⟩
 ·simp only[if_neg hm];exact (h.bP m).later ao rfl fun e b1 he hb=>⟨World.putObj_heap_other (fun e1=>hm (h.cO m n e _ b1 he aA hb (by rw[e1];rfl))),fun _ ho=>ho⟩
theorem aV.MZ{A:ai}(h:aV c A a w D E){n b:Nat}(aA:E n=some (.op b)):aV c ⟨A.t,fun m=>if m=n then none else A.o m⟩ a w D (fun m=>if m=n then none else E m):=by
 have hne:∀ {m:Nat} {e:bN},E m=some e→(∀ b,e≠.op b)→m≠n:=fun he U e'=>by
  subst e';rw[aA] at he;cases he;exact U _ rfl
 have ao:dT w D E w D (fun m=>if m=n then none else E m):=by
  refine ⟨fun _ _ h=>h,fun _ _ _ _ h=>h,fun m b aX he =>?_,fun m aK l he=>⟨aK,l,?_,zz4 _,fun _=>rfl⟩,fun m b he =>?_,fun m b he =>?_,fun _ _ _ _ h=>h⟩
  ·simp only[if_neg (hne he (fun b=>by simp))];exact he
  ·simp only[if_neg (hne he (fun b=>by simp))];exact he
  ·simp only[if_neg (hne he (fun b=>by simp))];exact he
  ·simp only[if_neg (hne he (fun b=>by simp))];exact he
 refine ⟨h.sz,h.eB,fun t=>bd.later ao (h.dP t),h.dM,h.c4,h.aR,fun m =>?_,fun m m' e e' b J U ah ar =>?_,fun m e hm =>?_,h.eN,h.cU,h.eU,h.fw⟩
 ·by_cases hm:m=n
  ·simp only[hm,if_true,cY]
  ·simp only[if_neg hm];exact (h.bP m).later ao (by simp only[if_neg hm]) fun _ _ _ _=>⟨rfl,fun _ ho=>ho⟩
 ·split at J
  ·cases J
  ·split at U
   ·cases U
   ·exact h.cO m m' e e' b J U ah ar
 ·by_cases hmn:m=n
  ·left;simp only[hmn,if_true]
  ·simp only[if_neg hmn];exact h.dQ m e hm
theorem aV.enter{ts:List (Nat×I)}{os0:List (Nat×aq)}(h:aV c (au ts os0) a w D E)(hbase:c.fk=none)(hfree:aj os0 999999=none)(hE0:c.di 999999=none){o:Obj}(ho:pn o=true) :
  ∃ E1,aV c (au ts ((999999,.dF o)::os0)) { a with defers := { target:=.collected w.heap.size,args := #[] } :: a.defers } ((w.alloc (.deferred (some []))).alloc o) D E1∧E1 999999=some (.op (w.heap.size+1))∧∀ xs vs,aJ w D E xs vs→aJ ((w.alloc (.deferred (some []))).alloc o) D E1 xs vs:=by
 have hb:Below w.heap.size w ((w.alloc (.deferred (some []))).alloc o):=((Below.refl _ w).alloc (zz4 _) _).alloc (by simp) _;have J:=h.grow (D':=D) hb (fun _ _ h=>h) (fun _ _ h _=>h) (fun b o' af=>by have:=h.aR b o' af;simp;omega);obtain ⟨W,hW⟩:∃ W,W=(w.alloc (.deferred (some []))).alloc o:=⟨_,rfl⟩
 have hL:W.heap[w.heap.size+1]?=some o:=by
  rw[hW];have:=World.alloc_heap_new (w.alloc (.deferred (some []))) o;rwa [World.size_alloc] at this
 have hK:W.heap[w.heap.size]?=some (.deferred (some [])):=by
  rw[hW];exact (Below.heap_alloc _ _ _ (by simp)).trans (World.alloc_heap_new w _)
 rw[←hW] at J hb ⊢;have hEn:E 999999=none:=by have:=h.bP 999999;simp only[au,hfree] at this;exact this
 have ao:dT W D E W D (fun m=>if m=999999 then some (.op (w.heap.size+1)) else E m):=by
  refine ⟨fun _ _ h=>h,fun _ _ _ _ h=>h,fun m b aX he =>?_,fun m aK l he=>⟨aK,l,?_,zz4 _,fun _=>rfl⟩,fun m b he =>?_,fun m b he =>?_,fun _ _ _ _ h=>h⟩
  all_goals
   have:m≠999999:=fun e=>by rw[e,hEn] at he;cases he
   simp only[if_neg this];exact he
 have hsz:c.fV.heap.size≤w.heap.size:=h.dM.size;have nb:∀ {m:Nat} {e:bN} {b:Nat},E m=some e→e.aK=some b→b<w.heap.size:=fun he hb'=>h.fY he hb';refine ⟨fun m=>if m=999999 then some (.op (w.heap.size+1)) else E m,⟨J.sz,?_,fun t=>bd.later ao (J.dP t),J.dM,J.c4,J.aR,fun m =>?_,fun m m' e e' b g1 g2 g3 g4 =>?_,fun m e hm =>?_,J.eN,J.cU,J.eU,J.fw⟩,by simp,fun xs vs hx=>aJ.later ao xs vs (aJ.later (dT.grow hb fun _ _ h=>h) xs vs hx)⟩
 ·have hdf:=J.eB;rw[hbase] at hdf ⊢;obtain ⟨Bs,k1,k2,k3⟩:=hdf;refine ⟨w.heap.size::Bs,by simp only[zz3];rw[←k1],List.nodup_cons.2 ⟨fun hin =>?_,k2⟩,fun B hB =>?_⟩
  ·have hdf':=h.eB;rw[hbase] at hdf';obtain ⟨Bs',j1,_,j3⟩:=hdf';have e1:Bs=Bs':=by
    have:Bs.map (fun B=>({ target:=.collected B,args := #[] } : Deferred))=Bs'.map (fun B => { target:=.collected B,args := #[] }):=by rw[←k1,←j1]
    exact (List.map_inj_right (fun x y hxy=>by simpa using hxy)).1 this
   rw[e1] at hin;have:=fD (j3 _ hin).2;omega
  ·rcases zv1.1 hB with rfl | hB
   ·exact ⟨hsz,hK⟩
   ·exact k3 B hB
 ·simp only[au,aj];by_cases hm:m=999999
  ·subst hm;simp only[if_true,cY];exact ⟨_,rfl,.inl (by omega),hL,ho,fun o' af=>by have:=h.aR _ o' af;omega⟩
  ·simp only[if_neg hm];exact (J.bP m).later ao (by simp only[if_neg hm]) fun _ _ _ _=>⟨rfl,fun _ ho=>ho⟩
 ·by_cases hm:m=999999 <;>by_cases hm':m'=999999
  ·rw[hm,hm']
  ·simp only[if_pos hm,v6] at g1;simp only[if_neg hm'] at g2;subst g1;simp only[bN.aK,v6] at g3;have:=nb g2 g4;omega
  ·simp only[if_neg hm] at g1;simp only[if_pos hm',v6] at g2;subst g2;simp only[bN.aK,v6] at g4;have:=nb g1 g3;omega
  ·simp only[if_neg hm] at g1;simp only[if_neg hm'] at g2;exact h.cO m m' e e' b g1 g2 g3 g4
 ·have hmn:m≠999999:=fun e=>by rw[e,hE0] at hm;cases hm
  simp only[if_neg hmn];exact h.dQ m e hm
theorem cY.ic{M M':Nat→Prop}{n:Nat}{x:Option aq}(h:cY M w D E n x)(hM:∀ e b,E n=some e→e.aK=some b→M' b):cY M' w D E n x:=by
 unfold cY at *;split
 ·exact h
 ·obtain ⟨b,cs,T,J,_,ah⟩:=h;exact ⟨b,cs,T,J,hM _ b J rfl,ah⟩
 ·obtain ⟨aK,J,U,ah⟩:=h;refine ⟨aK,J,U,?_⟩;split
  ·exact ah
  ·obtain ⟨cs,pre,rest,_,ar⟩:=ah;exact ⟨cs,pre,rest,hM _ _ J rfl,ar⟩
 ·obtain ⟨b,J,_,ah⟩:=h;exact ⟨b,J,hM _ b J rfl,ah⟩
 ·obtain ⟨b,es,ck,J,_,ah⟩:=h;exact ⟨b,es,ck,J,hM _ b J rfl,ah⟩
 ·obtain ⟨r,b,es,ck,si,se,la,J,_,ah⟩:=h;exact ⟨r,b,es,ck,si,se,la,J,hM _ r J rfl,ah⟩
 ·obtain ⟨aK,J,U,ah⟩:=h;refine ⟨aK,J,U,?_⟩;split
  ·exact ah
  ·obtain ⟨cs,m,_,ar⟩:=ah;exact ⟨cs,m,hM _ _ J rfl,ar⟩
theorem aV.DH{os:List (Nat×aq)} : ∀ (ps:List Nat) (vs:List Value) (xs:List I) (ts:List (Nat×I)) (a:Act),aV c (au ts os) a w D E→(∀ p∈ps,p<c.n)→aJ w D E xs vs→ps.length=vs.length →
  aV c (au (tI ps xs ts) os) { a with tmps:=(ps.zip vs).foldl (fun t q=>t.setIfInBounds q.1 q.2) a.tmps } w D E
 | [],[],xs,ts,a,h,_,hv,_=>by
  cases xs with
  |nil=>exact h
  |cons x xs=>simp[aJ] at hv
 | [],_::_,_,_,_,_,_,_,ao=>by simp at ao
 |_::_,[],_,_,_,_,_,_,ao=>by simp at ao
 |p::ps,v::vs,xs,ts,a,h,hp,hv,ao=>by
  cases xs with
  |nil=>simp[aJ] at hv
  |cons x xs =>
   simp only[aJ] at hv;obtain ⟨v',rest,cs,e,J,U,ah⟩:=hv;simp only[zw8] at e;obtain ⟨rfl,rfl⟩:=e;have ar:=h.put (hp p (by simp)) (jC J U);rw[tn] at ar;have:=aV.DH ps vs xs ((p,x)::ts) (a.put (some p) v) ar (fun q hq=>hp q (by simp[hq])) ah (by simpa using ao);exact this
end
end Go.Abs
namespace Go.Abs
open Go Go.RowKit
def iU:bT→Bool
 | .mv _ | .pick .. | .bin .. | .eqv .. | .conv .. | .un .. | .fl .. | .ix .. | .lenT _ | .bld .. | .ext .. | .mk .. | .nilC _ | .ptrE .. | .max2 .. =>true
 | .ld .. | .fa .. | .ia .. | .is .. | .len _ | .va .. | .bs .. | .sl .. | .cap _ | .bs0 _ | .lk .. =>true
 |_=>false
def mQ:bT→Bool
 | .alloc _ | .box _ | .bg .. | .call .. | .fA .. | .dm .. =>true
 |op=>iU op
def px(ab:List FuncId):bT→Bool
 | .alloc _ | .box _=>true
 | .call f _ => !ab.contains f
 |op=>iU op
abbrev dZ:=List (Nat×List Nat)
def hX(L:dZ)(s:Nat):Option (List Nat):=(L.find? fun q=>q.1==s).map (·.2)
def cW(L:dZ)(A:ai):Prop:=∀ s ns,hX L s=some ns→(A.t s).only (fun n=>ns.contains n)=true
def qS(L:dZ):aO→Option (List Nat)
 | .t s=>hX L s
 | .c x=>if x.bx then some [] else none
def ue(a:Option (List Nat))(ns:List Nat):Bool:=match a with
 |some ms=>ms.all fun m=>ns.contains m
 |none=>false
def h0(L:dZ)(g:aI):Bool:=match g.dst with
 |none=>true
 |some d=>match hX L d with
  |none=>true
  |some ns=>match g.op with
   | .mv x | .nilC x | .fa _ _ x | .ia _ _ x _=>ue (qS L x) ns
   | .bin .. | .len _ | .bs .. | .bs0 _ | .conv .. | .lenT _=>true
   | .box _ | .alloc _=>ns.contains d
   |_=>false
def mP:bT→Option (List Nat)
 | .ld _ (.t x) | .fa _ _ (.t x) | .ia _ _ (.t x) _ | .is _ (.t x) _ | .len (.t x) | .va _ _ (.t x) | .sl _ (.t x) _ _ _ | .cap (.t x) | .lk _ _ _ (.t x) _=>some [x]
 | .bs _ _ ps=>if (ps.all fun x=>match x with | .t _=>true | .c _=>false)=true then some (jJ ps) else none
 | .bs0 _=>some []
 |op=>if op.gF=0∧iU op=true then some [] else none
def sx(L:dZ)(g:aI)(p:Nat→Bool):Bool:=match mP g.op with
 |some xs=>xs.all fun s=>match hX L s with | some ns=>ns.all p | none=>false
 |none=>false
def n0(ab:List FuncId)(L:dZ)(g h:aI):Bool:=px ab h.op||match h.op with
 | .bg _ (.t y) _=>match mP g.op with
  |some []=>true
  |_=>match hX L y with
   |some ms=>sx L g fun n => !ms.contains n
   |none=>false
 | .bg .. =>match mP g.op with
  |some []=>true
  |_=>false
 | .dm _ _ _ _ s _=>sx L g (fun _=>false)||ue (qS L s) []
 |_=>false
def mM(ab:List FuncId)(L:dZ)(g h:aI):Bool:=iU g.op&&(n0 ab L g h&&((match g.dst with
  |some d => !h.c8.contains d&&h.dst != some d
  |none=>true)&&(match h.dst with
  |some d => !g.c8.contains d
  |none=>true)))
theorem wb{op:bT}(h:iU op=true)(A:ai)(dst:Option Nat)(rest:List aI)(k:ai→cM):bl A dst op rest k=cS (bn A op) fun v=>k (A.aS dst v):=by
 cases op <;>first | rfl | cases h
inductive bO (P:Program) (Y:Value→List I→List (Nat×aq)→cC→Prop) (ab:List FuncId) (K:ai→Prop):cM→Prop where
 |done {A:ai} : K A→bO P Y ab K (.done A)
 |flat {f:FuncId} {avs cargs:List I} {a2:Option (List I)} {dst:Option Nat} {rest:List aI} {A:ai} (r:I):aZ P f cargs r→r.flat=true→bO P Y ab K (aB rest (A.aS dst r))→bO P Y ab K (.call f avs (some cargs) a2 dst rest A)
 |lead {f:FuncId} {avs cargs:List I} {a1:Option (List I)} {dst:Option Nat} {rest:List aI} {A:ai} (r:I):aZ P f cargs r→bO P Y ab K (aB rest (A.aS dst r))→bO P Y ab K (.call f avs a1 (some cargs) dst rest A)
 |bP {f:FuncId} {avs:List I} {a1 a2:Option (List I)} {dst:Option Nat} {rest:List aI} {ts:List (Nat×I)} {os0:List (Nat×aq)} (ρ:List (Nat×Nat)) (cargs:List I) (post:cC):cP P f cargs [] post →
   gn ρ [] os0→gO false (au ts os0) ρ [] avs cargs→(∀ r os',post r os'→fW false ρ [] os0 r os') →
   (∀ r os',post r os'→bO P Y ab K (aB rest ((au ts (dn ρ os'++os0)).aS dst (r.bh (bH ρ)))))→bO P Y ab K (.call f avs a1 a2 dst rest (au ts os0))
 |any {p:Nat→Prop} {k:Nat→cM} : (∀ m,p m→bO P Y ab K (k m))→bO P Y ab K (.any p k)
 |wY {f:FuncId} {avs:List I} {a1 a2:Option (List I)} {dst:Option Nat} {rest:List aI} {ts:List (Nat×I)} {os0:List (Nat×aq)} (aL:Bool) (ρ:List (Nat×Nat)) (os:List (Nat×aq)) (cargs:List I) (post:cC):ab.contains f=true→cP P f cargs os post →
   gn ρ os os0→gO aL (au ts (ec (ig ρ os) os0)) ρ os avs cargs→(∀ r os',post r os'→fW aL ρ os os0 r os') →
   (∀ r os',post r os'→bO P Y ab K (aB rest ((au ts (dn ρ os'++os0)).aS dst (r.bh (bH ρ)))))→bO P Y ab K (.call f avs a1 a2 dst rest (au ts os0))
 |F7 {v:Value} {avs:List I} {dst:Option Nat} {rest:List aI} {ts:List (Nat×I)} {os0:List (Nat×aq)} (os:List (Nat×aq)) (cargs:List I) (post:cC):Y v cargs os post →
   gn [] os os0→gO false (au ts (ec (ig [] os) os0)) [] os avs cargs→(∀ r os',post r os'→fW false [] os os0 r os') →
   (∀ r os',post r os'→bO P Y ab K (aB rest ((au ts (dn [] os'++os0)).aS dst (r.bh (bH [])))))→bO P Y ab K (.kN v avs dst rest (au ts os0))
theorem A4(os:List (Nat×aq)):ec [] os=os:=by simp[ec]
section
variable {P:Program} {ab:List FuncId} {K:ai→Prop} {Y:Value→List I→List (Nat×aq)→cC→Prop}
theorem bO.yF{p:Nat→Prop}{k:Nat→cM}(h:bO P Y ab K (.any p k)):∀ m,p m→bO P Y ab K (k m):=by cases h;assumption
theorem cW.put{L:dZ}{A B:ai}(h:cW L A)(ht:∀ k,B.t k=A.t k){dst:Option Nat}{v:I}(hv:∀ d,dst=some d→∀ ns,hX L d=some ns→v.only (fun n=>ns.contains n)=true):cW L (B.aS dst v):=by
 intro s ns hs';cases dst with
 |none=>exact (ht s).symm▸h s ns hs'
 |some d =>
  simp only[ai.aS,ai.put];by_cases af:s=d
  ·rw[if_pos af];exact hv d rfl ns (af▸hs')
  ·rw[if_neg af,ht];exact h s ns hs'
theorem rT{L:dZ}{A:ai}(h:cW L A){x:aO}{ns:List Nat}(hx:ue (qS L x) ns=true):(ak A x).only (fun n=>ns.contains n)=true:=by
 cases x with
 |c x =>
  simp only[qS] at hx;split at hx
  ·rename_i hc;exact kq _ x hc
  ·cases hx
 |t s =>
  simp only[qS] at hx;cases ao:hX L s with
  |none=>rw[ao] at hx;cases hx
  |some ms =>
   rw[ao] at hx;simp only[ue,zx0] at hx;exact iM (fun n hn=>hx n (by simpa using hn)) _ (h s ms ao)
theorem Ia{op:BinOp}{x y v:I}(p:Nat→Bool)(h:cE op x y=some v):v.only p=true:=by
 unfold cE at h
 (repeat' split at h) <;>first | (cases h;done) | (simp only[v6] at h;subst h;rfl)
theorem xa{p:Nat→Bool} : ∀ {xs:List I} {i:Nat} {x:I},I.cv p xs=true→xs[i]?=some x→x.only p=true
 | [],_,_,_,h=>by simp at h
 |a::xs,0,x,h,e=>by
  simp only[I.cv,t8] at h;simp only[List.getElem?_cons_zero,v6] at e;exact e▸h.1
 |a::xs,i+1,x,h,e=>by
  simp only[I.cv,t8] at h;exact xa (xs:=xs) h.2 (by simpa using e)
theorem C8{L:dZ}{A:ai}{g:aI}(h:cW L A)(hg:h0 L g=true){v:I}(hv:bn A g.op=some v):∀ d,g.dst=some d→∀ ns,hX L d=some ns→v.only (fun n=>ns.contains n)=true:=by
 intro d af ns hn;obtain ⟨dst,op,gd⟩:=g;simp only at af hv;subst af;simp only[h0,hn] at hg;cases op <;>simp only at hg <;>(try (cases hg;done)) <;>simp only[bn] at hv <;>(try (cases hv;done))
 case mv x=>simp only[v6] at hv;exact hv▸rT h hg
 case nilC x =>
  have:=rT h hg;generalize ak A x=u at hv this;cases u <;>simp only[lX] at hv <;>first | (cases hv;done) | (simp only[v6] at hv;exact hv▸this)
 case bin op x y=>exact Ia _ hv
 case conv k x=>split at hv <;>first | (cases hv;done) | (simp only[v6] at hv;subst hv;rfl)
 case lenT x=>split at hv <;>first | (cases hv;done) | (simp only[v6] at hv;subst hv;rfl)
 case len x=>(repeat' split at hv) <;>first | (cases hv;done) | (simp only[v6] at hv;subst hv;rfl)
 case bs0 e=>simp only[v6] at hv;subst hv;rfl
 case bs e ps =>
  split at hv
  ·split at hv
   ·rename_i hc;simp only[v6] at hv;subst hv;simp only[I.only];exact l4 _ _ hc.2
   ·cases hv
  ·cases hv
 case fa f off x =>
  have hx:=rT h hg;split at hv
  ·rename_i fs he;rw[he] at hx;simp only[I.only] at hx;split at hv
   ·rename_i u hu;split at hv
    ·simp only[v6] at hv;subst hv;simp only[I.only];exact xa hx hu
    ·cases hv
   ·cases hv
  ·rename_i n q he;rw[he] at hx;simp only[I.only] at hx;split at hv
   ·split at hv
    ·simp only[v6] at hv;subst hv;simpa only[I.only] using hx
    ·cases hv
   ·cases hv
  ·cases hv
 case ia n esz x i =>
  have hx:=rT h hg;split at hv
  case h_2=>cases hv
  split at hv
  case isFalse=>cases hv
  split at hv
  ·rename_i fs he;rw[he] at hx;simp only[I.only] at hx;split at hv
   ·simp only[t7] at hv;obtain ⟨u,hu,rfl⟩:=hv;simp only[I.only];exact xa hx hu
   ·cases hv
  ·rename_i m q he;rw[he] at hx;simp only[I.only] at hx;split at hv
   ·split at hv
    ·simp only[v6] at hv;subst hv;simpa only[I.only] using hx
    ·cases hv
   ·cases hv
  ·cases hv
def gv(A:ai)(dst:Option Nat)(s:I)(B:ai):Prop:=(∀ t,dst≠some t→B.t t=A.t t)∧(s.only (fun _=>false)=true→ev A B)
def nq(A:ai)(dst:Option Nat)(s:I)(R:(ai→cM)→cM):Prop :=
 (∀ k,R k=.fail)∨(∃ B,(∀ k,R k=k B)∧gv A dst s B)∨∃ (p:Nat→Prop) (bC:Nat→ai),(∀ k,R k=.any p fun m=>k (bC m))∧∀ m,gv A dst s (bC m)
theorem rv{A B:ai}{dst:Option Nat}{v:I}{t:Nat}(ht:∀ k,B.t k=A.t k)(h:dst≠some t):(B.aS dst v).t t=A.t t:=by
 cases dst with
 |none=>exact ht t
 |some d =>
  have:t≠d:=fun e=>h (by rw[e]);simp only[ai.aS,ai.put,if_neg this];exact ht t
theorem HD(A:ai)(dst:Option Nat)(esz bytes:Nat)(z s:I)(es ys:List I):nq A dst s (fX A dst esz bytes z es ys):=by
 cases dst with
 |none=>exact .inl fun _=>rfl
 |some d =>
  cases ho:A.o d with
  |some y=>exact .inl fun k=>by simp only[fX,ho]
  |none =>
   by_cases hc:(es.length+ys.length)*bytes≤140737488355328∧es.length+ys.length≤maxLen
   ·refine .inr (.inr ⟨_,fun m=>(A.aT d (.box (.agg (es++(ys++List.replicate m z))))).aS (some d) (.view d [] esz 0 (es.length+ys.length)),fun k=>by simp only[fX,ho];rw[if_pos hc],fun m=>⟨fun t ht=>rv (A:=A) (B:=A.aT d _) (fun _=>rfl) ht,fun _ n y hy =>?_⟩⟩);have:n≠d:=fun e=>by rw[e,ho] at hy;cases hy
    rw[im];simp only[ai.aT,if_neg this];exact hy
   ·exact .inl fun k=>by simp only[fX,ho];rw[if_neg hc]
theorem HI(A:ai)(dst:Option Nat)(esz bytes:Nat)(z s:I)(es ys:Option (List I)):nq A dst s (eY A dst esz bytes z s es ys):=by
 cases es with
 |none=>exact .inl fun _=>rfl
 |some es =>
  cases ys with
  |none=>exact .inl fun _=>rfl
  |some ys =>
   by_cases aY:ys=[]
   ·exact .inr (.inl ⟨A.aS dst s,fun k=>by simp only[eY,if_pos aY],fun t ht=>rv (A:=A) (fun _=>rfl) ht,fun _ n y hy=>by rw[im];exact hy⟩)
   ·have gg:=fun s'=>HD A dst esz bytes z s' es ys;cases s
    case nils=>simp only[nq,eY,if_neg aY];exact gg _
    case c0=>simp only[nq,eY,if_neg aY];exact gg _
    case view n p sz lo l =>
     cases ho:A.o n with
     |none=>exact .inl fun k=>by simp only[eY,if_neg aY,ho]
     |some y =>
      cases y with
      |box b =>
       cases hb:b.at p with
       |none=>exact .inl fun k=>by simp only[eY,if_neg aY,ho,hb]
       |some c =>
        cases c
        case agg fs =>
         by_cases J:lo+l+ys.length≤fs.length
         ·by_cases U:sz=esz∧I.cQ ys=I.cQ ((fs.drop (lo+l)).take ys.length)
          ·exact .inr (.inl ⟨(A.aT n (.box (iS b p (lo+l) fs ys))).aS dst (.view n p esz lo (l+ys.length)),fun k=>by simp only[eY,if_neg aY,ho,hb,if_pos J];rw[if_pos U],fun t ht=>rv (A:=A) (B:=A.aT n _) (fun _=>rfl) ht,fun h=>by simp[I.only] at h⟩)
          ·exact .inl fun k=>by simp only[eY,if_neg aY,ho,hb,if_pos J];rw[if_neg U]
         ·simp only[nq,eY,if_neg aY,ho,hb,if_neg J];exact gg _
        all_goals exact .inl fun k=>by simp only[eY,if_neg aY,ho,hb]
      |_=>exact .inl fun k=>by simp only[eY,if_neg aY,ho]
    all_goals exact .inl fun k=>by simp only[eY,if_neg aY]
theorem yJ(A:ai)(dst:Option Nat)(e esz bytes:Nat)(z:I)(s x:aO)(rest:List aI):nq A dst (ak A s) (bl A dst (.dm e esz bytes z s x) rest):=by
 generalize ab:ak A s=x1;cases x1
 case own n l =>
  cases hx:ak A x
  case slice sz ys =>
   cases ho:A.o n with
   |none=>exact .inl fun k=>by simp only[bl,ab,hx,ho]
   |some y =>
    cases y with
    |bW T sz' es =>
     by_cases hc:w0 e esz bytes l sz ys T sz' es
     ·exact .inr (.inl ⟨(A.aT n (.bW e esz (es++ys))).aS dst (.own n (es.length+ys.length)),fun k=>by simp only[bl,ab,hx,ho];rw[if_pos hc],fun t ht=>rv (A:=A) (B:=A.aT n _) (fun _=>rfl) ht,fun h=>by simp[I.only] at h⟩)
     ·exact .inl fun k=>by simp only[bl,ab,hx,ho];rw[if_neg hc]
    |dC T xs =>
     by_cases hc:w4 e esz bytes l ys T xs z
     ·exact .inr (.inl ⟨(A.aT n (.dC e (xs++qH ys))).aS dst (.own n (xs.length+ys.length)),fun k=>by simp only[bl,ab,hx,ho];rw[if_pos hc],fun t ht=>rv (A:=A) (B:=A.aT n _) (fun _=>rfl) ht,fun h=>by simp[I.only] at h⟩)
     ·exact .inl fun k=>by simp only[bl,ab,hx,ho];rw[if_neg hc]
    |_=>exact .inl fun k=>by simp only[bl,ab,hx,ho]
  all_goals exact .inl fun k=>by simp only[bl,ab,hx]
 all_goals (simp only[nq,bl,ab];exact HI ..)
theorem xl{A:ai}{d:Nat}{v:I}{n:Nat}{y:aq}{dst:Option Nat}{u:I}(h:dst≠some d):((A.put d v).aT n y).aS dst u=((A.aT n y).aS dst u).put d v:=by
 cases dst with
 |none=>rfl
 |some e =>
  have:e≠d:=fun he=>h (by rw[he]);simp only[ai.aS,ai.put,ai.aT,ai.mk.injEq,and_true]
  funext k
  by_cases J:k=e <;>by_cases U:k=d <;>simp_all
theorem Zl{A:ai}{d:Nat}{v:I}{dst:Option Nat}{u:I}(h:dst≠some d):(A.put d v).aS dst u=(A.aS dst u).put d v:=by
 cases dst with
 |none=>rfl
 |some e =>
  have:e≠d:=fun he=>h (by rw[he]);simp only[ai.aS,ai.put,ai.mk.injEq,and_true]
  funext k
  by_cases J:k=e <;>by_cases U:k=d <;>simp_all
theorem HE{A:ai}{d:Nat}{v:I}{dst:Option Nat}(h:dst≠some d)(esz bytes:Nat)(z:I)(es ys:List I)(k:ai→cM):fX (A.put d v) dst esz bytes z es ys k=fX A dst esz bytes z es ys fun B=>k (B.put d v):=by
 cases dst with
 |none=>rfl
 |some e =>
  simp only[fX];have:(A.put d v).o=A.o:=rfl;rw[this];cases A.o e with
  |some _=>rfl
  |none =>
   simp only;split
   ·simp only[xl h]
   ·rfl
theorem HJ{A:ai}{d:Nat}{v:I}{dst:Option Nat}(h:dst≠some d)(esz bytes:Nat)(z s:I)(es ys:Option (List I))(k:ai→cM):eY (A.put d v) dst esz bytes z s es ys k=eY A dst esz bytes z s es ys fun B=>k (B.put d v):=by
 have ho:(A.put d v).o=A.o:=rfl;cases es with
 |none=>rfl
 |some es =>
  cases ys with
  |none=>rfl
  |some ys =>
   simp only[eY];split
   ·rw[Zl h]
   ·cases s <;>simp only[HE h,ho]
    rename_i n p sz lo l;cases A.o n with
    |none=>rfl
    |some y =>
     cases y with
     |box b =>
      simp only;cases b.at p with
      |none=>rfl
      |some c =>
       cases c <;>simp only[xl h]
     |_=>rfl
theorem HN{A:ai}{d:Nat}{v:I}{dst:Option Nat}(h:dst≠some d){e esz bytes:Nat}{z:I}{s x:aO}(hag:ef A (A.put d v) (s.sl++x.sl))(rest rest':List aI)(k:ai→cM) :
  bl (A.put d v) dst (.dm e esz bytes z s x) rest k=bl A dst (.dm e esz bytes z s x) rest' fun B=>k (B.put d v):=by
 have ho:(A.put d v).o=A.o:=rfl;have hsrc:∀ y,eH (A.put d v) esz y=eH A esz y:=fun y=>by cases y <;>rfl
 simp only[bl,da hag.l,da hag.r,hsrc];cases ak A s <;>simp only[HJ h]
 rename_i n l;cases ak A x <;>simp only[ho]
 cases A.o n with
 |none=>rfl
 |some y=>cases y <;>simp only[xl h]
theorem bO.Ay{L:dZ}{f:FuncId}{avs:List I}{a1 a2:Option (List I)}{dst:Option Nat}{rest:List aI}{A:ai}(hi:cW L A)(af:∀ d,dst=some d→hX L d=none)(h:bO P Y ab K (.call f avs a1 a2 dst rest A)) :
  aQ P Y false (fun B=>bO P Y ab K (aB rest B)∧cW L B) (.call f avs a1 a2 dst [] A):=by
 have no:∀ {v:I},∀ d,dst=some d→∀ ns,hX L d=some ns→v.only (fun n=>ns.contains n)=true:=fun d e ns hn=>by rw[af d e] at hn;cases hn
 cases h with
 |flat r hc hf hw=>exact .flat r hc hf (.done ⟨hw,hi.put (fun _=>rfl) no⟩)
 |lead r hc hw=>exact .lead r hc (.done ⟨hw,hi.put (fun _=>rfl) no⟩)
 |bP ρ cargs post hc hg ha hb hw=>exact .bP false ρ [] cargs post rfl hc hg (by simp only[ig,zx4,A4];exact ha) hb fun r os' hp=>.done ⟨hw r os' hp,hi.put (B:=au _ (dn ρ os'++_)) (fun _=>rfl) no⟩
 |wY aL ρ os cargs post _ hc hg ha hb hw=>exact .bP aL ρ os cargs post rfl hc hg ha hb fun r os' hp=>.done ⟨hw r os' hp,hi.put (B:=au _ (dn ρ os'++_)) (fun _=>rfl) no⟩
theorem bO.JC{L:dZ}{v:Value}{avs:List I}{dst:Option Nat}{rest:List aI}{A:ai}(hi:cW L A)(af:∀ d,dst=some d→hX L d=none)(h:bO P Y ab K (.kN v avs dst rest A)) :
  aQ P Y false (fun B=>bO P Y ab K (aB rest B)∧cW L B) (.kN v avs dst [] A):=by
 have no:∀ {v:I},∀ d,dst=some d→∀ ns,hX L d=some ns→v.only (fun n=>ns.contains n)=true:=fun d e ns hn=>by rw[af d e] at hn;cases hn
 cases h with
 |F7 os cargs post hc hg ha hb hw=>exact .um os cargs post rfl hc hg ha hb fun r os' hp=>.done ⟨hw r os' hp,hi.put (B:=au _ (dn [] os'++_)) (fun _=>rfl) no⟩
theorem bO.one{L:dZ}{A:ai}{g:aI}{rest:List aI}(hi:cW L A)(ho:mQ g.op=true)(hL:h0 L g=true)(h:bO P Y ab K (bl A g.dst g.op rest (aB rest))):aQ P Y false (fun B=>bO P Y ab K (aB rest B)∧cW L B) (bl A g.dst g.op [] (aB [])):=by
 have hval:=fun v (hv:bn A g.op=some v)=>C8 hi hL hv;obtain ⟨dst,op,gd⟩:=g;simp only at ho h hval ⊢;have pure:iU op=true→aQ P Y false (fun B=>bO P Y ab K (aB rest B)∧cW L B) (bl A dst op [] (aB [])):=by
  intro hsm;rw[wb hsm] at h ⊢;cases hv:bn A op with
  |none=>rw[hv] at h;cases h
  |some v=>rw[hv] at h;exact .done ⟨h,hi.put (fun _=>rfl) (hval v hv)⟩
 have unl:(∀ ns d,dst=some d→hX L d=some ns→h0 L ⟨dst,op,gd⟩=false)→∀ d,dst=some d→hX L d=none:=fun J d af=>by
  cases hn:hX L d with
  |none=>rfl
  |some ns=>rw[J ns d af hn] at hL;cases hL
 cases op with
 |alloc z =>
  cases dst with
  |none=>simp only[bl] at h;cases h
  |some d =>
   simp only[bl] at h ⊢;split at h
   case h_2=>cases h
   refine .done ⟨h,hi.put (B:=A.aT d _) (dst:=some d) (fun _=>rfl) fun d' e ns hn =>?_⟩;simp only[v6] at e;subst e;simpa only[h0,hn,I.only] using hL
 |box x =>
  cases dst with
  |none=>simp only[bl] at h;cases h
  |some d =>
   simp only[bl] at h ⊢;split at h
   case h_2=>cases h
   split at h
   case isFalse=>cases h
   rename_i hv;rw[if_pos hv];refine .done ⟨h,hi.put (B:=A.aT d _) (dst:=some d) (fun _=>rfl) fun d' e ns hn =>?_⟩;simp only[v6] at e;subst e;simpa only[h0,hn,I.only] using hL
 |bg s x v =>
  cases dst with
  |some d=>simp only[bl] at h;cases h
  |none =>
   simp only[bl] at h ⊢;split at h
   case h_2=>cases h
   rename_i n p hx;split at h
   case h_2=>cases h
   rename_i b hb;split at h
   case h_2=>cases h
   rename_i old hold;split at h
   case isFalse=>cases h
   rename_i hok;simp only[if_pos hok];exact .done ⟨h,fun s ns hn=>hi s ns hn⟩
 |call f args=>exact bO.Ay hi (unl fun ns d e hn=>by subst e;simp only[h0,hn]) h
 |fA x args =>
  have hu:=unl fun ns d e hn=>by subst e;simp only[h0,hn]
  simp only[bl] at h ⊢;split at h
  ·exact bO.Ay hi hu h
  ·exact bO.JC hi hu h
  ·cases h
 |dm e esz bytes z s x =>
  have hu:=unl fun ns d e hn=>by subst e;simp only[h0,hn]
  have ta:∀ B,gv A dst (ak A s) B→cW L B:=fun B hB t ns hn=>by
   rw[hB.1 t fun e=>by rw[hu t e] at hn;cases hn];exact hi t ns hn
  have hf:=yJ A dst e esz bytes z s x;rcases hf rest with J | ⟨B,J,U⟩ | ⟨p,bC,J,U⟩
  ·rw[J] at h;cases h
  ·rw[J] at h;have:bl A dst (.dm e esz bytes z s x) [] (aB [])=aB [] B:=(show bl A dst (.dm e esz bytes z s x) [] (aB [])=bl A dst (.dm e esz bytes z s x) rest (aB []) from rfl).trans (J _);rw[this];exact .done ⟨h,ta B U⟩
  ·rw[J] at h;have:bl A dst (.dm e esz bytes z s x) [] (aB [])=.any p fun m=>aB [] (bC m):=(show bl A dst (.dm e esz bytes z s x) [] (aB [])=bl A dst (.dm e esz bytes z s x) rest (aB []) from rfl).trans (J _);rw[this];exact .any rfl fun m hm=>.done ⟨h.yF m hm,ta _ (U m)⟩
 |_=>first | exact pure rfl | cases ho
def gw(g:aI)(A:ai)(v:I):Prop:=(gA A g∧v=.undef)∨(pass A g∧bn A g.op=some v)
theorem bO.xV{A:ai}{g:aI}{rest:List aI}(hs':iU g.op=true)(h:bO P Y ab K (aB (g::rest) A)):∃ v,gw g A v∧bO P Y ab K (aB rest (A.aS g.dst v)):=by
 have step:pass A g→bO P Y ab K (bl A g.dst g.op rest (aB rest))→∃ v,gw g A v∧bO P Y ab K (aB rest (A.aS g.dst v)):=by
  intro hp h;rw[wb hs'] at h;cases hv:bn A g.op with
  |none=>rw[hv] at h;cases h
  |some v=>rw[hv] at h;exact ⟨v,.inr ⟨hp,hv⟩,h⟩
 simp only[aB] at h;split at h
 ·rename_i hg;exact step (by simp only[pass,hg]) h
 ·rename_i t b hg;split at h
  ·rename_i b' hb;split at h
   ·rename_i hbb;subst hbb;exact step (by simp only[pass,hg];exact hb) h
   ·rename_i hbb;exact ⟨_,.inl ⟨by simp only[gA,hg];exact .inl (by rw[hb,uU hbb]),rfl⟩,h⟩
  ·rename_i hb;exact ⟨_,.inl ⟨by simp only[gA,hg];exact .inr hb,rfl⟩,h⟩
  ·cases h
theorem sw{A:ai}{g:aI}{rest:List aI}(hn:gA A g):aB (g::rest) A=aB rest (A.aS g.dst .undef):=by
 simp only[aB];cases hg:g.guard with
 |none=>simp only[gA,hg] at hn
 |some tb =>
  obtain ⟨t,b⟩:=tb;simp only[gA,hg] at hn;rcases hn with hn | hn
  ·simp only[hn];rw[if_neg (by cases b <;>simp)]
  ·simp only[hn]
theorem gw.to{A:ai}{g:aI}{rest:List aI}{v:I}(hs':iU g.op=true)(h:gw g A v):aB (g::rest) A=aB rest (A.aS g.dst v):=by
 rcases h with ⟨hn,rfl⟩ | ⟨hp,hv⟩
 ·exact sw hn
 ·rw[nw hp,wb hs',hv];rfl
theorem MG{A A':ai}{p:Nat→Bool}(ho:∀ n,p n=true→A'.o n=A.o n){x:I}(hx:x.only p=true):cK A' x=cK A x:=by
 cases x <;>simp only[cK]
 rename_i n q;rw[ho n (by simpa[I.only] using hx)]
mutual
theorem NF{A A':ai}{p:Nat→Bool}(ho:∀ n,p n=true→A'.o n=A.o n):∀ {x:I},x.only p=true→bj false A' x=bj false A x
 | .own n k,h=>by simp only[bj];rw[ho n (by simpa[I.only] using h)]
 | .func f caps,h=>by simp only[bj];rw[sT ho (xs:=caps) (by simpa[I.only] using h)]
 | .agg fs,h=>by simp only[bj];rw[sT ho (xs:=fs) (by simpa[I.only] using h)]
 | .undef,_ | .du,_ | .bool _,_ | .int _ _,_ | .bQ _,_ | .nilp,_ | .dy,_ | .dW,_ | .any,_ | .raw _,_ | .nils _,_ | .c0 _,_ | .slice _ _,_ | .tuple _,_ | .ref _,_ | .iface _ _,_ | .ptr _ _,_ | .view _ _ _ _ _,_ | .mref _,_ | .dj _,_ | .df _ _,_=>by simp[bj]
theorem sT{A A':ai}{p:Nat→Bool}(ho:∀ n,p n=true→A'.o n=A.o n):∀ {xs:List I},I.cv p xs=true→bY false A' xs=bY false A xs
 | [],_=>rfl
 |x::xs,h=>by
  simp only[I.cv,t8] at h;simp only[bY,NF ho h.1,sT ho h.2]
end
theorem Db{p:Nat→Bool}{f:aO→I} : ∀ {xs:List aO},(∀ x∈xs,(f x).only p=true)→I.cv p (xs.map f)=true
 | [],_=>rfl
 |x::xs,h=>by
  simp only[zz3,I.cv,t8];exact ⟨h x (by simp),Db fun y hy=>h y (by simp[hy])⟩
theorem XM{A A':ai}{p:Nat→Bool}(ho:∀ n,p n=true→A'.o n=A.o n){x:I}(hx:x.only p=true):gb A' x=gb A x:=by
 cases x with
 |mref n=>simp only[gb];rw[ho n (by simpa[I.only] using hx)]
 |raw v=>cases v <;>first | rfl | (rename_i o;cases o <;>rfl)
 |_=>rfl
theorem Zb{A A':ai}{op:bT}{xs:List Nat}{p:Nat→Bool}(hm:mP op=some xs)(h:ef A A' op.c8)(hx:∀ s∈xs,(A.t s).only p=true)(ho:∀ n,p n=true→A'.o n=A.o n):bn A' op=bn A op:=by
 have jh:op.gF=0→bn A' op=bn A op:=fun hc=>xj hc h;have dl:=fun {x:I} (hx:x.only p=true)=>MG ho hx;unfold mP at hm;split at hm
 ·rename_i s x;simp only[v6] at hm;subst hm;have e:=h x (by simp[bT.c8,aO.sl]);simp only[bn,ak,e,dl (hx x (by simp))]
 ·rename_i f off x;simp only[v6] at hm;subst hm;have e:=h x (by simp[bT.c8,aO.sl]);have k:=hx x (by simp);simp only[bn,ak,e];generalize A.t x=u at k ⊢;cases u with
  |ptr n q=>simp only[dl (x:=.ptr n q) k]
  |ref c=>cases c <;>rfl
  |_=>rfl
 ·rename_i n esz x i;simp only[v6] at hm;subst hm;have e:=h x (by simp[bT.c8,aO.sl]);have ei:=da (x:=i) (fun m hm=>h m (by simp[bT.c8,hm]));have k:=hx x (by simp);simp only[bn,ei];generalize ak A i=w;simp only[ak,e];generalize A.t x=u at k ⊢;cases u with
  |ptr n q=>simp only[dl (x:=.ptr n q) k]
  |ref c=>cases c <;>rfl
  |_=>rfl
 ·rename_i esz x i;simp only[v6] at hm;subst hm;have e:=h x (by simp[bT.c8,aO.sl]);have ei:=da (x:=i) (fun m hm=>h m (by simp[bT.c8,hm]));have k:=hx x (by simp);simp only[bn,ei];generalize ak A i=w;simp only[ak,e];generalize A.t x=u at k ⊢;cases u with
  |own n l=>simp only[ho n (by simpa[I.only] using k)]
  |view n q=>simp only[dl (x:=.ptr n q) (by simpa[I.only] using k)]
  |_=>rfl
 ·rename_i x;simp only[v6] at hm;subst hm;have e:=h x (by simp[bT.c8,aO.sl]);have k:=hx x (by simp);simp only[bn,ak,e];generalize A.t x=u at k ⊢;cases u with
  |own n l=>simp only[ho n (by simpa[I.only] using k)]
  |_=>rfl
 ·rename_i n esz x;simp only[v6] at hm;subst hm;have e:=h x (by simp[bT.c8,aO.sl]);have k:=hx x (by simp);simp only[bn,ak,e];generalize A.t x=u at k ⊢;cases u with
  |ptr n q=>simp only[dl (x:=.ptr n q) k]
  |ref c=>cases c <;>rfl
  |_=>rfl
 ·rename_i esz x lo hi mx;simp only[v6] at hm;subst hm;have e:=h x (by simp[bT.c8,aO.sl]);have e1:=oY (x:=lo) (fun m hm=>h m (by simp[bT.c8,hm]));have e2:=oY (x:=hi) (fun m hm=>h m (by simp[bT.c8,hm]));have e3:=oY (x:=mx) (fun m hm=>h m (by simp[bT.c8,hm]));have k:=hx x (by simp);simp only[bn,e1,e2,e3];generalize lo.map (ak A)=w1;generalize hi.map (ak A)=w2;generalize mx.map (ak A)=w3;simp only[ak,e];generalize A.t x=u at k ⊢;cases u with
  |view n q=>simp only[dl (x:=.ptr n q) (by simpa[I.only] using k)]
  |_=>rfl
 ·rename_i x;simp only[v6] at hm;subst hm;have e:=h x (by simp[bT.c8,aO.sl]);have k:=hx x (by simp);simp only[bn,ak,e];generalize A.t x=u at k ⊢;cases u with
  |view n q=>simp only[dl (x:=.ptr n q) (by simpa[I.only] using k)]
  |_=>rfl
 ·rename_i ty z ok x kk;simp only[v6] at hm;subst hm;have e:=h x (by simp[bT.c8,aO.sl]);have ek:=da (x:=kk) (fun m hm=>h m (by simp[bT.c8,hm]));have k:=hx x (by simp);simp only[bn,ek];generalize ak A kk=w;simp only[ak,e,XM ho k]
 ·rename_i esz ps;split at hm
  case isFalse=>cases hm
  rename_i hall;simp only[v6] at hm;subst hm;have hev:ps.map (ak A')=ps.map (ak A):=lM h;have hon:I.cv p (ps.map (ak A))=true:=Db fun x hx'=>by
   have J:=zx0.1 hall x hx';cases x with
   |c _=>cases J
   |t s=>exact hx s (by simp only[jJ,List.mem_flatMap];exact ⟨_,hx',by simp[aO.sl]⟩)
  simp only[bn,hev,sT ho hon]
 ·rfl
 ·split at hm
  ·rename_i hc;exact jh hc.1
  ·cases hm
theorem yG{L:dZ}{A:ai}{g:aI}{p:Nat→Bool}(hi:cW L A)(h:sx L g p=true):∃ xs,mP g.op=some xs∧∀ s∈xs,(A.t s).only p=true:=by
 unfold sx at h;split at h
 case h_2=>cases h
 rename_i xs hm;refine ⟨xs,hm,fun s hs' =>?_⟩;have J:=zx0.1 h s hs';split at J
 case h_2=>cases J
 rename_i ns hn;exact iM (fun n U=>zx0.1 J n (by simpa using U)) _ (hi s ns hn)
theorem gw.wF{A A':ai}{g:aI}{v:I}{xs:List Nat}{p:Nat→Bool}(h:gw g A v)(hm:mP g.op=some xs)(ha:ef A A' g.c8)(hx:∀ s∈xs,(A.t s).only p=true)(ho:∀ n,p n=true→A'.o n=A.o n):gw g A' v:=by
 rcases h with ⟨h,rfl⟩ | ⟨h,k⟩
 ·exact .inl ⟨pE ha h,rfl⟩
 ·exact .inr ⟨mR ha h,by rw[Zb hm (aI.jW ha) hx ho];exact k⟩
theorem gw.ta{L:dZ}{A:ai}{g:aI}{v:I}(hi:cW L A)(hg:h0 L g=true)(h:gw g A v):cW L (A.aS g.dst v):=by
 rcases h with ⟨_,rfl⟩ | ⟨_,k⟩
 ·exact hi.put (fun _=>rfl) fun _ _ _ _=>rfl
 ·exact hi.put (fun _=>rfl) (C8 hi hg k)
theorem gw.cU{A A':ai}{g:aI}{v:I}(h:gw g A v)(hu:ev A A')(ha:ef A A' g.c8):gw g A' v:=by
 rcases h with ⟨h,rfl⟩ | ⟨h,k⟩
 ·exact .inl ⟨pE ha h,rfl⟩
 ·exact .inr ⟨mR ha h,DC hu (aI.jW ha) k⟩
theorem Ci{L:dZ}{g h:aI}(hi:mM ab L g h=true):iU g.op=true∧n0 ab L g h=true∧(∀ d,g.dst=some d→d∉h.c8)∧(∀ d,g.dst=some d→h.dst≠some d)∧(∀ d,h.dst=some d→d∉g.c8):=by
 simp only[mM,t8] at hi;obtain ⟨J,U,ah,ar⟩:=hi;refine ⟨J,U,fun d af =>?_,fun d af =>?_,fun d af =>?_⟩
 ·rw[af] at ah;simp at ah;exact ah.1
 ·rw[af] at ah;simp at ah;exact ah.2
 ·rw[af] at ar;simpa using ar
theorem yK{aL:Bool}{A A':ai}{ρ:List (Nat×Nat)}{os:List (Nat×aq)}(hu:ev A A'):∀ {xs cs:List I},gO aL A ρ os xs cs→gO aL A' ρ os xs cs
 | [],[],_=>trivial
 |x::xs,c::cs,h=>⟨h.1.imp id fun h=>Bt hu h,yK hu h.2⟩
 | [],_::_,h=>h.elim
 |_::_,[],h=>h.elim
theorem XW{A:ai}{d:Option Nat}{v:I}{ts:List (Nat×I)}{os:List (Nat×aq)}(h:A.aS d v=au ts os):∃ ts2,A=au ts2 os∧∀ X:List (Nat×aq),(au ts2 X).aS d v=au ts X:=by
 cases d with
 |none=>exact ⟨ts,h,fun _=>rfl⟩
 |some d =>
  have ht:∀ k,(A.aS (some d) v).t k=bZ ts k:=fun k=>by rw[h];rfl
  have ho:A.o=aj os:=by
   have:(A.aS (some d) v).o=aj os:=by rw[h];rfl
   rwa [im] at this
  refine ⟨(d,A.t d)::ts,?_,fun X =>?_⟩
  ·cases A with
   |mk t o =>
    simp only[au,ai.mk.injEq];refine ⟨funext fun k =>?_,ho⟩;have:=ht k;simp only[ai.aS,ai.put] at this;simp only[bZ];by_cases hk:k=d
    ·subst hk;simp
    ·rw[if_neg hk] at this;have hk':¬ d=k:=fun e=>hk e.symm;simp only[hk,if_false];exact this
  ·simp only[ai.aS,ai.put,au,ai.mk.injEq,and_true]
   funext k
   have:=ht k;simp only[ai.aS,ai.put] at this;by_cases hk:k=d
   ·subst hk;simp at this ⊢;exact this
   ·have hk':¬ d=k:=fun e=>hk e.symm;simp only[bZ,hk,if_false]
theorem Za{ρ:List (Nat×Nat)}{os0 os':List (Nat×aq)}{r:I}(hb:fW false ρ [] os0 r os'){n:Nat}{x:aq}(hx:aj os0 n=some x):aj (dn ρ os'++os0) n=some x:=by
 rw[qW];cases hp:pre ρ os' n with
 |none=>exact hx
 |some m =>
  obtain ⟨J,U⟩:=lh hp;have:=(hb.pB m J (by simp[aw,aj])).1;rw[U,hx] at this;cases this
theorem bO.JA{A B:ai}{j:aI}{v:I}{f:FuncId}{args:List aO}{dst:Option Nat}{rest:List aI}(hj:iU j.op=true)(hv:gw j A v)(hB:B=A.aS j.dst v)(hf:ab.contains f=false)(hag:ef A B (jJ args))(af:∀ d,j.dst=some d→dst≠some d)(hr:∀ d,dst=some d→d∉j.c8)
  (h:bO P Y ab K (.call f (args.map (ak B)) (bY true B (args.map (ak B))) (bY false B (args.map (ak B))) dst rest B)):bO P Y ab K (.call f (args.map (ak A)) (bY true A (args.map (ak A))) (bY false A (args.map (ak A))) dst (j::rest) A):=by
 have eo:B.o=A.o:=by rw[hB,im]
 have cU:ev B A:=fun n x hx=>by rwa [←eo]
 have up':ev A B:=fun n x hx=>by rwa [eo]
 have eav:args.map (ak B)=args.map (ak A):=lM hag;rw[eav] at h;have cont:∀ r:I,bO P Y ab K (aB rest (B.aS dst r))→bO P Y ab K (aB (j::rest) (A.aS dst r)):=fun r hw=>by
  have J:gw j (A.aS dst r) v:=hv.cU (fun n x hx=>by rwa [im]) (l7 hr);rw[J.to hj,pO (fun d hd'=>fun e=>af d e hd'),←hB];exact hw
 generalize e1:bY true B (args.map (ak A))=a1 at h;generalize e2:bY false B (args.map (ak A))=a2 at h;generalize hBm:B=B0 at h;cases h with
 |flat r hc hfl hw =>
  subst hBm;rw[kV cU e1];exact .flat r hc hfl (cont r hw)
 |lead r hc hw =>
  subst hBm;rw[kV cU e2];exact .lead r hc (cont r hw)
 |bP ρ cargs post hc hg ha hb hw =>
  rename_i ts os0;rw[hB] at hBm;obtain ⟨ts2,hA,hts⟩:=XW hBm;have hA':=hA;clear cont;subst hA;refine .bP ρ cargs post hc hg (yK (A:=au ts os0) (A':=au ts2 os0) (fun n x hx=>hx) ha) hb fun r os' hp =>?_;have J:gw j ((au ts2 (dn ρ os'++os0)).aS dst (r.bh (bH ρ))) v:=hv.cU (fun n x hx=>by
   rw[im];exact Za (hb r os' hp) hx) (fun k hk=>by
    have:=l7 (A:=au ts2 (dn ρ os'++os0)) (v:=r.bh (bH ρ)) hr k hk;rw[this];rfl)
  rw[J.to hj,pO (fun d hd'=>fun e=>af d e hd'),hts];exact hw r os' hp
 |wY aL ρ os cargs post hfs =>
  rw[hf] at hfs;cases hfs
theorem bO.rV{L:dZ}{A:ai}{j g:aI}{rest:List aI}(hinv:cW L A)(hi:mM ab L j g=true)(hw:bO P Y ab K (aB (j::g::rest) A)):bO P Y ab K (aB (g::j::rest) A):=by
 obtain ⟨hj,ao,i1,i2,i3⟩:=Ci hi;obtain ⟨v,hv,hw⟩:=bO.xV hj hw;have ag:ef (A.aS j.dst v) A g.c8:=(l7 i1).symm;have ag':ef A (A.aS j.dst v) g.c8:=l7 i1;have cU:ev (A.aS j.dst v) A:=fun n x hx=>by rwa [im] at hx
 have up':∀ (d:Option Nat) (u:I),ev A (A.aS d u):=fun d u n x hx=>by rwa [im]
 by_cases hsg:iU g.op=true
 ·obtain ⟨u,hu,hw⟩:=bO.xV hsg hw;rw[(hu.cU cU ag).to hsg,(hv.cU (up' _ _) (l7 i3)).to hj,←pO i2];exact hw
 ·-- the guard
  have guard:(gA (A.aS j.dst v) g∧aB (g::rest) (A.aS j.dst v)=aB rest ((A.aS j.dst v).aS g.dst .undef))∨(pass (A.aS j.dst v) g∧aB (g::rest) (A.aS j.dst v)=bl (A.aS j.dst v) g.dst g.op rest (aB rest))∨aB (g::rest) (A.aS j.dst v)=.fail:=by
   cases hg:g.guard with
   |none=>exact .inr (.inl ⟨by simp only[pass,hg],by simp only[aB,hg]⟩)
   |some tb =>
    obtain ⟨t,b⟩:=tb;cases ht:(A.aS j.dst v).t t with
    |bool b' =>
     by_cases hbb:b'=b
     ·subst hbb;have hp:pass (A.aS j.dst v) g:=by simp only[pass,hg,ht]
      exact .inr (.inl ⟨hp,nw hp⟩)
     ·have hn:gA (A.aS j.dst v) g:=by simp only[gA,hg];exact .inl (by rw[ht,uU hbb])
      exact .inl ⟨hn,sw hn⟩
    |undef =>
     have hn:gA (A.aS j.dst v) g:=by simp only[gA,hg];exact .inr ht
     exact .inl ⟨hn,sw hn⟩
    |_=>exact .inr (.inr (by simp only[aB,hg,ht]))
  rcases guard with ⟨hn,he⟩ | ⟨hp,he⟩ | he
  ·rw[he] at hw;rw[sw (pE ag hn),(hv.cU (up' _ _) (l7 i3)).to hj,←pO i2];exact hw
  ·rw[he] at hw;rw[nw (mR ag hp)];obtain ⟨dst,op,gd⟩:=g;simp only at hw hsg i2 i3 ⊢;cases op with
   |alloc z =>
    cases dst with
    |none=>simp only[bl] at hw;cases hw
    |some d =>
    simp only[bl] at hw ⊢;split at hw
    case h_2=>cases hw
    rename_i ho;rw[im] at ho;simp only[ho];have J:gw j ((A.aT d (.box z)).put d (.ptr d [])) v:=hv.cU (fun n y hy=>by
     have:n≠d:=fun he=>by rw[he,ho] at hy;cases hy
     simp only[ai.put,ai.aT,this,if_false];exact hy) (fun k hk=>by
     have:k≠d:=fun he=>i3 d rfl (he▸hk);simp only[ai.put,ai.aT,this,if_false])
    rw[J.to hj];have e:((A.aS j.dst v).aT d (.box z)).put d (.ptr d [])=((A.aT d (.box z)).put d (.ptr d [])).aS j.dst v:=by
     cases hgd:j.dst with
     |none=>rfl
     |some e =>
      have hne:e≠d:=fun he=>i2 e hgd (by rw[he]);simp only[ai.aS,ai.put,ai.aT,ai.mk.injEq,and_true]
      funext k
      by_cases J:k=e <;>by_cases U:k=d <;>simp_all
    rw[←e];exact hw
   |box x =>
    have ex:ak (A.aS j.dst v) x=ak A x:=da (aI.jW ag');cases dst with
    |none=>simp only[bl] at hw;cases hw
    |some d =>
    simp only[bl] at hw ⊢;split at hw
    case h_2=>cases hw
    rename_i ho;rw[im] at ho;simp only[ho];rw[ex] at hw;split at hw
    case isFalse=>cases hw
    rename_i hval;rw[if_pos hval];have J:gw j ((A.aT d (.box (ak A x))).put d (.ptr d [])) v:=hv.cU (fun n y hy=>by
     have:n≠d:=fun he=>by rw[he,ho] at hy;cases hy
     simp only[ai.put,ai.aT,this,if_false];exact hy) (fun k hk=>by
     have:k≠d:=fun he=>i3 d rfl (he▸hk);simp only[ai.put,ai.aT,this,if_false])
    rw[J.to hj];have e:((A.aS j.dst v).aT d (.box (ak A x))).put d (.ptr d [])=((A.aT d (.box (ak A x))).put d (.ptr d [])).aS j.dst v:=by
     cases hgd:j.dst with
     |none=>rfl
     |some e =>
      have hne:e≠d:=fun he=>i2 e hgd (by rw[he]);simp only[ai.aS,ai.put,ai.aT,ai.mk.injEq,and_true]
      funext k
      by_cases J:k=e <;>by_cases U:k=d <;>simp_all
    rw[←e];exact hw
   |call f args =>
    simp only[bl] at hw ⊢;refine bO.JA hj hv rfl (by simpa[n0,px] using ao) (aI.jW ag') i2 i3 hw
   |bg s y u =>
    cases dst with
    |some d=>simp only[bl] at hw;cases hw
    |none =>
    have ey:ak (A.aS j.dst v) y=ak A y:=da (aI.jW ag').l;have eu:ak (A.aS j.dst v) u=ak A u:=da (aI.jW ag').r;simp only[bl] at hw ⊢;rw[ey,eu,im] at hw;cases hx:ak A y <;>simp only[hx] at hw ⊢ <;>try (cases hw;done)
    rename_i n q;cases ho:A.o n with
    |none=>rw[ho] at hw;cases hw
    |some ob =>
    rw[ho] at hw;cases ob <;>simp only at hw ⊢ <;>try (cases hw;done)
    rename_i b;cases hb:b.at q with
    |none=>rw[hb] at hw;cases hw
    |some old =>
    rw[hb] at hw;simp only at hw ⊢;split at hw
    case isFalse=>cases hw
    rename_i hok;rw[if_pos hok];have J:gw j (A.aT n (.box (b.ep q (ak A u)))) v:=by
     have none0:mP j.op=some []→gw j (A.aT n (.box (b.ep q (ak A u)))) v:=fun hm=>hv.wF (p:=fun _=>false) hm (fun _ _=>rfl) (fun s hs'=>by cases hs') (fun m hm=>by cases hm);cases y with
     |c y =>
      simp only[n0,px,iU,Bool.false_or] at ao;split at ao
      ·rename_i hm;exact none0 hm
      ·cases ao
     |t y =>
      simp only[n0,px,iU,Bool.false_or] at ao;split at ao
      ·rename_i hm;exact none0 hm
      ·split at ao
       case h_2=>cases ao
       rename_i ms hms;obtain ⟨xs,hm,hx2⟩:=yG hinv ao;refine hv.wF hm (fun _ _=>rfl) hx2 fun m hm2 =>?_;have hn:=hinv y ms hms;simp only[ak] at hx;rw[hx] at hn;have:m≠n:=fun e=>by subst e;simp[I.only] at hn hm2;exact hm2 hn
       simp only[ai.aT,if_neg this]
    rw[J.to hj];have e:(A.aS j.dst v).aT n (.box (b.ep q (ak A u)))=(A.aT n (.box (b.ep q (ak A u)))).aS j.dst v:=by cases j.dst <;>rfl
    rw[←e];exact hw
   |dm e esz bytes z s x =>
    have hag:ef A (A.aS j.dst v) (s.sl++x.sl):=aI.jW ag';have he2:bl (A.aS j.dst v) dst (.dm e esz bytes z s x) rest (aB rest)=bl A dst (.dm e esz bytes z s x) (j::rest) fun B=>aB rest (B.aS j.dst v):=by
     cases hjd:j.dst with
     |none=>rfl
     |some d =>
      rw[hjd] at hag;exact HN (fun e=>i2 d hjd e) hag rest (j::rest) (aB rest)
    rw[he2] at hw;have iC:∀ B,gv A dst (ak A s) B→aB (j::rest) B=aB rest (B.aS j.dst v):=fun B hB=>by
     have hagB:ef A B j.c8:=fun k hk=>hB.1 k fun e=>i3 k e hk;have:gw j B v:=by
      simp only[n0,px,iU,Bool.false_or,Bool.or_eq_true] at ao;rcases ao with ao | ao
      ·obtain ⟨xs,hm,hx2⟩:=yG hinv ao;exact hv.wF hm hagB hx2 fun m hm2=>by cases hm2
      ·have:=rT hinv ao;exact hv.cU (hB.2 (by simpa using this)) hagB
     rw[this.to hj]
    rcases yJ A dst e esz bytes z s x (j::rest) with J | ⟨B,J,U⟩ | ⟨p,bC,J,U⟩
    ·rw[J] at hw;cases hw
    ·rw[J] at hw ⊢;rw[iC B U];exact hw
    ·rw[J] at hw ⊢;exact .any fun m hm=>by rw[iC _ (U m)];exact hw.yF m hm
   |_=>first | exact absurd rfl hsg | (simp[n0,px,iU] at ao)
  ·rw[he] at hw;cases hw
theorem bO.nz{L:dZ}{g:aI} : ∀ {l:List aI} {r:List aI} {A:ai},cW L A→(∀ j∈l,mM ab L j g=true∧h0 L j=true)→bO P Y ab K (aB (l++g::r) A)→bO P Y ab K (aB (g::(l++r)) A)
 | [],r,A,_,_,h=>h
 |j::l,r,A,hinv,hi,h=>by
  have hj:=(Ci (hi j (by simp)).1).1;obtain ⟨v,hv,U⟩:=bO.xV (g:=j) (rest:=l++g::r) hj h;have ah:=bO.nz (l:=l) (r:=r) (hv.ta hinv (hi j (by simp)).2) (fun k hk=>hi k (by simp[hk])) U;refine bO.rV hinv (hi j (by simp)).1 ?_;rw[hv.to hj];exact ah
end
def rl:List Nat→Bool
 | []=>true
 |a::l => !l.contains a&&rl l
def qa(ab:List FuncId)(L:dZ)(gs:List aI)(cl:List Nat):List Nat→List Nat→Bool
 |_,[]=>true
 |before,i::σ=>(before.all fun j=>(cl.getD i 0).testBit j||mM ab L (gs.getD j default) (gs.getD i default))&&qa ab L gs cl (i::before) σ
def tF(ab:List FuncId)(L:dZ)(on:List (List Nat))(gs:List aI)(cl:List Nat)(σ:List Nat):Bool :=
 (Nat.beq σ.length gs.length&&(rl σ&&(σ.all (fun i=>decide (i<gs.length))&&((List.range gs.length).all (fun i=>σ.contains i)&&gs.all fun g=>mQ g.op&&h0 L g))))&&(qa ab L gs cl [] σ&&(List.range gs.length).all fun i=>(on.getD i []).all (fun k=>decide (k<i))&&Nat.beq (cl.getD i 0) (lC cl (on.getD i [])))
theorem wU:∀ {l:List Nat},rl l=true→l.Nodup
 | [],_=>List.nodup_nil
 |a::l,h=>by
  simp only[rl,t8,Bool.not_eq_true',List.contains_eq_mem,decide_eq_false_iff_not] at h;exact List.nodup_cons.2 ⟨h.1,wU h.2⟩
theorem uL{ab:List FuncId}{L:dZ}{gs:List aI}{cl:List Nat} : ∀ {σ before:List Nat},qa ab L gs cl before σ=true→∀ s1 i s2,σ=s1++i::s2→∀ j,j∈before∨j∈s1→(cl.getD i 0).testBit j=true∨mM ab L (gs.getD j default) (gs.getD i default)=true
 | [],_,_,s1,i,s2,e,_,_=>by cases s1 <;>cases e
 |a::σ,before,h,s1,i,s2,e,j,hj=>by
  simp only[qa,t8,zx0,Bool.or_eq_true] at h;cases s1 with
  |nil =>
   simp only[zv3,zw8] at e;obtain ⟨rfl,rfl⟩:=e;rcases hj with hj | hj
   ·exact h.1 j hj
   ·cases hj
  |cons b s1 =>
   simp only[zz5,zw8] at e;obtain ⟨rfl,rfl⟩:=e;refine uL h.2 s1 i s2 rfl j ?_;rcases hj with hj | hj
   ·exact .inl (List.mem_cons_of_mem _ hj)
   ·rcases zv1.1 hj with hj | hj
    ·exact .inl (by rw[hj];exact List.mem_cons_self)
    ·exact .inr hj
def dX(σ:List Nat)(listed:Array Bool):List Nat:=σ.filter fun i => !listed.getD i true
def gB(gs:List aI)(σ:List Nat)(listed:Array Bool):List aI:=(dX σ listed).map fun i=>gs.getD i default
theorem xv{σ:List Nat}{listed:Array Bool}{i:Nat}(hn:σ.Nodup)(hi:i∈σ)(ao:i<listed.size)(hu:listed.getD i true=false):∃ s1 s2,σ=s1++i::s2∧dX σ listed=(s1.filter fun j => !listed.getD j true)++i::(s2.filter fun j => !listed.getD j true) ∧
  dX σ (listed.setIfInBounds i true)=(s1.filter fun j => !listed.getD j true)++(s2.filter fun j => !listed.getD j true):=by
 obtain ⟨s1,s2,rfl⟩:=List.append_of_mem hi;have same:∀ j,j≠i→(listed.setIfInBounds i true).getD j true=listed.getD j true:=fun j hj=>getD_set_ne true (Ne.symm hj);have hit:(listed.setIfInBounds i true).getD i true=true:=by simp[ao]
 have hnd:=List.nodup_append.1 hn;have J:∀ j∈s1,j≠i:=fun j hj=>hnd.2.2 j hj i List.mem_cons_self;have U:∀ j∈s2,j≠i:=fun j hj e=>(List.nodup_cons.1 hnd.2.1).1 (e▸hj);refine ⟨s1,s2,rfl,?_,?_⟩
 ·simp only[dX,List.filter_append,zw0,hu,Bool.not_false,if_true]
 ·simp only[dX,List.filter_append,zw0,hit,Bool.not_true,zz2,if_false]
  congr 1
  ·exact List.filter_congr fun j hj=>by rw[same j (J j hj)]
  ·exact List.filter_congr fun j hj=>by rw[same j (U j hj)]
structure yw (ab:List FuncId) (L:dZ) (l:List Oper) (gs:List aI) (σ:List Nat):Prop where
 nW:σ.Nodup
 lt:∀ i∈σ,i<gs.length
 all:∀ i,i<gs.length→i∈σ
 ok:∀ g∈gs,mQ g.op=true∧h0 L g=true
 len:σ.length=gs.length
 iw:∀ i o,l[i]?=some o→∀ k∈cq o,k<i
 pk:∀ (S:Nat→Prop),(∀ i o,l[i]?=some o→S i→∀ k∈cq o,S k)→∀ s1 i s2 o,σ=s1++i::s2→l[i]?=some o→(∀ k∈cq o,S k)→∀ j∈s1,¬ S j→mM ab L (gs.getD j default) (gs.getD i default)=true
theorem Y3{ab:List FuncId}{L:dZ}{l:List Oper}{gs:List aI}{cl σ:List Nat}(hlen:gs.length=l.length)(h:tF ab L (l.map cq) gs cl σ=true):yw ab L l gs σ:=by
 simp only[tF,t8,zx0,decide_eq_true_eq,zw5,List.contains_eq_mem] at h;obtain ⟨⟨J,U,ah,ar,h5⟩,h6,h7⟩:=h;have fB:∀ i o,l[i]?=some o→(∀ k∈cq o,k<i)∧(∀ j,(cl.getD i 0).testBit j=true→j∈cq o∨∃ k∈cq o,(cl.getD k 0).testBit j=true):=by
  intro i o ho;have hi:i<l.length:=(zz6.1 ho).1;have h8:=h7 i (by omega);have hon:(l.map cq).getD i []=cq o:=by simp[zz0,ho]
  rw[hon] at h8;have hb:=Nat.eq_of_beq_eq_true h8.2;exact ⟨h8.1,fun j hj=>rZ (by rw[←hb];exact hj)⟩
 refine ⟨wU U,ah,ar,h5,Nat.eq_of_beq_eq_true J,fun i o ho=>(fB i o ho).1,?_⟩;intro S hS s1 i s2 o e ho hon j hj hnj;have key:∀ n i o,i≤n→l[i]?=some o→(∀ k∈cq o,S k)→∀ j,(cl.getD i 0).testBit j=true→S j:=by
  intro n
  induction n with
  |zero =>
   intro i o hi ho hon j hj;obtain ⟨h8,h9⟩:=fB i o ho;rcases h9 j hj with h | ⟨k,hk,_⟩
   ·exact hon j h
   ·have:=h8 k hk;omega
  |succ n ih =>
   intro i o hi ho hon j hj;obtain ⟨h8,h9⟩:=fB i o ho;rcases h9 j hj with h | ⟨k,hk,hjk⟩
   ·exact hon j h
   ·have hki:=h8 k hk;have hkl:k<l.length:=Nat.lt_trans hki (zz6.1 ho).1;obtain ⟨ok,hok⟩:∃ ok,l[k]?=some ok:=⟨l[k],zy3 hkl⟩
    exact ih k ok (by omega) hok (hS k ok hok (hon k hk)) j hjk
 rcases uL h6 s1 i s2 e j (.inr hj) with h | h
 ·exact absurd (key i i o (zz4 _) ho hon j h) hnj
 ·exact h
section
variable {c:cV}
theorem sU{K:ai→Prop}{ab:List FuncId}{L:dZ}{aW:Array Oper}{Q:Exit→Act→World→Prop}{o:Oper}{g:aI}{rest:List aI}{A:ai}{a:Act}{w:World}{Kw:Act→World→Prop}(hg:lK c.P c.n aW o=some g)(hi:cW L A)(ho:mQ g.op=true∧h0 L g=true)(hwp:bO c.P c.Y ab K (aB (g::rest) A))(hs':b6 c A a w)
  (hK:∀ B a' w',bO c.P c.Y ab K (aB rest B)→cW L B→b6 c B a' w'→Kw a' w'):if Region.wanted o (yielded aW a.tmps) then o.wpIn c.bC 9 c.P a w Kw Q else (∀ f,o.about c.P w a.eval=some f→c.bC.fn f)∧Kw (a.put o.dst undef) w:=by
 obtain ⟨J,U,ah,ar⟩:=nA hg;have step:bO c.P c.Y ab K (bl A g.dst g.op rest (aB rest))→o.wpIn c.bC 9 c.P a w Kw Q:=fun h =>
  sV J U.symm (by rw[U];exact ah) (bO.one (Y:=c.Y) hi ho.1 ho.2 h) hs' (fun B a' w' hw hs2=>by
   cases hw with
   |done hk=>exact hK B a' w' hk.1 hk.2 hs2)
 simp only[aB] at hwp;rcases ar with ⟨h5,h6⟩ | ⟨j,b,t,h5,h6,h7⟩
 ·rw[h6] at hwp;have hw:Region.wanted o (yielded aW a.tmps)=true:=by simp[Region.wanted,h5]
  rw[hw,if_pos rfl];exact step hwp
 ·rw[h7] at hwp;simp only at hwp;split at hwp
  ·rename_i b' hb';rw[sZ hs' h5 h6 hb'];split at hwp
   ·rename_i hbb;subst hbb;simp only[BEq.rfl,if_true];exact step hwp
   ·rename_i hbb;have:(b'==b)=false:=by simpa using hbb
    rw[this];simp only[zz2,if_false];exact ⟨fun f _=>lP c f,hK _ _ _ hwp (hi.put (fun _=>rfl) fun _ _ _ _=>rfl) (by rw[U];exact hs'.mW ah)⟩
  ·rename_i hb';rw[s7 hs' h5 h6 hb'];simp only[zz2,if_false];exact ⟨fun f _=>lP c f,hK _ _ _ hwp (hi.put (fun _=>rfl) fun _ _ _ _=>rfl) (by rw[U];exact hs'.mW ah)⟩
  ·cases hwp
theorem HA{K:ai→Prop}{fs:List FuncId}{L:dZ}{aW:Array Oper}{gs:List aI}{σ:List Nat}{Q:Exit→Act→World→Prop}(hQ:∀ B a w,K B→b6 c B a w→Q .normal a w)(hgs:fM c.P c.n aW aW.toList=some gs)(af:yw fs L aW.toList gs σ) :
  ∀ (fuel:Nat) (listed:Array Bool) (A:ai) (a:Act) (w:World),listed.size=aW.size→(∀ i o,aW.toList[i]?=some o→listed.getD i false=true→∀ k∈cq o,listed.getD k false=true)→(dX σ listed).length≤fuel →
   cW L A→bO c.P c.Y fs K (aB (gB gs σ listed) A)→b6 c A a w→wpAnyIn c.bC 9 c.P .any aW Q fuel listed a w:=by
 obtain ⟨hlen,hat⟩:=iz hgs;have onOf_mem:∀ (o:Oper) (e:Edge),e∈o.after→Region.binds .any e=true→e.on∈cq o:=fun o e he hb=>by
  simp only[cq,zx1,zw3];exact ⟨e,⟨by simpa using he,hb⟩,rfl⟩
 have of_onOf:∀ (o:Oper) (k:Nat),k∈cq o→∃ e∈o.after,Region.binds .any e=true∧e.on=k:=fun o k hk=>by
  simp only[cq,zx1,zw3] at hk;obtain ⟨e,⟨J,U⟩,ah⟩:=hk;exact ⟨e,by simpa using J,U,ah⟩
 have hgl:gs.length=aW.size:=by rw[hlen,zx2]
 have last:∀ (listed:Array Bool) (A:ai) (a:Act) (w:World),listed.size=aW.size→Region.ready .any aW listed=[]→bO c.P c.Y fs K (aB (gB gs σ listed) A)→b6 c A a w→Q .normal a w:=by
  intro listed A a w hsz hr hwp ab;have hnone:dX σ listed=[]:=by
   have all:∀ n,∀ i,i<n→i<aW.size→listed.getD i true=true:=by
    intro n
    induction n with
    |zero=>intro i hi;omega
    |succ n ih =>
     intro i hi his;cases hb:listed.getD i true with
     |true=>rfl
     |false =>
      exfalso
      have ho:aW[i]?=some aW[i]:=zw7 his;have:i∈Region.ready .any aW listed:=mem_ready.2 ⟨hb,aW[i],ho,fun e he hbd=>by
       have hlt:=af.iw i aW[i] (by simp) e.on (onOf_mem _ e he hbd);have J:=ih e.on (by omega) (by omega);have U:e.on<listed.size:=by omega
       simpa[Array.getD_eq_getD_getElem?,U] using J⟩
      rw[hr] at this;cases this
   simp only[dX];refine List.filter_eq_nil_iff.2 fun i hi =>?_;have:=all (i+1) i (by omega) (by rw[←hgl];exact af.lt i hi);simp only[this,Bool.not_true,zz2,not_false_eq_true]
  simp only[gB,hnone,zx4,aB] at hwp;cases hwp with
  |done hk=>exact hQ A a w hk ab
 intro fuel
 induction fuel with
 |zero =>
  intro listed A a w hsz hcl hcnt hinv hwp ab;have hnone:dX σ listed=[]:=List.length_eq_zero_iff.1 (by omega);have hr:Region.ready .any aW listed=[]:=by
   refine List.eq_nil_iff_forall_not_mem.2 fun i hi =>?_;obtain ⟨J,o,ho,_⟩:=mem_ready.1 hi;have:i∈dX σ listed:=by
    simp only[dX,zw3,J,Bool.not_false,and_true];exact af.all i (by rw[hgl];exact (zy1.1 ho).1)
   rw[hnone] at this;cases this
  exact ⟨hr,last listed A a w hsz hr hwp ab⟩
 |succ fuel ih =>
  intro listed A a w hsz hcl hcnt hinv hwp ab;refine ⟨fun hr=>last listed A a w hsz hr hwp ab,fun i hi =>?_⟩;obtain ⟨hun,o,ho,hall⟩:=mem_ready.1 hi;have hin:i<aW.size:=(zy1.1 ho).1;obtain ⟨s1,s2,hσ,e1,e2⟩:=xv af.nW (af.all i (by omega)) (by omega) hun;have hol:aW.toList[i]?=some o:=by simpa using ho
  obtain ⟨g,hgi,hcg⟩:=hat i o hol;have hon:∀ k∈cq o,listed.getD k false=true:=fun k hk=>by
   obtain ⟨e,J,U,ah⟩:=of_onOf o k hk;exact ah▸hall e J U
  have hgd:gs.getD i default=g:=by simp[zz0,hgi]
  have hwp':bO c.P c.Y fs K (aB (g::gB gs σ (listed.setIfInBounds i true)) A):=by
   simp only[gB,e1,zy5,zz3,hgd] at hwp;simp only[gB,e2,zy5];refine bO.nz hinv (fun j hj =>?_) hwp;obtain ⟨k,hk,rfl⟩:=zx1.1 hj;obtain ⟨hk1,hk2⟩:=zw3.1 hk;have:=af.pk (fun k=>listed.getD k false=true) hcl s1 i s2 o hσ hol hon k hk1 (by
    have hks:k<listed.size:=by
     have:=af.lt k (by rw[hσ];exact List.mem_append_left _ hk1);omega
    simp[Array.getD_eq_getD_getElem?,hks] at hk2 ⊢;exact hk2)
   rw[hgd] at this;refine ⟨this,(af.ok _ ?_).2⟩;have hkl:=af.lt k (by rw[hσ];exact List.mem_append_left _ hk1);rw[zz0,zy3 hkl];exact List.getElem_mem _
  unfold wpOpIn;rw[ho];refine sU hcg hinv (af.ok g (List.mem_of_getElem? hgi)) hwp' ab fun B a' w' hw hiB hs'=>ih _ B a' w' (by simpa using hsz) ?_ ?_ hiB hw hs'
  ·intro m om hom hm k hk;by_cases hmi:m=i
   ·subst hmi;rw[hol,v6] at hom;subst hom;exact getD_set_true (hon k hk)
   ·rw[getD_set_ne false (Ne.symm hmi)] at hm;exact getD_set_true (hcl m om hom hm k hk)
  ·have:(dX σ listed).length=(dX σ (listed.setIfInBounds i true)).length+1:=by
    rw[e1,e2];simp;omega
   omega
def e8(σ:List Nat)(gs:List aI):List aI:=σ.map fun i=>gs.getD i default
theorem ae.Zu{Q:Exit→ai→Prop}{A:ai}{on:List (List Nat)}{gs:List aI}(ab:List FuncId)(L:dZ)(cl σ:List Nat)(af:tF ab L on gs cl σ=true)(hi:cW L A)(h:∀ K:ai→Prop,(∀ B,Q .normal B→K B)→bO c.P c.Y ab K (aB (e8 σ gs) A)):ae c (.cw (some on) gs) Q A:=by
 intro code hc a w hs';cases code <;>simp only[eA] at hc <;>try (first | (cases hc;done) | ((repeat' split at hc) <;>cases hc;done))
 rename_i id aW draw;split at hc
 ·rename_i gs' hgs;split at hc
  case isFalse=>cases hc
  rename_i hok;simp only[v6,bp.cw.injEq] at hc;obtain ⟨he,rfl⟩:=hc;cases draw with
  |false=>cases he
  |true =>
   simp only[cond_true,v6] at he;subst he;simp only[Bool.not_true,Bool.false_or] at hok;have hp:=Y3 (iz hgs).1 af;refine wpIn_region_any hok (HA (K:=Q .normal) (fun B a w hk ab=>⟨B,hk,ab⟩) hgs hp aW.size (Array.replicate aW.size false) A a _ (by simp) ?_ ?_ hi ?_ ?_)
   ·intro i o _ h
    exfalso
    simp only[Array.getD_eq_getD_getElem?,Array.getElem?_replicate] at h;split at h <;>simp at h
   ·refine zw9 (List.length_filter_le _ _) ?_;rw[hp.len,(iz hgs).1,zx2];exact zz4 _
   ·have hall:dX σ (Array.replicate aW.size false)=σ:=by
     simp only[dX];refine List.filter_eq_self.2 fun i hi =>?_;have J:=hp.lt i hi;rw[(iz hgs).1,zx2] at J;simp[J]
    simp only[gB,hall];exact h _ fun _ hb=>hb
   ·obtain ⟨D,E,hs'⟩:=hs';exact ⟨D,E,hs'.grow (w' := { w with drawn:=w.drawn+1 }) ⟨rfl,rfl,rfl,zz4 _,fun _ _=>rfl⟩ (fun _ _ h=>h) (fun _ _ h _=>h) (fun b o h=>hs'.aR b o h)⟩
 ·cases hc
def fo(ts:List (Nat×I)):dZ→Prop
 | []=>True
 |(s,ns)::L=>(bZ ts s).only (fun n=>ns.contains n)=true∧fo ts L
theorem cW.of{ts:List (Nat×I)}{os:List (Nat×aq)}{L:dZ}(h:fo ts L):cW L (au ts os):=by
 intro s ns hn;simp only[au]
 induction L with
 |nil=>cases hn
 |cons q L ih =>
  obtain ⟨s',ns'⟩:=q;simp only[fo] at h;simp only[hX,List.find?_cons] at hn;split at hn
  ·rename_i e;simp only[zz9,v6] at hn;simp only[beq_iff_eq] at e;subst e hn;exact h.1
  ·exact ih h.2 hn
end
end Go.Abs
namespace Go.Abs
open Go Go.RowKit
open Enc (enc)
section
variable {α:Type} [Enc α] {P:Program} {Y:Value→List I→List (Nat×aq)→cC→Prop} {K:ai→Prop} {A:ai} {rest:List aI} {esz bytes:Nat}
theorem tV{n lo k:Nat}{xs:List α}(ho:A.o n=some (.box (.agg (xs.map enc))))(h:lo+k≤xs.length):eH A esz (.view n [] esz lo k)=some (((xs.drop lo).take k).map enc):=by
 have J:cK A (.ptr n [])=some (.agg (xs.map enc)):=by simp only[cK,ho];rfl
 simp only[eH,J,zz8];rw[if_pos ⟨h,trivial⟩,List.map_take,List.map_drop]
theorem Z2{xs ys:List α}(h:xs.length=ys.length):I.cQ (xs.map enc)=I.cQ (ys.map enc):=by
 rw[rQ,rQ,h]
theorem yI{d:Option Nat}{e:Nat}(z:I)(ab:Enc.sz α=esz){n l:Nat}{xs ys:List α}(hy:ys≠[])(ho:A.o n=some (.box (.agg (xs.map enc))))(hr:l+ys.length≤xs.length) :
  fK A d e esz bytes z (enc ys) rest (.view n [] esz 0 l)=aB rest ((A.aT n (.box (.agg ((xs.take l++(ys++xs.drop (l+ys.length))).map enc)))).aS d (.view n [] esz 0 (l+ys.length))):=by
 have J:=tV (A:=A) (esz:=esz) (lo:=0) (k:=l) ho (by omega);have U:(I.agg (xs.map (enc (α:=α)))).at []=some (.agg (xs.map enc)):=rfl;have ah:I.cQ (ys.map (enc (α:=α)))=I.cQ (((xs.map (enc (α:=α))).drop l).take ys.length):=by
  rw[←List.map_drop,←List.map_take];exact Z2 (by rw[zx3,List.length_drop];omega)
 simp only[fK,J,nh A esz ys ab,eY];rw[if_neg (by simpa using hy)];simp only[ho,U,zz8,zz1];rw[if_pos hr,if_pos ⟨rfl,by rw[zz8,zz1];exact ah⟩];simp only[iS,nd,zz8,zy5,List.map_take,List.map_drop]
theorem aQ.HF{d e:Nat}(z:α)(ab:Enc.sz α=esz){n l:Nat}{xs ys:List α}(hy:ys≠[])(ho:A.o n=some (.box (.agg (xs.map enc))))(ao:l≤xs.length)(hr:xs.length<l+ys.length)(hf:A.o d=none)(hb:(l+ys.length)*bytes≤140737488355328)(hml:l+ys.length≤maxLen)
  (h:∀ q,aQ P Y false K (aB rest ((A.aT d (.box (.agg ((xs.take l++(ys++List.replicate q z)).map enc)))).aS (some d) (.view d [] esz 0 (l+ys.length))))):aQ P Y false K (fK A (some d) e esz bytes (enc z) (enc ys) rest (.view n [] esz 0 l)):=by
 have J:=tV (A:=A) (esz:=esz) (lo:=0) (k:=l) ho (by omega);have U:(I.agg (xs.map (enc (α:=α)))).at []=some (.agg (xs.map enc)):=rfl;have ar:(xs.take l).length=l:=by rw[zx3];omega
 simp only[fK,J,List.drop_zero,nh A esz ys ab,eY];rw[if_neg (by simpa using hy)];simp only[ho,U,zz8,zz1];rw[if_neg (by omega)];simp only[fX,hf,zz8,ar];rw[if_pos ⟨hb,hml⟩];refine .any rfl fun q _ =>?_;have:=h q;simp only[zy5,List.map_replicate] at this;exact this
theorem aQ.HG{d e q0:Nat}(z:α){l:List α}(ab:Enc.sz α=esz)(ao:l≠[])(hf:A.o d=none)(hb:l.length*bytes≤140737488355328)(hml:l.length≤maxLen)
  (h:∀ m,aQ P Y false K (aB rest ((A.aT d (.box (.agg ((l++List.replicate m z).map enc)))).aS (some d) (.view d [] esz 0 l.length)))):aQ P Y false K (fK A (some d) e esz bytes (enc z) (enc l) rest (.nils q0)):=by
 have hne:l.map (enc (α:=α))≠[]:=by simpa using ao
 have J:eH A esz (.nils q0)=some []:=rfl;simp only[fK,J,nh A esz l ab,eY,if_neg hne,fX,hf,List.length_nil,zz1,zz8,if_pos (y6 hb hml),zv3];refine .any rfl fun m _ =>?_;have:=h m;simp only[zy5,List.map_replicate] at this;exact this
end
theorem qX(k:Nat):bZ [] k=.du:=rfl
def gV(L:List Nat):List (Nat×I)→List (Nat×I)
 | []=>[]
 |(s,v)::ts=>if L.contains s=true then (s,v)::gV L ts else gV L ts
theorem Xo(L:List Nat):gV L []=[]:=rfl
theorem Xn(L:List Nat)(s:Nat)(v:I)(ts:List (Nat×I)):gV L ((s,v)::ts)=if L.contains s=true then (s,v)::gV L ts else gV L ts:=rfl
theorem CK(L:List Nat)(t:Nat):∀ ts,bZ (gV L ts) t=.du∨bZ (gV L ts) t=bZ ts t
 | []=>.inl rfl
 |(s,v)::ts=>by
  simp only[gV];have ih:=CK L t ts;by_cases ab:L.contains s=true
  ·rw[if_pos ab];simp only[bZ];split
   ·exact .inr rfl
   ·exact ih
  ·rw[if_neg ab];simp only[bZ];split
   ·rename_i e;subst e
    left
    have:∀ ts,bZ (gV L ts) t=.du:=by
     intro ts
     induction ts with
     |nil=>rfl
     |cons q ts ih2 =>
      obtain ⟨s',v'⟩:=q;simp only[gV];split
      ·rename_i h';simp only[bZ];have:t≠s':=fun e=>ab (e▸h');rw[if_neg this];exact ih2
      ·exact ih2
    exact this ts
   ·exact ih
theorem ae.qM(L:List Nat){c:cV}{x:bp}{Q:Exit→ai→Prop}{ts:List (Nat×I)}{os:List (Nat×aq)}(h:ae c x Q (au (gV L ts) os)):ae c x Q (au ts os):=by
 refine ae.sub ?_ h;rintro cc a w ⟨D,E,ab⟩;refine ⟨D,E,ab.sz,ab.eB,fun t =>?_,ab.dM,ab.c4,ab.aR,ab.bP,ab.cO,ab.dQ,ab.eN,ab.cU,ab.eU,ab.fw⟩;simp only[au];rcases CK L t ts with e | e
 ·rw[e];simp[bd]
 ·rw[e];exact ab.dP t
theorem Cu:(∀ L,gV L []=[])∧(∀ L s v ts,gV L ((s,v)::ts)=if L.contains s=true then (s,v)::gV L ts else gV L ts)∧(∀ (a:Nat) l b,(a::l).contains b=(b==a||l.contains b))∧(∀ b:Nat,([]:List Nat).contains b=false)∧(∀ b,(false||b)=b)∧(∀ b,(true||b)=true)∧(∀ b,(b||true)=true)∧(∀ b,(b||false)=b)∧((false=true)=False) :=
 ⟨Xo,Xn,fun _ _ _=>List.contains_cons,fun _=>rfl,fun _=>rfl,fun _=>rfl,fun b=>by cases b <;>rfl,fun b=>by cases b <;>rfl,by simp⟩
end Go.Abs
namespace Go.Abs
open Go Go.RowKit
open Enc (enc)
def wG:Option aq→Option (List I×List I)
 |some (.bt ks vs)=>some (ks,vs)
 |_=>none
noncomputable def re(A:ai)(n:Nat)(rest:List aI):Option (List I×List I)→cM
 |some (ks,vs)=>aB rest (A.aT n (.bt ks vs))
 |none=>.fail
noncomputable def wP(A:ai)(n:Nat)(ty:cH)(k v:I)(rest:List aI):Option aq→cM
 |some (.bt ks vs)=>re A n rest (fq ty k v ks vs)
 |_=>.fail
noncomputable def wO(A:ai)(ty:cH)(k v:I)(rest:List aI):I→cM
 | .mref n=>wP A n ty k v rest (A.o n)
 |_=>.fail
noncomputable def wK(A:ai)(n:Nat)(ty:cH)(k:I)(rest:List aI):Option aq→cM
 |some (.bt ks vs)=>re A n rest (lW ty k ks vs)
 |_=>.fail
noncomputable def wJ(A:ai)(ty:cH)(k:I)(rest:List aI):I→cM
 | .mref n=>wK A n ty k rest (A.o n)
 |_=>.fail
noncomputable def wN(A:ai)(d:Nat)(rest:List aI):Option aq→cM
 |none=>aB rest ((A.aT d (.bt [] [])).put d (.mref d))
 |some _=>.fail
open Classical in
noncomputable def CY(A:ai)(d bytes:Nat)(z:I)(rest:List aI):I→cM
 | .int _ n=>if 0≤n∧n.toNat*bytes≤281474976710656∧n.toNat≤maxLen then aB rest ((A.aT d (.box (.agg (List.replicate n.toNat z)))).put d (.view d [] 1 0 n.toNat)) else .fail
 |_=>.fail
noncomputable def tr(A:ai)(d bytes:Nat)(z n:I)(rest:List aI):Option aq→cM
 |none=>CY A d bytes z rest n
 |some _=>.fail
noncomputable def tS(A:ai)(d:Nat)(rest:List aI):I→cM
 | .df ks vs=>aB rest ((A.aT d (.it ks vs (List.range ks.length) none)).put d (.dj d))
 |_=>.fail
noncomputable def tR(A:ai)(d:Nat)(x:I)(rest:List aI):Option aq→cM
 |none=>tS A d rest x
 |some _=>.fail
def vw:Option aq→Option I
 |some (.it ks vs _ cur)=>kT ks vs cur
 |_=>none
def vv(A:ai):I→Option I
 | .dj n=>vw (A.o n)
 |_=>none
open Classical in
noncomputable def pF(A:ai)(d:Option Nat)(n:Nat)(rest:List aI):Option aq→cM
 |some (.it ks vs left _)=>if left=[] then aB rest (A.aS d (.tuple [.bool false])) else
   .any (fun i=>i∈left) fun i=>match ks[i]?,vs[i]? with
    |some kk,some x=>aB rest ((A.aT n (.it ks vs (left.filter (· != i)) (some i))).aS d (.tuple [.bool true,kk,x]))
    |_,_=>.fail
 |_=>.fail
noncomputable def wW(A:ai)(d:Option Nat)(rest:List aI):I→cM
 | .dj n=>pF A d n rest (A.o n)
 |_=>.fail
section
variable (d:Option Nat) (rest:List aI) (A:ai)
theorem YD(x:aO):bL A d (.nilC x) rest=cS (lX (ak A x)) (de d rest A):=rfl
theorem YH(neg:Bool)(x y:aO):bL A d (.ptrE neg x y) rest=cS (mV neg (iF (ak A x)) (iF (ak A y))) (de d rest A):=rfl
theorem Yw(ty:cH)(z:I)(ok:Bool)(m k:aO):bL A d (.lk ty z ok m k) rest=cS (qU ty z ok (ak A k) (gb A (ak A m))) (de d rest A):=rfl
theorem XO(n:Nat):gb A (.mref n)=wG (A.o n):=by
 simp only[gb];cases A.o n with
 |none=>rfl
 |some y=>cases y <;>rfl
theorem YB(ty:cH)(m k v:aO):bL A none (.eS ty m k v) rest=wO A ty (ak A k) (ak A v) rest (ak A m):=by
 simp only[bL,bl];cases ak A m <;>rfl
theorem Yx(ty:cH)(m k:aO):bL A none (.iH ty m k) rest=wJ A ty (ak A k) rest (ak A m):=by
 simp only[bL,bl];cases ak A m <;>rfl
theorem Yz(d:Nat):bL A (some d) .iI rest=wN A d rest (A.o d):=by
 simp only[bL,bl];cases A.o d <;>rfl
theorem YA(d e bytes:Nat)(z:I)(n:aO):bL A (some d) (.kp e bytes z n) rest=tr A d bytes z (ak A n) rest (A.o d):=by
 simp only[bL,bl];cases A.o d with
 |some _=>rfl
 |none=>simp only[tr];cases ak A n <;>rfl
theorem YI(d:Nat)(x:aO):bL A (some d) (.jl x) rest=tR A d (ak A x) rest (A.o d):=by
 simp only[bL,bl];cases A.o d with
 |some _=>rfl
 |none=>simp only[tR];cases ak A x <;>rfl
theorem Yl(x:aO):bL A d (.ent x) rest=cS (vv A (ak A x)) (de d rest A):=by
 simp only[bL,bl,bn];cases ak A x <;>rfl
theorem YF(x:aO):bL A d (.gZ x) rest=wW A d rest (ak A x):=by
 simp only[bL,bl];cases ak A x <;>rfl
end
theorem CQ:(∀ rest A ty m k,bL A none (.iH ty m k) rest=wJ A ty (ak A k) rest (ak A m))∧(∀ A ty k rest n,wJ A ty k rest (.mref n)=wK A n ty k rest (A.o n))∧(∀ A n ty k rest ks vs,wK A n ty k rest (some (.bt ks vs))=re A n rest (lW ty k ks vs)) ∧
  (∀ d rest A x y,bL A d (.max2 x y) rest=cS (rf (ak A x) (ak A y)) (de d rest A))∧(∀ a b,rf (.int .i64 a) (.int .i64 b)=some (.int .i64 (if b>a then b else a)))∧((I.any).bx=true) :=
 ⟨fun rest A=>Yx rest A,fun _ _ _ _ _=>rfl,fun _ _ _ _ _ _ _=>rfl,fun _ _ _ _ _=>rfl,fun _ _=>rfl,rfl⟩
theorem kZ :
  (∀ d rest A x,bL A d (.nilC x) rest=cS (lX (ak A x)) (de d rest A))∧(∀ n p,lX (.ptr n p)=some (.ptr n p))∧(∀ x,lX (.ref x)=some (.ref x)) ∧
  (∀ d rest A neg x y,bL A d (.ptrE neg x y) rest=cS (mV neg (iF (ak A x)) (iF (ak A y))) (de d rest A))∧(iF .nilp=some true)∧(∀ n p,iF (.ptr n p)=some false)∧(∀ x,iF (.ref x)=some false) ∧
  (mV false (some true) (some true)=some (.bool true))∧(mV false (some false) (some true)=some (.bool false))∧(mV true (some true) (some true)=some (.bool false))∧(mV true (some false) (some true)=some (.bool true)) ∧
  (∀ d rest A ty z ok m k,bL A d (.lk ty z ok m k) rest=cS (qU ty z ok (ak A k) (gb A (ak A m))) (de d rest A))∧(∀ A n,gb A (.mref n)=wG (A.o n))∧(∀ A ks vs,gb A (.df ks vs)=some (ks,vs))∧(∀ ks vs,wG (some (.bt ks vs))=some (ks,vs)) ∧
  (∀ ty z ok k ks vs,qU ty z ok k (some (ks,vs))=qV ok (fi ty z k ks vs))∧(∀ v b,qV false (some (v,b))=some v)∧(∀ v b,qV true (some (v,b))=some (.tuple [v,.bool b])) ∧
  (∀ rest A ty m k v,bL A none (.eS ty m k v) rest=wO A ty (ak A k) (ak A v) rest (ak A m))∧(∀ A ty k v rest n,wO A ty k v rest (.mref n)=wP A n ty k v rest (A.o n))∧(∀ A n ty k v rest ks vs,wP A n ty k v rest (some (.bt ks vs))=re A n rest (fq ty k v ks vs)) ∧
  (∀ A n rest ks vs,re A n rest (some (ks,vs))=aB rest (A.aT n (.bt ks vs))) ∧
  (∀ rest A d,bL A (some d) .iI rest=wN A d rest (A.o d))∧(∀ A d rest,wN A d rest none=aB rest ((A.aT d (.bt [] [])).put d (.mref d))) ∧
  (∀ rest A d e bytes z n,bL A (some d) (.kp e bytes z n) rest=tr A d bytes z (ak A n) rest (A.o d))∧(∀ A d bytes z n rest,tr A d bytes z n rest none=CY A d bytes z rest n) ∧
  (∀ rest A d x,bL A (some d) (.jl x) rest=tR A d (ak A x) rest (A.o d))∧(∀ A d x rest,tR A d x rest none=tS A d rest x)∧(∀ A d rest ks vs,tS A d rest (.df ks vs)=aB rest ((A.aT d (.it ks vs (List.range ks.length) none)).put d (.dj d))) ∧
  (∀ d rest A x,bL A d (.ent x) rest=cS (vv A (ak A x)) (de d rest A))∧(∀ A n,vv A (.dj n)=vw (A.o n))∧(∀ ks vs l cur,vw (some (.it ks vs l cur))=kT ks vs cur) ∧
  (∀ d rest A x,bL A d (.gZ x) rest=wW A d rest (ak A x))∧(∀ A d rest n,wW A d rest (.dj n)=pF A d n rest (A.o n)) :=
 ⟨YD,fun _ _=>rfl,fun _=>rfl,YH,rfl,fun _ _=>rfl,fun _=>rfl,rfl,rfl,rfl,rfl,Yw,XO,fun _ _ _=>rfl,fun _ _=>rfl,fun _ _ _ _ _ _=>rfl,fun _ _=>rfl,fun _ _=>rfl,
  fun rest A ty m k v=>YB rest A ty m k v,fun _ _ _ _ _ _=>rfl,fun _ _ _ _ _ _ _ _=>rfl,fun _ _ _ _ _=>rfl,fun rest A d=>Yz rest A d,fun _ _ _=>rfl,fun rest A d e bytes z n=>YA rest A d e bytes z n,fun _ _ _ _ _ _=>rfl,
  fun rest A d x=>YI rest A d x,fun _ _ _ _=>rfl,fun _ _ _ _ _=>rfl,Yl,fun _ _=>rfl,fun _ _ _ _=>rfl,YF,fun _ _ _ _=>rfl⟩
theorem bu:(∀ n p z lo k,b8 none (.view n p z lo k)=true)∧(∀ n,b8 none (.mref n)=true)∧(∀ n p,b8 none (.ptr n p)=true)∧(∀ x,b8 none (.ref x)=true)∧b8 none .nilp=true∧b8 none .dy=true∧b8 none (.raw (.map none))=true∧(∀ ks vs,b8 none (.df ks vs)=true)∧(∀ {α:Type} [Enc α] (l:List α),b8 none (enc l)=true) :=
 ⟨fun _ _ _ _ _=>rfl,fun _=>rfl,fun _ _=>rfl,fun _=>rfl,rfl,rfl,rfl,fun _ _=>rfl,fun l=>by simp[kg,ke]⟩
section
variable {α:Type} [Enc α] [DecidableEq α] {ty:cH}
theorem sS(aA:∀ x y:α,b7 ty (enc x) (enc y)=some (decide (x=y)))(k:α):∀ (ks:List α) (i:Nat),eD ty (enc k) (ks.map enc) i=some ((ks.findIdx? fun x=>decide (k=x)).map (· + i))
 | [],i=>rfl
 |x::ks,i=>by
  simp only[zz3,eD,aA,List.findIdx?_cons];by_cases h:k=x
  ·simp[h]
  ·simp only[h,decide_false,zz2,if_false];rw[sS aA k ks (i+1)];cases ks.findIdx? fun x=>decide (k=x) with
   |none=>rfl
   |some j=>simp;omega
theorem th(aA:∀ x y:α,b7 ty (enc x) (enc y)=some (decide (x=y)))(z:I)(k:α)(ks:List α)(vs:List I) :
  fi ty z (enc k) (ks.map enc) vs=match ks.findIdx? fun x=>decide (k=x) with
   |some i=>(vs[i]?).map fun v=>(v,true)
   |none=>some (z,false):=by
 simp only[fi,aA,Option.isSome_some,if_true,sS aA];cases ks.findIdx? fun x=>decide (k=x) <;>rfl
theorem wQ(aA:∀ x y:α,b7 ty (enc x) (enc y)=some (decide (x=y)))(k:α)(v:I)(hv:v.bS=true)(ks:List α)(vs:List I) :
  fq ty (enc k) v (ks.map enc) vs=match ks.findIdx? fun x=>decide (k=x) with
   |some i=>some (ks.map enc,vs.set i v)
   |none=>some ((ks++[k]).map enc,vs++[v]):=by
 simp only[fq,aA,Option.isSome_some,hv,Co (kd k),and_self,if_true,sS aA];cases ks.findIdx? fun x=>decide (k=x) with
 |none=>simp
 |some i=>rfl
omit [Enc α] in
theorem qv{k:α}{ks:List α} : (ks.findIdx? fun x=>decide (k=x)).isSome=decide (k∈ks):=by
 induction ks with
 |nil=>rfl
 |cons x ks ih =>
  simp only[List.findIdx?_cons,zv1];by_cases h:k=x
  ·simp[h]
  ·simp only[h,decide_false,zz2,if_false,Option.isSome_map,ih,false_or]
theorem gu(aA:∀ x y:α,b7 ty (enc x) (enc y)=some (decide (x=y)))(k:α)(ks:List α):fi ty (.bool false) (enc k) (ks.map enc) (List.replicate ks.length (.bool true))=some (.bool (decide (k∈ks)),decide (k∈ks)):=by
 rw[th aA,←qv];cases h:ks.findIdx? fun x=>decide (k=x) with
 |none=>rfl
 |some i =>
  have:=(List.findIdx?_eq_some_iff_getElem.1 h).1;simp[this]
def gy{α:Type}[DecidableEq α](ks:List α)(k:α):List α:=if k∈ks then ks else ks++[k]
theorem wR(aA:∀ x y:α,b7 ty (enc x) (enc y)=some (decide (x=y)))(k:α)(ks:List α):fq ty (enc k) (.bool true) (ks.map enc) (List.replicate ks.length (.bool true))=some ((gy ks k).map enc,List.replicate (gy ks k).length (.bool true)):=by
 rw[wQ aA k _ rfl];have hm:=qv (k:=k) (ks:=ks);cases h:ks.findIdx? fun x=>decide (k=x) with
 |none =>
  rw[h] at hm;have:k∉ks:=by simpa using hm.symm
  simp only[gy,if_neg this]
  congr 2
  rw[zz7,List.length_singleton,List.replicate_succ']
 |some i =>
  rw[h] at hm;have:k∈ks:=by simpa using hm.symm
  simp only[gy,if_pos this]
  congr 2
  have:=(List.findIdx?_eq_some_iff_getElem.1 h).1;exact List.ext_getElem (by simp) fun j J U=>by
   simp only[List.getElem_set,List.getElem_replicate];split <;>rfl
end
section
variable {α:Type} [Enc α]
theorem yL{xs:List α}{i:Nat}(d:α)(h:i<xs.length):kL i [] (some (xs.map enc))=some (enc (xs.getD i d)):=by
 simp[kL,nx,h,I.at,zz0]
end
theorem Cn{m sz lo l i:Nat}{fs:List I}(h:i<l):lU m [] sz lo l sz (i:Int) (some fs)=some (.ptr m [lo+i]):=by rw[Xl h];rfl
theorem oT:(∀ {α:Type} [Enc α] (x:α),(enc x).bx=true)∧(∀ n p z lo k,(I.view n p z lo k).bx=false)∧(∀ n,(I.mref n).bx=false)∧(∀ n p,(I.ptr n p).bx=false)∧(∀ n k,(I.own n k).bx=false) :=
 ⟨@kd,fun _ _ _ _ _=>rfl,fun _=>rfl,fun _ _=>rfl,fun _ _=>rfl⟩
end Go.Abs
namespace Go.Abs
open Go Go.RowKit
open Enc (enc)
theorem bw.Hu{A:ai}{d n T z:Nat}(af:A.t d=.nils z)(hn:A.o n=none)(hlt:n<1000000):bw A ((A.aT n (.dC T [])).put d (.own n 0)):=by
 rintro c a w ⟨D,E,h⟩;have aA:E n=none:=by have:=h.bP n;rw[hn] at this;exact this
 have ao:dT w D E w D (fun m=>if m=n then some (.rw none 0) else E m):=by
  have eK:∀ {m:Nat} {e:bN},E m=some e→(if m=n then some (.rw none 0) else E m)=some e:=fun {m e} he=>by
   have:m≠n:=fun e=>by rw[e,aA] at he;cases he
   rw[if_neg this];exact he
  refine ⟨fun _ _ h=>h,fun _ _ _ _ h=>h,fun m b aX he=>eK he,fun m aK l he =>?_,fun m b he=>eK he,fun m b he=>eK he,fun _ _ _ _ h=>h⟩
  ·have:m≠n:=fun e=>by rw[e,aA] at he;cases he
   exact ⟨aK,l,by simp only[if_neg this];exact he,zz4 _,fun _=>rfl⟩
 refine ⟨D,fun m=>if m=n then some (.rw none 0) else E m,h.sz,h.eB,fun t =>?_,h.dM,h.c4,h.aR,fun m =>?_,fun m m' e e' b J U ah ar =>?_,fun m e hm =>?_,h.eN,h.cU,h.eU,h.fw⟩
 ·simp only[ai.put,ai.aT];by_cases ht:t=d
  ·subst ht;simp only[if_true];have hv:=h.dP t;rw[af] at hv;obtain ⟨cs,q1,q2⟩:=hv;simp only[al] at q2;subst q2;refine ⟨[.slice none 0 0],by simpa[bE,I.isAgg] using q1,?_⟩;simp only[al,if_true];exact ⟨none,0,rfl,zz4 _,⟨_,_,_,rfl⟩,fun _=>trivial⟩
  ·simp only[if_neg ht];exact bd.later ao (h.dP t)
 ·simp only[ai.put,ai.aT];by_cases hm:m=n
  ·subst hm;simp only[if_true,cY];exact ⟨none,by simp,by simp,trivial⟩
  ·simp only[if_neg hm];exact (h.bP m).later ao (by simp only[if_neg hm]) fun _ _ _ _=>⟨rfl,fun _ ho=>ho⟩
 ·by_cases hm:m=n <;>by_cases hm':m'=n
  ·rw[hm,hm']
  ·simp only[if_pos hm,v6] at J;subst J;simp[bN.aK] at ah
  ·simp only[if_pos hm',v6] at U;subst U;simp[bN.aK] at ar
  ·simp only[if_neg hm] at J;simp only[if_neg hm'] at U;exact h.cO m m' e e' b J U ah ar
 ·have hmn:m≠n:=fun e=>by rw[e,h.km (.inr hlt)] at hm;cases hm
  simp only[if_neg hmn];exact h.dQ m e hm
theorem bw.yE{ts:List (Nat×I)}{os:List (Nat×aq)}(d n T z:Nat)(af:bZ ts d=.nils z)(hn:aj os n=none){B:ai}(h:bw (au ((d,.own n 0)::ts) ((n,.dC T [])::os)) B)(hlt:n<1000000:=by decide):bw (au ts os) B :=
 ((bw.Hu (A:=au ts os) (T:=T) af hn hlt).trans (by rw[qZ,tn];exact bw.refl _)).trans h
theorem yH{A:ai}{d:Option Nat}{e bytes n l:Nat}{xs:List Int}{y:Int}{rest:List aI}(ao:l=xs.length)(J:xs.length+1≤maxLen)(U:(xs.length+1)*bytes≤140737488355328) :
  oM A d e 1 bytes (.int .i64 0) n l e xs rest (enc [y])=aB rest ((A.aT n (.dC e (xs++[y]))).aS d (.own n (xs.length+1))):=by
 show oM A d e 1 bytes (.int .i64 0) n l e xs rest (.slice 1 [.int .i64 y])=_
 simp only[oM];rw[if_pos ⟨ao,rfl,rfl,rfl,rfl,by simp,J,U⟩];rfl
def iY(n k:Nat):I→I
 | .own n' k'=>if n'=n∧k'=k then .view n [] 1 0 k else .own n' k'
 |v=>v
def iX(n:Nat):I→I
 | .own n' k'=>if n'=n∧k'=0 then .nils 1 else .own n' k'
 |v=>v
def jK(f:I→I):aq→aq
 | .box v=>.box (f v)
 |y=>y
def pH(n k:Nat)(v:I):Prop:=v=.own n k∨v.only (fun j=>j != n)=true
def YQ(n k:Nat)(y:aq):Prop:=y=.box (.own n k)∨y.only (fun j=>j != n)=true
theorem ug{n k:Nat}{v:I}(h:v.only (fun j=>j != n)=true):iY n k v=v:=by
 cases v <;>try rfl
 rename_i n' k';simp only[I.only,bne_iff_ne,ne_eq] at h;simp only[iY,h,false_and,if_false]
theorem FV{n:Nat}{v:I}(h:v.only (fun j=>j != n)=true):iX n v=v:=by
 cases v <;>try rfl
 rename_i n' k';simp only[I.only,bne_iff_ne,ne_eq] at h;simp only[iX,h,false_and,if_false]
theorem pA(f:I→I)(hf:f .du=.du)(ts:List (Nat×I))(t:Nat):bZ (ts.map fun q=>(q.1,f q.2)) t=f (bZ ts t):=by
 induction ts with
 |nil=>exact hf.symm
 |cons q ts ih =>
  obtain ⟨k,v⟩:=q;simp only[zz3,bZ];split
  ·rfl
  ·exact ih
theorem tj(f:aq→aq)(os:List (Nat×aq))(t:Nat):aj (os.map fun q=>(q.1,f q.2)) t=(aj os t).map f:=by
 induction os with
 |nil=>rfl
 |cons q os ih =>
  obtain ⟨k,v⟩:=q;simp only[zz3,aj];split
  ·rfl
  ·exact ih
theorem cY.c9{M:Nat→Prop}{w:World}{D:aP}{E E':a8}{p:Nat→Bool}(hp:∀ n,p n=true→E' n=E n){m:Nat}(aA:E' m=E m){y:aq}(hon:y.only p=true)(ho:cY M w D E m (some y)):cY M w D E' m (some y):=by
 cases y with
 |box x =>
  obtain ⟨b,cs,T,k1,k2,k3,k4,k5⟩:=ho;exact ⟨b,cs,T,aA.trans k1,k2,k3,al.c9 hp _ _ (by simpa[aq.only] using hon) k4,k5⟩
 |bW T sz es =>
  obtain ⟨aK,k1,k2,k3⟩:=ho;refine ⟨aK,aA.trans k1,k2,?_⟩;cases aK with
  |none=>exact k3
  |some bc =>
   obtain ⟨b,cap⟩:=bc;obtain ⟨cs,pre,rest,q1,q2,q3,q4,q5⟩:=k3;exact ⟨cs,pre,rest,q1,q2,q3,aN.c9 hp _ _ (by simpa[aq.only] using hon) q4,q5⟩
 |dC T xs =>
  obtain ⟨aK,k1,k2,k3⟩:=ho;exact ⟨aK,aA.trans k1,k2,k3⟩
 |dF x =>
  obtain ⟨b,k1,k2⟩:=ho;exact ⟨b,aA.trans k1,k2⟩
 |bt ks vs =>
  obtain ⟨b,es,ck,k1,k2,k3,k4,k5,k6,k7⟩:=ho;simp only[aq.only,t8] at hon;exact ⟨b,es,ck,aA.trans k1,k2,k3,k4,aJ.c9 hp _ _ hon.1 k5,aJ.c9 hp _ _ hon.2 k6,k7⟩
 |it ks vs left cur =>
  obtain ⟨r,b,es,ck,si,se,la,k1,k2,k3,k4,k5,k6,k7⟩:=ho;simp only[aq.only,t8] at hon;exact ⟨r,b,es,ck,si,se,la,aA.trans k1,k2,k3,k4,aJ.c9 hp _ _ hon.1 k5,aJ.c9 hp _ _ hon.2 k6,k7⟩
theorem rP(xs:List Int):(I.agg (xs.map enc)).aX=.eE (List.replicate xs.length .one):=by
 show cR.eE (I.cQ _)=_
 congr 1
 induction xs with
 |nil=>rfl
 |cons x xs ih=>simp only[zz3,I.cQ,ih,zw1,List.replicate_succ];rfl
theorem rz{w:World}{D:aP}{E:a8} : ∀ {xs:List Int},(∀ x∈xs,IntKind.i64.min≤x∧x≤IntKind.i64.max)→aN w D E (xs.map enc) (xs.map (Value.int .i64))
 | [],_=>rfl
 |x::xs,h=>⟨[.int .i64 x],xs.map (Value.int .i64),rfl,⟨rfl,h x (by simp)⟩,rz fun y hy=>h y (by simp[hy])⟩
theorem bw.aaw{ts:List (Nat×I)}{os:List (Nat×aq)}{n T:Nat}{B:ai}(hn:aj os n=some (.dC T []))
  (h:bw (au (ts.map fun q=>(q.1,iX n q.2)) (os.map fun q=>(q.1,jK (iX n) q.2))) B):bw (au ts os) B:=by
 refine bw.trans ?_ h;rintro c a w ⟨D,E,ab⟩;obtain ⟨aK,aA,-,hblk⟩:=ab.rX (n:=n) (T:=T) (xs:=[]) hn;have hnone:aK=none:=by
  cases aK with
  |none=>rfl
  |some bc=>obtain ⟨b,cap⟩:=bc;obtain ⟨_,_,_,_,_,h,_⟩:=hblk;exact absurd rfl h
 subst hnone;have conv:∀ (v:I) (cs:List Value),al w D E v cs→al w D E (iX n v) cs:=fun v cs hr=>by
  cases v <;>try exact hr
  rename_i n' k';simp only[iX];split
  ·rename_i bM;obtain ⟨rfl,rfl⟩:=bM;obtain ⟨blk',l,q3,q4,q5,q6⟩:=hr;rw[aA] at q3;simp only[v6,bN.rw.injEq,List.length_nil] at q3;obtain ⟨rfl,rfl⟩:=q3;exact q6 rfl
  ·exact hr
 refine ⟨D,E,ab.sz,ab.eB,fun t =>?_,ab.dM,ab.c4,ab.aR,fun m =>?_,ab.cO,ab.dQ,ab.eN,ab.cU,ab.eU,ab.fw⟩
 ·show bd w D E (bZ _ t) _
  rw[pA _ rfl];have:=ab.dP t;simp only[au] at this;revert this;generalize bZ ts t=v;intro hv;cases v <;>try exact hv
  rename_i n' k';obtain ⟨cs,q1,q2⟩:=hv;have:=conv _ _ q2
  revert this;simp only[iX];split
  ·intro this;exact ⟨cs,q1,this⟩
  ·intro this;exact ⟨cs,q1,this⟩
 ·show cY _ w D E m (aj _ m)
  rw[tj];have:=ab.bP m;simp only[au] at this;revert this;cases aj os m with
  |none=>exact id
  |some y =>
   cases y <;>try exact id
   rename_i x;rintro ⟨b,cs,T,k1,k2,k3,k4,k5⟩;refine ⟨b,cs,T,?_,k2,k3,conv _ _ k4,k5⟩;rw[k1];have:(iX n x).aX=x.aX:=by
    cases x <;>try rfl
    simp only[iX];split <;>rfl
   rw[this]
theorem ae.aav{c:cV}{x:bp}{Q:Exit→ai→Prop}{ts:List (Nat×I)}{os:List (Nat×aq)}{n T:Nat}{xs:List Int}(hn:aj os n=some (.dC T xs))(hne:xs≠[])(hlt:n<1000000)
  (ht:∀ t,pH n xs.length (bZ ts t)) (ho:∀ m y,aj os m=some y→m≠n→YQ n xs.length y)
  (h:∀ q:Nat,ae c x Q (au (ts.map fun p=>(p.1,iY n xs.length p.2)) ((n,.box (.agg ((xs++List.replicate q 0).map enc)))::os.map fun p=>(p.1,jK (iY n xs.length) p.2)))):ae c x Q (au ts os):=by
 rintro code hc a w ⟨D,E,ab⟩;obtain ⟨aK,aA,hr,hblk⟩:=ab.rX (n:=n) hn;cases aK with
 |none=>exact absurd hblk hne
 |some bc =>
 obtain ⟨b,cap⟩:=bc;obtain ⟨cs,q,hM,hb,hcs,-,hcap,hmax,hD⟩:=hblk;have hp:∀ j,(fun j=>j != n) j=true→(fun j=>if j=n then some (bN.aL b (.eE (List.replicate (xs.length+q) .one))) else E j) j=E j:=fun j hj=>by
  have:j≠n:=by simpa using hj
  simp only[if_neg this]
 have conv:∀ cs0,al w D E (.own n xs.length) cs0→al w D (fun j=>if j=n then some (bN.aL b (.eE (List.replicate (xs.length+q) .one))) else E j) (.view n [] 1 0 xs.length) cs0:=fun cs0 hr=>by
  obtain ⟨blk',l,q3,q4,q5,q6⟩:=hr;rw[aA] at q3;simp only[v6,bN.rw.injEq] at q3;obtain ⟨rfl,rfl⟩:=q3;have:=q6 rfl;refine ⟨b,_,0,List.replicate (xs.length+q) .one,if_pos rfl,rfl,rfl,?_,by rw[List.length_replicate];omega,by rw[List.length_replicate];omega,fun s ab =>?_⟩
  ·rw[this,List.length_replicate];simp only[Nat.zero_mul,Nat.add_zero,Nat.sub_zero,hcap]
  ·rw[List.eq_of_mem_replicate ab];rfl
 refine h q code hc a w ⟨D,fun j=>if j=n then some (.aL b (.eE (List.replicate (xs.length+q) .one))) else E j,ab.sz,ab.eB,fun t =>?_,ab.dM,ab.c4,ab.aR,fun m =>?_,fun m m' e e' b1 J U ah ar =>?_,fun m e hm =>?_,ab.eN,ab.cU,ab.eU,ab.fw⟩
 ·show bd w D _ (bZ _ t) _
  rw[pA _ rfl];have hv:=ab.dP t;simp only[au] at hv;rcases ht t with J | J
  ·rw[J] at hv ⊢;simp only[iY,and_self,if_true];obtain ⟨cs0,q1,q2⟩:=hv;exact ⟨cs0,q1,conv _ q2⟩
  ·rw[ug J];exact bd.c9 hp J hv
 ·show cY _ w D _ m (aj _ m)
  simp only[aj];by_cases hm:m=n
  ·subst hm;simp only[if_true];refine ⟨b,cs,T,?_,hM,hb,?_,hD⟩
   ·simp only[if_true];rw[rP,zz7,List.length_replicate]
   ·show aN w D _ _ _
    rw[hcs];refine rz fun y hy =>?_;rcases zx7.1 hy with hy | hy
    ·exact hr y hy
    ·rw[List.eq_of_mem_replicate hy];decide
  ·simp only[if_neg hm];rw[tj];have hob:=ab.bP m;simp only[au] at hob;cases hy:aj os m with
   |none=>rw[hy] at hob;simp only[cY,Option.map_none] at hob ⊢;rw[if_neg hm];exact hob
   |some y =>
    rw[hy] at hob;rcases ho m y hy hm with rfl | J
    ·obtain ⟨b1,cs1,sk,k1,k2,k3,k4,k5⟩:=hob;refine ⟨b1,cs1,sk,?_,k2,k3,?_,k5⟩
     ·simp only[if_neg hm];rw[k1];simp only[iY,and_self,if_true];rfl
     ·simp only[iY,and_self,if_true];exact conv _ k4
    ·have e:jK (iY n xs.length) y=y:=by
      cases y <;>try rfl
      simp only[aq.only] at J;simp only[jK,ug J]
     simp only[zz9,e];exact hob.c9 hp (if_neg hm) J
 ·have cut:∀ m e,(if m=n then some (bN.aL b (.eE (List.replicate (xs.length+q) .one))) else E m)=some e→∃ e2,E m=some e2∧e2.aK=e.aK:=fun m e he=>by
   by_cases hm:m=n
   ·subst hm;rw[if_pos rfl] at he;cases he;exact ⟨_,aA,rfl⟩
   ·rw[if_neg hm] at he;exact ⟨e,he,rfl⟩
  obtain ⟨e2,k1,k2⟩:=cut m e J;obtain ⟨e3,k3,k4⟩:=cut m' e' U;exact ab.cO m m' e2 e3 b1 k1 k3 (k2.trans ah) (k4.trans ar)
 ·have hmn:m≠n:=fun e=>by rw[e,ab.km (.inr hlt)] at hm;cases hm
  simp only[if_neg hmn];exact ab.dQ m e hm
end Go.Abs
namespace Go.Abs
open Go Go.RowKit
def td(n:Nat)(cl:List Nat)(i:Nat):Bool:=(List.range n).all fun j=>j==i||(cl.getD i 0).testBit j
def pN(ab:List FuncId)(L:dZ)(on:List (List Nat))(gs:List aI)(cl:List Nat)(σ:List Nat):Bool :=
 (Nat.beq σ.length gs.length&&(rl σ&&(σ.all (fun i=>decide (i<gs.length))&&((List.range gs.length).all (fun i=>σ.contains i)&&(List.range gs.length).all fun i=>mQ (gs.getD i default).op&&(h0 L (gs.getD i default)||(td gs.length cl i&&σ.getLast?==some i))))))&&(qa ab L gs cl [] σ&&(List.range gs.length).all fun i=>(on.getD i []).all (fun k=>decide (k<i))&&Nat.beq (cl.getD i 0) (lC cl (on.getD i [])))
structure uE (ab:List FuncId) (L:dZ) (l:List Oper) (gs:List aI) (σ:List Nat):Prop where
 nW:σ.Nodup
 lt:∀ i∈σ,i<gs.length
 all:∀ i,i<gs.length→i∈σ
 ok:∀ i,i<gs.length→mQ (gs.getD i default).op=true
 qR:∀ i o,l[i]?=some o→h0 L (gs.getD i default)=true∨(σ.getLast?=some i∧∀ (S:Nat→Prop),(∀ i o,l[i]?=some o→S i→∀ k∈cq o,S k)→(∀ k∈cq o,S k)→∀ j,j<gs.length→j≠i→S j)
 len:σ.length=gs.length
 iw:∀ i o,l[i]?=some o→∀ k∈cq o,k<i
 pk:∀ (S:Nat→Prop),(∀ i o,l[i]?=some o→S i→∀ k∈cq o,S k)→∀ s1 i s2 o,σ=s1++i::s2→l[i]?=some o→(∀ k∈cq o,S k)→∀ j∈s1,¬ S j→mM ab L (gs.getD j default) (gs.getD i default)=true
theorem Dr{ab:List FuncId}{L:dZ}{l:List Oper}{gs:List aI}{cl σ:List Nat}(hlen:gs.length=l.length)(h:pN ab L (l.map cq) gs cl σ=true):uE ab L l gs σ:=by
 simp only[pN,t8,zx0,decide_eq_true_eq,zw5,List.contains_eq_mem] at h;obtain ⟨⟨J,U,ah,ar,h5⟩,h6,h7⟩:=h;have fB:∀ i o,l[i]?=some o→(∀ k∈cq o,k<i)∧(∀ j,(cl.getD i 0).testBit j=true→j∈cq o∨∃ k∈cq o,(cl.getD k 0).testBit j=true):=by
  intro i o ho;have hi:i<l.length:=(zz6.1 ho).1;have h8:=h7 i (by omega);have hon:(l.map cq).getD i []=cq o:=by simp[zz0,ho]
  rw[hon] at h8;have hb:=Nat.eq_of_beq_eq_true h8.2;exact ⟨h8.1,fun j hj=>rZ (by rw[←hb];exact hj)⟩
 have keyS:∀ (S:Nat→Prop),(∀ i o,l[i]?=some o→S i→∀ k∈cq o,S k)→∀ n i o,i≤n→l[i]?=some o→(∀ k∈cq o,S k)→∀ j,(cl.getD i 0).testBit j=true→S j:=by
  intro S hS n
  induction n with
  |zero =>
   intro i o hi ho hon j hj;obtain ⟨h8,h9⟩:=fB i o ho;rcases h9 j hj with h | ⟨k,hk,_⟩
   ·exact hon j h
   ·have:=h8 k hk;omega
  |succ n ih =>
   intro i o hi ho hon j hj;obtain ⟨h8,h9⟩:=fB i o ho;rcases h9 j hj with h | ⟨k,hk,hjk⟩
   ·exact hon j h
   ·have hki:=h8 k hk;have hkl:k<l.length:=Nat.lt_trans hki (zz6.1 ho).1;obtain ⟨ok,hok⟩:∃ ok,l[k]?=some ok:=⟨l[k],zy3 hkl⟩
    exact ih k ok (by omega) hok (hS k ok hok (hon k hk)) j hjk
 refine ⟨wU U,ah,ar,fun i hi=>(h5 i hi).1,fun i o ho =>?_,Nat.eq_of_beq_eq_true J,fun i o ho=>(fB i o ho).1,?_⟩
 ·have hi:i<gs.length:=by rw[hlen];exact (zz6.1 ho).1
  have h5o:=(h5 i hi).2;rw[Bool.or_eq_true] at h5o;rcases h5o with h | h
  ·exact .inl h
  ·rw[t8] at h;obtain ⟨h,hla⟩:=h;refine .inr ⟨by simpa using hla,fun S hS hon j hj hji =>?_⟩;simp only[td,zx0,zw5,Bool.or_eq_true,beq_iff_eq] at h;rcases h j hj with e | e
   ·exact absurd e hji
   ·exact keyS S hS i i o (zz4 _) ho hon j e
 intro S hS s1 i s2 o e ho hon j hj hnj;have key:=keyS S hS;rcases uL h6 s1 i s2 e j (.inr hj) with h | h
 ·exact absurd (key i i o (zz4 _) ho hon j h) hnj
 ·exact h
section
variable {c:cV}
theorem HB{K:ai→Prop}{fs:List FuncId}{L:dZ}{aW:Array Oper}{gs:List aI}{σ:List Nat}{Q:Exit→Act→World→Prop}(hQ:∀ B a w,K B→b6 c B a w→Q .normal a w)(hgs:fM c.P c.n aW aW.toList=some gs)(af:uE fs L aW.toList gs σ) :
  ∀ (fuel:Nat) (listed:Array Bool) (A:ai) (a:Act) (w:World),listed.size=aW.size→(∀ i o,aW.toList[i]?=some o→listed.getD i false=true→∀ k∈cq o,listed.getD k false=true)→(dX σ listed).length≤fuel →
   (dX σ listed=[]∨cW L A)→bO c.P c.Y fs K (aB (gB gs σ listed) A)→b6 c A a w→wpAnyIn c.bC 9 c.P .any aW Q fuel listed a w:=by
 obtain ⟨hlen,hat⟩:=iz hgs;have onOf_mem:∀ (o:Oper) (e:Edge),e∈o.after→Region.binds .any e=true→e.on∈cq o:=fun o e he hb=>by
  simp only[cq,zx1,zw3];exact ⟨e,⟨by simpa using he,hb⟩,rfl⟩
 have of_onOf:∀ (o:Oper) (k:Nat),k∈cq o→∃ e∈o.after,Region.binds .any e=true∧e.on=k:=fun o k hk=>by
  simp only[cq,zx1,zw3] at hk;obtain ⟨e,⟨J,U⟩,ah⟩:=hk;exact ⟨e,by simpa using J,U,ah⟩
 have hgl:gs.length=aW.size:=by rw[hlen,zx2]
 have last:∀ (listed:Array Bool) (A:ai) (a:Act) (w:World),listed.size=aW.size→Region.ready .any aW listed=[]→bO c.P c.Y fs K (aB (gB gs σ listed) A)→b6 c A a w→Q .normal a w:=by
  intro listed A a w hsz hr hwp ab;have hnone:dX σ listed=[]:=by
   have all:∀ n,∀ i,i<n→i<aW.size→listed.getD i true=true:=by
    intro n
    induction n with
    |zero=>intro i hi;omega
    |succ n ih =>
     intro i hi his;cases hb:listed.getD i true with
     |true=>rfl
     |false =>
      exfalso
      have ho:aW[i]?=some aW[i]:=zw7 his;have:i∈Region.ready .any aW listed:=mem_ready.2 ⟨hb,aW[i],ho,fun e he hbd=>by
       have hlt:=af.iw i aW[i] (by simp) e.on (onOf_mem _ e he hbd);have J:=ih e.on (by omega) (by omega);have U:e.on<listed.size:=by omega
       simpa[Array.getD_eq_getD_getElem?,U] using J⟩
      rw[hr] at this;cases this
   simp only[dX];refine List.filter_eq_nil_iff.2 fun i hi =>?_;have:=all (i+1) i (by omega) (by rw[←hgl];exact af.lt i hi);simp only[this,Bool.not_true,zz2,not_false_eq_true]
  simp only[gB,hnone,zx4,aB] at hwp;cases hwp with
  |done hk=>exact hQ A a w hk ab
 intro fuel
 induction fuel with
 |zero =>
  intro listed A a w hsz hcl hcnt hinv hwp ab;have hnone:dX σ listed=[]:=List.length_eq_zero_iff.1 (by omega);have hr:Region.ready .any aW listed=[]:=by
   refine List.eq_nil_iff_forall_not_mem.2 fun i hi =>?_;obtain ⟨J,o,ho,_⟩:=mem_ready.1 hi;have:i∈dX σ listed:=by
    simp only[dX,zw3,J,Bool.not_false,and_true];exact af.all i (by rw[hgl];exact (zy1.1 ho).1)
   rw[hnone] at this;cases this
  exact ⟨hr,last listed A a w hsz hr hwp ab⟩
 |succ fuel ih =>
  intro listed A a w hsz hcl hcnt hinv hwp ab;refine ⟨fun hr=>last listed A a w hsz hr hwp ab,fun i hi =>?_⟩;obtain ⟨hun,o,ho,hall⟩:=mem_ready.1 hi;have hin:i<aW.size:=(zy1.1 ho).1;obtain ⟨s1,s2,hσ,e1,e2⟩:=xv af.nW (af.all i (by omega)) (by omega) hun;have hinv:cW L A:=by
   rcases hinv with h | h
   ·rw[e1] at h;simp at h
   ·exact h
  have hol:aW.toList[i]?=some o:=by simpa using ho
  obtain ⟨g,hgi,hcg⟩:=hat i o hol;have hon:∀ k∈cq o,listed.getD k false=true:=fun k hk=>by
   obtain ⟨e,J,U,ah⟩:=of_onOf o k hk;exact ah▸hall e J U
  have hgd:gs.getD i default=g:=by simp[zz0,hgi]
  have hwp':bO c.P c.Y fs K (aB (g::gB gs σ (listed.setIfInBounds i true)) A):=by
   simp only[gB,e1,zy5,zz3,hgd] at hwp;simp only[gB,e2,zy5];refine bO.nz hinv (fun j hj =>?_) hwp;obtain ⟨k,hk,rfl⟩:=zx1.1 hj;obtain ⟨hk1,hk2⟩:=zw3.1 hk;have:=af.pk (fun k=>listed.getD k false=true) hcl s1 i s2 o hσ hol hon k hk1 (by
    have hks:k<listed.size:=by
     have:=af.lt k (by rw[hσ];exact List.mem_append_left _ hk1);omega
    simp[Array.getD_eq_getD_getElem?,hks] at hk2 ⊢;exact hk2)
   rw[hgd] at this;have hkl:=af.lt k (by rw[hσ];exact List.mem_append_left _ hk1);have hks:k<aW.size:=by omega
   refine ⟨this,?_⟩;rcases af.qR k aW[k] (by simp) with h | h
   ·exact h
   ·exfalso
    have h9:=h.1;rw[hσ,List.getLast?_append] at h9;have hne:(i::s2).getLast?=some k:=by
     cases h10:(i::s2).getLast? with
     |none=>simp at h10
     |some q=>rw[h10] at h9;simpa using h9
    have hk2:k∈i::s2:=List.mem_of_getLast? hne;have hnd:=af.nW;rw[hσ] at hnd;exact (List.nodup_append.1 hnd).2.2 k hk1 k hk2 rfl
  unfold wpOpIn;rw[ho];have hgm:g∈gs:=List.mem_of_getElem? hgi;have hokg:mQ g.op=true:=by
   have:=af.ok i (by omega)
   rwa [hgd] at this
  have hcl':∀ m om,aW.toList[m]?=some om→(listed.setIfInBounds i true).getD m false=true→∀ k∈cq om,(listed.setIfInBounds i true).getD k false=true:=by
   intro m om hom hm k hk;by_cases hmi:m=i
   ·subst hmi;rw[hol,v6] at hom;subst hom;exact getD_set_true (hon k hk)
   ·rw[getD_set_ne false (Ne.symm hmi)] at hm;exact getD_set_true (hcl m om hom hm k hk)
  have hfu:(dX σ (listed.setIfInBounds i true)).length≤fuel:=by
   have:(dX σ listed).length=(dX σ (listed.setIfInBounds i true)).length+1:=by
    rw[e1,e2];simp;omega
   omega
  rcases af.qR i o hol with hlb | ⟨hla,hlb⟩
  ·rw[hgd] at hlb;exact sU hcg hinv ⟨hokg,hlb⟩ hwp' ab fun B a' w' hw hiB hs'=>ih _ B a' w' (by simpa using hsz) hcl' hfu (.inr hiB) hw hs'
  ·have hnil:dX σ (listed.setIfInBounds i true)=[]:=by
    simp only[dX];refine List.filter_eq_nil_iff.2 fun j hj =>?_;have hjl:=af.lt j hj;by_cases hji:j=i
    ·subst hji;have:j<listed.size:=by omega
     simp[this]
    ·have h5:=hlb (fun k=>listed.getD k false=true) hcl hon j hjl hji;have hjs:j<listed.size:=by omega
     have h6:(listed.setIfInBounds i true).getD j true=listed.getD j true:=getD_set_ne true (Ne.symm hji);rw[h6];simp[Array.getD_eq_getD_getElem?,hjs] at h5 ⊢;exact h5
   have hin0:cW [] A:=fun s ns h=>by cases h
   exact sU (L:=[]) hcg hin0 ⟨hokg,by simp[h0,hX];cases g.dst <;>rfl⟩ hwp' ab fun B a' w' hw hiB hs'=>ih _ B a' w' (by simpa using hsz) hcl' hfu (.inl hnil) hw hs'
theorem ae.Zv{Q:Exit→ai→Prop}{A:ai}{on:List (List Nat)}{gs:List aI}(ab:List FuncId)(L:dZ)(cl σ:List Nat)(af:pN ab L on gs cl σ=true)(hi:cW L A)(h:∀ K:ai→Prop,(∀ B,Q .normal B→K B)→bO c.P c.Y ab K (aB (e8 σ gs) A)):ae c (.cw (some on) gs) Q A:=by
 intro code hc a w hs';cases code <;>simp only[eA] at hc <;>try (first | (cases hc;done) | ((repeat' split at hc) <;>cases hc;done))
 rename_i id aW draw;split at hc
 ·rename_i gs' hgs;split at hc
  case isFalse=>cases hc
  rename_i hok;simp only[v6,bp.cw.injEq] at hc;obtain ⟨he,rfl⟩:=hc;cases draw with
  |false=>cases he
  |true =>
   simp only[cond_true,v6] at he;subst he;simp only[Bool.not_true,Bool.false_or] at hok;have hp:=Dr (iz hgs).1 af;refine wpIn_region_any hok (HB (K:=Q .normal) (fun B a w hk ab=>⟨B,hk,ab⟩) hgs hp aW.size (Array.replicate aW.size false) A a _ (by simp) ?_ ?_ (.inr hi) ?_ ?_)
   ·intro i o _ h
    exfalso
    simp only[Array.getD_eq_getD_getElem?,Array.getElem?_replicate] at h;split at h <;>simp at h
   ·refine zw9 (List.length_filter_le _ _) ?_;rw[hp.len,(iz hgs).1,zx2];exact zz4 _
   ·have hall:dX σ (Array.replicate aW.size false)=σ:=by
     simp only[dX];refine List.filter_eq_self.2 fun i hi =>?_;have J:=hp.lt i hi;rw[(iz hgs).1,zx2] at J;simp[J]
    simp only[gB,hall];exact h _ fun _ hb=>hb
   ·obtain ⟨D,E,hs'⟩:=hs';exact ⟨D,E,hs'.grow (w' := { w with drawn:=w.drawn+1 }) ⟨rfl,rfl,rfl,zz4 _,fun _ _=>rfl⟩ (fun _ _ h=>h) (fun _ _ h _=>h) (fun b o h=>hs'.aR b o h)⟩
 ·cases hc
end
def ka(on:List (List Nat)):List Nat:=on.foldl (fun acc ks=>acc++[lC acc ks]) []
def vq(d:Option (List (List Nat)))(gs:List aI):Bool:=match d with
 |none=>true
 |some on=>sL on gs (ka on)
section
variable {c:cV} {Q:Exit→ai→Prop} {A:ai} {d:Option (List (List Nat))} {on:List (List Nat)} {gs:List aI}
theorem ae.j0(af:vq d gs=true)(h:∀ K:ai→Prop,(∀ B,Q .normal B→K B)→aQ c.P c.Y d.isSome K (aB gs A)):ae c (.cw d gs) Q A:=by
 cases d with
 |none=>exact ae.cw (cl:=[]) rfl h
 |some on=>exact ae.cw (cl:=ka on) af h
theorem ae.fI{y:bp}(af:vq d gs=true)(h:∀ K:ai→Prop,(∀ B,ae c y Q B→K B)→aQ c.P c.Y d.isSome K (aB gs A)):ae c (.seq (.cw d gs) y) Q A :=
 ae.seq (ae.j0 af h)
theorem ae.rC(ab:List FuncId)(L:dZ)(σ:List Nat)(af:tF ab L on gs (ka on) σ=true)(hi:cW L A)(h:∀ K:ai→Prop,(∀ B,Q .normal B→K B)→bO c.P c.Y ab K (aB (e8 σ gs) A)):ae c (.cw (some on) gs) Q A :=
 ae.Zu ab L (ka on) σ af hi h
theorem ae.rD(ab:List FuncId)(L:dZ)(σ:List Nat)(af:pN ab L on gs (ka on) σ=true)(hi:cW L A)(h:∀ K:ai→Prop,(∀ B,Q .normal B→K B)→bO c.P c.Y ab K (aB (e8 σ gs) A)):ae c (.cw (some on) gs) Q A :=
 ae.Zv ab L (ka on) σ af hi h
def gE(c:cV):bp→(Exit→ai→Prop)→ai→Prop
 | .seq x y,Q,A=>gE c x (dY (fun B=>ae c y Q B) Q) A
 | .block id x,Q,A=>gE c x (jc id Q) A
 | .skip,Q,A=>Q .normal A
 | .exit id,Q,A=>Q (.exit id) A
 | .ret,Q,A=>Q .ret A
 | .cond b x y,Q,A=>ay (ak A b) (ae c x Q A) (ae c y Q A)
 |x,Q,A=>ae c x Q A
def Xk:bp→Bool
 | .seq _ _ | .block _ _ | .skip | .exit _ | .ret | .cond _ _ _=>true
 |_=>false
theorem gE.uQ:∀ (x:bp) {Q:Exit→ai→Prop} {A:ai},gE c x Q A→ae c x Q A
 | .seq x y,_,_,h=>ae.seq (gE.uQ x h)
 | .block id x,_,_,h=>ae.block (gE.uQ x h)
 | .skip,_,_,h=>ae.skip h
 | .exit _,_,_,h=>ae.exit h
 | .ret,_,_,h=>ae.ret h
 | .cond _ _ _,_,_,h=>ae.iG h
 | .cw _ _,_,_,h | .loop _,_,_,h | .scope _,_,_,h | .label,_,_,h | .uR,_,_,h | .mh _ _ _ _,_,_,h=>h
theorem ae.of{x:bp}(_:Xk x=true)(h:gE c x Q A):ae c x Q A:=gE.uQ x h
theorem aF :
  (∀ c x y Q A,gE c (.seq x y) Q A=gE c x (dY (fun B=>ae c y Q B) Q) A)∧(∀ c id x Q A,gE c (.block id x) Q A=gE c x (jc id Q) A)∧(∀ c Q A,gE c .skip Q A=Q .normal A)∧(∀ c id Q A,gE c (.exit id) Q A=Q (.exit id) A)∧(∀ c Q A,gE c .ret Q A=Q .ret A) ∧
  (∀ c b x y Q A,gE c (.cond b x y) Q A=ay (ak A b) (ae c x Q A) (ae c y Q A))∧(∀ c d gs Q A,gE c (.cw d gs) Q A=ae c (.cw d gs) Q A)∧(∀ c x Q A,gE c (.loop x) Q A=ae c (.loop x) Q A)∧(∀ c f ps x y Q A,gE c (.mh f ps x y) Q A=ae c (.mh f ps x y) Q A) ∧
  (∀ k Q A,dY k Q .normal A=k A)∧(∀ k Q A,dY k Q .ret A=Q .ret A)∧(∀ k Q A i,dY k Q (.exit i) A=Q (.exit i) A)∧(∀ i Q A,jc i Q .normal A=Q .normal A)∧(∀ i Q A,jc i Q .ret A=Q .ret A)∧(∀ i Q A j,jc i Q (.exit j) A=if j=i then Q .normal A else Q (.exit j) A) ∧
  (∀ p q,ay (.bool true) p q=p)∧(∀ p q,ay (.bool false) p q=q)∧(type_of% @Cu) :=
 ⟨fun _ _ _ _ _=>rfl,fun _ _ _ _ _=>rfl,fun _ _ _=>rfl,fun _ _ _ _=>rfl,fun _ _ _=>rfl,fun _ _ _ _ _ _=>rfl,fun _ _ _ _ _=>rfl,fun _ _ _ _=>rfl,fun _ _ _ _ _ _ _=>rfl,fun _ _ _=>rfl,fun _ _ _=>rfl,fun _ _ _ _=>rfl,fun _ _ _=>rfl,fun _ _ _=>rfl,fun _ _ _ _=>rfl,
  fun p q=>by simp[ay],fun p q=>by simp[ay],Cu⟩
theorem ay.aD{t:Bool}{p q:Prop}(J:t=true→p)(U:t=false→q):ay (.bool t) p q:=⟨J,U⟩
theorem ae.aE{g:aI}{r:List aI}(af:vq d gs=true)(e:gs=g::r)(h:∀ K:ai→Prop,(∀ B,Q .normal B→K B)→aQ c.P c.Y d.isSome K (aB (g::r) A)):ae c (.cw d gs) Q A :=
 ae.j0 af (e▸h)
theorem aQ.av(L:List Nat){P:Program}{Y:Value→List I→List (Nat×aq)→cC→Prop}{dr:Bool}{x:bp}{K:ai→Prop}{ts:List (Nat×I)}{os:List (Nat×aq)}(hK:∀ B,ae c x Q B→K B)(h:ae c x Q (au (gV L ts) os)):aQ P Y dr K (.done (au ts os)) :=
 .done (hK _ (ae.qM L h))
theorem bO.av(L:List Nat){P:Program}{Y:Value→List I→List (Nat×aq)→cC→Prop}{ab:List FuncId}{x:bp}{K:ai→Prop}{ts:List (Nat×I)}{os:List (Nat×aq)}(hK:∀ B,ae c x Q B→K B)(h:ae c x Q (au (gV L ts) os)):bO P Y ab K (.done (au ts os)) :=
 .done (hK _ (ae.qM L h))
end
section
variable {c:cV} {A:ai} {o:Oper}
theorem Ae{P:Program}{m:Nat}{aW:Array Oper}{l:List Oper}{gs:List aI}(h:fM P m aW (o::l)=some gs):∃ g gs',gs=g::gs'∧lK P m aW o=some g∧fM P m aW l=some gs':=by
 simp only[fM] at h;split at h
 ·rename_i g gs' J U;simp only[v6] at h;exact ⟨g,gs',h.symm,J,U⟩
 ·cases h
end
def tT(P:Program)(f:FuncId)(ch:List PanicEntry)(vs:Array Value)(w:World)(R:Ending→World→Prop):Prop :=
 Calls P f vs w fun e w'=>e=.panicked ch∧R (.returned (.tuple #[])) w'
theorem tT.mono{P:Program}{f:FuncId}{ch:List PanicEntry}{vs:Array Value}{w:World}{R R':Ending→World→Prop}(h:tT P f ch vs w R)(hr:∀ e w',R e w'→R' e w'):tT P f ch vs w R' :=
 Calls.mono h fun _ _ q=>⟨q.1,hr _ _ q.2⟩
def pM(post:List (Nat×aq)→Prop):cC:=fun r os'=>r=.tuple []∧post os'
def fe(P:Program)(f:FuncId)(ch:List PanicEntry)(args:List I)(os:List (Nat×aq))(post:List (Nat×aq)→Prop):Prop :=
 eZ P f=true∧nr (tT P f ch) (fun w _ E=>gM P w (cI E)) args os (pM post)
def xf(ch:List PanicEntry)(post:List (Nat×aq)→Prop):Exit→ai→Prop
 | .panic ch',A=>ch'=ch∧ja [] (pM post) A
 |_,_=>False
theorem Cy{P:Program}{n:Nat}{w:World}{D:aP}{E:a8}{Y:Value→List I→List (Nat×aq)→cC→Prop}{post:List (Nat×aq)→Prop}{fn:Func}{A:ai}{D':aP}{E':a8}{ch:List PanicEntry}(h:ja [] (pM post) A){R:World→Prop}(hR:∀ v w',lG w D E (pM post) v w'→R w') :
  ∀ (ds:List Deferred) (a:Act) (w':World),a.defers=ds→aV ⟨P,w,D,n,cI E,E,Y,none,none⟩ A a w' D' E'→LeavesInM Fence.wide 9 P fn a.tmps (fun e w'=>e=.panicked ch∧R w') ds (.panicking ch) w'
 | [],a,w',_,ab=>by
  obtain ⟨v,J,U⟩:=ab.tf (fn := { fn with results := #[] }) (rs:=[]) rfl h;exact ⟨rfl,hR v w' U⟩
 |d::ds,a,w',af,ab=>by
  obtain ⟨Bs,J,_⟩:=ab.eB;rw[af] at J;cases Bs with
  |nil=>cases J
  |cons B Bs =>
   simp only[zz3,zw8] at J;obtain ⟨rfl,rfl⟩:=J;obtain ⟨k1,k2⟩:=ab.AR rfl af;exact ⟨by simp,.inl ⟨B,_,rfl,run_takeDeferred k1,Cy h hR _ { a with defers:=Bs.map _ } _ rfl k2⟩⟩
theorem CB{w:World}{D:aP}{E:a8}{post:List (Nat×aq)→Prop}{v:Value}{w':World}(h:lG w D E (pM post) v w'):∃ v' D' E' r os',Ending.returned (.tuple #[])=.returned v'∧pM post r os'∧bd w' D' E' r v'∧jN (fun b=>w.heap.size≤b∨cI E b) w' D' E' (aj os') ∧
   eW (fun b=>w.heap.size≤b∨cI E b) w w'∧(∀ b o,D b o→D' b o)∧(∀ b o,D' b o→b<w'.heap.size)∧(∀ b o,D' b o→b<w.heap.size→¬ cI E b→D b o) ∧
   (∀ n e,E n=some e→aw os' n=true→∃ e',E' n=some e'∧e.le e')∧gN w D w':=by
 obtain ⟨D',E',r,os',J,U,ah⟩:=h;refine ⟨_,D',E',r,os',rfl,J,?_,ah⟩;obtain ⟨rfl,_⟩:=J;simp only[bd];exact ⟨[],by simp,by simp[aJ]⟩
theorem fe.mk{P:Program}{f:FuncId}{fn:Func}{x:bp}{ch:List PanicEntry}{args:List I}{os:List (Nat×aq)}{post:List (Nat×aq)→Prop}(hf:P.funcs[f]?=some fn)(hcall:eZ P f=true)(hc:(fn.body.bind (eA P fn.ntmps))=some x)
  (hn:args.length≤fn.ntmps) (hn2:fn.ntmps≤1000000) (hos:∀ m,aw os m=true→1000000≤m) (h:I.gl args→∀ (w:World) (D:aP) (E:a8),ae ⟨P,w,D,fn.ntmps,cI E,E,dv,none,none⟩ x (xf ch post) (au (bI 0 args) os)):fe P f ch args os post:=by
 obtain ⟨body,hb,hc'⟩:=zw6.1 hc;refine ⟨hcall,fun w D E vs ao hD ho hv =>?_⟩;have hlen:=rN hv;have hsim:=xZ (P:=P) (n:=fn.ntmps) (Y:=dv) hD ho hv (by omega) (fun m hm=>⟨zw9 hn2 (hos m hm),hos m hm⟩) (p0 ao);refine (callsIn_wide (n:=9)).1 (callsIn_of_wp_marks hf hb trivial ?_);refine wpIn_mono (((h (pV _ _ hv) w D E).sub (ud args os)) body hc' _ w ⟨D,E,hsim⟩) ?_;rintro e a w' ⟨A,hq,D',E',ab⟩;cases e <;>simp only[xf] at hq
 obtain ⟨rfl,hq⟩:=hq;exact Cy hq (fun v w' h=>CB h) a.defers a w' rfl ab
theorem fe.Y4{P:Program}{f:FuncId}{ch:List PanicEntry}{args:List I}(hcall:eZ P f=true)(h:∀ (w:World) (D:aP) (vs:List Value),aJ w D di args vs→Calls P f vs.toArray w fun e w'=>e=.panicked ch∧w'=w)(hfl:I.nI args=true):fe P f ch args [] (fun os'=>os'=[]):=by
 refine ⟨hcall,fun w D E vs _ hD ho hv =>?_⟩;refine Calls.mono (h w D vs (aJ.flat _ _ hfl hv)) ?_;rintro e w' ⟨rfl,rfl⟩;refine ⟨rfl,CB (v:=.tuple #[]) ⟨D,E,.tuple [],[],⟨rfl,rfl⟩,by simp only[bd];exact ⟨[],by simp,by simp[aJ]⟩,?_,eW.refl _ _,fun _ _ h=>h,hD,fun _ _ h _ _=>h,fun n e h hn=>by simp[aw,aj] at hn,.refl _ _⟩⟩;exact ⟨fun n=>ho.bP n,fun n m e e' b J U ah ar=>ho.cO n m e e' b J U ah ar⟩
section
variable {c:cV} {A:ai} {Q:Exit→ai→Prop}
theorem sX{dr:Bool}{K:ai→Prop}{aW:Array Oper}{Q:Exit→Act→World→Prop}{l2:List Oper}(hQ:∀ B a w,K B→b6 c B a w→wpListIn c.bC 9 c.P aW Q l2 a w):∀ (l:List Oper) (gs:List aI) (A:ai) (a:Act) (w:World),fM c.P c.n aW l=some gs→aQ c.P c.Y dr K (aB gs A) →
  b6 c A a w→wpListIn c.bC 9 c.P aW Q (l++l2) a w
 | [],gs,A,a,w,hc,hwp,ab=>by
  simp only[fM,v6] at hc;subst hc;simp only[aB] at hwp;cases hwp with
  |done hk=>exact hQ A a w hk ab
 |o::l,gs,A,a,w,hc,hwp,ab=>by
  simp only[fM] at hc;split at hc
  case h_2=>cases hc
  rename_i g gs' hg hgs;simp only[v6] at hc;subst hc;obtain ⟨J,U,ah,ar⟩:=nA hg;have step:aQ c.P c.Y dr K (bl A g.dst g.op gs' (aB gs'))→o.wpIn c.bC 9 c.P a w (wpListIn c.bC 9 c.P aW Q (l++l2)) Q:=fun h =>
   sV J U.symm (by rw[U];exact ah) h ab (fun B a' w' hw hs'=>sX hQ l gs' B a' w' hgs hw hs')
  simp only[zz5,wpListIn];simp only[aB] at hwp;rcases ar with ⟨h5,h6⟩ | ⟨j,b,t,h5,h6,h7⟩
  ·rw[h6] at hwp;have hw:Region.wanted o (yielded aW a.tmps)=true:=by simp[Region.wanted,h5]
   rw[hw,if_pos rfl];exact step hwp
  ·rw[h7] at hwp;simp only at hwp;split at hwp
   ·rename_i b' hb';rw[sZ ab h5 h6 hb'];split at hwp
    ·rename_i hbb;subst hbb;simp only[BEq.rfl,if_true];exact step hwp
    ·rename_i hbb;have:(b'==b)=false:=by simpa using hbb
     rw[this];simp only[zz2,if_false];exact ⟨fun f _=>lP c f,sX hQ l gs' _ _ w hgs hwp (by rw[U];exact ab.mW ah)⟩
   ·rename_i hb';rw[s7 ab h5 h6 hb'];simp only[zz2,if_false];exact ⟨fun f _=>lP c f,sX hQ l gs' _ _ w hgs hwp (by rw[U];exact ab.mW ah)⟩
   ·cases hwp
theorem Ad{P:Program}{m:Nat}{aW:Array Oper}{g:aI}{gs2:List aI} : ∀ {l:List Oper} {gs1:List aI},fM P m aW l=some (gs1++g::gs2)→∃ l1 o l2,l=l1++o::l2∧fM P m aW l1=some gs1∧lK P m aW o=some g
 | [],gs1,h=>by simp[fM] at h
 |o::l,[],h=>by
  obtain ⟨g',gs',e,J,U⟩:=Ae h;simp only[zv3,zw8] at e;obtain ⟨rfl,rfl⟩:=e;exact ⟨[],o,l,rfl,rfl,J⟩
 |o::l,k::gs1,h=>by
  obtain ⟨g',gs',e,J,U⟩:=Ae h;simp only[zz5,zw8] at e;obtain ⟨rfl,rfl⟩:=e;obtain ⟨l1,o',l2,rfl,q1,q2⟩:=Ad U;exact ⟨o::l1,o',l2,rfl,by simp only[fM,J,q1],q2⟩
inductive nu (P:Program) (Q:Exit→ai→Prop) (f:FuncId) (avs:List I):ai→Prop where
 |mk {ts:List (Nat×I)} {os0:List (Nat×aq)} (aL:Bool) (ρ:List (Nat×Nat)) (os:List (Nat×aq)) (cargs:List I) (ch:List PanicEntry) (post:List (Nat×aq)→Prop):fe P f ch cargs os post→gn ρ os os0→gO aL (au ts (ec (ig ρ os) os0)) ρ os avs cargs →
  (∀ os',post os'→fW aL ρ os os0 (.tuple []) os')→(∀ os',post os'→Q (.panic ch) (au ts (dn ρ os'++os0)))→nu P Q f avs (au ts os0)
inductive mD (P:Program) (Q:Exit→ai→Prop):bT→ai→Prop where
 |call {f:FuncId} {args:List aO} {A:ai} : nu P Q f (args.map (ak A)) A→mD P Q (.call f args) A
 |fA {x:aO} {args:List aO} {f:Nat} {caps:List I} {A:ai} : ak A x=.func f caps→nu P Q (kU f) (ib f (args.map (ak A)) caps) A→mD P Q (.fA x args) A
theorem xh{o:Oper}{g:bT}{f:FuncId}{avs:List I}{vs:List Value}{a:Act}{w:World}{D:aP}{E:a8}{Kw:Act→World→Prop}(hop0:dc c.P o=some g)(h:nu c.P Q f avs A)(ab:aV c A a w D E)(hall:fy (bd w D E) avs vs)
  (hrun:eZ c.P f=true→(execOp a.eval o).run c.P w=.ok (.enter f vs.toArray) w):o.wpIn c.bC 9 c.P a w Kw (tg c Q):=by
 cases h with
 |mk aL ρ os cargs ch post hspec hgv ha hb hrest =>
  have hu:=hspec.2.use ab aL (fun h=>h.mono) ⟨fun _ _=>ab.pt,fun _=>ab.pt⟩ hgv ha (fun r os' hp=>by obtain ⟨rfl,hp⟩:=hp;exact hb os' hp) hall;refine ⟨kJ,?_⟩;rw[lv hop0,hrun hspec.1,Oper.uponIn_enter];refine ⟨vn c,AA (Calls.mono hu ?_)⟩;rintro e w' ⟨rfl,v,r,os',D2,E2,he,⟨rfl,hp⟩,hs',hv,_⟩;exact ⟨_,hrest os' hp,D2,E2,hs'⟩
theorem Dn{o:Oper}{g:bT}{a:Act}{w:World}{Kw:Act→World→Prop}(hop:dc c.P o=some g)(h:mD c.P Q g A)(hsim:b6 c A a w):o.wpIn c.bC 9 c.P a w Kw (tg c Q):=by
 have hop0:=hop;obtain ⟨D,E,ab⟩:=hsim;cases h with
 |call h =>
  unfold dc at hop;split at hop <;>try (first | (simp at hop;done) | ((repeat' split at hop) <;>simp at hop;done))
  rename_i f' xs ts ho;split at hop
  case isFalse=>simp at hop
  simp only[t7,bT.call.injEq] at hop;obtain ⟨ys,hys,rfl,rfl⟩:=hop;have e:xs.map a.eval=(xs.toList.map a.eval).toArray:=by apply Array.ext';simp
  refine xh (vs:=xs.toList.map a.eval) hop0 h ab (kK ab xs.toList ts.toList ys hys) fun hc =>?_;simp only[execOp,ho,resolve,Act.eval,Deferred.ofValue,Sem.run_bind,Sem.run_pure,Result.andThen_ok,invoke,Array.append_empty,Array.empty_append,mZ hc];rw[←e]
 |fA hx h =>
  rename_i x args f caps;unfold dc at hop;split at hop <;>try (first | (simp at hop;done) | ((repeat' split at hop) <;>simp at hop;done))
  rename_i y xs ts _ ho;split at hop
  case h_2=>cases hop
  rename_i y' ys J U;simp only[v6,bT.fA.injEq] at hop;obtain ⟨rfl,rfl⟩:=hop;have hv:=bX ab J;rw[hx] at hv;obtain ⟨cs,q1,q2⟩:=hv;simp only[al] at q2;obtain ⟨vs,q3,q4⟩:=q2;have hval:a.eval y=jz f vs:=by simpa[bE,I.isAgg,q3] using q1.symm
  have e:xs.map a.eval=(xs.toList.map a.eval).toArray:=by apply Array.ext';simp
  have hargs:=kK ab xs.toList ts.toList ys U;rcases Nat.lt_or_ge f 1000000 with hf | hf
  ·rw[vH hf,vG hf] at h;rw[mK hf] at hval;refine xh (vs:=xs.toList.map a.eval++vs) hop0 h ab (hargs.append (rM q4)) fun hc =>?_;simp only[execOp,ho,resolve,hval,Deferred.ofValue,Sem.run_bind,Sem.run_pure,Result.andThen_ok,invoke,Array.empty_append,mZ hc];rw[e];simp
  ·obtain ⟨g,rfl⟩:∃ g:Nat,f=g+1000000:=⟨Nat.sub f 1000000,(Nat.sub_add_cancel hf).symm⟩
   rw[sO,vF] at h;rw[qx] at hval;refine xh (vs:=vs++xs.toList.map a.eval) hop0 h ab ((rM q4).append hargs) fun hc =>?_;simp only[execOp,ho,resolve,hval,Deferred.ofValue,Sem.run_bind,Sem.run_pure,Result.andThen_ok,invoke,Array.append_empty,mZ hc];rw[e];simp
theorem ae.Zt{gs:List aI}(k:Nat){g:bT}{dst:Option Nat}(hk:gs=gs.take k++⟨dst,g,none⟩::gs.drop (k+1))(h:∀ K:ai→Prop,(∀ B,mD c.P Q g B→K B)→aQ c.P c.Y false K (aB (gs.take k) A)):ae c (.cw none gs) Q A:=by
 intro code hc a w ab;cases code <;>simp only[eA] at hc <;>try (first | (cases hc;done) | ((repeat' split at hc) <;>cases hc;done))
 rename_i id aW draw;split at hc
 case h_2=>cases hc
 rename_i gs' hgs;split at hc
 case isFalse=>cases hc
 simp only[v6,bp.cw.injEq] at hc;obtain ⟨hdr,rfl⟩:=hc;cases draw with
 |true=>simp at hdr
 |false =>
  refine wpIn_region_list ?_;rw[hk] at hgs;obtain ⟨l1,o,l2,ao,J,U⟩:=Ad hgs;rw[ao];refine sX (K:=mD c.P Q g) (fun B a' w' hp hs' =>?_) l1 _ A a w J (h _ fun _ hb=>hb) ab;obtain ⟨q1,q2,q3,q4⟩:=nA U;have wn:Region.wanted o (yielded aW a'.tmps)=true:=by
   rcases q4 with ⟨a5,_⟩ | ⟨_,_,_,_,_,a5⟩
   ·simp[Region.wanted,a5]
   ·simp at a5
  simp only[wpListIn,wn,if_true];exact Dn q1 hp hs'
theorem ae.oe{gs gs1 gs2:List aI}{g:bT}{dst:Option Nat}(e:gs=gs1++⟨dst,g,none⟩::gs2)(h:∀ K:ai→Prop,(∀ B,mD c.P Q g B→K B)→aQ c.P c.Y false K (aB gs1 A)):ae c (.cw none gs) Q A:=by
 subst e;refine ae.Zt gs1.length (g:=g) (dst:=dst) ?_ fun K hK =>?_
 ·simp
 ·simpa using h K hK
end
theorem Z0{w:World}{b:Nat}{cs:Array Value}{T:TypeId}{fr:Nat×Nat}{v:Value}(h:w.heap[b]?=some (.cells cs T fr)):w.setCell ⟨b,0,none⟩ v=w.setRow b (cs.setIfInBounds 0 v):=by
 unfold World.setCell World.setRow
 congr 1
 apply Array.ext
 ·simp
 ·intro i J U;simp only[Array.getElem_modify];split
  ·rename_i e;subst e;obtain ⟨_,hv⟩:=zy1.1 h;simp[hv]
  ·rfl
def sd(P:Program)(f:FuncId):Prop:=eZ P f=true∧∀ (b:Nat) (T:TypeId) (w:World) (x:Bool),w.heap[b]?=some (.cells #[.bool x] T (0,0))→CallsDIn Fence.wide 8 P f #[.pointer (some ⟨b,0,none⟩)] .returning w fun e u' w'=>(∃ v,e=.returned v)∧u'=.returning∧w'=w
def r7(P:Program)(f:FuncId)(ch:List PanicEntry):Prop:=eZ P f=true∧∀ (b:Nat) (T:TypeId) (w:World) (x:Bool),w.heap[b]?=some (.cells #[.bool x] T (0,0)) →
 CallsDIn Fence.wide 8 P f #[.pointer (some ⟨b,0,none⟩)] (.panicking ch) w fun e u' w'=>(∃ v,e=.returned v)∧settle u'=.returning∧∃ w2,Below w.heap.size w w2∧w'=w2.setCell ⟨b,0,none⟩ (.bool false)
def kc(f:FuncId)(v:Value):Deferred := { target:=.fn (.func f) #[v],args := #[] }
def rB(rs:List bK)(post:cC)(ch:List PanicEntry)(N:Nat):Exit→ai→Prop
 | .ret,A=>(∃ x,A.o N=some (.box (.bool x)))∧ja rs post A
 | .panic ch',A=>ch'=ch∧(∃ x,A.o N=some (.box (.bool x)))∧ja rs post (A.aT N (.box (.bool false)))
 |_,_=>False
section
variable {P:Program} {n:Nat} {w:World} {D:aP} {E:a8} {rs:List bK} {post:cC} {fn:Func} {ch:List PanicEntry} {f:FuncId} {N b:Nat}
theorem Cz(hrs:gP P fn.results.toList=some rs)(hEN:E N=some (.aL b .one)){A:ai}{D':aP}{E':a8}{u:FrameMode}(hx:∃ x,A.o N=some (.box (.bool x)))
  (hcase:(u=.returning∧ja rs post A∧sd P f)∨(u=.panicking ch∧ja rs post (A.aT N (.box (.bool false)))∧r7 P f ch)) :
  ∀ (ds:List Deferred) (a:Act) (w':World),a.defers=ds→aV ⟨P,w,D,n,cI E,E,dv,none,some [kc f (.pointer (some ⟨b,0,none⟩))]⟩ A a w' D' E'→LeavesInM Fence.wide 9 P fn a.tmps (fun e w'=>∃ v,e=.returned v∧lG w D E post v w') ds u w'
 | [],a,w',af,ab=>by
  have J:a.defers=[kc f (.pointer (some ⟨b,0,none⟩))]:=ab.eB;rw[af] at J;cases J
 |d::ds,a,w',af,ab=>by
  have J:a.defers=[kc f (.pointer (some ⟨b,0,none⟩))]:=ab.eB;rw[af] at J;simp only[zw8] at J;obtain ⟨rfl,rfl⟩:=J
  ·skip
   obtain ⟨x,hx⟩:=hx;obtain ⟨b',cs,T,e1,e2,e3,e4,e5⟩:cY _ w' D' E' N (some (.box (.bool x))):=hx▸ab.bP N;have hfx:E' N=none∨E' N=some (.aL b .one):=ab.vR (n:=N) (e:=.aL b .one) hEN rfl;have hE':E' N=some (.aL b .one):=by
    rcases hfx with h | h
    ·rw[h] at e1;cases e1
    ·exact h
   rw[hE'] at e1;simp only[v6,bN.aL.injEq] at e1;obtain ⟨rfl,_⟩:=e1;have hcs:cs = #[.bool x]:=by
    simp only[al] at e4;apply Array.ext';simpa using e4
   subst hcs;refine ⟨by rcases hcase with ⟨rfl,_⟩ | ⟨rfl,_⟩ <;>simp,.inr ⟨fun _=>by decide,.func f,#[.pointer (some ⟨b,0,none⟩)],f,#[.pointer (some ⟨b,0,none⟩)],rfl,?_,fun _ _=>trivial,?_⟩⟩
   ·have hcb:eZ P f=true:=by rcases hcase with ⟨_,_,h⟩ | ⟨_,_,h⟩ <;>exact h.1
    simp only[kc,invoke,mZ hcb,Array.empty_append]
   ·rcases hcase with ⟨rfl,hr,hi⟩ | ⟨rfl,hr,hc⟩
    ·refine (hi.2 b T w' x e3).mono ?_;rintro e u' w'' ⟨⟨v,rfl⟩,rfl,rfl⟩;obtain ⟨v,J,U⟩:=ab.tf hrs hr;exact ⟨v,J,v,rfl,U⟩
    ·refine (hc.2 b T w' x e3).mono ?_;rintro e u' w'' ⟨⟨v,rfl⟩,hu,w2,hb2,rfl⟩;have hs1:=ab.grow (D':=D') hb2 (fun _ _ h=>h) (fun _ _ h _=>h) (fun b o af=>Nat.lt_of_lt_of_le (ab.aR b o af) hb2.size);have e3':w2.heap[b]?=some (.cells #[.bool x] T (0,0)):=(hb2.block b (fD e3)).trans e3;have hs2:=hs1.xP (y:=.bool false) (cs' := #[.bool false]) hx hE' rfl (by simp[al]);have hw:w2.setCell ⟨b,0,none⟩ (.bool false)=w2.setRow b #[.bool false]:=by
      rw[Z0 e3'];rfl
     rw[←hw] at hs2;obtain ⟨v,J,U⟩:=hs2.tf hrs hr;simp only[hu];exact ⟨v,J,v,rfl,U⟩
theorem pw{bC:Fence}{m:Nat}{tmps:Array Value}{R R':Ending→World→Prop}(hr:∀ e w,R e w→R' e w):∀ (ds:List Deferred) (u:FrameMode) (w:World),LeavesInM bC m P fn tmps R ds u w→LeavesInM bC m P fn tmps R' ds u w
 | [],u,w,h=>by
  cases u with
  |run=>exact h
  |returning=>obtain ⟨v,J,U⟩:=h;exact ⟨v,J,hr _ _ U⟩
  |panicking c=>exact hr _ _ h
 |d::ds,u,w,h=>by
  obtain ⟨J,U⟩:=h;refine ⟨J,?_⟩;rcases U with ⟨r,w',k1,k2,k3⟩ | ⟨k1,fv,cap,g,args,k2,k3,k4,k5⟩
  ·exact .inl ⟨r,w',k1,k2,pw hr ds u w' k3⟩
  ·refine .inr ⟨k1,fv,cap,g,args,k2,k3,k4,k5.mono fun e u' w' h =>?_⟩;cases e with
   |returned v=>exact pw hr ds _ w' h
   |panicked c=>exact pw hr ds _ w' h
   |outgrown=>exact hr _ _ h
def rL(P:Program)(fn:Func)(rest:Code)(slots:List Nat)(a:Act)(vs:Array Value)(w:World)(R:Ending→World→Prop):Prop :=
 vs.toList=slots.map (fun t=>a.tmps.getD t undef)→rest.wpIn Fence.wide 9 P (bodyPostM Fence.wide 9 P fn R) a w
theorem rL.mono{rest:Code}{slots:List Nat}{a:Act}{vs:Array Value}{w:World}{R R':Ending→World→Prop}(h:rL P fn rest slots a vs w R)(hr:∀ e w,R e w→R' e w):rL P fn rest slots a vs w R':=fun hv=>by
 refine wpIn_mono (h hv) fun e a' w' q =>?_;cases e <;>simp only[bodyPostM] at q ⊢ <;>first
  |exact pw hr _ _ _ q
  |exact hr _ _ q
  |exact q
theorem F0{w:World}{D:aP}{E:a8}(g:Nat→Value):∀ (slots:List Nat) (args:List I),aJ w D E args (slots.map g)→∀ t,bd w D E (bZ (slots.zip args) t) (g t)
 | [],args,h,t=>by simp[bZ,bd]
 |s::slots,[],h,t=>by simp[bZ,bd]
 |s::slots,x::args,h,t=>by
  simp only[aJ,zz3] at h;obtain ⟨v,rest,cs,e,J,U,ah⟩:=h;simp only[zw8] at e;obtain ⟨rfl,rfl⟩:=e;simp only[List.zip_cons_cons,bZ];split
  ·rename_i hk;subst hk;exact jC J U
  ·exact F0 g slots args ah t
theorem ZF{rest:Code}{x:bp}{slots:List Nat}{a:Act}{args:List I}{os:List (Nat×aq)}{ts:Nat}(hrs:gP P fn.results.toList=some rs)(hx:eA P n rest=some x)(hsz:a.tmps.size=n)(af:a.defers=[kc f (a.tmps.getD ts undef)])(hos:∀ m,aw os m=true→n≤m∧1000000≤m)
  (hts:bZ (slots.zip args) ts=.ptr N []) {y:Bool} (hN:aj os N=some (.box (.bool y))) (hi:sd P f) (hc:r7 P f ch)
  (hAW:∀ (w:World) (D:aP) (E:a8) (d:Deferred),ae ⟨P,w,D,n,cI E,E,dv,none,some [d]⟩ x (rB rs post ch N) (au (slots.zip args) os)):nr (rL P fn rest slots a) (fun w _ E=>gM P w (cI E)) args os post:=by
 intro w D E vs ao hD ho hv hvs;have hvs':vs=slots.map (fun t=>a.tmps.getD t undef):=by simpa using hvs
 subst hvs';have htm:=F0 (fun t=>a.tmps.getD t undef) slots args hv;have hp:=htm ts;rw[hts] at hp;obtain ⟨b,aX,off,p1,p2,p3⟩:=lr hp;have hob:cY _ w D E N (some (.box (.bool y))):=hN▸ho.bP N;obtain ⟨b',cs,T,e1,_⟩:=hob;have hsh:aX=.one:=by
  rw[p1] at e1;simp only[v6,bN.aL.injEq] at e1;rw[e1.2];rfl
 subst hsh;have hoff:off=0:=by simpa[cR.off] using p2.symm
 subst hoff;simp only[p3] at af;have hsim:aV ⟨P,w,D,n,cI E,E,dv,none,some [kc f (.pointer (some ⟨b,0,none⟩))]⟩ (au (slots.zip args) os) a w D E:=by
  refine ⟨hsz,af,htm,eW.refl _ _,fun _ _ h _=>h,hD,fun m =>?_,ho.cO,fun m e h=>.inr ⟨e,h,.refl e⟩,fun m hm =>?_,fun _ _ h=>h,p0 ao,.refl _ _⟩
  ·have h:=ho.bP m;simp only[au];cases hx:aj os m with
   |none=>rw[hx] at h;exact h
   |some x=>rw[hx] at h;exact cY.ic h fun e b he hb=>.inr ⟨m,e,he,hb⟩
  ·refine hos m ?_;cases hx:aj os m with
   |none=>have h:=ho.bP m;rw[hx] at h;exact absurd h hm
   |some x=>simp[aw,hx]
 refine wpIn_mono ((hAW w D E _) rest hx a w ⟨D,E,hsim⟩) ?_;rintro e a' w' ⟨A,hq,D',E',ab⟩;have bj:∀ e w',(∃ v,e=Ending.returned v∧lG w D E post v w')→∃ v D' E' r os',e=.returned v∧post r os'∧bd w' D' E' r v∧jN (fun b=>w.heap.size≤b∨cI E b) w' D' E' (aj os') ∧
   eW (fun b=>w.heap.size≤b∨cI E b) w w'∧(∀ b o,D b o→D' b o)∧(∀ b o,D' b o→b<w'.heap.size)∧(∀ b o,D' b o→b<w.heap.size→¬ cI E b→D b o) ∧
   (∀ n e,E n=some e→aw os' n=true→∃ e',E' n=some e'∧e.le e')∧gN w D w':=fun e w' ⟨v,J,D',E',r,os',U⟩=>⟨v,D',E',r,os',J,U⟩
 cases e <;>simp only[rB] at hq
 ·obtain ⟨J,U⟩:=hq;exact pw bj _ _ _ (Cz (ch:=ch) hrs p1 J (.inl ⟨rfl,U,hi⟩) a'.defers a' w' rfl ab)
 ·obtain ⟨rfl,J,U⟩:=hq;exact pw bj _ _ _ (Cz hrs p1 J (.inr ⟨rfl,U,hc⟩) a'.defers a' w' rfl ab)
end
def vm(P:Program)(n:Nat):Code→Option (bp×FuncId×Nat×Nat×bp)
 | .seq lj (.seq (.region _ aW false) rest)=>match aW.toList with
  | [o1,o2]=>match lK P n aW o1,o2.op with
   |some ⟨some t5,.mk g [.t ts],none⟩,.defer { callee:=.value (.tmp t),args,.. } =>if t=t5∧args = #[]∧o2.guard=none∧o2.dst=none then (match eA P n lj,eA P n rest with
     |some x0,some x=>some (x0,g,ts,t5,x)
     |_,_=>none)
    else none
   |_,_=>none
  |_=>none
 |_=>none
structure Hj (P:Program) (n:Nat) (x:bp) (rs:List bK) (post:cC) (ch:List PanicEntry) (g:FuncId) (ts t5:Nat) (tsl:List (Nat×I)) (os0:List (Nat×aq)) (ρ:List (Nat×Nat)) (os1:List (Nat×aq)) (slots:List Nat) (cargs:List I) (N:Nat) (y:Bool) (post1:cC):Prop where
 fB:bZ tsl ts=.ptr (bH ρ N) []
 Cd:gn ρ os1 os0
 arg:gO false (au ((t5,.func g [.ptr (bH ρ N) []])::tsl) (ec (ig ρ os1) os0)) ρ os1 (slots.map (bZ ((t5,.func g [.ptr (bH ρ N) []])::tsl))) cargs
 yO:∀ r os',post1 r os'→fW false ρ os1 os0 r os'
 FJ:bZ (slots.zip cargs) ts=.ptr N []
 box:aj os1 N=some (.box (.bool y))
 lQ:∀ m,aw os1 m=true→n≤m∧1000000≤m
 rest:∀ (w:World) (D:aP) (E:a8) (d:Deferred),ae ⟨P,w,D,n,cI E,E,dv,none,some [d]⟩ x (rB rs post1 ch N) (au (slots.zip cargs) os1)
 iw:∀ r os',post1 r os'→∃ osF,r.flat=true∧r.bh (bH ρ)=r∧(∀ m z,aj osF m=some z→aj (dn ρ os'++os0) m=some z∧z.only (aw osF)=true∧z.eh=true)∧post r osF
abbrev sK(P:Program)(w:World)(D:aP)(n:Nat)(E:a8)(b:Option (List Deferred)):cV:=⟨P,w,D,n,cI E,E,dv,none,b⟩
theorem aV.XB{P:Program}{n:Nat}{w:World}{D:aP}{E:a8}{fk:Option (List Deferred)}{post:cC}{A:ai}{a:Act}{w':World}{D':aP}{E':a8}{r:I}{v:Value}{os:List (Nat×aq)}
  (ab:aV (sK P w D n E fk) A a w' D' E') (J:∀ m z,aj os m=some z→A.o m=some z∧z.only (aw os)=true∧z.eh=true) (hf:r.flat=true) (hv:bd w' D' E' r v) (hp:post r os):lG w D E post v w':=by
 obtain ⟨D2,E2,hw,e2,e2n,q1,q2,q3,q4,q5,q6⟩:=ab.wB J;exact ⟨D2,E2,r,os,hp,bd.flat hf hv,q1,q2,q3,q4,q5,q6⟩
theorem cP.YO{P:Program}{f:FuncId}{fn:Func}{x0 x:bp}{g:FuncId}{ts t5:Nat}{rs:List bK}{args:List I}{os:List (Nat×aq)}{post:cC}{ch:List PanicEntry}(hf:P.funcs[f]?=some fn)(hcall:eZ P f=true)(hc:(fn.body.bind (vm P fn.ntmps))=some (x0,g,ts,t5,x))
  (hrs:gP P fn.results.toList=some rs) (hn:args.length≤fn.ntmps) (hn2:fn.ntmps≤1000000) (hos:∀ m,aw os m=true→1000000≤m) (hi:sd P g) (hca:r7 P g ch) (hts:ts≠t5)
  (h:I.gl args→∀ (w:World) (D:aP) (E:a8),ae ⟨P,w,D,fn.ntmps,cI E,E,dv,none,some []⟩ x0 (dY (fun B=>∃ tsl os0 ρ os1 slots cargs N y post1,B=au tsl os0∧Hj P fn.ntmps x rs post ch g ts t5 tsl os0 ρ os1 slots cargs N y post1) (fun _ _=>False)) (au (bI 0 args) os)):cP P f args os post:=by
 obtain ⟨body,hb,hc⟩:=zw6.1 hc;refine ⟨hcall,fun w D E vs ao hD ho hv =>?_⟩;have hlen:=rN hv;have s0:=xZ (P:=P) (n:=fn.ntmps) (Y:=dv) hD ho hv (by omega) (fun m hm=>⟨zw9 hn2 (hos m hm),hos m hm⟩) (p0 ao);have hsim:aV (sK P w D fn.ntmps E (some [])) (oE args os) { tmps:=vs.toArray++Array.replicate (fn.ntmps-vs.toArray.size) undef,defers:=[] } w D E :=
  ⟨s0.sz,rfl,s0.dP,s0.dM,s0.c4,s0.aR,s0.bP,s0.cO,s0.dQ,s0.eN,s0.cU,p0 ao,s0.fw⟩
 obtain ⟨RR,hRR⟩:∃ RR:Ending→World→Prop,RR=fun e w'=>∃ v,e=.returned v∧lG w D E post v w':=⟨_,rfl⟩
 refine Calls.mono (R:=RR) ?_ (fun e w' q=>by rw[hRR] at q;obtain ⟨v,he,D',E',r,os',k⟩:=q;exact ⟨v,D',E',r,os',he,k⟩);refine (callsIn_wide (n:=9)).1 (callsIn_of_wp_marks hf hb trivial ?_);unfold vm at hc;split at hc
 case h_2=>cases hc
 rename_i lj id aW rest;split at hc
 case h_2=>cases hc
 rename_i o1 o2 hops;split at hc
 case h_2=>cases hc
 rename_i t5' g' ts' t dargs _ hg1 ho2;split at hc
 case isFalse=>cases hc
 rename_i hok;obtain ⟨rfl,rfl,hgd,hdst⟩:=hok;split at hc
 case h_2=>cases hc
 rename_i y0 y hx0 hx;simp only[v6,Prod.mk.injEq] at hc;obtain ⟨rfl,rfl,rfl,rfl,rfl⟩:=hc;refine wpIn_seq ?_;have hw0:=((h (pV _ _ hv) w D E).sub (ud args os)) lj hx0 _ w ⟨D,E,hsim⟩;refine wpIn_mono hw0 ?_;rintro e a1 w1 ⟨B,hq,D1,E1,hs1⟩;cases e <;>simp only[dY] at hq
 obtain ⟨tsl,os0,ρ,os1,slots,cargs,N,yb,post1,rfl,R⟩:=hq;simp only[Exit.then];refine wpIn_seq (wpIn_region_list ?_);rw[hops];obtain ⟨q1,q2,q3,q4⟩:=nA hg1;simp only at q1 q2;have wn1:∀ a:Act,Region.wanted o1 (yielded aW a.tmps)=true:=fun a=>by
  rcases q4 with ⟨a5,_⟩ | ⟨_,_,_,_,_,a5⟩
  ·simp[Region.wanted,a5]
  ·simp at a5
 have wn2:∀ a:Act,Region.wanted o2 (yielded aW a.tmps)=true:=fun a=>by simp[Region.wanted,hgd]
 simp only[wpListIn,wn1,if_true];have hmk:bn (au tsl os0) (.mk g' [.t ts'])=some (.func g' [.ptr (bH ρ N) []]):=by
  simp[bn,ak,au,R.fB,I.bS]
 have d1:=(DE (c:=sK P w D fn.ntmps E (some [])) q1 hmk).does q3;rw[←q2] at d1;refine d1.wp q1 ⟨D1,E1,hs1⟩ fun a2 w2 hs2 =>?_;obtain ⟨D2,E2,hs2⟩:=hs2;simp only[wn2,if_true];rw[CV] at hs2
 -- the deferred call
 have hglt:=Az hi.1;have hfv:=hs2.dP t;simp only[au,bZ,if_true] at hfv;obtain ⟨fc,f1,f2⟩:=hfv;simp only[al] at f2;obtain ⟨fvs,f3,f4⟩:=f2;have hval:a2.tmps.getD t undef=.func (.func g') #[] fvs.toArray:=by
  rw[←mK hglt];simpa[bE,I.isAgg,f3] using f1.symm
 simp only[aJ] at f4;obtain ⟨pv,prest,pcs,rfl,p1,p2,rfl⟩:=f4;have hpv:=hs2.dP ts';simp only[au,bZ,if_neg hts,R.fB] at hpv;obtain ⟨pb,psh,poff,b1,b2,b3⟩:=lr hpv;obtain ⟨pb',psh',poff',b1',b2',b3'⟩:=lr (jC p1 p2);have hpeq:pv=a2.tmps.getD ts' undef:=by
  rw[b1] at b1';simp only[v6,bN.aL.injEq] at b1';obtain ⟨rfl,rfl⟩:=b1';rw[b2] at b2';simp only[v6] at b2';subst b2';rw[b3,b3']
 have hdf:a2.defers=[]:=hs2.eB;obtain ⟨a3,ha3⟩:∃ a3:Act,a3 = { a2 with defers:=[kc g' (a2.tmps.getD ts' undef)] } :=⟨_,rfl⟩
 have hrun:(o2.semAt Fence.wide.round a2.eval).run P w2=.ok (.defer (kc g' (a2.tmps.getD ts' undef))) w2:=by
  show (execOp a2.eval o2).run P w2=_
  have he:a2.eval (.tmp t)=.func (.func g') #[] #[pv]:=hval;simp[execOp,ho2,resolve,he,Deferred.ofValue,kc,hpeq]
 refine ⟨fun _ _=>trivial,?_⟩;rw[hrun,Oper.uponIn_defer,hdf,hdst];simp only[Exit.then];have hput:({ tmps:=a2.tmps,defers:=[kc g' (a2.tmps.getD ts' undef)] } : Act).put none undef=a3:=by rw[ha3];rfl
 rw[hput]
 -- the rest
 have hand:=ZF (P:=P) (n:=fn.ntmps) (fn:=fn) (f:=g') (N:=N) (ch:=ch) (slots:=slots) (a:=a3) (args:=cargs) (os:=os1) (ts:=ts') hrs hx (by rw[ha3];exact hs2.sz) (by rw[ha3]) R.lQ R.FJ R.box hi hca R.rest;have hs3:aV (sK P w D fn.ntmps E (some [kc g' (a2.tmps.getD ts' undef)])) (au ((t,.func g' [.ptr (bH ρ N) []])::tsl) os0) a3 w2 D2 E2:=by
  rw[ha3];exact ⟨hs2.sz,rfl,hs2.dP,hs2.dM,hs2.c4,hs2.aR,hs2.bP,hs2.cO,hs2.dQ,hs2.eN,hs2.cU,p0 ao,hs2.fw⟩
 have hall:∀ l:List Nat,fy (bd w2 D2 E2) (l.map (bZ ((t,.func g' [.ptr (bH ρ N) []])::tsl))) (l.map fun k=>a3.tmps.getD k undef):=fun l=>by
  induction l with
  |nil=>exact .nil
  |cons k l ih=>exact .cons (hs3.dP k) ih
 have hus:=hand.use hs3 false (fun h hr=>h.mono hr) ⟨(fun h=>by cases h),fun _=>hs3.pt⟩ R.Cd R.arg R.yO (hall slots);refine rL.mono hus ?_ (by simp);rintro e w' ⟨v,r,os',D4,E4,rfl,hp,hs4,hv4,_⟩;rw[hRR];obtain ⟨osF,g1,g2,g3,g4⟩:=R.iw r os' hp;rw[g2] at hv4;exact ⟨v,rfl,hs4.XB g3 g1 hv4 g4⟩
end Go.Abs
