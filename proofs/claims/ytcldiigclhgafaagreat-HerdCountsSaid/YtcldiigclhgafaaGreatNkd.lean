/-
  A part of the proof that the law HerdCounts returns true for every input; conditions: none beyond the statement's own. (part 4 of 7)
-/
import Derived.Test.YtcldiigclhgafaaGreatChecked
import Derived.KernelRfl
import Derived.Test.YtcldiigclhgafaaGreatNkc
set_option linter.unusedSimpArgs false
set_option linter.unusedVariables false
set_option maxHeartbeats 16000000
set_option maxRecDepth 100000
namespace Go.Proofs.YtcldiigclhgafaaGreat
open Go Go.Abs Go.Abs.C
def Es:=[o 6 (.mv bp)]
def Et:=[m 7 1,m 8 0,o 9 (.bin .leq (.t 7) (.t 8)),m 10 9,cz 11 0 10,cz 12 2 10,bF 13 (.bin .leq (.t 11) (.t 12)) 10,and 14 10 13,m 6 14]
def AR:aR:=(s (r Es) (s (r Et) .ret))
def Kv:List bg:=[.tmp 6]
theorem Sk:bI Tryz.prog Tryz.f114 AR:=e (by kernel_rfl)
theorem Uv:bJ Tryz.prog Tryz.f114 Kv:=e (by kernel_rfl)
theorem Qu:bG Tryz.prog 114:=e (by kernel_rfl)
def Eu:=[b 1 0,o 2 (.mv bp)]
def Ev:=[f 3 0 0 1,l 4 3,o 5 (.call 114 [.t 4,(al 0),(al 5)]),m 6 5,cT 7 1 1 1 6,du 8 7 6,bF 9 (.call 114 [.t 8,(al 0),(al 9999)]) 6,and 10 6 9,m 2 10]
def AS:aR:=(s (r Eu) (s (r Ev) .ret))
def Kx:List bg:=[.tmp 2]
theorem Sl:bI Tryz.prog Tryz.f115 AS:=e (by kernel_rfl)
theorem Uw:bJ Tryz.prog Tryz.f115 Kx:=e (by kernel_rfl)
theorem Qv:bG Tryz.prog 115:=e (by kernel_rfl)
def Ew:=[b 1 0,o 2 (.mv bp)]
def Ey:=[f 3 0 0 1,l 4 3,o 5 (.call 94 [.t 4,(al 0),(al 5)]),m 6 5,cT 7 1 1 1 6,du 8 7 6,bF 9 (.call 94 [.t 8,(al 0),(al 9999)]) 6,and 10 6 9,m 2 10]
def AT:aR:=(s (r Ew) (s (r Ey) .ret))
def Ky:List bg:=[.tmp 2]
theorem Sm:bI Tryz.prog Tryz.f116 AT:=e (by kernel_rfl)
theorem Ux:bJ Tryz.prog Tryz.f116 Ky:=e (by kernel_rfl)
theorem Qw:bG Tryz.prog 116:=e (by kernel_rfl)
def Ez:=[b 1 0,o 2 (.mv bp)]
def EA:=[f 5 0 0 1,L 6 2 5,f 7 1 2 1,l 8 7,f 9 2 3 1,l 10 9,f 11 3 4 1,l 12 11,f 13 4 5 1,l 14 13,o 15 (.bld [.agg [.int .i64 0,.int .i64 0],.int .i64 0,.int .i64 0,.int .i64 0,.int .i64 0,.int .i64 0,.int .i64 0,.int .i64 0,.agg [.int .i64 0,.int .i64 0,.int .i64 0,.int .i64 0,.int .i64 0,.int .i64 0],.agg [.int .i64 0,.int .i64 0]] [(0,(.t 6)),(1,(.t 8)),(2,(.t 10)),(3,(.t 12)),(4,(.t 14))]),o 3 (.alloc (.agg [.agg [.int .i64 0,.int .i64 0],.int .i64 0,.int .i64 0,.int .i64 0,.int .i64 0,.int .i64 0,.int .i64 0,.int .i64 0,.agg [.int .i64 0,.int .i64 0,.int .i64 0,.int .i64 0,.int .i64 0,.int .i64 0],.agg [.int .i64 0,.int .i64 0]])),p (.br (some 17) (.t 3) (.t 15))]
def EB:=[f 16 4 5 1,l 17 16,o 18 (.call 154 [.t 17]),m 4 18]
def YR:=[f 19 1 2 1,l 20 19]
def YS:=[o 22 (.bin .eql (.t 20) (al 0)),m 21 22]
def wN:=[f 23 9 15 1,L 24 2 23,f 25 4 5 3,p (.br none (.t 25) (al 0)),f 26 9 15 3,p (.br (some 2) (.t 26) (.t 24))]
def Wh:=some [[],[0],[],[2],[0,1,2,3],[4,1,3,0,1,2,3]] -- DRAW BAD
def YT:=[f 27 2 3 1,l 28 27,o 29 (.bin .eql (.t 28) (al 0)),m 30 29,cT 31 9 15 1 30,bF 32 (.ld (some 2) (.t 31)) 30,bF 33 (.call 115 [.t 32]) 30,and 34 30 33,m 35 34,cT 36 9 15 1 35,cT 37 0 0 36 35,du 38 37 35,cT 39 0 0 1 35,cT 40 0 0 39 35,du 41 40 35,bF 42 (.bin .eql (.t 38) (.t 41)) 35,and 43 35 42,m 44 43,cT 45 9 15 1 44,cT 46 1 1 45 44,du 47 46 44,cT 48 0 0 1 44,cT 49 1 1 48 44,du 50 49 44,bF 51 (.bin .lss (.t 47) (.t 50)) 44,and 52 44 51,m 4 52]
def YU:=[o 54 (.bin .eql (.t 20) (al 1)),m 53 54]
def wO:=[f 55 6 7 1,l 56 55,f 57 7 8 1,l 58 57,f 59 5 6 1,l 60 59,f 61 6 7 3,p (.br none (.t 61) (.t 56)),f 62 7 8 3,p (.br none (.t 62) (.t 58)),f 63 5 6 3,p (.br none (.t 63) (.t 60))]
def Wi:=some [[],[0],[],[2],[],[4],[0,1],[6,1,0,1],[0,1,2,3,6,7],[8,3,7,0,1,2,3,6,7],[0,1,2,3,4,5,6,7,8,9],[10,5,9,0,1,2,3,4,5,6,7,8,9]] -- DRAW BAD
def YV:=[m 64 4,m 65 64,cT 66 6 7 1 65,du 67 66 65,bF 68 (.call 155 [.t 67]) 65,and 69 65 68,m 70 69,cT 71 7 8 1 70,du 72 71 70,bF 73 (.call 156 [.t 72]) 70,and 74 70 73,m 75 74,cT 76 5 6 1 75,du 77 76 75,bF 78 (.call 114 [.t 77,(al 0),(al 9999)]) 75,and 79 75 78,m 80 79,cT 81 5 6 1 80,du 82 81 80,cT 83 4 5 1 80,du 84 83 80,bF 85 (.bin .neq (.t 82) (.t 84)) 80,and 86 80 85,m 4 86]
def YE:=[o 88 (.bin .eql (.t 20) (al 2)),m 87 88]
def YF:=[f 89 6 7 1,l 90 89,f 91 6 7 3,p (.br none (.t 91) (.t 90))]
def YG:=[m 92 4,m 93 92,cT 94 6 7 1 93,du 95 94 93,bF 96 (.call 155 [.t 95]) 93,and 97 93 96,m 4 97]
def YH:=[o 99 (.bin .eql (.t 20) (al 3)),m 98 99]
def YI:=[o 100 (.bin .eql (.t 20) (al 5)),m 98 100]
def YJ:=[f 101 7 8 1,l 102 101,f 103 7 8 3,p (.br none (.t 103) (.t 102))]
def YK:=[m 104 4,m 105 104,cT 106 7 8 1 105,du 107 106 105,bF 108 (.call 156 [.t 107]) 105,and 109 105 108,m 4 109]
def YL:=[o 111 (.bin .eql (.t 20) (al 4)),m 110 111]
def YM:=[f 112 8 9 1,L 113 6 112,f 114 8 9 3,p (.br (some 6) (.t 114) (.t 113))]
def YN:=[m 115 4,m 116 115,cT 117 8 9 1 116,bF 118 (.ld (some 6) (.t 117)) 116,bF 119 (.call 157 [.t 118]) 116,bF 120 (.bin .eql (.t 119) (al 0)) 116,and 121 116 120,m 4 121]
def YO:=[o 123 (.bin .eql (.t 20) (al 6)),m 122 123]
def YP:=[o 2 (.mv bp)]
def YQ:=[m 124 4,m 125 124,bF 126 (.ld (some 17) (.t 1)) 125,bF 127 (.ld (some 17) (.t 3)) 125,bF 128 (.eqv (.br [(.br [(.i .i64),(.i .i64)]),(.i .i64),(.i .i64),(.i .i64),(.i .i64),(.i .i64),(.i .i64),(.i .i64),(.kr 6 (.i .i64)),(.br [(.i .i64),(.i .i64)])]) false (.t 126) (.t 127)) 125,and 129 125 128,m 130 129,cT 131 0 0 1 130,bF 132 (.ld (some 2) (.t 131)) 130,bF 133 (.call 115 [.t 132]) 130,and 134 130 133,m 135 134,cT 136 2 3 1 135,du 137 136 135,bF 138 (.call 127 [.t 137]) 135,and 139 135 138,m 140 139,cT 141 3 4 1 140,du 142 141 140,bF 143 (.call 127 [.t 142]) 140,and 144 140 143,m 2 144]
def AU:aR:=(s (r Ez) (s (r EA) (s (r EB) (s (s (r YR) (.block 0 (s (r YS) (.cond (.t 21) (s (.bW Wh wN) (r YT)) (s (r YU) (.cond (.t 53) (s (.bW Wi wO) (r YV)) (s (r YE) (.cond (.t 87) (s (r YF) (r YG)) (s (s (r YH) (.cond (.t 98) .skip (r YI))) (.cond (.t 98) (s (r YJ) (r YK)) (s (r YL) (.cond (.t 110) (s (r YM) (r YN)) (s (r YO) (.cond (.t 122) .skip (s (r YP) .ret))))))))))))))) (s (r YQ) .ret)))))
def Kz:List bg:=[.tmp 2]
theorem Sn:bI Tryz.prog Tryz.f117 AU:=e (by kernel_rfl)
theorem Uy:bJ Tryz.prog Tryz.f117 Kz:=e (by kernel_rfl)
theorem Qx:bG Tryz.prog 117:=e (by kernel_rfl)
def EC:=[b 2 0,b 3 1,aX 4 0]
def ED:=[f 5 0 0 2,l 6 5,f 7 0 0 3,l 8 7,o 9 (.call 159 [.t 6,.t 8]),f 10 1 1 2,l 11 10,f 12 1 1 3,l 13 12,o 14 (.call 159 [.t 11,.t 13]),o 15 (.bs 3 1 [.t 9,.t 14]),o 16 (.call 158 [.t 15]),m 4 16]
def Wj:=some [[],[0],[],[2],[1,3],[],[5],[],[7],[6,8,4],[4,9],[10,9],[11,11,0,1,2,3,4,5,6,7,8,9,10,11]]
def AV:aR:=(s (r EC) (s (.bW Wj ED) .ret))
def KA:List bg:=[.tmp 4]
theorem Sp:bI Tryz.prog Tryz.f118 AV:=e (by kernel_rfl)
theorem Uz:bJ Tryz.prog Tryz.f118 KA:=e (by kernel_rfl)
theorem Qy:bG Tryz.prog 118:=e (by kernel_rfl)
def EE:=[b 2 0,b 3 1,o 4 (.mv bp)]
def EF:=[f 5 0 0 2,l 6 5,f 7 0 0 3,l 8 7,lt 9 6 8,m 10 9,fn 11 0 0 2 10,eU 12 11 10,fn 13 0 0 3 10,eU 14 13 10,on 15 (.bin .eql (.t 12) (.t 14)) 10,eC 16 15 10,cT 17 1 1 2 16,du 18 17 16,cT 19 1 1 3 16,du 20 19 16,bF 21 (.bin .lss (.t 18) (.t 20)) 16,on 22 (.pick (.t 16) (.t 21) bp) 10,or 23 10 22,m 4 23]
def AW:aR:=(s (r EE) (s (r EF) .ret))
def KB:List bg:=[.tmp 4]
theorem Sq:bI Tryz.prog Tryz.f119 AW:=e (by kernel_rfl)
theorem UA:bJ Tryz.prog Tryz.f119 KB:=e (by kernel_rfl)
theorem Qz:bG Tryz.prog 119:=e (by kernel_rfl)
def EG:=[b 1 0,o 2 (.mv bp)]
def EH:=[L 6 5 1,aX 7 0]
def EI:=[o 8 (.bin .lss (.t 7) (al 5))]
def EJ:=[m 9 7,o 10 (.ix 5 1 none (.t 6) (.t 7)),m 3 9,m 4 10]
def EK:=[m 11 4,m 5 11]
def EL:=[m 12 5,o 13 (.call 160 [.t 12]),no 14 13,m 15 14,eC 16 5 15,eC 17 3 15,on 18 (.call 161 [.t 16,.t 17]) 15,on 19 (.un .not (.t 18)) 15,or 20 15 19]
def wP:=[o 2 (.mv bp)]
def EM:=[ad 21 7 1,m 7 21]
def EN:=[o 2 (.mv T)]
def AX:aR:=(s (r EG) (s (s (r EH) (.block 0 (.loop (s (r EI) (s (.cond (.t 8) .skip (.exit 0)) (s (.block 1 (s (r EJ) (s (r EK) (s (r EL) (.cond (.t 20) (s (r wP) .ret) .skip))))) (r EM))))))) (s (r EN) .ret)))
def KC:List bg:=[.tmp 2]
theorem Sr:bI Tryz.prog Tryz.f120 AX:=e (by kernel_rfl)
theorem UB:bJ Tryz.prog Tryz.f120 KC:=e (by kernel_rfl)
theorem QA:bG Tryz.prog 120:=e (by kernel_rfl)
def EO:=[o 6 (.mv bp)]
def EP:=[m 7 1,m 8 0,o 9 (.bin .leq (.t 7) (.t 8)),m 10 9,cz 11 0 10,cz 12 2 10,bF 13 (.bin .leq (.t 11) (.t 12)) 10,and 14 10 13,m 6 14]
def AY:aR:=(s (r EO) (s (r EP) .ret))
def KD:List bg:=[.tmp 6]
theorem St:bI Tryz.prog Tryz.f121 AY:=e (by kernel_rfl)
theorem UC:bJ Tryz.prog Tryz.f121 KD:=e (by kernel_rfl)
theorem QB:bG Tryz.prog 121:=e (by kernel_rfl)
def ER:=[o 2 (.mv bp)]
def ES:=[m 3 0,o 4 (.call 121 [.t 3,(al 1),(al 99)]),m 2 4]
def AZ:aR:=(s (r ER) (s (r ES) .ret))
def KE:List bg:=[.tmp 2]
theorem Su:bI Tryz.prog Tryz.f122 AZ:=e (by kernel_rfl)
theorem UD:bJ Tryz.prog Tryz.f122 KE:=e (by kernel_rfl)
theorem QC:bG Tryz.prog 122:=e (by kernel_rfl)
def ET:=[b 1 0,o 2 (.mv bp)]
def EU:=[o 3 (.va 6 1 (.t 1)),o 4 (.call 125 [.t 3,(.c (.func 162 []))]),no 5 4,m 2 5]
def A4:aR:=(s (r ET) (s (r EU) .ret))
def KF:List bg:=[.tmp 2]
theorem Sv:bI Tryz.prog Tryz.f123 A4:=e (by kernel_rfl)
theorem UE:bJ Tryz.prog Tryz.f123 KF:=e (by kernel_rfl)
theorem QD:bG Tryz.prog 123:=e (by kernel_rfl)
def EV:=[b 3 0,b 5 2,o 6 (.mv bp)]
def EW:=[m 7 1,o 8 (.mk 164 [.t 3,.t 5]),o 9 (.call 163 [.t 7,.t 8]),no 10 9,m 6 10]
def A5:aR:=(s (r EV) (s (r EW) .ret))
def KG:List bg:=[.tmp 6]
theorem Sw:bI Tryz.prog Tryz.f124 A5:=e (by kernel_rfl)
theorem UF:bJ Tryz.prog Tryz.f124 KG:=e (by kernel_rfl)
theorem QE:bG Tryz.prog 124:=e (by kernel_rfl)
def EX:=[o 4 (.mv bp)]
def EY:=[m 5 0,m 6 1,o 7 (.call 166 [.t 5,.t 6]),o 8 (.bin .geq (.t 7) (al 0)),m 4 8]
def A6:aR:=(s (r EX) (s (r EY) .ret))
def KH:List bg:=[.tmp 4]
theorem Sx:bI Tryz.prog Tryz.f125 A6:=e (by kernel_rfl)
theorem UG:bJ Tryz.prog Tryz.f125 KH:=e (by kernel_rfl)
theorem QF:bG Tryz.prog 125:=e (by kernel_rfl)
def YW:=[o 2 (.mv bp)]
def YX:=[m 3 0,o 4 (.call 127 [.t 3]),no 5 4,m 2 5]
def A7:aR:=(s (r YW) (s (r YX) .ret))
def KI:List bg:=[.tmp 2]
theorem Sy:bI Tryz.prog Tryz.f126 A7:=e (by kernel_rfl)
theorem UH:bJ Tryz.prog Tryz.f126 KI:=e (by kernel_rfl)
theorem QG:bG Tryz.prog 126:=e (by kernel_rfl)
def EZ:=[o 2 (.mv bp)]
def E0:=[m 3 0,o 4 (.call 114 [.t 3,(al 0),(al 100000)]),m 2 4]
def A8:aR:=(s (r EZ) (s (r E0) .ret))
def KJ:List bg:=[.tmp 2]
theorem Sz:bI Tryz.prog Tryz.f127 A8:=e (by kernel_rfl)
theorem UI:bJ Tryz.prog Tryz.f127 KJ:=e (by kernel_rfl)
theorem QH:bG Tryz.prog 127:=e (by kernel_rfl)
def E4:=[b 2 0,o 4 (.mv (.c (.nils 1))),aX 5 0]
def E5:=[L 11 7 2,o 12 (.call 66 [.t 11]),m 6 12]
def wU:=[m 13 6,o 14 (.bin .neq (.t 13) (al 0))]
def E6:=[m 15 6,o 4 (.mv (.c (.nils 1))),m 5 15]
def E7:=[m 16 1,o 17 (.len (.t 16)),o 18 (.bin .gtr (.t 17) (al 60))]
def E8:=[o 4 (.mv (.c (.nils 1))),aX 5 2]
def E9:=[f 19 2 6 2,l 20 19,o 21 (.call 167 [.t 20]),m 7 21]
def wV:=[m 22 1,o 23 (.len (.t 22)),aX 24 0]
def wW:=[lt 25 24 23]
def wX:=[o 26 (.is 6 (.t 22) (.t 24)),L 27 6 26,o 9 (.alloc (.agg [.int .i64 0,.int .i64 0,.int .i64 0,.int .i64 0,.int .i64 0,.int .i64 0])),p (.br (some 6) (.t 9) (.t 27))]
def wQ:=[L 28 6 9,o 29 (.call 157 [.t 28]),m 10 29]
def th:=[m 30 10,o 31 (.bin .neq (.t 30) (al 0))]
def wR:=[m 32 10,o 4 (.mv (.c (.nils 1))),m 5 32]
def wS:=[f 33 0 0 2,L 34 5 33,f 35 1 5 2,l 36 35,m 37 7,o 38 (.bld [.agg [.int .i64 0,.int .i64 0,.int .i64 0,.int .i64 0,.int .i64 0],.int .i64 0,.nils 7] [(0,(.t 34)),(1,(.t 36)),(2,(.t 37))]),L 39 6 9,o 40 (.call 168 [.t 38,.t 39]),m 7 40]
def tj:=[ad 41 24 1,m 24 41]
def wT:=[m 42 7,o 43 (.call 169 [.t 42]),m 4 43,aX 5 0]
def A9:aR:=(s (r E4) (s (s (r E5) (s (r wU) (.cond (.t 14) (s (r E6) .ret) .skip))) (s (s (r E7) (.cond (.t 18) (s (r E8) .ret) .skip)) (s (r E9) (s (s (r wV) (.block 0 (.loop (s (r wW) (s (.cond (.t 25) .skip (.exit 0)) (s (.block 1 (s (r wX) (s (s (r wQ) (s (r th) (.cond (.t 31) (s (r wR) .ret) .skip))) (r wS)))) (r tj))))))) (s (r wT) .ret))))))
def KK:List bg:=[.tmp 4,.tmp 5]
theorem SA:bI Tryz.prog Tryz.f128 A9:=e (by kernel_rfl)
theorem UJ:bJ Tryz.prog Tryz.f128 KK:=e (by kernel_rfl)
theorem QI:bG Tryz.prog 128:=e (by kernel_rfl)
def YY:=[aX 4 0]
def YZ:=[m 6 0,o 7 (.len (.t 6)),aX 8 0]
def Y0:=[lt 9 8 7]
def Y1:=[m 10 8,m 5 10]
def Y2:=[m 11 1,m 12 0,m 13 5,o 14 (.is 1 (.t 12) (.t 13)),l 15 14,o 16 (.bin .eql (.t 11) (.t 15))]
def Y3:=[m 17 5,m 4 17]
def Y4:=[ad 18 8 1,m 8 18]
def Y5:=[aX 4 (-1)]
def Ba:aR:=(s (r YY) (s (s (r YZ) (.block 0 (.loop (s (r Y0) (s (.cond (.t 9) .skip (.exit 0)) (s (.block 1 (s (r Y1) (s (r Y2) (.cond (.t 16) (s (r Y3) .ret) .skip)))) (r Y4))))))) (s (r Y5) .ret)))
def KL:List bg:=[.tmp 4]
theorem SB:bI Tryz.prog Tryz.f131 Ba:=e (by kernel_rfl)
theorem UK:bJ Tryz.prog Tryz.f131 KL:=e (by kernel_rfl)
theorem QJ:bG Tryz.prog 131:=e (by kernel_rfl)
def Y6:=[b 3 1,o 4 (.mv (.c (.nils 9))),o 5 (.mv bp)]
def Y7:=[m 11 0,f 12 4 5 3,l 13 12,o 14 (.call 93 [.t 11,.t 13]),m 6 14]
def Zi:=[f 15 1 2 3,l 16 15,o 17 (.bin .eql (.t 16) (al 1)),m 18 17,fn 19 1 2 3 18,eU 20 19 18,on 21 (.bin .eql (.t 20) (al 2)) 18,or 22 18 21]
def Zs:=[m 23 6,o 24 (.bin .geq (.t 23) (al 0))]
def Zu:=[m 25 0,m 4 25,o 5 (.mv bp)]
def Zv:=[f 26 5 6 3,l 27 26,o 28 (.bin .neq (.t 27) (al 0))]
def Zw:=[m 29 0,f 30 5 6 3,l 31 30,o 32 (.call 93 [.t 29,.t 31]),m 7 32]
def Zx:=[m 33 7,o 34 (.bin .lss (.t 33) (al 0)),m 35 34,eC 36 0 35,eC 37 7 35,on 38 (.is 9 (.t 36) (.t 37)) 35,fn 39 1 1 38 35,eU 40 39 35,fn 41 6 7 3 35,eU 42 41 35,on 43 (.bin .neq (.t 40) (.t 42)) 35,or 44 35 43,m 45 44,eC 46 0 45,eC 47 7 45,on 48 (.is 9 (.t 46) (.t 47)) 45,fn 49 6 6 48 45,eU 50 49 45,on 51 (.bin .geq (.t 50) (al 0)) 45,eC 52 51 45,cz 53 0 52,cz 54 7 52,bF 55 (.is 9 (.t 53) (.t 54)) 52,cT 56 6 6 55 52,du 57 56 52,cT 58 2 3 3 52,du 59 58 52,bF 60 (.bin .lss (.t 57) (.t 59)) 52,on 61 (.pick (.t 52) (.t 60) bp) 45,or 62 45 61]
def Wl:=some [[],[0],[1],[2],[2],[3,4,2],[5,2],[6,2],[2],[8,2],[7,9,2],[2,10],[11,2],[12],[12],[13,14,12],[15,12],[16,12],[17,12],[18,12,12],[19],[19],[20,21,19],[22,19],[23,19],[19],[25,19],[24,26,19],[19,27,12],[12,28]]
def Zy:=[m 63 0,m 4 63,o 5 (.mv bp)]
def Zz:=[m 64 0,f 65 4 5 3,l 66 65,f 67 6 7 3,l 68 67,f 69 5 6 3,l 70 69,f 71 7 8 3,l 72 71,f 73 7 8 3,l 74 73,f 75 2 3 3,l 76 75,o 77 (.bld [.int .i64 0,.int .i64 0,.int .i64 0,.int .i64 0,.int .i64 0,.int .i64 0,.int .i64 0,.bool false,.nils 6] [(0,(.t 66)),(1,(.t 68)),(2,(.t 70)),(3,(.t 72)),(4,(.t 74)),(5,(.t 76)),(6,(.c (.int .i64 (-1))))]),o 78 (.call 170 [.t 64,.t 77]),m 8 78]
def Y8:=[m 79 8,m 4 79,o 5 (.mv T)]
def Y9:=[m 80 6,o 81 (.bin .lss (.t 80) (al 0))]
def Za:=[m 82 0,m 4 82,o 5 (.mv bp)]
def Zb:=[m 83 0,m 84 6,o 85 (.is 9 (.t 83) (.t 84)),L 86 9 85,o 9 (.alloc (.agg [.int .i64 0,.int .i64 0,.int .i64 0,.int .i64 0,.int .i64 0,.int .i64 0,.int .i64 0,.bool false,.nils 6])),p (.br (some 9) (.t 9) (.t 86))]
def Zc:=[f 87 1 2 3,l 88 87]
def Zd:=[o 90 (.bin .eql (.t 88) (al 3)),m 89 90]
def Ze:=[f 91 6 6 9,l 92 91,o 93 (.bin .geq (.t 92) (al 0)),m 94 93,fn 95 3 3 9 94,eU 96 95 94,on 97 (.bin .eql (.t 96) (al 0)) 94,or 98 94 97,m 99 98,fn 100 3 3 9 99,eU 101 100 99,fn 102 7 8 3 99,eU 103 102 99,on 104 (.bin .eql (.t 101) (.t 103)) 99,or 105 99 104]
def Zf:=[m 106 0,m 4 106,o 5 (.mv bp)]
def Zg:=[f 107 7 8 3,l 108 107,f 109 3 3 9,p (.br none (.t 109) (.t 108))]
def Zh:=[o 111 (.bin .eql (.t 88) (al 4)),m 110 111]
def wY:=[o 112 (.bs0 6),f 113 8 8 9,l 114 113,o 115 (.c7 66 6 48 (.agg [.int .i64 0,.int .i64 0,.int .i64 0,.int .i64 0,.int .i64 0,.int .i64 0]) (.t 112) (.t 114)),f 116 8 9 3,L 117 6 116,o 118 (.bs 66 6 [.t 117]),o 119 (.c7 66 6 48 (.agg [.int .i64 0,.int .i64 0,.int .i64 0,.int .i64 0,.int .i64 0,.int .i64 0]) (.t 115) (.t 118)),f 120 8 8 9,p (.br none (.t 120) (.t 119))]
def Wk:=some [[],[],[1],[0,2],[],[4],[5],[3,6,3],[0,1,2,3,4,5,6,7],[8,7,7,0,1,2,3,4,5,6,7]] -- DRAW BAD
def Zj:=[o 122 (.bin .eql (.t 88) (al 5)),m 121 122]
def Zk:=[f 123 7 8 3,l 124 123,f 125 3 3 9,p (.br none (.t 125) (.t 124))]
def Zl:=[f 126 7 7 9,p (.br none (.t 126) T)]
def Zm:=[o 128 (.bin .eql (.t 88) (al 6)),m 127 128]
def Zn:=[f 129 6 6 9,l 130 129,o 131 (.bin .geq (.t 130) (al 0))]
def Zo:=[m 132 0,m 4 132,o 5 (.mv bp)]
def Zp:=[f 133 2 3 3,l 134 133,f 135 6 6 9,p (.br none (.t 135) (.t 134))]
def Zq:=[o 136 (.bs0 9),m 137 0,o 138 (.c7 78 9 88 (.agg [.int .i64 0,.int .i64 0,.int .i64 0,.int .i64 0,.int .i64 0,.int .i64 0,.int .i64 0,.bool false,.nils 6]) (.t 136) (.t 137)),m 10 138]
def Zr:=[m 139 10,m 140 6,L 141 9 9,o 142 (.is 9 (.t 139) (.t 140)),p (.br (some 9) (.t 142) (.t 141))]
def Zt:=[m 143 10,m 4 143,o 5 (.mv T)]
def oA:aR:=(s (r Y6) (s (r Y7) (s (s (r Zi) (.cond (.t 22) (s (s (r Zs) (.cond (.t 24) (s (r Zu) .ret) .skip)) (s (s (r Zv) (.cond (.t 28) (s (r Zw) (s (.bW Wl Zx) (.cond (.t 62) (s (r Zy) .ret) .skip))) .skip)) (s (r Zz) (s (r Y8) .ret)))) .skip)) (s (s (r Y9) (.cond (.t 81) (s (r Za) .ret) .skip)) (s (r Zb) (s (s (r Zc) (.block 0 (s (r Zd) (.cond (.t 89) (s (s (r Ze) (.cond (.t 105) (s (r Zf) .ret) .skip)) (r Zg)) (s (r Zh) (.cond (.t 110) (.bW Wk wY) (s (r Zj) (.cond (.t 121) (s (r Zk) (r Zl)) (s (r Zm) (.cond (.t 127) (s (s (r Zn) (.cond (.t 131) (s (r Zo) .ret) .skip)) (r Zp)) .skip)))))))))) (s (r Zq) (s (r Zr) (s (r Zt) .ret)))))))))
def o6:List bg:=[.tmp 4,.tmp 5]
theorem pP:bI Tryz.prog Tryz.f132 oA:=e (by kernel_rfl)
theorem pT:bJ Tryz.prog Tryz.f132 o6:=e (by kernel_rfl)
theorem pN:bG Tryz.prog 132:=e (by kernel_rfl)
def ZA:=[o 2 (.alloc (.agg [.int .i64 0,.int .i64 0,.int .i64 0,.int .i64 0,.int .i64 0,.int .i64 0,.int .i64 0,.int .i64 0]))]
def ZB:=[aX 3 0]
def ZC:=[m 4 0,o 5 (.nilC (.t 4)),f 6 0 0 5,f 7 7 7 6,l 8 7]
def ZD:=[aX 3 1]
def ZE:=[m 9 0,o 10 (.nilC (.t 9)),f 11 0 0 10,f 12 0 0 11,l 13 12,m 14 0,o 15 (.nilC (.t 14)),f 16 0 0 15,f 17 1 1 16,l 18 17,m 19 0,o 20 (.nilC (.t 19)),f 21 0 0 20,f 22 2 2 21,l 23 22,m 24 0,o 25 (.nilC (.t 24)),f 26 0 0 25,f 27 3 3 26,l 28 27,m 29 0,o 30 (.nilC (.t 29)),f 31 0 0 30,f 32 4 4 31,l 33 32,m 34 0,o 35 (.nilC (.t 34)),f 36 0 0 35,f 37 5 5 36,l 38 37,m 39 0,o 40 (.nilC (.t 39)),f 41 0 0 40,f 42 6 6 41,l 43 42,m 44 3,o 45 (.bld [.int .i64 0,.int .i64 0,.int .i64 0,.int .i64 0,.int .i64 0,.int .i64 0,.int .i64 0,.int .i64 0] [(0,(.t 13)),(1,(.t 18)),(2,(.t 23)),(3,(.t 28)),(4,(.t 33)),(5,(.t 38)),(6,(.t 43)),(7,(.t 44))]),p (.br (some 8) (.t 2) (.t 45))]
def Wm:=some [[],[0],[1],[2],[3],[],[5],[6],[7],[8],[],[10],[11],[12],[13],[],[15],[16],[17],[18],[],[20],[21],[22],[23],[],[25],[26],[27],[28],[],[30],[31],[32],[33],[],[4,9,14,19,24,29,34,35],[36,0,1,2,3,4,5,6,7,8,9,10,11,12,13,14,15,16,17,18,19,20,21,22,23,24,25,26,27,28,29,30,31,32,33,34,35,36]]
def Bb:aR:=(s (r ZA) (s (r ZB) (s (s (r ZC) (.cond (.t 8) (r ZD) .skip)) (s (.bW Wm ZE) .ret))))
def KM:List bg:=[.cell 2 (some 8)]
theorem SC:bI Tryz.prog Tryz.f133 Bb:=e (by kernel_rfl)
theorem UL:bJ Tryz.prog Tryz.f133 KM:=e (by kernel_rfl)
theorem QK:bG Tryz.prog 133:=e (by kernel_rfl)
def ZF:=[o 4 (.mv bp)]
def ZG:=[m 6 0,o 7 (.len (.t 6)),m 8 1,o 9 (.len (.t 8)),o 10 (.bin .neq (.t 7) (.t 9))]
def ZH:=[o 4 (.mv bp)]
def ZI:=[m 11 0,o 12 (.len (.t 11)),aX 13 0]
def ZJ:=[lt 14 13 12]
def ZK:=[m 15 13,m 5 15]
def ZL:=[m 16 0,m 17 5,o 18 (.is 1 (.t 16) (.t 17)),l 19 18,m 20 1,m 21 5,o 22 (.is 1 (.t 20) (.t 21)),l 23 22,o 24 (.bin .neq (.t 19) (.t 23))]
def Wn:=some [[],[],[0,1],[2],[],[],[4,5],[6],[3,7]]
def ZM:=[o 4 (.mv bp)]
def ZN:=[ad 25 13 1,m 13 25]
def ZO:=[o 4 (.mv T)]
def Bc:aR:=(s (r ZF) (s (s (r ZG) (.cond (.t 10) (s (r ZH) .ret) .skip)) (s (s (r ZI) (.block 0 (.loop (s (r ZJ) (s (.cond (.t 14) .skip (.exit 0)) (s (.block 1 (s (r ZK) (s (.bW Wn ZL) (.cond (.t 24) (s (r ZM) .ret) .skip)))) (r ZN))))))) (s (r ZO) .ret))))
def KN:List bg:=[.tmp 4]
theorem SD:bI Tryz.prog Tryz.f134 Bc:=e (by kernel_rfl)
theorem UM:bJ Tryz.prog Tryz.f134 KN:=e (by kernel_rfl)
theorem QL:bG Tryz.prog 134:=e (by kernel_rfl)
def Fa:=[o 6 (.mv (.c (.nils 17)))]
def Fb:=[m 8 0,m 9 1,m 10 2,m 11 0,o 12 (.len (.t 11)),o 13 (.sl 17 (.t 8) (some (.t 9)) (some (.t 10)) (some (.t 12)))]
def Fc:=[m 14 1,m 15 2,o 16 (.bin .eql (.t 14) (.t 15))]
def ZP:=[m 17 0,m 6 17]
def Fe:=[m 18 0,o 19 (.len (.t 18)),m 7 19]
def wZ:=[m 20 0,m 21 1,o 22 (.sl 17 (.t 20) none (some (.t 21)) none),m 23 0,m 24 2,o 25 (.sl 17 (.t 23) (some (.t 24)) none none),o 26 (.c7 68 17 136 (.agg [.agg [.int .i64 0,.int .i64 0],.int .i64 0,.int .i64 0,.int .i64 0,.int .i64 0,.int .i64 0,.int .i64 0,.int .i64 0,.agg [.int .i64 0,.int .i64 0,.int .i64 0,.int .i64 0,.int .i64 0,.int .i64 0],.agg [.int .i64 0,.int .i64 0]]) (.t 22) (.t 25)),m 0 26]
def Wo:=some [[],[],[0,1],[],[],[3,4],[2,5],[6,6,0,1,2,3,4,5,6]]
def w0:=[m 27 0,m 28 0,o 29 (.len (.t 28)),m 30 7,o 31 (.sl 17 (.t 27) (some (.t 29)) (some (.t 30)) none),p (.jH 17 (.agg [.agg [.int .i64 0,.int .i64 0],.int .i64 0,.int .i64 0,.int .i64 0,.int .i64 0,.int .i64 0,.int .i64 0,.int .i64 0,.agg [.int .i64 0,.int .i64 0,.int .i64 0,.int .i64 0,.int .i64 0,.int .i64 0],.agg [.int .i64 0,.int .i64 0]]) (.t 31))]
def xa:=[m 32 0,m 6 32]
def Bd:aR:=(s (r Fa) (s (r Fb) (s (s (r Fc) (.cond (.t 16) (s (r ZP) .ret) .skip)) (s (r Fe) (s (.bW Wo wZ) (s (r w0) (s (r xa) .ret)))))))
def KO:List bg:=[.tmp 6]
theorem SE:bI Tryz.prog Tryz.f135 Bd:=e (by kernel_rfl)
theorem UN:bJ Tryz.prog Tryz.f135 KO:=e (by kernel_rfl)
theorem QM:bG Tryz.prog 135:=e (by kernel_rfl)
def Ff:=[o 2 (.mv (.c (.nils 17)))]
def xb:=[m 3 0,o 4 (.nilS false (.t 3))]
def Fg:=[o 2 (.mv (.c (.nils 17)))]
def xc:=[o 5 (.bs0 17),m 6 0,o 7 (.c7 68 17 136 (.agg [.agg [.int .i64 0,.int .i64 0],.int .i64 0,.int .i64 0,.int .i64 0,.int .i64 0,.int .i64 0,.int .i64 0,.int .i64 0,.agg [.int .i64 0,.int .i64 0,.int .i64 0,.int .i64 0,.int .i64 0,.int .i64 0],.agg [.int .i64 0,.int .i64 0]]) (.t 5) (.t 6)),m 2 7]
def Be:aR:=(s (r Ff) (s (s (r xb) (.cond (.t 4) (s (r Fg) .ret) .skip)) (s (r xc) .ret)))
def KP:List bg:=[.tmp 2]
theorem SF:bI Tryz.prog Tryz.f136 Be:=e (by kernel_rfl)
theorem UO:bJ Tryz.prog Tryz.f136 KP:=e (by kernel_rfl)
theorem QN:bG Tryz.prog 136:=e (by kernel_rfl)
def Fh:=[m 4 0,m 5 0,o 6 (.len (.t 5)),m 7 1,o 8 (.call 171 [.t 4,.t 6,.t 7])]
def vI:aR:=(r Fh)
def yT:List bg:=[]
theorem CP:bI Tryz.prog Tryz.f137 vI:=e (by kernel_rfl)
theorem C3:bJ Tryz.prog Tryz.f137 yT:=e (by kernel_rfl)
theorem CG:bG Tryz.prog 137:=e (by kernel_rfl)
def ZQ:=[aX 5 0]
def ZR:=[l 6 2,m 7 0,o 8 (.is 17 (.t 6) (.t 7)),f 9 2 3 8,l 10 9,l 11 2,m 12 1,o 13 (.is 17 (.t 11) (.t 12)),f 14 2 3 13,l 15 14,o 16 (.bin .sub (.t 10) (.t 15)),m 5 16]
def Wp:=some [[],[],[0,1],[2],[3],[],[],[5,6],[7],[8],[4,9],[10,0,1,2,3,4,5,6,7,8,9,10]]
def Bf:aR:=(s (r ZQ) (s (.bW Wp ZR) .ret))
def KQ:List bg:=[.tmp 5]
theorem SG:bI Tryz.prog Tryz.f138 Bf:=e (by kernel_rfl)
theorem UP:bJ Tryz.prog Tryz.f138 KQ:=e (by kernel_rfl)
theorem QO:bG Tryz.prog 138:=e (by kernel_rfl)
def Fi:=[o 0 (.mv (.c (.raw (.map none))))]
def Fj:=[o 1 (.jM),p (.gB (.i .i64) (.t 1) (al 1) (.c (.func 172 []))),p (.gB (.i .i64) (.t 1) (al 2) (.c (.func 173 []))),p (.gB (.i .i64) (.t 1) (al 3) (.c (.func 174 []))),p (.gB (.i .i64) (.t 1) (al 4) (.c (.func 175 []))),p (.gB (.i .i64) (.t 1) (al 5) (.c (.func 176 []))),p (.gB (.i .i64) (.t 1) (al 6) (.c (.func 177 []))),m 2 1,m 0 2]
def Bg:aR:=(s (r Fi) (s (r Fj) .ret))
def KR:List bg:=[.tmp 0]
theorem SH:bI Tryz.prog Tryz.f139 Bg:=e (by kernel_rfl)
theorem UQ:bJ Tryz.prog Tryz.f139 KR:=e (by kernel_rfl)
theorem QP:bG Tryz.prog 139:=e (by kernel_rfl)
def ZS:=[o 4 (.mv (.c (.nils 1)))]
def ZT:=[o 5 (.mv (.c (.nils 1)))]
def ZZ:=[o 6 (.mv bp)]
def Z0:=[aX 7 0]
def Z1:=[m 8 7,m 9 0,o 10 (.len (.t 9)),lt 11 8 10]
def Z2:=[m 14 0,m 15 7,o 16 (.is 1 (.t 14) (.t 15)),l 17 16,m 18 1,o 19 (.bin .eql (.t 17) (.t 18))]
def Z3:=[m 20 0,m 4 20]
def Z4:=[m 21 6,no 22 21,m 23 22,cz 24 0 23,cz 25 7 23,bF 26 (.is 1 (.t 24) (.t 25)) 23,du 27 26 23,cz 28 1 23,bF 29 (.bin .gtr (.t 27) (.t 28)) 23,and 30 23 29]
def Z5:=[m 31 5,m 32 1,o 33 (.bs 3 1 [.t 32]),o 34 (.c7 3 1 8 (.int .i64 0) (.t 31) (.t 33)),m 5 34]
def Z6:=[o 6 (.mv T)]
def ZU:=[m 35 5,m 36 0,m 37 7,o 38 (.is 1 (.t 36) (.t 37)),l 39 38,o 40 (.bs 3 1 [.t 39]),o 41 (.c7 3 1 8 (.int .i64 0) (.t 35) (.t 40)),m 5 41]
def ZV:=[m 12 7,ad 13 12 1,m 7 13]
def ZW:=[m 42 6,no 43 42]
def ZX:=[m 44 5,m 45 1,o 46 (.bs 3 1 [.t 45]),o 47 (.c7 3 1 8 (.int .i64 0) (.t 44) (.t 46)),m 5 47]
def ZY:=[m 48 5,m 4 48]
def Bi:aR:=(s (r ZS) (s (r ZT) (s (r ZZ) (s (s (r Z0) (.block 0 (.loop (s (s (r Z1) (.cond (.t 11) .skip (.exit 0))) (s (.block 1 (s (s (r Z2) (.cond (.t 19) (s (r Z3) .ret) .skip)) (s (s (r Z4) (.cond (.t 30) (s (r Z5) (r Z6)) .skip)) (r ZU)))) (r ZV)))))) (s (s (r ZW) (.cond (.t 43) (r ZX) .skip)) (s (r ZY) .ret))))))
def KT:List bg:=[.tmp 4]
theorem SJ:bI Tryz.prog Tryz.f140 Bi:=e (by kernel_rfl)
theorem US:bJ Tryz.prog Tryz.f140 KT:=e (by kernel_rfl)
theorem QS:bG Tryz.prog 140:=e (by kernel_rfl)
def Fk:=[o 2 (.mv (.c (.nils 1)))]
def Fl:=[o 3 (.mv (.c (.nils 1)))]
def Fm:=[aX 4 0]
def Fo:=[m 5 4,o 6 (.bin .lss (.t 5) (al 5))]
def Fp:=[m 9 0,m 10 4,o 11 (.bin .shl (al 1) (.t 10)),o 12 (.bin .and (.t 9) (.t 11)),o 13 (.bin .neq (.t 12) (al 0))]
def Fq:=[m 14 3,m 15 4,o 16 (.bs 3 1 [.t 15]),o 17 (.c7 3 1 8 (.int .i64 0) (.t 14) (.t 16)),m 3 17]
def xd:=[m 7 4,ad 8 7 1,m 4 8]
def Fs:=[m 18 3,m 2 18]
def Bj:aR:=(s (r Fk) (s (r Fl) (s (s (r Fm) (.block 0 (.loop (s (s (r Fo) (.cond (.t 6) .skip (.exit 0))) (s (.block 1 (s (r Fp) (.cond (.t 13) (r Fq) .skip))) (r xd)))))) (s (r Fs) .ret))))
def KU:List bg:=[.tmp 2]
theorem SK:bI Tryz.prog Tryz.f141 Bj:=e (by kernel_rfl)
theorem UT:bJ Tryz.prog Tryz.f141 KU:=e (by kernel_rfl)
theorem QT:bG Tryz.prog 141:=e (by kernel_rfl)
def Z7:=[b 1 0,o 2 (.mv (.c (.dh)))]
def Z8:=[o 3 (.mk 178 [.t 1]),m 2 3]
def Bk:aR:=(s (r Z7) (s (r Z8) .ret))
def KV:List bg:=[.tmp 2]
theorem SL:bI Tryz.prog Tryz.f145 Bk:=e (by kernel_rfl)
theorem UU:bJ Tryz.prog Tryz.f145 KV:=e (by kernel_rfl)
theorem QU:bG Tryz.prog 145:=e (by kernel_rfl)
def Ft:=[l 5 1,o 6 (.len (.t 5)),aX 7 0]
def Fu:=[lt 8 7 6]
def Fv:=[m 9 7,m 4 9]
def xe:=[l 10 2,m 11 4,o 12 (.is 1 (.t 10) (.t 11)),l 13 12,m 14 13,cz 15 0 14,cz 16 4 14,bF 17 (.eF (.t 15) [.t 16]) 14,bF 18 (.un .not (.t 17)) 14,and 19 14 18]
def xf:=[ad 20 7 1,m 7 20]
def Bl:aR:=(s (r Ft) (.block 0 (.loop (s (r Fu) (s (.cond (.t 8) .skip (.exit 0)) (s (.block 1 (s (r Fv) (s (r xe) (.cond (.t 19) .ret .skip)))) (r xf)))))))
def KW:List bg:=[]
theorem SM:bI Tryz.prog Tryz.f146 Bl:=e (by kernel_rfl)
theorem UW:bJ Tryz.prog Tryz.f146 KW:=e (by kernel_rfl)
theorem CH:bG Tryz.prog 146:=e (by kernel_rfl)
def Fw:=[o 2 (.mv bp)]
def Fx:=[m 3 0,o 4 (.call 114 [.t 3,(al 1),(al 9999)]),m 2 4]
def Bm:aR:=(s (r Fw) (s (r Fx) .ret))
def KX:List bg:=[.tmp 2]
theorem SN:bI Tryz.prog Tryz.f154 Bm:=e (by kernel_rfl)
theorem UX:bJ Tryz.prog Tryz.f154 KX:=e (by kernel_rfl)
theorem QV:bG Tryz.prog 154:=e (by kernel_rfl)
def Fy:=[o 2 (.mv bp)]
def Fz:=[m 3 0,o 4 (.call 114 [.t 3,(al 1),(al 9)]),m 2 4]
def Bn:aR:=(s (r Fy) (s (r Fz) .ret))
def KY:List bg:=[.tmp 2]
theorem SO:bI Tryz.prog Tryz.f155 Bn:=e (by kernel_rfl)
theorem UY:bJ Tryz.prog Tryz.f155 KY:=e (by kernel_rfl)
theorem QW:bG Tryz.prog 155:=e (by kernel_rfl)
def FA:=[o 2 (.mv bp)]
def FB:=[m 3 0,o 4 (.call 114 [.t 3,(al 1),(al 99)]),m 2 4]
def Bo:aR:=(s (r FA) (s (r FB) .ret))
def KZ:List bg:=[.tmp 2]
theorem SP:bI Tryz.prog Tryz.f156 Bo:=e (by kernel_rfl)
theorem UZ:bJ Tryz.prog Tryz.f156 KZ:=e (by kernel_rfl)
theorem QX:bG Tryz.prog 156:=e (by kernel_rfl)
def FC:=[b 1 0,aX 2 0]
def FD:=[L 3 6 1,o 4 (.call 193 [.t 3]),no 5 4]
def FE:=[aX 2 12]
def FF:=[aX 2 0]
def Bp:aR:=(s (r FC) (s (s (r FD) (.cond (.t 5) (s (r FE) .ret) .skip)) (s (r FF) .ret)))
def K0:List bg:=[.tmp 2]
theorem SQ:bI Tryz.prog Tryz.f157 Bp:=e (by kernel_rfl)
theorem U0:bJ Tryz.prog Tryz.f157 K0:=e (by kernel_rfl)
theorem QY:bG Tryz.prog 157:=e (by kernel_rfl)
def FG:=[aX 2 0]
def FH:=[aX 3 0]
def FI:=[m 6 0,o 7 (.len (.t 6)),aX 8 0]
def FJ:=[lt 9 8 7]
def FK:=[o 10 (.is 1 (.t 6) (.t 8)),l 11 10,m 5 11]
def FL:=[m 12 5,m 13 3,o 14 (.bin .neq (.t 12) (.t 13))]
def FM:=[m 15 5,m 2 15]
def FN:=[ad 16 8 1,m 8 16]
def FO:=[m 17 3,m 2 17]
def Bq:aR:=(s (r FG) (s (r FH) (s (s (r FI) (.block 0 (.loop (s (r FJ) (s (.cond (.t 9) .skip (.exit 0)) (s (.block 1 (s (r FK) (s (r FL) (.cond (.t 14) (s (r FM) .ret) .skip)))) (r FN))))))) (s (r FO) .ret))))
def K1:List bg:=[.tmp 2]
theorem SR:bI Tryz.prog Tryz.f158 Bq:=e (by kernel_rfl)
theorem U1:bJ Tryz.prog Tryz.f158 K1:=e (by kernel_rfl)
theorem QZ:bG Tryz.prog 158:=e (by kernel_rfl)
def FP:=[aX 4 0]
def FQ:=[m 7 0,o 8 (.call 194 [.t 7]),m 5 8]
def FW:=[m 9 1,o 10 (.call 194 [.t 9]),m 6 10]
def FX:=[m 11 5]
def aak:=[m 12 6]
def aal:=[aX 4 0]
def aam:=[aX 4 (-1)]
def FY:=[m 13 6]
def aan:=[aX 4 1]
def FZ:=[m 14 0,m 15 1,lt 16 14 15]
def FR:=[aX 4 (-1)]
def FT:=[m 17 0,m 18 1,o 19 (.bin .gtr (.t 17) (.t 18))]
def FU:=[aX 4 1]
def FV:=[aX 4 0]
def Br:aR:=(s (r FP) (s (r FQ) (s (r FW) (s (s (r FX) (.cond (.t 11) (s (s (r aak) (.cond (.t 12) (s (r aal) .ret) .skip)) (s (r aam) .ret)) .skip)) (s (s (r FY) (.cond (.t 13) (s (r aan) .ret) .skip)) (s (s (r FZ) (.cond (.t 16) (s (r FR) .ret) .skip)) (s (s (r FT) (.cond (.t 19) (s (r FU) .ret) .skip)) (s (r FV) .ret))))))))
def K2:List bg:=[.tmp 4]
theorem SS:bI Tryz.prog Tryz.f159 Br:=e (by kernel_rfl)
theorem U2:bJ Tryz.prog Tryz.f159 K2:=e (by kernel_rfl)
theorem Q0:bG Tryz.prog 159:=e (by kernel_rfl)
def F0:=[o 2 (.mv bp)]
def F1:=[m 3 0,o 4 (.call 121 [.t 3,(al 0),(al 31)]),m 2 4]
def Bu:aR:=(s (r F0) (s (r F1) .ret))
def K4:List bg:=[.tmp 2]
theorem SV:bI Tryz.prog Tryz.f160 Bu:=e (by kernel_rfl)
theorem U4:bJ Tryz.prog Tryz.f160 K4:=e (by kernel_rfl)
theorem Q2:bG Tryz.prog 160:=e (by kernel_rfl)
def F2:=[o 4 (.mv bp)]
def F3:=[m 5 0,m 6 1,o 7 (.bin .shr (.t 5) (.t 6)),o 8 (.bin .and (.t 7) (al 1)),o 9 (.bin .eql (.t 8) (al 1)),m 4 9]
def Bv:aR:=(s (r F2) (s (r F3) .ret))
def K5:List bg:=[.tmp 4]
theorem SW:bI Tryz.prog Tryz.f161 Bv:=e (by kernel_rfl)
theorem U5:bJ Tryz.prog Tryz.f161 K5:=e (by kernel_rfl)
theorem Q3:bG Tryz.prog 161:=e (by kernel_rfl)
def F4:=[o 2 (.mv bp)]
def F5:=[m 3 0,o 4 (.call 121 [.t 3,(al 0),(al 4)]),no 5 4,m 2 5]
def Bw:aR:=(s (r F4) (s (r F5) .ret))
def K6:List bg:=[.tmp 2]
theorem SX:bI Tryz.prog Tryz.f162 Bw:=e (by kernel_rfl)
theorem U6:bJ Tryz.prog Tryz.f162 K6:=e (by kernel_rfl)
theorem Q4:bG Tryz.prog 162:=e (by kernel_rfl)
def F6:=[o 4 (.mv bp)]
def F7:=[m 5 0,m 6 1,o 7 (.call 195 [.t 5,.t 6]),o 8 (.bin .geq (.t 7) (al 0)),m 4 8]
def Bx:aR:=(s (r F6) (s (r F7) .ret))
def K7:List bg:=[.tmp 4]
theorem SY:bI Tryz.prog Tryz.f163 Bx:=e (by kernel_rfl)
theorem U7:bJ Tryz.prog Tryz.f163 K7:=e (by kernel_rfl)
theorem Q5:bG Tryz.prog 163:=e (by kernel_rfl)
def F8:=[b 3 0,o 4 (.mv bp)]
def F9:=[f 5 0 0 1,L 6 5 5,f 7 1 1 3,L 8 6 7,L 9 6 2,o 10 (.call 165 [.t 6,.t 8,.t 9]),f 11 1 5 1,l 12 11,o 13 (.bin .mul (al 2) (.t 12)),o 14 (.bin .leq (.t 10) (.t 13)),m 4 14]
def Wq:=some [[],[0],[],[2],[],[1,3,4],[],[6],[7],[5,8],[9,5,0,1,2,3,4,5,6,7,8,9]]
def By:aR:=(s (r F8) (s (.bW Wq F9) .ret))
def K8:List bg:=[.tmp 4]
theorem SZ:bI Tryz.prog Tryz.f164 By:=e (by kernel_rfl)
theorem U8:bJ Tryz.prog Tryz.f164 K8:=e (by kernel_rfl)
theorem Q6:bG Tryz.prog 164:=e (by kernel_rfl)
def Ga:=[b 3 0,b 4 1,b 5 2,aX 6 0]
def Gb:=[o 7 (.alloc (.dh)),p (.br none (.t 7) (.c (.func 196 [])))]
def Gc:=[o 8 (.mk 198 [.t 7,.t 3,.t 4,.t 5]),o 9 (.call 197 [.t 8]),m 6 9]
def Bz:aR:=(s (r Ga) (s (r Gb) (s (r Gc) .ret)))
def K9:List bg:=[.tmp 6]
theorem S0:bI Tryz.prog Tryz.f165 Bz:=e (by kernel_rfl)
theorem U9:bJ Tryz.prog Tryz.f165 K9:=e (by kernel_rfl)
theorem Q7:bG Tryz.prog 165:=e (by kernel_rfl)
def Gd:=[aX 4 0]
def Ge:=[m 6 0,o 7 (.len (.t 6)),aX 8 0]
def Gf:=[lt 9 8 7]
def Gg:=[m 10 8,m 5 10]
def Gh:=[m 11 1,m 12 0,m 13 5,o 14 (.is 1 (.t 12) (.t 13)),l 15 14,o 16 (.eF (.t 11) [.t 15])]
def Gi:=[m 17 5,m 4 17]
def Gj:=[ad 18 8 1,m 8 18]
def Gk:=[aX 4 (-1)]
def BA:aR:=(s (r Gd) (s (s (r Ge) (.block 0 (.loop (s (r Gf) (s (.cond (.t 9) .skip (.exit 0)) (s (.block 1 (s (r Gg) (s (r Gh) (.cond (.t 16) (s (r Gi) .ret) .skip)))) (r Gj))))))) (s (r Gk) .ret)))
def La:List bg:=[.tmp 4]
theorem S1:bI Tryz.prog Tryz.f166 BA:=e (by kernel_rfl)
theorem Va:bJ Tryz.prog Tryz.f166 La:=e (by kernel_rfl)
theorem Q8:bG Tryz.prog 166:=e (by kernel_rfl)
def Gl:=[o 2 (.mv (.c (.nils 7)))]
def xg:=[m 3 0,o 4 (.nilS false (.t 3))]
def Gm:=[o 2 (.mv (.c (.nils 7)))]
def xh:=[o 5 (.bs0 7),m 6 0,o 7 (.c7 63 7 56 (.agg [.int .i64 0,.agg [.int .i64 0,.int .i64 0,.int .i64 0,.int .i64 0,.int .i64 0,.int .i64 0]]) (.t 5) (.t 6)),m 2 7]
def BB:aR:=(s (r Gl) (s (s (r xg) (.cond (.t 4) (s (r Gm) .ret) .skip)) (s (r xh) .ret)))
def Lb:List bg:=[.tmp 2]
theorem S2:bI Tryz.prog Tryz.f167 BB:=e (by kernel_rfl)
theorem Vb:bJ Tryz.prog Tryz.f167 Lb:=e (by kernel_rfl)
theorem Q9:bG Tryz.prog 167:=e (by kernel_rfl)
def Gn:=[b 2 0,b 3 1,o 4 (.mv (.c (.nils 7)))]
def Gp:=[f 5 2 6 2,l 6 5,o 7 (.call 167 [.t 6]),o 8 (.mk 201 [.t 2,.t 3]),o 9 (.call 200 [.t 7,.t 8]),m 4 9]
def BC:aR:=(s (r Gn) (s (r Gp) .ret))
def Lc:List bg:=[.tmp 4]
theorem S3:bI Tryz.prog Tryz.f168 BC:=e (by kernel_rfl)
theorem Vc:bJ Tryz.prog Tryz.f168 Lc:=e (by kernel_rfl)
theorem Ra:bG Tryz.prog 168:=e (by kernel_rfl)
def Gq:=[o 2 (.mv (.c (.nils 1)))]
def Gr:=[o 3 (.mv (.c (.nils 1)))]
def Gs:=[m 6 0,o 7 (.len (.t 6)),aX 8 0]
def Gt:=[lt 9 8 7]
def Gu:=[o 10 (.is 7 (.t 6) (.t 8)),L 11 7 10,o 5 (.alloc (.agg [.int .i64 0,.agg [.int .i64 0,.int .i64 0,.int .i64 0,.int .i64 0,.int .i64 0,.int .i64 0]])),p (.br (some 7) (.t 5) (.t 11))]
def Gv:=[m 12 3,f 13 0 0 5,l 14 13,o 15 (.bs 3 1 [.t 14]),o 16 (.c7 3 1 8 (.int .i64 0) (.t 12) (.t 15)),m 3 16]
def Gw:=[ad 17 8 1,m 8 17]
def Gx:=[m 18 3,m 2 18]
def BD:aR:=(s (r Gq) (s (r Gr) (s (s (r Gs) (.block 0 (.loop (s (r Gt) (s (.cond (.t 9) .skip (.exit 0)) (s (.block 1 (s (r Gu) (r Gv))) (r Gw))))))) (s (r Gx) .ret))))
def Ld:List bg:=[.tmp 2]
theorem S4:bI Tryz.prog Tryz.f169 BD:=e (by kernel_rfl)
theorem Vd:bJ Tryz.prog Tryz.f169 Ld:=e (by kernel_rfl)
theorem Rb:bG Tryz.prog 169:=e (by kernel_rfl)
def aaw:=[b 3 1,o 4 (.mv (.c (.nils 9)))]
def aax:=[o 5 (.mv (.c (.nils 9)))]
def aaB:=[o 6 (.mv bp)]
def aaC:=[aX 7 0]
def aaD:=[m 8 7,m 9 0,o 10 (.len (.t 9)),lt 11 8 10]
def aaE:=[m 14 6,no 15 14,m 16 15,cz 17 0 16,cz 18 7 16,bF 19 (.is 9 (.t 17) (.t 18)) 16,cT 20 0 0 19 16,du 21 20 16,cT 22 0 0 3 16,du 23 22 16,bF 24 (.bin .gtr (.t 21) (.t 23)) 16,and 25 16 24]
def Wr:=some [[],[0],[1],[2],[2],[3,4,2],[5,2],[6,2],[2],[8,2],[7,9,2],[2,10]]
def aaF:=[m 26 5,L 27 9 3,o 28 (.bs 78 9 [.t 27]),o 29 (.c7 78 9 88 (.agg [.int .i64 0,.int .i64 0,.int .i64 0,.int .i64 0,.int .i64 0,.int .i64 0,.int .i64 0,.bool false,.nils 6]) (.t 26) (.t 28)),m 5 29]
def aaG:=[o 6 (.mv T)]
def aaH:=[m 30 5,m 31 0,m 32 7,o 33 (.is 9 (.t 31) (.t 32)),L 34 9 33,o 35 (.bs 78 9 [.t 34]),o 36 (.c7 78 9 88 (.agg [.int .i64 0,.int .i64 0,.int .i64 0,.int .i64 0,.int .i64 0,.int .i64 0,.int .i64 0,.bool false,.nils 6]) (.t 30) (.t 35)),m 5 36]
def aaI:=[m 12 7,ad 13 12 1,m 7 13]
def aay:=[m 37 6,no 38 37]
def aaz:=[m 39 5,L 40 9 3,o 41 (.bs 78 9 [.t 40]),o 42 (.c7 78 9 88 (.agg [.int .i64 0,.int .i64 0,.int .i64 0,.int .i64 0,.int .i64 0,.int .i64 0,.int .i64 0,.bool false,.nils 6]) (.t 39) (.t 41)),m 5 42]
def aaA:=[m 43 5,m 4 43]
def BE:aR:=(s (r aaw) (s (r aax) (s (r aaB) (s (s (r aaC) (.block 0 (.loop (s (s (r aaD) (.cond (.t 11) .skip (.exit 0))) (s (.block 1 (s (s (.bW Wr aaE) (.cond (.t 25) (s (r aaF) (r aaG)) .skip)) (r aaH))) (r aaI)))))) (s (s (r aay) (.cond (.t 38) (r aaz) .skip)) (s (r aaA) .ret))))))
def Le:List bg:=[.tmp 4]
theorem S5:bI Tryz.prog Tryz.f170 BE:=e (by kernel_rfl)
theorem Ve:bJ Tryz.prog Tryz.f170 Le:=e (by kernel_rfl)
theorem Rc:bG Tryz.prog 170:=e (by kernel_rfl)
def xi:=[aX 6 20]
def xj:=[m 10 6,aX 7 0,m 8 10]
def Gy:=[m 11 8,m 12 1,o 13 (.bin .leq (.t 11) (.t 12))]
def aaQ:=[m 14 0,m 15 7,m 16 8,m 17 2,o 18 (.call 203 [.t 14,.t 15,.t 16,.t 17])]
def aaR:=[m 19 8,m 7 19]
def aaS:=[m 20 8,m 21 6,o 22 (.bin .add (.t 20) (.t 21)),m 8 22]
def Gz:=[m 23 0,m 24 7,m 25 1,m 26 2,o 27 (.call 203 [.t 23,.t 24,.t 25,.t 26])]
def xk:=[m 28 6,m 29 1,lt 30 28 29]
def GA:=[m 31 6,o 32 (.bin .mul (al 2) (.t 31)),aX 7 0,m 8 32]
def GB:=[m 33 8,m 34 1,o 35 (.bin .leq (.t 33) (.t 34))]
def aaJ:=[m 36 0,m 37 7,m 38 7,m 39 6,o 40 (.bin .add (.t 38) (.t 39)),m 41 8,m 42 2,o 43 (.call 204 [.t 36,.t 37,.t 40,.t 41,.t 42])]
def aaK:=[m 44 8,m 7 44]
def aaL:=[m 45 8,m 46 6,o 47 (.bin .mul (al 2) (.t 46)),o 48 (.bin .add (.t 45) (.t 47)),m 8 48]
def aaM:=[m 49 7,m 50 6,o 51 (.bin .add (.t 49) (.t 50)),m 9 51]
def aaN:=[m 52 9,m 53 1,lt 54 52 53]
def aaO:=[m 55 0,m 56 7,m 57 9,m 58 1,m 59 2,o 60 (.call 204 [.t 55,.t 56,.t 57,.t 58,.t 59])]
def aaP:=[m 61 6,o 62 (.bin .mul (.t 61) (al 2)),m 6 62]
def vJ:aR:=(s (r xi) (s (r xj) (s (.block 0 (.loop (s (s (r Gy) (.cond (.t 13) .skip (.exit 0))) (.block 1 (s (r aaQ) (s (r aaR) (r aaS))))))) (s (r Gz) (.block 2 (.loop (s (s (r xk) (.cond (.t 30) .skip (.exit 2))) (.block 3 (s (r GA) (s (.block 4 (.loop (s (s (r GB) (.cond (.t 35) .skip (.exit 4))) (.block 5 (s (r aaJ) (s (r aaK) (r aaL))))))) (s (s (r aaM) (s (r aaN) (.cond (.t 54) (r aaO) .skip))) (r aaP))))))))))))
def yU:List bg:=[]
theorem CQ:bI Tryz.prog Tryz.f171 vJ:=e (by kernel_rfl)
theorem C4:bJ Tryz.prog Tryz.f171 yU:=e (by kernel_rfl)
theorem CI:bG Tryz.prog 171:=e (by kernel_rfl)
def aaT:=[b 3 1,o 4 (.mv bp)]
def aaU:=[f 6 5 6 3,l 7 6,o 8 (.bin .gtr (.t 7) (al 0))]
def aaV:=[m 9 0,o 10 (.nilC (.t 9)),f 11 0 0 10,l 12 11,f 13 5 6 3,l 14 13,o 15 (.lk (.i .i64) (.nilp) false (.t 12) (.t 14)),m 5 15]
def Ws:=some [[],[0],[1],[2],[],[4],[3,5],[6,0,1,2,3,4,5,6]]
def aaW:=[m 16 5,o 17 (.ptrE false (.t 16) (.c (.nilp))),m 18 17,eC 19 5 18,on 20 (.nilC (.t 19)) 18,fn 21 0 0 20 18,fn 22 1 1 21 18,eU 23 22 18,fn 24 6 7 3 18,eU 25 24 18,on 26 (.bin .neq (.t 23) (.t 25)) 18,or 27 18 26,m 28 27,eC 29 5 28,on 30 (.call 90 [.t 29]) 28,eC 31 30 28,cz 32 5 31,bF 33 (.nilC (.t 32)) 31,cT 34 0 0 33 31,cT 35 6 6 34 31,du 36 35 31,cT 37 2 3 3 31,du 38 37 31,bF 39 (.bin .lss (.t 36) (.t 38)) 31,on 40 (.pick (.t 31) (.t 39) bp) 28,or 41 28 40]
def Wt:=some [[],[0],[1],[2],[3,2],[4,2],[5,2],[6,2],[2],[8,2],[7,9,2],[2,10],[11,2],[12],[13,12,12],[14,14,12],[15],[16,15],[17,15],[18,15],[19,15],[15],[21,15],[20,22,15],[15,23,12],[12,24]]
def aaX:=[o 4 (.mv bp)]
def aaY:=[m 42 0,L 43 17 3,o 44 (.call 173 [.t 42,.t 43]),m 4 44]
def BF:aR:=(s (r aaT) (s (s (r aaU) (.cond (.t 8) (s (.bW Ws aaV) (s (.bW Wt aaW) (.cond (.t 41) (s (r aaX) .ret) .skip))) .skip)) (s (r aaY) .ret)))
def Lf:List bg:=[.tmp 4]
theorem S6:bI Tryz.prog Tryz.f172 BF:=e (by kernel_rfl)
theorem Vf:bJ Tryz.prog Tryz.f172 Lf:=e (by kernel_rfl)
theorem Re:bG Tryz.prog 172:=e (by kernel_rfl)
def aaZ:=[b 3 1,o 4 (.mv bp)]
def aa0:=[m 5 0,o 6 (.nilC (.t 5)),f 7 0 0 6,l 8 7,f 9 4 5 3,l 10 9,o 11 (.lk (.i .i64) (.nilp) false (.t 8) (.t 10)),o 12 (.ptrE true (.t 11) (.c (.nilp)))]
def Wu:=some [[],[0],[1],[2],[],[4],[3,5],[6]]
def aa1:=[o 4 (.mv bp)]
def aa2:=[m 13 0,o 14 (.nilC (.t 13)),f 15 0 0 14,l 16 15,f 17 4 5 3,l 18 17,f 19 4 5 3,l 20 19,f 21 6 7 3,l 22 21,f 23 5 6 3,l 24 23,f 25 7 8 3,l 26 25,f 27 7 8 3,l 28 27,f 29 2 3 3,l 30 29,o 31 (.bld [.int .i64 0,.int .i64 0,.int .i64 0,.int .i64 0,.int .i64 0,.int .i64 0,.int .i64 0,.bool false,.nils 6] [(0,(.t 20)),(1,(.t 22)),(2,(.t 24)),(3,(.t 26)),(4,(.t 28)),(5,(.t 30)),(6,(.c (.int .i64 (-1))))]),o 32 (.bld [.agg [.int .i64 0,.int .i64 0,.int .i64 0,.int .i64 0,.int .i64 0,.int .i64 0,.int .i64 0,.bool false,.nils 6]] [(0,(.t 31))]),b 33 32,p (.gB (.i .i64) (.t 16) (.t 18) (.t 33))]
def Wv:=some [[],[0],[1],[2],[],[4],[],[6],[],[8],[],[10],[],[12],[],[14],[],[16],[7,9,11,13,15,17],[18],[19],[3,5,20,0,1,2,3,4,5,6,7,8,9,10,11,12,13,14,15,16,17,18,19,20]]
def aa3:=[o 4 (.mv T)]
def BG:aR:=(s (r aaZ) (s (s (.bW Wu aa0) (.cond (.t 12) (s (r aa1) .ret) .skip)) (s (.bW Wv aa2) (s (r aa3) .ret))))
def Lg:List bg:=[.tmp 4]
theorem S7:bI Tryz.prog Tryz.f173 BG:=e (by kernel_rfl)
theorem Vg:bJ Tryz.prog Tryz.f173 Lg:=e (by kernel_rfl)
theorem Rf:bG Tryz.prog 173:=e (by kernel_rfl)
def aa4:=[b 3 1,o 4 (.mv bp)]
def aa5:=[m 6 0,o 7 (.nilC (.t 6)),f 8 0 0 7,l 9 8,f 10 4 5 3,l 11 10,o 12 (.lk (.i .i64) (.nilp) false (.t 9) (.t 11)),m 5 12]
def Ww:=some [[],[0],[1],[2],[],[4],[3,5],[6,0,1,2,3,4,5,6]]
def aa6:=[m 13 5,o 14 (.ptrE false (.t 13) (.c (.nilp))),m 15 14,eC 16 5 15,on 17 (.call 90 [.t 16]) 15,or 18 15 17,m 19 18,eC 20 5 19,on 21 (.nilC (.t 20)) 19,fn 22 0 0 21 19,fn 23 3 3 22 19,eU 24 23 19,on 25 (.bin .eql (.t 24) (al 0)) 19,or 26 19 25,m 27 26,eC 28 5 27,on 29 (.nilC (.t 28)) 27,fn 30 0 0 29 27,fn 31 3 3 30 27,eU 32 31 27,fn 33 7 8 3 27,eU 34 33 27,on 35 (.bin .eql (.t 32) (.t 34)) 27,or 36 27 35]
def Wx:=some [[],[0],[1],[2],[3,2,2],[2,4],[5,4],[6],[7,6],[8,6],[9,6],[10,6],[11,6],[6,12],[13,6],[14],[15,14],[16,14],[17,14],[18,14],[14],[20,14],[19,21,14],[14,22]]
def aa7:=[o 4 (.mv bp)]
def aa8:=[m 37 5,f 38 7 8 3,l 39 38,o 40 (.nilC (.t 37)),f 41 0 0 40,f 42 3 3 41,p (.br none (.t 42) (.t 39))]
def aa9:=[o 4 (.mv T)]
def BH:aR:=(s (r aa4) (s (.bW Ww aa5) (s (s (.bW Wx aa6) (.cond (.t 36) (s (r aa7) .ret) .skip)) (s (r aa8) (s (r aa9) .ret)))))
def Lh:List bg:=[.tmp 4]
theorem S8:bI Tryz.prog Tryz.f174 BH:=e (by kernel_rfl)
theorem Vh:bJ Tryz.prog Tryz.f174 Lh:=e (by kernel_rfl)
theorem Rg:bG Tryz.prog 174:=e (by kernel_rfl)
def aba:=[b 3 1,o 4 (.mv bp)]
def abb:=[m 6 0,o 7 (.nilC (.t 6)),f 8 0 0 7,l 9 8,f 10 4 5 3,l 11 10,o 12 (.lk (.i .i64) (.nilp) false (.t 9) (.t 11)),m 5 12]
def Wy:=some [[],[0],[1],[2],[],[4],[3,5],[6,0,1,2,3,4,5,6]]
def abc:=[m 13 5,o 14 (.ptrE false (.t 13) (.c (.nilp)))]
def abd:=[o 4 (.mv bp)]
def xl:=[m 15 5,m 16 5,o 17 (.nilC (.t 16)),f 18 0 0 17,f 19 8 8 18,l 20 19,f 21 8 9 3,L 22 6 21,o 23 (.bs 66 6 [.t 22]),o 24 (.c7 66 6 48 (.agg [.int .i64 0,.int .i64 0,.int .i64 0,.int .i64 0,.int .i64 0,.int .i64 0]) (.t 20) (.t 23)),o 25 (.nilC (.t 15)),f 26 0 0 25,f 27 8 8 26,p (.br none (.t 27) (.t 24))]
def Wz:=some [[],[],[1],[2],[3],[4],[],[6],[7],[5,8],[0,0,1,2,3,4,5,6,7,8,9],[10,0,1,2,3,4,5,6,7,8,9],[11,0,1,2,3,4,5,6,7,8,9],[12,9,9,0,1,2,3,4,5,6,7,8,9]] -- DRAW BAD
def abe:=[o 4 (.mv T)]
def BI:aR:=(s (r aba) (s (.bW Wy abb) (s (s (r abc) (.cond (.t 14) (s (r abd) .ret) .skip)) (s (.bW Wz xl) (s (r abe) .ret)))))
def Li:List bg:=[.tmp 4]
theorem S9:bI Tryz.prog Tryz.f175 BI:=e (by kernel_rfl)
theorem Vi:bJ Tryz.prog Tryz.f175 Li:=e (by kernel_rfl)
theorem Rh:bG Tryz.prog 175:=e (by kernel_rfl)
def abf:=[b 3 1,o 4 (.mv bp)]
def abg:=[m 6 0,o 7 (.nilC (.t 6)),f 8 0 0 7,l 9 8,f 10 4 5 3,l 11 10,o 12 (.lk (.i .i64) (.nilp) false (.t 9) (.t 11)),m 5 12]
def WA:=some [[],[0],[1],[2],[],[4],[3,5],[6,0,1,2,3,4,5,6]]
def abh:=[m 13 5,o 14 (.ptrE false (.t 13) (.c (.nilp)))]
def abi:=[o 4 (.mv bp)]
def abj:=[m 15 5,m 16 5,f 17 7 8 3,l 18 17,o 19 (.nilC (.t 15)),f 20 0 0 19,f 21 3 3 20,p (.br none (.t 21) (.t 18)),o 22 (.nilC (.t 16)),f 23 0 0 22,f 24 7 7 23,p (.br none (.t 24) T)]
def abk:=[o 4 (.mv T)]
def BJ:aR:=(s (r abf) (s (.bW WA abg) (s (s (r abh) (.cond (.t 14) (s (r abi) .ret) .skip)) (s (r abj) (s (r abk) .ret)))))
def Lj:List bg:=[.tmp 4]
theorem Ta:bI Tryz.prog Tryz.f176 BJ:=e (by kernel_rfl)
theorem Vj:bJ Tryz.prog Tryz.f176 Lj:=e (by kernel_rfl)
theorem Ri:bG Tryz.prog 176:=e (by kernel_rfl)
def abl:=[b 3 1,o 4 (.mv bp)]
def abm:=[m 6 0,o 7 (.nilC (.t 6)),f 8 0 0 7,l 9 8,f 10 4 5 3,l 11 10,o 12 (.lk (.i .i64) (.nilp) false (.t 9) (.t 11)),m 5 12]
def WB:=some [[],[0],[1],[2],[],[4],[3,5],[6,0,1,2,3,4,5,6]]
def abn:=[m 13 5,o 14 (.ptrE false (.t 13) (.c (.nilp))),m 15 14,eC 16 5 15,on 17 (.call 90 [.t 16]) 15,or 18 15 17]
def abo:=[o 4 (.mv bp)]
def abp:=[m 19 5,f 20 2 3 3,l 21 20,o 22 (.nilC (.t 19)),f 23 0 0 22,f 24 6 6 23,p (.br none (.t 24) (.t 21))]
def abq:=[o 4 (.mv T)]
def BK:aR:=(s (r abl) (s (.bW WB abm) (s (s (r abn) (.cond (.t 18) (s (r abo) .ret) .skip)) (s (r abp) (s (r abq) .ret)))))
def Lk:List bg:=[.tmp 4]
theorem Tb:bI Tryz.prog Tryz.f177 BK:=e (by kernel_rfl)
theorem Vk:bJ Tryz.prog Tryz.f177 Lk:=e (by kernel_rfl)
theorem Rj:bG Tryz.prog 177:=e (by kernel_rfl)
def GC:=[l 4 1,o 5 (.len (.t 4)),o 6 (.bin .sub (.t 5) (al 1)),m 3 6]
def GD:=[m 7 3,o 8 (.bin .geq (.t 7) (al 0))]
def GF:=[m 11 0,m 12 3,l 13 1,m 14 3,o 15 (.is 17 (.t 13) (.t 14)),L 16 17 15,o 17 (.eF (.t 11) [.t 12,.t 16]),no 18 17]
def GG:=[m 9 3,o 10 (.bin .sub (.t 9) (al 1)),m 3 10]
def BL:aR:=(s (r GC) (.block 0 (.loop (s (s (r GD) (.cond (.t 8) .skip (.exit 0))) (s (.block 1 (s (r GF) (.cond (.t 18) .ret .skip))) (r GG))))))
def Ll:List bg:=[]
theorem Tc:bI Tryz.prog Tryz.f178 BL:=e (by kernel_rfl)
theorem Vl:bJ Tryz.prog Tryz.f178 Ll:=e (by kernel_rfl)
theorem CJ:bG Tryz.prog 178:=e (by kernel_rfl)
def GH:=[b 1 0,o 2 (.mv bp)]
def GI:=[o 3 (.va 6 1 (.t 1)),o 4 (.call 125 [.t 3,(.c (.func 211 []))]),no 5 4,m 2 5]
def BN:aR:=(s (r GH) (s (r GI) .ret))
def Ln:List bg:=[.tmp 2]
theorem Te:bI Tryz.prog Tryz.f193 BN:=e (by kernel_rfl)
theorem Vn:bJ Tryz.prog Tryz.f193 Ln:=e (by kernel_rfl)
theorem Rl:bG Tryz.prog 193:=e (by kernel_rfl)
def GJ:=[o 2 (.mv bp)]
def GK:=[m 3 0,m 4 0,o 5 (.bin .neq (.t 3) (.t 4)),m 2 5]
def BO:aR:=(s (r GJ) (s (r GK) .ret))
def Lo:List bg:=[.tmp 2]
theorem Tf:bI Tryz.prog Tryz.f194 BO:=e (by kernel_rfl)
theorem Vo:bJ Tryz.prog Tryz.f194 Lo:=e (by kernel_rfl)
theorem Rm:bG Tryz.prog 194:=e (by kernel_rfl)
def GL:=[aX 4 0]
def GM:=[m 6 0,o 7 (.len (.t 6)),aX 8 0]
def GN:=[lt 9 8 7]
def GO:=[m 10 8,m 5 10]
def GP:=[m 11 1,m 12 0,m 13 5,o 14 (.is 7 (.t 12) (.t 13)),L 15 7 14,o 16 (.eF (.t 11) [.t 15])]
def GQ:=[m 17 5,m 4 17]
def GR:=[ad 18 8 1,m 8 18]
def GS:=[aX 4 (-1)]
def BP:aR:=(s (r GL) (s (s (r GM) (.block 0 (.loop (s (r GN) (s (.cond (.t 9) .skip (.exit 0)) (s (.block 1 (s (r GO) (s (r GP) (.cond (.t 16) (s (r GQ) .ret) .skip)))) (r GR))))))) (s (r GS) .ret)))
def Lp:List bg:=[.tmp 4]
theorem Tg:bI Tryz.prog Tryz.f195 BP:=e (by kernel_rfl)
theorem Vp:bJ Tryz.prog Tryz.f195 Lp:=e (by kernel_rfl)
theorem Rn:bG Tryz.prog 195:=e (by kernel_rfl)
def GU:=[o 4 (.mv bp)]
def GV:=[m 5 0,m 6 1,o 7 (.bin .and (.t 5) (.t 6)),o 8 (.bin .neq (.t 7) (al 0)),m 4 8]
def BQ:aR:=(s (r GU) (s (r GV) .ret))
def Lq:List bg:=[.tmp 4]
theorem Th:bI Tryz.prog Tryz.f196 BQ:=e (by kernel_rfl)
theorem Vq:bJ Tryz.prog Tryz.f196 Lq:=e (by kernel_rfl)
theorem Ro:bG Tryz.prog 196:=e (by kernel_rfl)
def GW:=[aX 2 0]
def GX:=[aX 3 0]
def GY:=[aX 5 0]
def GZ:=[o 6 (.bin .lss (.t 5) (al 6))]
def G0:=[m 7 5,m 4 7]
def G1:=[m 8 0,m 9 4,o 10 (.eF (.t 8) [.t 9]),no 11 10]
def G2:=[m 12 3,ad 13 12 1,m 3 13]
def xm:=[ad 14 5 1,m 5 14]
def G3:=[m 15 3,m 2 15]
def BR:aR:=(s (r GW) (s (r GX) (s (s (r GY) (.block 0 (.loop (s (r GZ) (s (.cond (.t 6) .skip (.exit 0)) (s (.block 1 (s (r G0) (s (r G1) (.cond (.t 11) (r G2) .skip)))) (r xm))))))) (s (r G3) .ret))))
def Lr:List bg:=[.tmp 2]
theorem Ti:bI Tryz.prog Tryz.f197 BR:=e (by kernel_rfl)
theorem Vr:bJ Tryz.prog Tryz.f197 Lr:=e (by kernel_rfl)
theorem Rp:bG Tryz.prog 197:=e (by kernel_rfl)
def G4:=[o 6 (.mv bp)]
def G5:=[l 7 1,L 8 5 2,L 9 6 3,m 10 0,o 11 (.call 199 [.t 8,.t 9,.t 10]),L 12 5 2,L 13 6 4,m 14 0,o 15 (.call 199 [.t 12,.t 13,.t 14]),o 16 (.eF (.t 7) [.t 11,.t 15]),m 6 16]
def WD:=some [[],[],[],[],[1,2,3],[],[],[],[5,6,7,4],[0,4,8,8],[9,9,0,1,2,3,4,5,6,7,8,9]]
def BS:aR:=(s (r G4) (s (.bW WD G5) .ret))
def Ls:List bg:=[.tmp 6]
theorem Tj:bI Tryz.prog Tryz.f198 BS:=e (by kernel_rfl)
theorem Vs:bJ Tryz.prog Tryz.f198 Ls:=e (by kernel_rfl)
theorem Rq:bG Tryz.prog 198:=e (by kernel_rfl)
def G6:=[b 3 0,b 4 1,aX 6 0]
def G7:=[m 7 2,o 8 (.ia 6 1 (.t 4) (.t 7)),l 9 8,o 10 (.ia 5 1 (.t 3) (.t 9)),l 11 10,m 6 11]
def BT:aR:=(s (r G6) (s (r G7) .ret))
def Lt:List bg:=[.tmp 6]
theorem Tk:bI Tryz.prog Tryz.f199 BT:=e (by kernel_rfl)
theorem Vt:bJ Tryz.prog Tryz.f199 Lt:=e (by kernel_rfl)
theorem Rr:bG Tryz.prog 199:=e (by kernel_rfl)
def xn:=[o 4 (.mv (.c (.nils 7)))]
def xp:=[m 8 0,m 9 1,o 10 (.call 195 [.t 8,.t 9]),m 5 10]
def tk:=[m 11 5,o 12 (.bin .eql (.t 11) (.c (.int .i64 (-1))))]
def xr:=[m 13 0,m 4 13]
def Ha:=[m 14 5,ad 15 14 1,m 6 15]
def Hb:=[m 16 6,m 17 0,o 18 (.len (.t 17)),lt 19 16 18]
def Hc:=[m 22 0,m 23 6,o 24 (.is 7 (.t 22) (.t 23)),L 25 7 24,o 7 (.alloc (.agg [.int .i64 0,.agg [.int .i64 0,.int .i64 0,.int .i64 0,.int .i64 0,.int .i64 0,.int .i64 0]])),p (.br (some 7) (.t 7) (.t 25))]
def Hd:=[m 26 1,L 27 7 7,o 28 (.eF (.t 26) [.t 27]),no 29 28]
def He:=[m 30 0,m 31 5,L 32 7 7,o 33 (.is 7 (.t 30) (.t 31)),p (.br (some 7) (.t 33) (.t 32))]
def Hf:=[m 34 5,ad 35 34 1,m 5 35]
def xq:=[m 20 6,ad 21 20 1,m 6 21]
def G8:=[m 36 0,m 37 5,o 38 (.sl 7 (.t 36) (some (.t 37)) none none),p (.jH 7 (.agg [.int .i64 0,.agg [.int .i64 0,.int .i64 0,.int .i64 0,.int .i64 0,.int .i64 0,.int .i64 0]]) (.t 38))]
def G9:=[m 39 0,m 40 5,o 41 (.sl 7 (.t 39) none (some (.t 40)) none),m 4 41]
def vK:aR:=(s (r xn) (s (r xp) (s (s (r tk) (.cond (.t 12) (s (r xr) .ret) .skip)) (s (s (r Ha) (.block 0 (.loop (s (s (r Hb) (.cond (.t 19) .skip (.exit 0))) (s (.block 1 (s (r Hc) (s (r Hd) (.cond (.t 29) (s (r He) (r Hf)) .skip)))) (r xq)))))) (s (r G8) (s (r G9) .ret))))))
def yV:List bg:=[.tmp 4]
theorem CR:bI Tryz.prog Tryz.f200 vK:=e (by kernel_rfl)
theorem C5:bJ Tryz.prog Tryz.f200 yV:=e (by kernel_rfl)
theorem CK:bG Tryz.prog 200:=e (by kernel_rfl)
def Hg:=[b 3 0,o 4 (.mv bp)]
def Hh:=[f 5 0 0 1,L 6 5 5,f 7 1 1 3,L 8 6 7,L 9 6 2,o 10 (.call 202 [.t 6,.t 8,.t 9]),f 11 1 5 1,l 12 11,o 13 (.bin .gtr (.t 10) (.t 12)),m 4 13]
def WE:=some [[],[0],[],[2],[],[1,3,4],[],[6],[5,7],[8,5,0,1,2,3,4,5,6,7,8]]
def BV:aR:=(s (r Hg) (s (.bW WE Hh) .ret))
def Lv:List bg:=[.tmp 4]
theorem Tm:bI Tryz.prog Tryz.f201 BV:=e (by kernel_rfl)
theorem Vv:bJ Tryz.prog Tryz.f201 Lv:=e (by kernel_rfl)
theorem Rt:bG Tryz.prog 201:=e (by kernel_rfl)
def Hi:=[b 3 0,b 4 1,b 5 2,aX 6 0]
def Hj:=[o 7 (.alloc (.dh)),p (.br none (.t 7) (.c (.func 196 [])))]
def Hk:=[o 8 (.mk 212 [.t 7,.t 3,.t 4,.t 5]),o 9 (.call 197 [.t 8]),m 6 9]
def BW:aR:=(s (r Hi) (s (r Hj) (s (r Hk) .ret)))
def Lw:List bg:=[.tmp 6]
theorem Tn:bI Tryz.prog Tryz.f202 BW:=e (by kernel_rfl)
theorem Vw:bJ Tryz.prog Tryz.f202 Lw:=e (by kernel_rfl)
theorem Ru:bG Tryz.prog 202:=e (by kernel_rfl)
def xt:=[m 10 1,ad 11 10 1,m 8 11]
def Hl:=[m 12 8,m 13 2,lt 14 12 13]
def Hm:=[m 17 8,m 9 17]
def abF:=[m 18 9,m 19 1,o 20 (.bin .gtr (.t 18) (.t 19)),m 21 20,cz 22 3 21,cz 23 0 21,cz 24 9 21,bF 25 (.is 1 (.t 23) (.t 24)) 21,du 26 25 21,cz 27 0 21,cz 28 9 21,bF 29 (.bin .sub (.t 28) (al 1)) 21,bF 30 (.is 1 (.t 27) (.t 29)) 21,du 31 30 21,bF 32 (.eF (.t 22) [.t 26,.t 31]) 21,bF 33 (.bin .lss (.t 32) (al 0)) 21,and 34 21 33]
def WG:=some [[],[],[0,1],[2],[3],[3],[3],[5,6,3],[7,3],[3],[3],[10,3],[9,11,3],[12,3],[4,8,13,3,3],[14,3],[3,15]]
def abG:=[m 37 0,m 38 9,m 39 0,m 40 9,o 41 (.bin .sub (.t 40) (al 1)),m 42 0,m 43 9,o 44 (.bin .sub (.t 43) (al 1)),o 45 (.is 1 (.t 42) (.t 44)),l 46 45,m 47 0,m 48 9,o 49 (.is 1 (.t 47) (.t 48)),l 50 49,o 51 (.is 1 (.t 37) (.t 38)),p (.br none (.t 51) (.t 46)),o 52 (.is 1 (.t 39) (.t 41)),p (.br none (.t 52) (.t 50))]
def WH:=some [[],[],[],[],[3],[],[],[6],[5,7],[8],[],[],[10,11],[12],[0,1,0,1,5,6,7,8,9,13],[14,9,0,1,5,6,7,8,9,13],[2,4,0,1,2,3,4,5,6,7,8,9,10,11,12,13,14,15],[16,13,15,0,1,2,3,4,5,6,7,8,9,10,11,12,13,14,15]]
def abH:=[m 35 9,o 36 (.bin .sub (.t 35) (al 1)),m 9 36]
def abI:=[m 15 8,ad 16 15 1,m 8 16]
def vL:aR:=(s (r xt) (.block 0 (.loop (s (s (r Hl) (.cond (.t 14) .skip (.exit 0))) (s (.block 1 (s (r Hm) (.block 2 (.loop (s (s (.bW WG abF) (.cond (.t 34) .skip (.exit 2))) (s (.block 3 (.bW WH abG)) (r abH))))))) (r abI))))))
def yW:List bg:=[]
theorem CS:bI Tryz.prog Tryz.f203 vL:=e (by kernel_rfl)
theorem C6:bJ Tryz.prog Tryz.f203 yW:=e (by kernel_rfl)
theorem CL:bG Tryz.prog 203:=e (by kernel_rfl)
def tl:=[m 25 2,m 26 1,o 27 (.bin .sub (.t 25) (.t 26)),o 28 (.bin .eql (.t 27) (al 1))]
def Hn:=[m 29 2,m 10 29]
def Hr:=[m 30 3,m 11 30]
def Hw:=[m 31 10,m 32 11,lt 33 31 32]
def ab2:=[m 34 10,m 35 11,o 36 (.bin .add (.t 34) (.t 35)),o 37 (.conv .u64 (.t 36)),o 38 (.bin .shr (.t 37) (.c (.int .u64 1))),o 39 (.conv .i64 (.t 38)),m 12 39]
def ab8:=[m 40 4,m 41 0,m 42 12,o 43 (.is 1 (.t 41) (.t 42)),l 44 43,m 45 0,m 46 1,o 47 (.is 1 (.t 45) (.t 46)),l 48 47,o 49 (.eF (.t 40) [.t 44,.t 48]),o 50 (.bin .lss (.t 49) (al 0))]
def WM:=some [[],[],[],[1,2],[3],[],[],[5,6],[7],[0,4,8],[9]]
def ab9:=[m 51 12,ad 52 51 1,m 10 52]
def aca:=[m 53 12,m 11 53]
def HA:=[m 54 1,m 13 54]
def acb:=[m 55 13,m 56 10,o 57 (.bin .sub (.t 56) (al 1)),lt 58 55 57]
def abJ:=[m 61 0,m 62 13,m 63 0,m 64 13,ad 65 64 1,m 66 0,m 67 13,ad 68 67 1,o 69 (.is 1 (.t 66) (.t 68)),l 70 69,m 71 0,m 72 13,o 73 (.is 1 (.t 71) (.t 72)),l 74 73,o 75 (.is 1 (.t 61) (.t 62)),p (.br none (.t 75) (.t 70)),o 76 (.is 1 (.t 63) (.t 65)),p (.br none (.t 76) (.t 74))]
def WI:=some [[],[],[],[],[3],[],[],[6],[5,7],[8],[],[],[10,11],[12],[0,1,0,1,5,6,7,8,9,13],[14,9,0,1,5,6,7,8,9,13],[2,4,0,1,2,3,4,5,6,7,8,9,10,11,12,13,14,15],[16,13,15,0,1,2,3,4,5,6,7,8,9,10,11,12,13,14,15]]
def abK:=[m 59 13,ad 60 59 1,m 13 60]
def xu:=[m 77 3,m 78 2,o 79 (.bin .sub (.t 77) (.t 78)),o 80 (.bin .eql (.t 79) (al 1))]
def Ho:=[m 81 1,m 14 81]
def Hp:=[m 82 2,m 15 82]
def Hq:=[m 83 14,m 84 15,lt 85 83 84]
def abL:=[m 86 14,m 87 15,o 88 (.bin .add (.t 86) (.t 87)),o 89 (.conv .u64 (.t 88)),o 90 (.bin .shr (.t 89) (.c (.int .u64 1))),o 91 (.conv .i64 (.t 90)),m 16 91]
def abM:=[m 92 4,m 93 0,m 94 2,o 95 (.is 1 (.t 93) (.t 94)),l 96 95,m 97 0,m 98 16,o 99 (.is 1 (.t 97) (.t 98)),l 100 99,o 101 (.eF (.t 92) [.t 96,.t 100]),o 102 (.bin .lss (.t 101) (al 0)),no 103 102]
def WJ:=some [[],[],[],[1,2],[3],[],[],[5,6],[7],[0,4,8],[9],[10]]
def abN:=[m 104 16,ad 105 104 1,m 14 105]
def abO:=[m 106 16,m 15 106]
def Hs:=[m 107 2,m 17 107]
def abP:=[m 108 17,m 109 14,o 110 (.bin .gtr (.t 108) (.t 109))]
def abQ:=[m 113 0,m 114 17,m 115 0,m 116 17,o 117 (.bin .sub (.t 116) (al 1)),m 118 0,m 119 17,o 120 (.bin .sub (.t 119) (al 1)),o 121 (.is 1 (.t 118) (.t 120)),l 122 121,m 123 0,m 124 17,o 125 (.is 1 (.t 123) (.t 124)),l 126 125,o 127 (.is 1 (.t 113) (.t 114)),p (.br none (.t 127) (.t 122)),o 128 (.is 1 (.t 115) (.t 117)),p (.br none (.t 128) (.t 126))]
def WK:=some [[],[],[],[],[3],[],[],[6],[5,7],[8],[],[],[10,11],[12],[0,1,0,1,5,6,7,8,9,13],[14,9,0,1,5,6,7,8,9,13],[2,4,0,1,2,3,4,5,6,7,8,9,10,11,12,13,14,15],[16,13,15,0,1,2,3,4,5,6,7,8,9,10,11,12,13,14,15]]
def abR:=[m 111 17,o 112 (.bin .sub (.t 111) (al 1)),m 17 112]
def Ht:=[m 129 1,m 130 3,o 131 (.bin .add (.t 129) (.t 130)),o 132 (.conv .u64 (.t 131)),o 133 (.bin .shr (.t 132) (.c (.int .u64 1))),o 134 (.conv .i64 (.t 133)),m 18 134]
def Hu:=[m 135 18,m 136 2,o 137 (.bin .add (.t 135) (.t 136)),m 19 137]
def Hv:=[aX 20 0,aX 21 0]
def abS:=[m 138 2,m 139 18,o 140 (.bin .gtr (.t 138) (.t 139))]
def abT:=[m 141 19,m 142 3,o 143 (.bin .sub (.t 141) (.t 142)),m 20 143]
def abU:=[m 144 18,m 21 144]
def abV:=[m 145 1,m 20 145]
def abW:=[m 146 2,m 21 146]
def Hx:=[m 147 19,o 148 (.bin .sub (.t 147) (al 1)),m 22 148]
def Hy:=[m 149 20,m 150 21,lt 151 149 150]
def abX:=[m 152 20,m 153 21,o 154 (.bin .add (.t 152) (.t 153)),o 155 (.conv .u64 (.t 154)),o 156 (.bin .shr (.t 155) (.c (.int .u64 1))),o 157 (.conv .i64 (.t 156)),m 23 157]
def abY:=[m 158 4,m 159 0,m 160 22,m 161 23,o 162 (.bin .sub (.t 160) (.t 161)),o 163 (.is 1 (.t 159) (.t 162)),l 164 163,m 165 0,m 166 23,o 167 (.is 1 (.t 165) (.t 166)),l 168 167,o 169 (.eF (.t 158) [.t 164,.t 168]),o 170 (.bin .lss (.t 169) (al 0)),no 171 170]
def WL:=some [[],[],[],[],[2,3],[1,4],[5],[],[],[7,8],[9],[0,6,10],[11],[12]]
def abZ:=[m 172 23,ad 173 172 1,m 20 173]
def ab0:=[m 174 23,m 21 174]
def Hz:=[m 175 19,m 176 20,o 177 (.bin .sub (.t 175) (.t 176)),m 24 177]
def ab1:=[m 178 20,m 179 2,lt 180 178 179,m 181 180,cz 182 2 181,cz 183 24 181,bF 184 (.bin .lss (.t 182) (.t 183)) 181,and 185 181 184]
def ab3:=[m 186 0,m 187 20,m 188 2,m 189 24,m 190 4,o 191 (.call 213 [.t 186,.t 187,.t 188,.t 189,.t 190])]
def ab4:=[m 192 1,m 193 20,lt 194 192 193,m 195 194,cz 196 20 195,cz 197 18 195,bF 198 (.bin .lss (.t 196) (.t 197)) 195,and 199 195 198]
def ab5:=[m 200 0,m 201 1,m 202 20,m 203 18,m 204 4,o 205 (.call 204 [.t 200,.t 201,.t 202,.t 203,.t 204])]
def ab6:=[m 206 18,m 207 24,lt 208 206 207,m 209 208,cz 210 24 209,cz 211 3 209,bF 212 (.bin .lss (.t 210) (.t 211)) 209,and 213 209 212]
def ab7:=[m 214 0,m 215 18,m 216 24,m 217 3,m 218 4,o 219 (.call 204 [.t 214,.t 215,.t 216,.t 217,.t 218])]
def sN:aR:=(s (s (r tl) (.cond (.t 28) (s (r Hn) (s (r Hr) (s (.block 0 (.loop (s (s (r Hw) (.cond (.t 33) .skip (.exit 0))) (.block 1 (s (r ab2) (s (.bW WM ab8) (.cond (.t 50) (r ab9) (r aca)))))))) (s (s (r HA) (.block 2 (.loop (s (s (r acb) (.cond (.t 58) .skip (.exit 2))) (s (.block 3 (.bW WI abJ)) (r abK)))))) .ret)))) .skip)) (s (s (r xu) (.cond (.t 80) (s (r Ho) (s (r Hp) (s (.block 4 (.loop (s (s (r Hq) (.cond (.t 85) .skip (.exit 4))) (.block 5 (s (r abL) (s (.bW WJ abM) (.cond (.t 103) (r abN) (r abO)))))))) (s (s (r Hs) (.block 6 (.loop (s (s (r abP) (.cond (.t 110) .skip (.exit 6))) (s (.block 7 (.bW WK abQ)) (r abR)))))) .ret)))) .skip)) (s (r Ht) (s (r Hu) (s (r Hv) (s (s (r abS) (.cond (.t 140) (s (r abT) (r abU)) (s (r abV) (r abW)))) (s (r Hx) (s (.block 8 (.loop (s (s (r Hy) (.cond (.t 151) .skip (.exit 8))) (.block 9 (s (r abX) (s (.bW WL abY) (.cond (.t 171) (r abZ) (r ab0)))))))) (s (r Hz) (s (s (r ab1) (.cond (.t 185) (r ab3) .skip)) (s (s (r ab4) (.cond (.t 199) (r ab5) .skip)) (s (r ab6) (.cond (.t 213) (r ab7) .skip)))))))))))))
def ur:List bg:=[]
theorem vP:bI Tryz.prog Tryz.f204 sN:=e (by kernel_rfl)
theorem vY:bJ Tryz.prog Tryz.f204 ur:=e (by kernel_rfl)
theorem vN:bG Tryz.prog 204:=e (by kernel_rfl)
def HL:=[o 2 (.mv bp)]
def HM:=[m 3 0,o 4 (.bin .eql (.t 3) (al 0)),m 5 4,eC 6 0 5,on 7 (.call 160 [.t 6]) 5,on 8 (.un .not (.t 7)) 5,or 9 5 8,m 2 9]
def BY:aR:=(s (r HL) (s (r HM) .ret))
def Ly:List bg:=[.tmp 2]
theorem Tq:bI Tryz.prog Tryz.f211 BY:=e (by kernel_rfl)
theorem Vy:bJ Tryz.prog Tryz.f211 Ly:=e (by kernel_rfl)
theorem Rw:bG Tryz.prog 211:=e (by kernel_rfl)
def HN:=[o 6 (.mv bp)]
def HO:=[l 7 1,L 8 5 2,L 9 6 3,m 10 0,o 11 (.call 199 [.t 8,.t 9,.t 10]),m 12 0,o 13 (.ia 6 1 (.t 4) (.t 12)),l 14 13,o 15 (.eF (.t 7) [.t 11,.t 14]),m 6 15]
def WO:=some [[],[],[],[],[1,2,3],[],[5],[6],[0,4,7,4],[8,8,0,1,2,3,4,5,6,7,8]]
def BZ:aR:=(s (r HN) (s (.bW WO HO) .ret))
def Lz:List bg:=[.tmp 6]
theorem Tr:bI Tryz.prog Tryz.f212 BZ:=e (by kernel_rfl)
theorem Vz:bJ Tryz.prog Tryz.f212 Lz:=e (by kernel_rfl)
theorem Rx:bG Tryz.prog 212:=e (by kernel_rfl)
def HP:=[m 12 2,m 13 1,o 14 (.bin .sub (.t 12) (.t 13)),m 10 14]
def HQ:=[m 15 3,m 16 2,o 17 (.bin .sub (.t 15) (.t 16)),m 11 17]
def HR:=[m 18 10,m 19 11,o 20 (.bin .neq (.t 18) (.t 19))]
def HS:=[m 21 10,m 22 11,o 23 (.bin .gtr (.t 21) (.t 22))]
def HT:=[m 24 0,m 25 2,m 26 10,o 27 (.bin .sub (.t 25) (.t 26)),m 28 2,m 29 11,m 30 4,o 31 (.call 216 [.t 24,.t 27,.t 28,.t 29,.t 30])]
def HU:=[m 32 10,m 33 11,o 34 (.bin .sub (.t 32) (.t 33)),m 10 34]
def HV:=[m 35 0,m 36 2,m 37 10,o 38 (.bin .sub (.t 36) (.t 37)),m 39 2,m 40 11,o 41 (.bin .add (.t 39) (.t 40)),m 42 10,o 43 (.bin .sub (.t 41) (.t 42)),m 44 10,m 45 4,o 46 (.call 216 [.t 35,.t 38,.t 43,.t 44,.t 45])]
def HW:=[m 47 11,m 48 10,o 49 (.bin .sub (.t 47) (.t 48)),m 11 49]
def HX:=[m 50 0,m 51 2,m 52 10,o 53 (.bin .sub (.t 51) (.t 52)),m 54 2,m 55 10,m 56 4,o 57 (.call 216 [.t 50,.t 53,.t 54,.t 55,.t 56])]
def B1:aR:=(s (r HP) (s (r HQ) (s (.block 0 (.loop (s (s (r HR) (.cond (.t 20) .skip (.exit 0))) (.block 1 (s (r HS) (.cond (.t 23) (s (r HT) (r HU)) (s (r HV) (r HW)))))))) (r HX))))
def LA:List bg:=[]
theorem Ts:bI Tryz.prog Tryz.f213 B1:=e (by kernel_rfl)
theorem VA:bJ Tryz.prog Tryz.f213 LA:=e (by kernel_rfl)
theorem Ry:bG Tryz.prog 213:=e (by kernel_rfl)
def HY:=[aX 10 0]
def acd:=[m 11 10,m 12 3,lt 13 11 12]
def ace:=[m 16 0,m 17 1,m 18 10,o 19 (.bin .add (.t 17) (.t 18)),m 20 0,m 21 2,m 22 10,o 23 (.bin .add (.t 21) (.t 22)),m 24 0,m 25 2,m 26 10,o 27 (.bin .add (.t 25) (.t 26)),o 28 (.is 1 (.t 24) (.t 27)),l 29 28,m 30 0,m 31 1,m 32 10,o 33 (.bin .add (.t 31) (.t 32)),o 34 (.is 1 (.t 30) (.t 33)),l 35 34,o 36 (.is 1 (.t 16) (.t 19)),p (.br none (.t 36) (.t 29)),o 37 (.is 1 (.t 20) (.t 23)),p (.br none (.t 37) (.t 35))]
def WQ:=some [[],[],[],[1,2],[],[],[],[5,6],[],[],[],[9,10],[8,11],[12],[],[],[],[15,16],[14,17],[18],[0,3,0,1,2,3,8,9,10,11,12,13,19],[20,13,0,1,2,3,8,9,10,11,12,13,19],[4,7,0,1,2,3,4,5,6,7,8,9,10,11,12,13,14,15,16,17,18,19,20,21],[22,19,21,0,1,2,3,4,5,6,7,8,9,10,11,12,13,14,15,16,17,18,19,20,21]]
def acf:=[m 14 10,ad 15 14 1,m 10 15]
def B3:aR:=(s (r HY) (.block 0 (.loop (s (s (r acd) (.cond (.t 13) .skip (.exit 0))) (s (.block 1 (.bW WQ ace)) (r acf))))))
def LB:List bg:=[]
theorem Tt:bI Tryz.prog Tryz.f216 B3:=e (by kernel_rfl)
theorem VB:bJ Tryz.prog Tryz.f216 LB:=e (by kernel_rfl)
theorem Rz:bG Tryz.prog 216:=e (by kernel_rfl)
end Go.Proofs.YtcldiigclhgafaaGreat
namespace Go.Proofs.YtcldiigclhgafaaGreat
open Go Go.Abs
open Go.Abs.Enc (enc)
theorem sr(n lo hi:Int):aB Tryz.prog 94 [enc n,enc lo,enc hi] (enc (decide (lo≤n)&&decide (n≤hi))):=by
 refine aB.bu Tryz.func94 R7 T3 V9 (zz0 rfl) (fun hwf W0 D0 E1 =>?_);simp only[CA,Mb,bl,zz4,Nat.reduceAdd];refine .az (by decide +kernel) fun K hK =>?_;simp only[IB,ab,simprocAttr];refine .done (hK _ ?_);clear hK K;refine .az (by decide +kernel) fun K hK =>?_;simp only[IC,ab,simprocAttr];refine .guard (fun h =>?_) (fun h =>?_)
 ·simp only[ab,simprocAttr,h];refine .done (hK _ ?_);clear hK K;refine J.ret ?_;simp only[ab,simprocAttr]
  simp_all
 ·simp only[ab,simprocAttr,h];refine .done (hK _ ?_);clear hK K;refine J.ret ?_;simp only[ab,simprocAttr];simp at h;simp;omega
def bP(lo hi n:Int):Bool:=decide (lo≤n)&&decide (n≤hi)
def oz(a b:Int):Int:=IntKind.i64.wrap ((BitVec.ofInt IntKind.i64.bits a &&& BitVec.ofInt IntKind.i64.bits b).toNat:Int)
def shl(a:Int)(k:Nat):Int:=IntKind.i64.wrap (a*2^min k IntKind.i64.bits)
theorem amm(m:bL 6 Int):aB Tryz.prog 100 [enc m] (enc (if (List.range 6).all (fun i=>bP 0 4 (m.g i)) then (0:Int) else 10)):=by
 refine aB.bu Tryz.func100 Qq Sg Ur (zz0 rfl) (fun hwf W0 D0 E1 =>?_);simp only[AN,Kr,bl];refine .az (by decide +kernel) fun K hK =>?_;simp only[D5,ab,simprocAttr];refine .done (hK _ ?_);clear hK K;refine J.seq ?_;refine .az (by decide +kernel) fun K hK =>?_;simp only[D6,ab,simprocAttr];refine .done (hK _ ?_);clear hK K;refine J.block (J.loop (fun i:Nat=>au [(1,.ptr 1 []),(2,.int .i64 0),(3,.int .i64 i)] [(1,.box (enc m))]) (fun j=>j≤6∧∀ i,i<j→bP 0 4 (m.g i)=true) (fun i=>6-i) 0 ⟨by omega,fun k h=>by omega⟩ ?_ (fun i hi =>?_))
 ·refine aF.cq ?_ ?_ ?_ ?_ <;>simp[aY,b7,bY,bE,av,aZ,cZ,I.only,aj.only,bK]
 ·refine J.seq (J.seq ?_);refine .b6 (by decide +kernel) fun K hK =>?_;simp only[D7,ab,simprocAttr];refine .done (hK _ ?_);clear hK K;try simp only[aG]
  refine J.bX ?_;simp only[aq,ab,simprocAttr];refine ⟨fun h =>?_,fun h =>?_⟩
  ·have hlt:i<6:=by simp at h;omega
   refine J.skip ?_;try simp only[aG,simprocAttr]
   refine J.seq (J.block ?_);refine .az (by decide +kernel) fun K hK =>?_;simp only[D8,ab,simprocAttr]
   try simp only[bB,oM 1 m hlt rfl,pI m hlt,ab,simprocAttr]
   refine .flat _ (sr _ 0 4) rfl ?_
   try simp only[ab,simprocAttr]
   refine .done (hK _ ?_);clear hK K;refine J.bX ?_;simp only[aq,ab,simprocAttr];refine ⟨fun h =>?_,fun h =>?_⟩
   ·refine .az (by decide +kernel) fun K hK =>?_;simp only[D9,ab,simprocAttr];refine .done (hK _ ?_);clear hK K;refine J.ret ?_;simp only[cj,aG,ab,simprocAttr];rw[nq i hlt]
    ·simp
    ·simp at h;simp[bP];omega
   ·refine J.skip ?_;try simp only[aG,cj,simprocAttr]
    refine .b6 (by decide +kernel) fun K hK =>?_;simp only[Ea,ab,simprocAttr];refine .done (hK _ ?_);clear hK K;try simp only[aG]
    refine ⟨i+1,⟨by omega,fun k hk =>?_⟩,by omega,?_⟩
    ·by_cases hk':k=i
     ·subst hk';simpa[bP] using h
     ·exact hi.2 k (by omega)
    ·rw[dI _ (by omega) (by omega)];refine aF.cq ?_ ?_ ?_ ?_ <;>simp[aY,b7,bY,bE,av,aZ,cZ,I.only,aj.only,bK]
  ·have hge:i=6:=by simp at h;omega
   subst hge;refine J.exit ?_;try simp only[aG,cj,simprocAttr]
   refine .az (by decide +kernel) fun K hK =>?_;simp only[Eb,ab,simprocAttr];refine .done (hK _ ?_);clear hK K;refine J.ret ?_;simp only[ab,simprocAttr];rw[pE hi.2];simp
theorem NK(m:bL 6 Int):aB Tryz.prog 101 [enc m] (enc (if (List.range 6).all (fun i=>bP 1 31 (m.g i)) then (0:Int) else 12)):=by
 refine aB.bu Tryz.func101 Qr Sh Us (zz0 rfl) (fun hwf W0 D0 E1 =>?_);simp only[AO,Ks,bl];refine .az (by decide +kernel) fun K hK =>?_;simp only[Ec,ab,simprocAttr];refine .done (hK _ ?_);clear hK K;refine J.seq ?_;refine .az (by decide +kernel) fun K hK =>?_;simp only[Ed,ab,simprocAttr];refine .done (hK _ ?_);clear hK K;refine J.block (J.loop (fun i:Nat=>au [(1,.ptr 1 []),(2,.int .i64 0),(3,.int .i64 i)] [(1,.box (enc m))]) (fun j=>j≤6∧∀ i,i<j→bP 1 31 (m.g i)=true) (fun i=>6-i) 0 ⟨by omega,fun k h=>by omega⟩ ?_ (fun i hi =>?_))
 ·refine aF.cq ?_ ?_ ?_ ?_ <;>simp[aY,b7,bY,bE,av,aZ,cZ,I.only,aj.only,bK]
 ·refine J.seq (J.seq ?_);refine .b6 (by decide +kernel) fun K hK =>?_;simp only[Ee,ab,simprocAttr];refine .done (hK _ ?_);clear hK K;try simp only[aG]
  refine J.bX ?_;simp only[aq,ab,simprocAttr];refine ⟨fun h =>?_,fun h =>?_⟩
  ·have hlt:i<6:=by simp at h;omega
   refine J.skip ?_;try simp only[aG,simprocAttr]
   refine J.seq (J.block ?_);refine .az (by decide +kernel) fun K hK =>?_;simp only[Ef,ab,simprocAttr]
   try simp only[bB,oM 1 m hlt rfl,pI m hlt,ab,simprocAttr]
   refine .flat _ (sr _ 1 31) rfl ?_
   try simp only[ab,simprocAttr]
   refine .done (hK _ ?_);clear hK K;refine J.bX ?_;simp only[aq,ab,simprocAttr];refine ⟨fun h =>?_,fun h =>?_⟩
   ·refine .az (by decide +kernel) fun K hK =>?_;simp only[Eg,ab,simprocAttr];refine .done (hK _ ?_);clear hK K;refine J.ret ?_;simp only[cj,aG,ab,simprocAttr];rw[nq i hlt]
    ·simp
    ·simp at h;simp[bP];omega
   ·refine J.skip ?_;try simp only[aG,cj,simprocAttr]
    refine .b6 (by decide +kernel) fun K hK =>?_;simp only[Ei,ab,simprocAttr];refine .done (hK _ ?_);clear hK K;try simp only[aG]
    refine ⟨i+1,⟨by omega,fun k hk =>?_⟩,by omega,?_⟩
    ·by_cases hk':k=i
     ·subst hk';simpa[bP] using h
     ·exact hi.2 k (by omega)
    ·rw[dI _ (by omega) (by omega)];refine aF.cq ?_ ?_ ?_ ?_ <;>simp[aY,b7,bY,bE,av,aZ,cZ,I.only,aj.only,bK]
  ·have hge:i=6:=by simp at h;omega
   subst hge;refine J.exit ?_;try simp only[aG,cj,simprocAttr]
   refine .az (by decide +kernel) fun K hK =>?_;simp only[Ej,ab,simprocAttr];refine .done (hK _ ?_);clear hK K;refine J.ret ?_;simp only[ab,simprocAttr];rw[pE hi.2];simp
structure cF where
 bx:Int
 mark:bL 6 Int
instance:Enc cF where
 enc g:=.agg [.int .i64 g.bx,enc g.mark]
 sz:=7
 aS:=.ej [.one,.ej (List.replicate 6 .one)]
 fP:=true
 done g:=by simp only[I.done,I.eP,Enc.done,zw3]
 size g:=by simp only[I.size,I.sizes,ja,mL,mM]
 jU g:=by simp only[I.aS,I.cU,eQ,wu,wv]
 agg _:=rfl
structure cP where
 gH:bL 5 Int
 gW:Int
 given:List cF
instance:Enc cP where
 enc m:=.agg [enc m.gH,.int .i64 m.gW,enc m.given]
 sz:=7
 aS:=.ej [.ej (List.replicate 5 .one),.one,.one]
 fP:=true
 done m:=by simp only[I.done,I.eP,Enc.done,zw3]
 size m:=by simp only[I.size,I.sizes,ja,mL,mM,qW]
 jU m:=by simp only[I.aS,I.cU,eQ,wu,wv,Dl]
 agg _:=rfl
theorem me{fs:List I}{f off:Nat}{v:I}(h1:f<fs.length)(h:I.sizes (fs.take f)=off):dB fs f off v=some v:=by simp[dB,h,h1]
theorem ew :
  (∀ m:cP,(enc m).dv=some [enc m.gH,.int .i64 m.gW,enc m.given])∧(∀ g:cF,(enc g).dv=some [.int .i64 g.bx,enc g.mark]) ∧
  (∀ (w:bL 5 Int) (n:Int) (g:List cF) v,dB [enc w,.int .i64 n,enc g] 0 0 v=some v)∧(∀ (w:bL 5 Int) (n:Int) (g:List cF) v,dB [enc w,.int .i64 n,enc g] 1 5 v=some v)∧(∀ (w:bL 5 Int) (n:Int) (g:List cF) v,dB [enc w,.int .i64 n,enc g] 2 6 v=some v) ∧
  (∀ (n:Int) (m:bL 6 Int) v,dB [.int .i64 n,enc m] 0 0 v=some v)∧(∀ (n:Int) (m:bL 6 Int) v,dB [.int .i64 n,enc m] 1 1 v=some v) ∧
  (∀ (g:List cF),b8 none (enc g)=true)∧(∀ (g:List Int),b8 none (enc g)=true)∧(∀ (g:bL 5 Int),b8 (some 5) (enc g)=true)∧(∀ (g:bL 6 Int),b8 (some 6) (enc g)=true)∧(∀ (g:cF),b8 (some 7) (enc g)=true)∧(∀ (g:cP),b8 (some 7) (enc g)=true) ∧
  (∀ (fs:List I) x,(x::fs)[0]?=some x)∧(∀ (fs:List I) x n,(x::fs)[n+1]?=fs[n]?)∧(∀ (fs:List I) x,(x::fs)[1]?=fs[0]?)∧(∀ (fs:List I) x,(x::fs)[2]?=fs[1]?) :=
 ⟨fun _=>rfl,fun _=>rfl,fun _ _ _ _=>me (zz0 rfl) rfl,fun w n g v=>me (zz0 rfl) (by simp[I.sizes,ja,mL,mM]),fun w n g v=>me (zz0 rfl) (by simp[I.sizes,I.size,ja,mL,mM]),fun _ _ _=>me (zz0 rfl) rfl,fun _ _ _=>me (zz0 rfl) (by simp[I.sizes,I.size]),
  fun _=>by simp[lb,nB],fun _=>by simp[lb,nB],fun _=>by simp[fZ,wq,mL,mM],fun _=>by simp[fZ,wq,mL,mM],fun _=>by rw[fZ];rfl,fun _=>by rw[fZ];rfl,
  fun _ _=>rfl,fun _ _ _=>rfl,fun _ _=>rfl,fun _ _=>rfl⟩
theorem sf(n lo hi:Int):aB Tryz.prog 121 [enc n,enc lo,enc hi] (enc (bP lo hi n)):=by
 refine aB.bu Tryz.func121 QB St UC (zz0 rfl) (fun hwf W0 D0 E1 =>?_);simp only[AY,KD,bl,zz4,Nat.reduceAdd];refine .az (by decide +kernel) fun K hK =>?_;simp only[EO,ab,simprocAttr];refine .done (hK _ ?_);clear hK K;refine .az (by decide +kernel) fun K hK =>?_;simp only[EP,ab,simprocAttr];refine .guard (fun h =>?_) (fun h =>?_)
 ·simp only[ab,simprocAttr,h];refine .done (hK _ ?_);clear hK K;refine J.ret ?_;simp only[ab,simprocAttr]
  simp_all[bP]
 ·simp only[ab,simprocAttr,h];refine .done (hK _ ?_);clear hK K;refine J.ret ?_;simp only[ab,simprocAttr];simp at h;simp[bP];omega
theorem zT(n:Int):aB Tryz.prog 160 [enc n] (enc (bP 0 31 n)):=by
 refine aB.bu Tryz.func160 Q2 SV U4 (zz0 rfl) (fun hwf W0 D0 E1 =>?_);simp only[Bu,K4,bl];refine .az (by decide +kernel) fun K hK =>?_;simp only[F0,ab,simprocAttr];refine .done (hK _ ?_);clear hK K;refine .az (by decide +kernel) fun K hK =>?_;simp only[F1,ab,simprocAttr];refine .flat _ (sf n 0 31) rfl ?_
 try simp only[ab,simprocAttr]
 refine .done (hK _ ?_);clear hK K;refine J.ret ?_;simp only[ab,simprocAttr]
theorem zW(a b:Int):aB Tryz.prog 196 [enc a,enc b] (enc (oz a b != 0)):=by
 refine aB.bu Tryz.func196 Ro Th Vq (zz0 rfl) (fun hwf W0 D0 E1 =>?_);simp only[BQ,Lq,bl,zz4];refine .az (by decide +kernel) fun K hK =>?_;simp only[GU,ab,simprocAttr];refine .done (hK _ ?_);clear hK K;refine .az (by decide +kernel) fun K hK =>?_;simp only[GV,ab,simprocAttr];refine .done (hK _ ?_);clear hK K;refine J.ret ?_;simp only[ab,simprocAttr];rfl
theorem vg(w:bL 5 Int)(m:bL 6 Int)(i:Nat)(hi:i<6)(h0:0≤m.g i)(h5:m.g i<5):aB Tryz.prog 199 [enc w,enc m,enc (i:Int)] (enc (w.g (m.g i).toNat)):=by
 refine aB.bu Tryz.func199 Rr Tk Vt (zz0 rfl) (fun hwf W0 D0 E1 =>?_);simp only[BT,Lt,bl,zz4,Nat.reduceAdd];refine .az (by decide +kernel) fun K hK =>?_;simp only[G6,ab,simprocAttr];refine .done (hK _ ?_);clear hK K;refine .az (by decide +kernel) fun K hK =>?_;simp only[G7,ab,simprocAttr];have hk:(m.g i).toNat<5:=by omega
 try simp only[bB,oM 1 m hi rfl,pI m hi,ab,simprocAttr]
 try simp only[bB,xU 1 w ⟨h0,h5⟩ rfl,pI w hk,ab,simprocAttr]
 refine .done (hK _ ?_);clear hK K;refine J.ret ?_;simp only[ab,simprocAttr]
def j5(p:Nat→Bool):Nat→Nat
 |0=>0
 |n+1=>j5 p n+if p n then 1 else 0
def qP(w:bL 5 Int)(a b:bL 6 Int)(i:Nat):Bool:=oz (w.g (a.g i).toNat) (w.g (b.g i).toNat)==0
def gm(m:bL 6 Int):Bool:=(List.range 6).all fun i=>bP 0 4 (m.g i)
theorem yC{m:bL 6 Int}(h:gm m=true){i:Nat}(hi:i<6):0≤m.g i∧m.g i<5:=by
 simp only[gm,zx9,zw7] at h;have:=h i hi;simp[bP] at this;omega
def kV(w:Int)(k:Nat):Bool:=oz w (shl 1 k) != 0
def mU(w:Int):Nat→List Int
 |0=>[]
 |k+1=>mU w k++if kV w k then [(k:Int)] else []
theorem JD(w:Int):∀ k,(mU w k).length≤k
 |0=>zz8 _
 |k+1=>by
  have:=JD w k;simp only[mU,zz7];split <;>simp <;>omega
theorem amn(w:Int):aB Tryz.prog 141 [enc w] (enc (mU w 5)):=by
 refine aB.bu Tryz.func141 QT SK UT (zz0 rfl) (fun hwf W0 D0 E1 =>?_);simp only[Bj,KU,bl];refine .az (by decide +kernel) fun K hK =>?_;simp only[Fk,ab,simprocAttr];refine .done (hK _ ?_);clear hK K;refine .az (by decide +kernel) fun K hK =>?_;simp only[Fl,ab,simprocAttr];refine .done (hK _ ?_);clear hK K;refine J.seq (J.seq ?_);refine .b6 (by decide +kernel) fun K hK =>?_;simp only[Fm,ab,simprocAttr];refine .done (hK _ ?_);clear hK K;try simp only[aG]
 refine J.block (J.loop (fun i:Nat=>au [(0,.int .i64 w),(2,.nils 1),(3,.own 3 (mU w i).length),(4,.int .i64 i)] [(3,.bR 3 1 ((mU w i).map enc))]) (fun i=>i≤5) (fun i=>5-i) 0 (by omega) ?_ (fun i hi =>?_))
 ·refine aF.ou 3 3 3 1 1 ?_ ?_ ?_
  ·simp only[pC,Nat.reduceEqDiff,reduceIte]
  ·simp only[pC]
  ·simp only[mU,zx3,List.length_nil];refine aF.cq ?_ ?_ ?_ ?_ <;>simp[aY,b7,bY,bE,av,aZ,cZ,I.only,I.bZ,aj.only]
 ·refine J.seq (J.seq ?_);refine .b6 (by decide +kernel) fun K hK =>?_;simp only[Fo,ab,simprocAttr];refine .done (hK _ ?_);clear hK K;try simp only[aG]
  refine J.bX ?_;simp only[aq,ab,simprocAttr];refine ⟨fun h =>?_,fun h =>?_⟩
  ·have hlt:i<5:=by simp at h;omega
   have hml:=JD w i;refine J.skip ?_;try simp only[aG,simprocAttr]
   refine J.seq (J.block ?_);refine .az (by decide +kernel) fun K hK =>?_;simp only[Fp,ab,simprocAttr];refine .done (hK _ ?_);clear hK K;refine J.bX ?_;simp only[aq,ab,simprocAttr];refine ⟨fun h =>?_,fun h =>?_⟩
   ·have hb:kV w i=true:=h;refine .b6 (by decide +kernel) fun K hK =>?_;simp only[Fq,ab,simprocAttr];rw[kS 3 1 8 3 rfl rfl (by simp) (by simp[maxLen];omega) (by simp;omega)]
    try simp only[ab,simprocAttr]
    refine .done (hK _ ?_);clear hK K;try simp only[aG,cj]
    refine .b6 (by decide +kernel) fun K hK =>?_;simp only[xd,ab,simprocAttr];refine .done (hK _ ?_);clear hK K;try simp only[aG]
    refine ⟨i+1,by omega,by omega,?_⟩;rw[dI _ (by omega) (by omega)];simp only[mU,hb,reduceIte];refine aF.cq ?_ ?_ ?_ ?_ <;>simp[aY,b7,bY,bE,av,aZ,cZ,I.only,I.bZ,aj.only,eI,jO,fY]
   ·have hb:kV w i=false:=h;refine J.skip ?_;try simp only[aG,cj,simprocAttr]
    refine .b6 (by decide +kernel) fun K hK =>?_;simp only[xd,ab,simprocAttr];refine .done (hK _ ?_);clear hK K;try simp only[aG]
    refine ⟨i+1,by omega,by omega,?_⟩;rw[dI _ (by omega) (by omega)];simp only[mU,hb,reduceIte,zz6,zx5];refine aF.cq ?_ ?_ ?_ ?_ <;>simp[aY,b7,bY,bE,av,aZ,cZ,I.only,aj.only,eI]
  ·have hge:i=5:=by simp at h;omega
   subst hge;refine J.exit ?_;try simp only[aG,cj,simprocAttr]
   refine .az (by decide +kernel) fun K hK =>?_;simp only[Fs,ab,simprocAttr];refine .done (hK _ ?_);clear hK K;refine J.ret ?_
   try simp only[ab,simprocAttr]
theorem amp(m:bL 5 Int):aB Tryz.prog 99 [enc m] (enc (if (List.range 5).all (fun i=>bP 0 31 (m.g i)&&kV (m.g i) i) then (0:Int) else 11)):=by
 refine aB.bu Tryz.func99 Sb T7 Wd (zz0 rfl) (fun hwf W0 D0 E1 =>?_);simp only[CE,Mf,bl];refine .az (by decide +kernel) fun K hK =>?_;simp only[ID,ab,simprocAttr];refine .done (hK _ ?_);clear hK K;refine J.seq ?_;refine .az (by decide +kernel) fun K hK =>?_;simp only[IE,ab,simprocAttr];refine .done (hK _ ?_);clear hK K;refine J.block (J.loop (fun i:Nat=>au [(1,.ptr 1 []),(2,.int .i64 0),(3,.int .i64 i)] [(1,.box (enc m))]) (fun j=>j≤5∧∀ i,i<j→(bP 0 31 (m.g i)&&kV (m.g i) i)=true) (fun i=>5-i) 0 ⟨by omega,fun k h=>by omega⟩ ?_ (fun i hi =>?_))
 ·refine aF.cq ?_ ?_ ?_ ?_ <;>simp[aY,b7,bY,bE,av,aZ,cZ,I.only,aj.only,bK]
 ·refine J.seq (J.seq ?_);refine .b6 (by decide +kernel) fun K hK =>?_;simp only[IF,ab,simprocAttr];refine .done (hK _ ?_);clear hK K;try simp only[aG]
  refine J.bX ?_;simp only[aq,ab,simprocAttr];refine ⟨fun h =>?_,fun h =>?_⟩
  ·have hlt:i<5:=by simp at h;omega
   refine J.skip ?_;try simp only[aG,simprocAttr]
   refine J.seq (J.block ?_);refine .az (by decide +kernel) fun K hK =>?_;simp only[IG,ab,simprocAttr]
   try simp only[bB,oM 1 m hlt rfl,pI m hlt,ab,simprocAttr]
   refine .flat _ (sr _ 0 31) rfl ?_;generalize hb:(decide (0≤m.g i)&&decide (m.g i≤31))=b;cases b
   ·try simp only[ab,simprocAttr]
    refine .done (hK _ ?_);clear hK K;refine J.bX ?_;simp only[aq,ab,simprocAttr];refine ⟨fun h =>?_,fun h =>?_⟩
    ·refine .az (by decide +kernel) fun K hK =>?_;simp only[xE,ab,simprocAttr];refine .done (hK _ ?_);clear hK K;refine J.ret ?_;simp only[cj,aG,ab,simprocAttr];rw[nq i hlt]
     ·simp
     ·simp only[bP,hb,Bool.false_and]
    ·cases h
   ·try simp only[bB,oM 1 m hlt rfl,pI m hlt,ab,simprocAttr]
    refine .done (hK _ ?_);clear hK K;refine J.bX ?_;simp only[aq,ab,simprocAttr];refine ⟨fun h =>?_,fun h =>?_⟩
    ·refine .az (by decide +kernel) fun K hK =>?_;simp only[xE,ab,simprocAttr];refine .done (hK _ ?_);clear hK K;refine J.ret ?_;simp only[cj,aG,ab,simprocAttr];rw[nq i hlt]
     ·simp
     ·simp only[bP,hb,Bool.true_and,kV,oz,shl];simpa using h
    ·refine J.skip ?_;try simp only[aG,cj,simprocAttr]
     refine .b6 (by decide +kernel) fun K hK =>?_;simp only[IH,ab,simprocAttr];refine .done (hK _ ?_);clear hK K;try simp only[aG]
     refine ⟨i+1,⟨by omega,fun k hk =>?_⟩,by omega,?_⟩
     ·by_cases hk':k=i
      ·subst hk';simp only[bP,hb,Bool.true_and,kV,oz,shl];simpa using h
      ·exact hi.2 k (by omega)
     ·rw[dI _ (by omega) (by omega)];refine aF.cq ?_ ?_ ?_ ?_ <;>simp[aY,b7,bY,bE,av,aZ,cZ,I.only,aj.only,bK]
  ·have hge:i=5:=by simp at h;omega
   subst hge;refine J.exit ?_;try simp only[aG,cj,simprocAttr]
   refine .az (by decide +kernel) fun K hK =>?_;simp only[II,ab,simprocAttr];refine .done (hK _ ?_);clear hK K;refine J.ret ?_;simp only[ab,simprocAttr];rw[pE hi.2];simp
theorem vh(a b:List Int):aB Tryz.prog 20 [enc a,enc b] (enc (decide (a=b))):=by
 refine aB.bu Tryz.func20 Rs Tl Vu (zz0 rfl) (fun hwf W0 D0 E1 =>?_);simp only[BU,Lu,bl,zz4];have hlen:a.length≤maxLen:=((lE a).1 hwf.1).1;simp only[maxLen] at hlen;refine .az (by decide +kernel) fun K hK =>?_;simp only[HB,ab,simprocAttr];refine .done (hK _ ?_);clear hK K;refine J.seq (J.seq ?_);refine .b6 (by decide +kernel) fun K hK =>?_;simp only[HC,ab,simprocAttr]
 try simp only[bB,ab,simprocAttr]
 refine .done (hK _ ?_);clear hK K;try simp only[aG]
 refine J.bX ?_;simp only[aq,ab,simprocAttr];refine ⟨fun h =>?_,fun h =>?_⟩
 ·refine .az (by decide +kernel) fun K hK =>?_;simp only[HD,ab,simprocAttr];refine .done (hK _ ?_);clear hK K;refine J.ret ?_;simp only[aG,ab,simprocAttr];simp at h;have:a≠b:=fun e=>h (by rw[e]);simp[this]
 ·have hab:a.length=b.length:=by simp at h;omega
  refine J.skip ?_;try simp only[aG,simprocAttr]
  refine J.seq ?_;refine .az (by decide +kernel) fun K hK =>?_;simp only[HE,ab,simprocAttr];refine .done (hK _ ?_);clear hK K;refine J.block (J.loop (fun i:Nat=>au [(0,enc a),(1,enc b),(5,.int .i64 i)] []) (fun i=>i≤a.length∧a.take i=b.take i) (fun i=>a.length-i) 0 ⟨zv1 _,by simp⟩ ?_ (fun i hi =>?_))
  ·refine aF.cq ?_ ?_ ?_ ?_ <;>simp[aY,b7,bY,bE,aZ,I.only,bK]
  ·refine J.seq (J.seq ?_);refine .b6 (by decide +kernel) fun K hK =>?_;simp only[HF,ab,simprocAttr]
   try simp only[bB,ab,simprocAttr]
   refine .done (hK _ ?_);clear hK K;try simp only[aG]
   refine J.bX ?_;simp only[aq,ab,simprocAttr];refine ⟨fun h =>?_,fun h =>?_⟩
   ·have hlt:i<a.length:=by simpa using h
    have hlb:i<b.length:=by omega
    refine J.skip ?_;try simp only[aG,simprocAttr]
    refine J.seq (J.block ?_);refine .az (by decide +kernel) fun K hK =>?_;simp only[HG,ab,simprocAttr]
    try simp only[eL 1 hlt rfl,eL 1 hlb rfl,ab,simprocAttr]
    refine .done (hK _ ?_);clear hK K;refine J.bX ?_;simp only[aq,ab,simprocAttr];refine ⟨fun h =>?_,fun h =>?_⟩
    ·refine .az (by decide +kernel) fun K hK =>?_;simp only[HI,ab,simprocAttr];refine .done (hK _ ?_);clear hK K;refine J.ret ?_;simp only[cj,aG,ab,simprocAttr];have hne:a≠b:=fun e=>by subst e;simp at h
     simp[hne]
    ·refine J.skip ?_;try simp only[aG,cj,simprocAttr]
     refine .b6 (by decide +kernel) fun K hK =>?_;simp only[HJ,ab,simprocAttr];refine .done (hK _ ?_);clear hK K;try simp only[aG]
     refine ⟨i+1,⟨by omega,?_⟩,by omega,?_⟩
     ·rw[zy2 hlt,zy2 hlb,hi.2];simp at h;rw[h]
     ·rw[dI _ (by omega) (by omega)];refine aF.cq ?_ ?_ ?_ ?_ <;>simp[aY,b7,bY,bE,aZ,I.only,bK]
   ·have hge:i=a.length:=by simp at h;omega
    refine J.exit ?_;try simp only[aG,cj,simprocAttr]
    refine .az (by decide +kernel) fun K hK =>?_;simp only[HK,ab,simprocAttr];refine .done (hK _ ?_);clear hK K;refine J.ret ?_;simp only[ab,simprocAttr];have:a=b:=by
     have:=hi.2;rw[hge,List.take_length] at this;rw[hab,List.take_length] at this;exact this
    simp[this]
def eG(m:cP)(i:Nat):cF:=m.given.getD i ⟨0,⟨List.replicate 6 0,rfl⟩⟩
theorem lg{m:cP}{i:Nat}(h:i<m.given.length):m.given[i]=eG m i:=by simp[eG,zz2,h]
theorem Jb{A:af}{m:cP}{i:Nat}(h:i<m.given.length):ik A 7 (i:Int) (enc m.given)=some (.ref (enc (eG m i))):=by
 rw[eL 7 h rfl,lg h]
def qp(w:bL 5 Int):Bool:=(List.range 5).all (fun i=>bP 0 31 (w.g i)&&kV (w.g i) i)
def oh(m:cP)(a b:bL 6 Int):Bool:=decide ((j5 (qP m.gH a b) 6:Int)≤IntKind.i64.wrap (2*m.gW))
def jn(m:cP)(i:Nat):Bool:=bP 1 99 (eG m i).bx&&(gm (eG m i).mark&&((i==0||decide ((eG m (i-1)).bx<(eG m i).bx))&&(List.range i).all (fun j => !oh m (eG m j).mark (eG m i).mark)))
def gR(m:cP):Bool:=qp m.gH&&(bP 0 2 m.gW&&(decide (m.given.length≤40)&&(List.range m.given.length).all (jn m)))
theorem JS{m:cP}{i:Nat}(h:jn m i=true):gm (eG m i).mark=true:=by
 simp only[jn,zz3] at h;exact h.2.1
def sR(w:bL 5 Int)(a:bL 6 Int)(r:bL 6 Int)(i:Nat):Bool:=oz (w.g (a.g i).toNat) (r.g i)==0
def mI(w:bL 5 Int)(a r:bL 6 Int):Int:=(j5 (sR w a r) 6:Int)
def mf(r:bL 6 Int):Bool:=(List.range 6).all fun i=>bP 1 31 (r.g i)
theorem NL(m:bL 6 Int):aB Tryz.prog 101 [enc m] (enc (if mf m then (0:Int) else 12)):=NK m
theorem yl:I.slice 1 []=enc ([]:List Int):=rfl
def NG:bL 6 Int:=⟨List.replicate 6 0,rfl⟩
instance:ot cF:=⟨fun g=>by
 show (I.agg [.int .i64 g.bx,enc g.mark]).c8=true
 simp only[I.c8,I.jk,Dk,zw3]⟩
def gj:cF:=⟨0,NG⟩
theorem wo:I.agg [.int .i64 0,.agg [.int .i64 0,.int .i64 0,.int .i64 0,.int .i64 0,.int .i64 0,.int .i64 0]]=enc gj:=rfl
theorem mT(p:Nat→Bool)(l:List cF):(I.agg (l.map enc)).only p=true:=by simp only[I.only];exact eI p l
theorem aiK(l:List cF):(I.agg (l.map enc)).c8=true:=by simp only[I.c8];exact x7 l
def iO(k:Nat)(l:List cF)(m:Nat):List (Nat×aj):=[(k,.box (.agg ((l++List.replicate m gj).map enc)))]
def vU(l:List cF):cV:=fun r os'=>(l=[]∧(r=.nils 7∨r=.c0 7)∧os'=[])∨(l≠[]∧∃ m,r=.view 7 [] 7 0 l.length∧os'=iO 7 l m)
theorem zU(l:List cF)(hl:l.length≤1000):cH Tryz.prog 167 [enc l] [] (vU l):=by
 refine cH.bu Tryz.func167 Q9 S2 Vb (zz0 rfl) (zz0 rfl) (fun m hm=>by simp[av,ak] at hm) (fun hwf W0 D0 E1 =>?_);simp only[BB,Lb,bl];refine .az (by decide +kernel) fun K hK =>?_;simp only[Gl,ab,simprocAttr];refine .done (hK _ ?_);clear hK K;refine J.seq (J.seq ?_);by_cases hn:l=[]
 ·subst hn;refine .b6 (by decide +kernel) fun K hK =>?_;simp only[xg,ab,simprocAttr];simp only[uT,List.isEmpty_nil,qj];refine .any rfl fun b _ =>?_
  try simp only[ab,simprocAttr]
  generalize (b==0)=t;cases t
  ·refine .done (hK _ ?_);clear hK K;try simp only[aG]
   refine J.bX ?_;simp only[aq,ab,simprocAttr];refine ⟨fun h =>?_,fun h =>?_⟩
   ·cases h
   refine J.skip ?_;try simp only[aG,simprocAttr]
   refine .az (by decide +kernel) fun K hK =>?_;simp only[xh,ab,simprocAttr]
   try simp only[dn,wo,ab,simprocAttr]
   refine .done (hK _ ?_);clear hK K;refine J.ret ?_;simp only[fV];exact ⟨[],[.c0 7],rj,⟨⟨.c0 7,rfl,.inl ⟨rfl,rfl,rfl⟩⟩,trivial⟩,.inl ⟨rfl,.inr rfl,rfl⟩⟩
  ·refine .done (hK _ ?_);clear hK K;refine J.bX ?_;simp only[aq,ab,simprocAttr];refine ⟨fun h =>?_,fun h =>?_⟩
   ·refine .az (by decide +kernel) fun K hK =>?_;simp only[Gm,ab,simprocAttr];refine .done (hK _ ?_);clear hK K;refine J.ret ?_;simp only[aG,fV];exact ⟨[],[.nils 7],rj,⟨⟨.nils 7,rfl,.inl ⟨rfl,rfl,rfl⟩⟩,trivial⟩,.inl ⟨rfl,.inl rfl,rfl⟩⟩
   ·cases h
 ·have hu:kj (enc l)=false:=by rw[uT];simpa using hn
  refine .b6 (by decide +kernel) fun K hK =>?_;simp only[xg,ab,simprocAttr]
  try simp only[hu,JK _ l hn,ab,simprocAttr]
  refine .done (hK _ ?_);clear hK K;try simp only[aG]
  refine J.bX ?_;simp only[aq,ab,simprocAttr];refine ⟨fun h =>?_,fun h =>?_⟩
  ·cases h
  refine J.skip ?_;try simp only[aG,simprocAttr]
  refine .az (by decide +kernel) fun K hK =>?_;simp only[xh,ab,simprocAttr]
  try simp only[dn,wo,ab,simprocAttr]
  refine bh.ox gj rfl hn rfl (by omega) (by simp only[maxLen];omega) fun m =>?_
  try simp only[ab,simprocAttr]
  refine .done (hK _ ?_);clear hK K;refine J.ret ?_;simp only[fV];exact ⟨iO 7 l m,[.view 7 [] 7 0 l.length],nF rfl (fun p=>mT p _),⟨⟨_,rfl,.inl ⟨rfl,rfl,rfl⟩⟩,trivial⟩,.inr ⟨hn,m,rfl,rfl⟩⟩
structure Item where
 eM:Int
 no:Int
 deriving DecidableEq
instance:Enc Item where
 enc x:=.agg [.int .i64 x.eM,.int .i64 x.no]
 sz:=2
 aS:=.ej [.one,.one]
 fP:=true
 done _:=rfl
 size _:=by simp[I.size,I.sizes]
 jU _:=by simp[I.aS,I.cU]
 agg _:=rfl
structure ar where
 dp:Item
 kind:Int
 day:Int
 known:Int
 cG:Int
 cm:Int
 cd:Int
 bx:Int
 bA:bL 6 Int
 hd:Item
instance:Enc ar where
 enc e:=.agg [enc e.dp,.int .i64 e.kind,.int .i64 e.day,.int .i64 e.known,.int .i64 e.cG,.int .i64 e.cm,.int .i64 e.cd,.int .i64 e.bx,enc e.bA,enc e.hd]
 sz:=17
 aS:=.ej [.ej [.one,.one],.one,.one,.one,.one,.one,.one,.one,.ej (List.replicate 6 .one),.ej [.one,.one]]
 fP:=true
 done e:=by simp only[I.done,I.eP,Enc.done,zw3]
 size e:=by simp only[I.size,I.sizes,ja,mL,mM];rfl
 jU e:=by simp only[I.aS,I.cU,eQ,wu,wv];rfl
 agg _:=rfl
structure ao where
 no:Int
 cd:Int
 cm:Int
 bx:Int
 jF:Int
 born:Int
 cu:Int
 found:Bool
 bA:List (bL 6 Int)
instance:Enc ao where
 enc b:=.agg [.int .i64 b.no,.int .i64 b.cd,.int .i64 b.cm,.int .i64 b.bx,.int .i64 b.jF,.int .i64 b.born,.int .i64 b.cu,.bool b.found,enc b.bA]
 sz:=9
 aS:=.ej [.one,.one,.one,.one,.one,.one,.one,.one,.one]
 fP:=true
 done e:=by simp only[I.done,I.eP,Enc.done,zw3]
 size e:=by simp only[I.size,I.sizes,ja,qW]
 jU e:=by simp only[I.aS,I.cU,eQ,Dl]
 agg _:=rfl
theorem sY:Enc.sz Item=2:=rfl
theorem XH:Enc.sz ar=17:=rfl
theorem Dm:Enc.sz ao=9:=rfl
theorem XG:Enc.fP Item=true:=rfl
theorem XF:Enc.fP ar=true:=rfl
theorem XE:Enc.fP ao=true:=rfl
theorem aia(fs:List I)(x:I):(x::fs)[0]?=some x:=rfl
theorem ail(fs:List I)(x:I)(n:Nat):(x::fs)[n+1]?=fs[n]?:=rfl
theorem aib(fs:List I)(x:I):(x::fs)[1]?=fs[0]?:=rfl
theorem aic(fs:List I)(x:I):(x::fs)[2]?=fs[1]?:=rfl
theorem aid(fs:List I)(x:I):(x::fs)[3]?=fs[2]?:=rfl
theorem aie(fs:List I)(x:I):(x::fs)[4]?=fs[3]?:=rfl
theorem aif(fs:List I)(x:I):(x::fs)[5]?=fs[4]?:=rfl
theorem aih(fs:List I)(x:I):(x::fs)[6]?=fs[5]?:=rfl
theorem aii(fs:List I)(x:I):(x::fs)[7]?=fs[6]?:=rfl
theorem aij(fs:List I)(x:I):(x::fs)[8]?=fs[7]?:=rfl
theorem aik(fs:List I)(x:I):(x::fs)[9]?=fs[8]?:=rfl
theorem ajO(x:I)(fs:List I)(v:I):dB (x::fs) 0 0 v=some v:=me (by simp) (by simp[I.sizes])
theorem nT(a b:Item)(n1 n2 n3 n4 n5 n6 n7:Int)(s:bL 6 Int)(v:I) :
  (dB [enc a,.int .i64 n1,.int .i64 n2,.int .i64 n3,.int .i64 n4,.int .i64 n5,.int .i64 n6,.int .i64 n7,enc s,enc b] 1 2 v=some v) ∧
  (dB [enc a,.int .i64 n1,.int .i64 n2,.int .i64 n3,.int .i64 n4,.int .i64 n5,.int .i64 n6,.int .i64 n7,enc s,enc b] 2 3 v=some v) ∧
  (dB [enc a,.int .i64 n1,.int .i64 n2,.int .i64 n3,.int .i64 n4,.int .i64 n5,.int .i64 n6,.int .i64 n7,enc s,enc b] 3 4 v=some v) ∧
  (dB [enc a,.int .i64 n1,.int .i64 n2,.int .i64 n3,.int .i64 n4,.int .i64 n5,.int .i64 n6,.int .i64 n7,enc s,enc b] 4 5 v=some v) ∧
  (dB [enc a,.int .i64 n1,.int .i64 n2,.int .i64 n3,.int .i64 n4,.int .i64 n5,.int .i64 n6,.int .i64 n7,enc s,enc b] 5 6 v=some v) ∧
  (dB [enc a,.int .i64 n1,.int .i64 n2,.int .i64 n3,.int .i64 n4,.int .i64 n5,.int .i64 n6,.int .i64 n7,enc s,enc b] 6 7 v=some v) ∧
  (dB [enc a,.int .i64 n1,.int .i64 n2,.int .i64 n3,.int .i64 n4,.int .i64 n5,.int .i64 n6,.int .i64 n7,enc s,enc b] 7 8 v=some v) ∧
  (dB [enc a,.int .i64 n1,.int .i64 n2,.int .i64 n3,.int .i64 n4,.int .i64 n5,.int .i64 n6,.int .i64 n7,enc s,enc b] 8 9 v=some v) ∧
  (dB [enc a,.int .i64 n1,.int .i64 n2,.int .i64 n3,.int .i64 n4,.int .i64 n5,.int .i64 n6,.int .i64 n7,enc s,enc b] 9 15 v=some v):=by
 refine ⟨?_,?_,?_,?_,?_,?_,?_,?_,?_⟩ <;>refine me (zz0 rfl) ?_ <;>simp[I.sizes,I.size,ja,sY,mL,mM]
theorem ajN(n1 n2:Int)(v:I):dB [.int .i64 n1,.int .i64 n2] 1 1 v=some v:=me (zz0 rfl) (by simp[I.sizes,I.size])
theorem fA(n0 n1 n2 n3 n4 n5 n6:Int)(f:Bool)(x:I)(v:I) :
  (dB [.int .i64 n0,.int .i64 n1,.int .i64 n2,.int .i64 n3,.int .i64 n4,.int .i64 n5,.int .i64 n6,.bool f,x] 1 1 v=some v) ∧
  (dB [.int .i64 n0,.int .i64 n1,.int .i64 n2,.int .i64 n3,.int .i64 n4,.int .i64 n5,.int .i64 n6,.bool f,x] 2 2 v=some v) ∧
  (dB [.int .i64 n0,.int .i64 n1,.int .i64 n2,.int .i64 n3,.int .i64 n4,.int .i64 n5,.int .i64 n6,.bool f,x] 3 3 v=some v) ∧
  (dB [.int .i64 n0,.int .i64 n1,.int .i64 n2,.int .i64 n3,.int .i64 n4,.int .i64 n5,.int .i64 n6,.bool f,x] 4 4 v=some v) ∧
  (dB [.int .i64 n0,.int .i64 n1,.int .i64 n2,.int .i64 n3,.int .i64 n4,.int .i64 n5,.int .i64 n6,.bool f,x] 5 5 v=some v) ∧
  (dB [.int .i64 n0,.int .i64 n1,.int .i64 n2,.int .i64 n3,.int .i64 n4,.int .i64 n5,.int .i64 n6,.bool f,x] 6 6 v=some v) ∧
  (dB [.int .i64 n0,.int .i64 n1,.int .i64 n2,.int .i64 n3,.int .i64 n4,.int .i64 n5,.int .i64 n6,.bool f,x] 7 7 v=some v) ∧
  (dB [.int .i64 n0,.int .i64 n1,.int .i64 n2,.int .i64 n3,.int .i64 n4,.int .i64 n5,.int .i64 n6,.bool f,x] 8 8 v=some v):=by
 refine ⟨?_,?_,?_,?_,?_,?_,?_,?_⟩ <;>refine me (zz0 rfl) ?_ <;>simp[I.sizes,I.size]
theorem XY(x:Item):(enc x).dv=some [.int .i64 x.eM,.int .i64 x.no]:=rfl
theorem XX(e:ar):(enc e).dv=some [enc e.dp,.int .i64 e.kind,.int .i64 e.day,.int .i64 e.known,.int .i64 e.cG,.int .i64 e.cm,.int .i64 e.cd,.int .i64 e.bx,enc e.bA,enc e.hd]:=rfl
theorem XW(b:ao):(enc b).dv=some [.int .i64 b.no,.int .i64 b.cd,.int .i64 b.cm,.int .i64 b.bx,.int .i64 b.jF,.int .i64 b.born,.int .i64 b.cu,.bool b.found,enc b.bA]:=rfl
theorem JY(x:Item):b8 (some 2) (enc x)=true:=by simp[fZ,XG,sY]
theorem JX(x:ar):b8 (some 17) (enc x)=true:=by simp[fZ,XF,XH]
theorem aj1(x:ao):b8 (some 9) (enc x)=true:=by simp[fZ,XE,Dm]
theorem JW(x:bL 6 Int):b8 (some 6) (enc x)=true:=by simp[fZ,wq,mL,mM]
theorem aj2(x:List ar):b8 none (enc x)=true:=by simp[lb,nB]
theorem aj3(x:List Int):b8 none (enc x)=true:=by simp[lb,nB]
theorem aj5(x:List (bL 6 Int)):b8 none (enc x)=true:=by simp[lb,nB]
theorem aj4(x:List Item):b8 none (enc x)=true:=by simp[lb,nB]
theorem lD :
  (∀ x:Item,(enc x).dv=some [.int .i64 x.eM,.int .i64 x.no])∧(∀ e:ar,(enc e).dv=some [enc e.dp,.int .i64 e.kind,.int .i64 e.day,.int .i64 e.known,.int .i64 e.cG,.int .i64 e.cm,.int .i64 e.cd,.int .i64 e.bx,enc e.bA,enc e.hd]) ∧
  (∀ b:ao,(enc b).dv=some [.int .i64 b.no,.int .i64 b.cd,.int .i64 b.cm,.int .i64 b.bx,.int .i64 b.jF,.int .i64 b.born,.int .i64 b.cu,.bool b.found,enc b.bA]) ∧
  (∀ (x:I) fs v,dB (x::fs) 0 0 v=some v)∧(∀ n1 n2 v,dB [.int .i64 n1,.int .i64 n2] 1 1 v=some v) ∧
  (∀ x:Item,b8 (some 2) (enc x)=true)∧(∀ x:ar,b8 (some 17) (enc x)=true)∧(∀ x:ao,b8 (some 9) (enc x)=true)∧(∀ x:bL 6 Int,b8 (some 6) (enc x)=true)∧(∀ x:List ar,b8 none (enc x)=true)∧(∀ x:List Int,b8 none (enc x)=true) ∧
  (∀ x:List (bL 6 Int),b8 none (enc x)=true)∧(∀ x:List Item,b8 none (enc x)=true) ∧
  (∀ (fs:List I) x,(x::fs)[0]?=some x)∧(∀ (fs:List I) x n,(x::fs)[n+1]?=fs[n]?)∧(∀ (fs:List I) x,(x::fs)[1]?=fs[0]?)∧(∀ (fs:List I) x,(x::fs)[2]?=fs[1]?)∧(∀ (fs:List I) x,(x::fs)[3]?=fs[2]?)∧(∀ (fs:List I) x,(x::fs)[4]?=fs[3]?) ∧
  (∀ (fs:List I) x,(x::fs)[5]?=fs[4]?)∧(∀ (fs:List I) x,(x::fs)[6]?=fs[5]?)∧(∀ (fs:List I) x,(x::fs)[7]?=fs[6]?)∧(∀ (fs:List I) x,(x::fs)[8]?=fs[7]?)∧(∀ (fs:List I) x,(x::fs)[9]?=fs[8]?) :=
 ⟨XY,XX,XW,fun x fs v=>ajO x fs v,ajN,JY,JX,aj1,JW,aj2,aj3,aj5,aj4,aia,ail,aib,aic,aid,aie,aif,aih,aii,aij,aik⟩
theorem Item.XV(a b:Item):a=b↔a.eM=b.eM∧a.no=b.no:=by cases a;cases b;simp
theorem qX(x y:Item):cv (.br [.i .i64,.i .i64]) (enc x) (enc y)=some (decide (x=y)):=by
 show cv (.br [.i .i64,.i .i64]) (.agg [.int .i64 x.eM,.int .i64 x.no]) (.agg [.int .i64 y.eM,.int .i64 y.no])=_
 simp[cv,jb,iA,Item.XV];rfl
theorem zV(x:Int):aB Tryz.prog 194 [enc x] (enc false):=by
 refine aB.bu Tryz.func194 Rm Tf Vo (zz0 rfl) (fun hwf W0 D0 E1 =>?_);simp only[BO,Lo,bl];refine .az (by decide +kernel) fun K hK =>?_;simp only[GJ,ab,simprocAttr];refine .done (hK _ ?_);clear hK K;refine .az (by decide +kernel) fun K hK =>?_;simp only[GK,ab,simprocAttr];refine .done (hK _ ?_);clear hK K;refine J.ret ?_;simp only[ab,simprocAttr];simp
def j4(x y:Int):Int:=if x<y then -1 else if y<x then 1 else 0
theorem zS(x y:Int):aB Tryz.prog 159 [enc x,enc y] (enc (j4 x y)):=by
 refine aB.bu Tryz.func159 Q0 SS U2 (zz0 rfl) (fun hwf W0 D0 E1 =>?_);simp only[Br,K2,bl,zz4];refine .az (by decide +kernel) fun K hK =>?_;simp only[FP,ab,simprocAttr];refine .done (hK _ ?_);clear hK K;refine .az (by decide +kernel) fun K hK =>?_;simp only[FQ,ab,simprocAttr];refine .flat _ (zV x) rfl ?_
 try simp only[ab,simprocAttr]
 refine .done (hK _ ?_);clear hK K;refine .az (by decide +kernel) fun K hK =>?_;simp only[FW,ab,simprocAttr];refine .flat _ (zV y) rfl ?_
 try simp only[ab,simprocAttr]
 refine .done (hK _ ?_);clear hK K;refine J.seq ?_;refine .az (by decide +kernel) fun K hK =>?_;simp only[FX,ab,simprocAttr];refine .done (hK _ ?_);clear hK K;refine J.bX ?_;simp only[aq,ab,simprocAttr];refine ⟨fun h =>?_,fun h =>?_⟩
 ·cases h
 refine J.skip ?_;try simp only[aG,simprocAttr]
 refine J.seq ?_;refine .az (by decide +kernel) fun K hK =>?_;simp only[FY,ab,simprocAttr];refine .done (hK _ ?_);clear hK K;refine J.bX ?_;simp only[aq,ab,simprocAttr];refine ⟨fun h =>?_,fun h =>?_⟩
 ·cases h
 refine J.skip ?_;try simp only[aG,simprocAttr]
 refine J.seq ?_;refine .az (by decide +kernel) fun K hK =>?_;simp only[FZ,ab,simprocAttr];refine .done (hK _ ?_);clear hK K;refine J.bX ?_;simp only[aq,ab,simprocAttr];refine ⟨fun h =>?_,fun h =>?_⟩
 ·refine .az (by decide +kernel) fun K hK =>?_;simp only[FR,ab,simprocAttr];refine .done (hK _ ?_);clear hK K;refine J.ret ?_;simp only[aG,ab,simprocAttr];have:x<y:=by simpa using h
  simp[j4,this]
 have h1:¬ x<y:=by simpa using h
 refine J.skip ?_;try simp only[aG,simprocAttr]
 refine J.seq ?_;refine .az (by decide +kernel) fun K hK =>?_;simp only[FT,ab,simprocAttr];refine .done (hK _ ?_);clear hK K;refine J.bX ?_;simp only[aq,ab,simprocAttr];refine ⟨fun h =>?_,fun h =>?_⟩
 ·refine .az (by decide +kernel) fun K hK =>?_;simp only[FU,ab,simprocAttr];refine .done (hK _ ?_);clear hK K;refine J.ret ?_;simp only[aG,ab,simprocAttr];have:y<x:=by simpa using h
  simp[j4,this,h1]
 have h2:¬ y<x:=by simpa using h
 refine J.skip ?_;try simp only[aG,simprocAttr]
 refine .az (by decide +kernel) fun K hK =>?_;simp only[FV,ab,simprocAttr];refine .done (hK _ ?_);clear hK K;refine J.ret ?_;simp only[ab,simprocAttr];simp[j4,h1,h2]
theorem AK(a b:Int):eJ [.int .i64 0,.int .i64 0] [(0,.int .i64 a),(1,.int .i64 b)]=some [.int .i64 a,.int .i64 b]:=by simp[eJ,I.cn,I.size]
theorem mB(n lo hi:Int):aB Tryz.prog 114 [enc n,enc lo,enc hi] (enc (bP lo hi n)):=by
 refine aB.bu Tryz.func114 Qu Sk Uv (zz0 rfl) (fun hwf W0 D0 E1 =>?_);simp only[AR,Kv,bl,zz4,Nat.reduceAdd];refine .az (by decide +kernel) fun K hK =>?_;simp only[Es,ab,simprocAttr];refine .done (hK _ ?_);clear hK K;refine .az (by decide +kernel) fun K hK =>?_;simp only[Et,ab,simprocAttr];refine .guard (fun h =>?_) (fun h =>?_)
 ·simp only[ab,simprocAttr,h];refine .done (hK _ ?_);clear hK K;refine J.ret ?_;simp only[ab,simprocAttr]
  simp_all[bP]
 ·simp only[ab,simprocAttr,h];refine .done (hK _ ?_);clear hK K;refine J.ret ?_;simp only[ab,simprocAttr];simp at h;simp[bP];omega
theorem kl(n lo hi:Int):aB Tryz.prog 94 [enc n,enc lo,enc hi] (enc (bP lo hi n)):=sr n lo hi
def mR(x:Item):Bool:=bP 0 5 x.eM&&bP 0 9999 x.no
theorem vc(n:Int):aB Tryz.prog 127 [enc n] (enc (bP 0 100000 n)):=by
 refine aB.bu Tryz.func127 QH Sz UI (zz0 rfl) (fun hwf W0 D0 E1 =>?_);simp only[A8,KJ,bl];refine .az (by decide +kernel) fun K hK =>?_;simp only[EZ,ab,simprocAttr];refine .done (hK _ ?_);clear hK K;refine .az (by decide +kernel) fun K hK =>?_;simp only[E0,ab,simprocAttr];refine .flat _ (mB n 0 100000) rfl ?_
 try simp only[ab,simprocAttr]
 refine .done (hK _ ?_);clear hK K;refine J.ret ?_;simp only[ab,simprocAttr]
theorem Oa(n:Int):aB Tryz.prog 154 [enc n] (enc (bP 1 9999 n)):=by
 refine aB.bu Tryz.func154 QV SN UX (zz0 rfl) (fun hwf W0 D0 E1 =>?_);simp only[Bm,KX,bl];refine .az (by decide +kernel) fun K hK =>?_;simp only[Fw,ab,simprocAttr];refine .done (hK _ ?_);clear hK K;refine .az (by decide +kernel) fun K hK =>?_;simp only[Fx,ab,simprocAttr];refine .flat _ (mB n 1 9999) rfl ?_
 try simp only[ab,simprocAttr]
 refine .done (hK _ ?_);clear hK K;refine J.ret ?_;simp only[ab,simprocAttr]
theorem Ob(n:Int):aB Tryz.prog 155 [enc n] (enc (bP 1 9 n)):=by
 refine aB.bu Tryz.func155 QW SO UY (zz0 rfl) (fun hwf W0 D0 E1 =>?_);simp only[Bn,KY,bl];refine .az (by decide +kernel) fun K hK =>?_;simp only[Fy,ab,simprocAttr];refine .done (hK _ ?_);clear hK K;refine .az (by decide +kernel) fun K hK =>?_;simp only[Fz,ab,simprocAttr];refine .flat _ (mB n 1 9) rfl ?_
 try simp only[ab,simprocAttr]
 refine .done (hK _ ?_);clear hK K;refine J.ret ?_;simp only[ab,simprocAttr]
theorem Oc(n:Int):aB Tryz.prog 156 [enc n] (enc (bP 1 99 n)):=by
 refine aB.bu Tryz.func156 QX SP UZ (zz0 rfl) (fun hwf W0 D0 E1 =>?_);simp only[Bo,KZ,bl];refine .az (by decide +kernel) fun K hK =>?_;simp only[FA,ab,simprocAttr];refine .done (hK _ ?_);clear hK K;refine .az (by decide +kernel) fun K hK =>?_;simp only[FB,ab,simprocAttr];refine .flat _ (mB n 1 99) rfl ?_
 try simp only[ab,simprocAttr]
 refine .done (hK _ ?_);clear hK K;refine J.ret ?_;simp only[ab,simprocAttr]
theorem py(n:Int):aB Tryz.prog 75 [enc n] (enc (bP 0 100000 n)):=by
 refine aB.bu Tryz.func75 RV TP VX (zz0 rfl) (fun hwf W0 D0 E1 =>?_);simp only[Co,LZ,bl];refine .az (by decide +kernel) fun K hK =>?_;simp only[Ik,ab,simprocAttr];refine .done (hK _ ?_);clear hK K;refine .az (by decide +kernel) fun K hK =>?_;simp only[Il,ab,simprocAttr];refine .flat _ (kl n 0 100000) rfl ?_
 try simp only[ab,simprocAttr]
 refine .done (hK _ ?_);clear hK K;refine J.ret ?_;simp only[ab,simprocAttr]
theorem zK(x:Item):aB Tryz.prog 115 [enc x] (enc (mR x)):=by
 refine aB.bu Tryz.func115 Qv Sl Uw (zz0 rfl) (fun hwf W0 D0 E1 =>?_);simp only[AS,Kx,bl];refine .az (by decide +kernel) fun K hK =>?_;simp only[Eu,ab,simprocAttr]
 try simp only[dU,ab,simprocAttr]
 refine .done (hK _ ?_);clear hK K;refine .az (by decide +kernel) fun K hK =>?_;simp only[Ev,ab,simprocAttr]
 try simp only[lD,ab,simprocAttr]
 refine .flat _ (mB x.eM 0 5) rfl ?_
 try simp only[ab,simprocAttr]
 cases h1:bP 0 5 x.eM with
 |false =>
  try simp only[ab,simprocAttr]
  refine .done (hK _ ?_);clear hK K;refine J.ret ?_;simp only[ab,simprocAttr];simp[mR,h1]
 |true =>
  try simp only[lD,ab,simprocAttr]
  refine .flat _ (mB x.no 0 9999) rfl ?_
  try simp only[ab,simprocAttr]
  refine .done (hK _ ?_);clear hK K;refine J.ret ?_;simp only[ab,simprocAttr];simp[mR,h1]
theorem zL(x:Item):aB Tryz.prog 116 [enc x] (enc (mR x)):=by
 refine aB.bu Tryz.func116 Qw Sm Ux (zz0 rfl) (fun hwf W0 D0 E1 =>?_);simp only[AT,Ky,bl];refine .az (by decide +kernel) fun K hK =>?_;simp only[Ew,ab,simprocAttr]
 try simp only[dU,ab,simprocAttr]
 refine .done (hK _ ?_);clear hK K;refine .az (by decide +kernel) fun K hK =>?_;simp only[Ey,ab,simprocAttr]
 try simp only[lD,ab,simprocAttr]
 refine .flat _ (kl x.eM 0 5) rfl ?_
 try simp only[ab,simprocAttr]
 cases h1:bP 0 5 x.eM with
 |false =>
  try simp only[ab,simprocAttr]
  refine .done (hK _ ?_);clear hK K;refine J.ret ?_;simp only[ab,simprocAttr];simp[mR,h1]
 |true =>
  try simp only[lD,ab,simprocAttr]
  refine .flat _ (kl x.no 0 9999) rfl ?_
  try simp only[ab,simprocAttr]
  refine .done (hK _ ?_);clear hK K;refine J.ret ?_;simp only[ab,simprocAttr];simp[mR,h1]
def before(a b:Item):Bool:=decide (a.eM<b.eM)||(decide (a.eM=b.eM)&&decide (a.no<b.no))
theorem zN(a b:Item):aB Tryz.prog 119 [enc a,enc b] (enc (before a b)):=by
 refine aB.bu Tryz.func119 Qz Sq UA (zz0 rfl) (fun hwf W0 D0 E1 =>?_);simp only[AW,KB,bl,zz4];refine .az (by decide +kernel) fun K hK =>?_;simp only[EE,ab,simprocAttr]
 try simp only[dU,ab,simprocAttr]
 refine .done (hK _ ?_);clear hK K;refine .az (by decide +kernel) fun K hK =>?_;simp only[EF,ab,simprocAttr]
 try simp only[lD,ab,simprocAttr]
 cases h1:decide (a.eM<b.eM) with
 |true =>
  try simp only[ab,simprocAttr]
  refine .done (hK _ ?_);clear hK K;refine J.ret ?_;simp only[ab,simprocAttr];simp[before,h1]
 |false =>
  try simp only[lD,ab,simprocAttr]
  cases h2:(a.eM==b.eM) with
  |false =>
   try simp only[ab,simprocAttr]
   refine .done (hK _ ?_);clear hK K;refine J.ret ?_;simp only[ab,simprocAttr];simp at h1 h2;simp[before];omega
  |true =>
   try simp only[lD,ab,simprocAttr]
   refine .done (hK _ ?_);clear hK K;refine J.ret ?_;simp only[ab,simprocAttr];simp at h1 h2;simp[before,h2]
def mZ:List Int→Int
 | []=>0
 |x::l=>if x≠0 then x else mZ l
theorem Ka{l:List Int}{i:Nat}(hi:i≤l.length)(h:∀ k,k<i→l.getD k 0=0):mZ (l.drop i)=mZ l:=by
 induction i with
 |zero=>simp
 |succ i ih =>
  have hlt:i<l.length:=by omega
  rw[←ih (by omega) (fun k hk=>h k (by omega)),zv3 hlt];have:=h i (by omega);rw[zz2,zy0 hlt] at this;simp at this;simp[mZ,this]
theorem Od(l:List Int):aB Tryz.prog 158 [enc l] (enc (mZ l)):=by
 refine aB.bu Tryz.func158 QZ SR U1 (zz0 rfl) (fun hwf W0 D0 E1 =>?_);simp only[Bq,K1,bl];have hlen:l.length≤maxLen:=((lE l).1 hwf.1).1;simp only[maxLen] at hlen;refine .az (by decide +kernel) fun K hK =>?_;simp only[FG,ab,simprocAttr];refine .done (hK _ ?_);clear hK K;refine .az (by decide +kernel) fun K hK =>?_;simp only[FH,ab,simprocAttr];refine .done (hK _ ?_);clear hK K;refine J.seq (J.seq ?_);refine .b6 (by decide +kernel) fun K hK =>?_;simp only[FI,ab,simprocAttr]
 try simp only[bB,ab,simprocAttr]
 refine .done (hK _ ?_);clear hK K;try simp only[aG]
 refine J.block (J.loop (fun i:Nat=>au [(3,.int .i64 0),(6,enc l),(7,.int .i64 l.length),(8,.int .i64 i)] []) (fun i=>i≤l.length∧∀ k,k<i→l.getD k 0=0) (fun i=>l.length-i) 0 ⟨zv1 _,by intro k hk;omega⟩ ?_ (fun i hi =>?_))
 ·refine aF.cq ?_ ?_ ?_ ?_ <;>simp[aY,b7,bY,bE,aZ,I.only,bK]
 refine .az (by decide +kernel) fun K hK =>?_;simp only[FJ,ab,simprocAttr];refine .done (hK _ ?_);clear hK K;refine J.seq ?_;refine J.bX ?_;simp only[aq,ab,simprocAttr];refine ⟨fun h =>?_,fun h =>?_⟩
 ·have hlt:i<l.length:=by simpa using h
  refine J.skip ?_;try simp only[aG,simprocAttr]
  refine J.seq (J.block ?_);refine .az (by decide +kernel) fun K hK =>?_;simp only[FK,ab,simprocAttr]
  try simp only[eL 1 hlt rfl,ab,simprocAttr]
  refine .done (hK _ ?_);clear hK K;refine J.seq ?_;refine .b6 (by decide +kernel) fun K hK =>?_;simp only[FL,ab,simprocAttr];refine .done (hK _ ?_);clear hK K;try simp only[aG]
  refine J.bX ?_;simp only[aq,ab,simprocAttr];refine ⟨fun h =>?_,fun h =>?_⟩
  ·refine .az (by decide +kernel) fun K hK =>?_;simp only[FM,ab,simprocAttr];refine .done (hK _ ?_);clear hK K;refine J.ret ?_;simp only[cj,aG,ab,simprocAttr];rw[←Ka hi.1 hi.2,zv3 hlt];simp at h;simp[mZ,h]
  ·refine J.skip ?_;try simp only[aG,cj,simprocAttr]
   refine .b6 (by decide +kernel) fun K hK =>?_;simp only[FN,ab,simprocAttr];refine .done (hK _ ?_);clear hK K;try simp only[aG]
   refine ⟨i+1,⟨by omega,fun k hk =>?_⟩,by omega,?_⟩
   ·by_cases e:k=i
    ·subst e;simp at h;simp[zz2,hlt,h]
    ·exact hi.2 k (by omega)
   ·rw[dI _ (by omega) (by omega)];refine aF.cq ?_ ?_ ?_ ?_ <;>simp[aY,b7,bY,bE,aZ,I.only,bK]
 have hie:i=l.length:=by simp at h;omega
 refine J.exit ?_;try simp only[aG,cj,simprocAttr]
 refine .az (by decide +kernel) fun K hK =>?_;simp only[FO,ab,simprocAttr];refine .done (hK _ ?_);clear hK K;refine J.ret ?_;simp only[ab,simprocAttr];rw[←Ka hi.1 hi.2,hie];simp[mZ]
def oC(a b:Item):Int:=mZ [j4 a.eM b.eM,j4 a.no b.no]
theorem zM(a b:Item):aB Tryz.prog 118 [enc a,enc b] (enc (oC a b)):=by
 refine aB.bu Tryz.func118 Qy Sp Uz (zz0 rfl) (fun hwf W0 D0 E1 =>?_);simp only[AV,KA,bl,zz4];refine .az (by decide +kernel) fun K hK =>?_;simp only[EC,ab,simprocAttr]
 try simp only[dU,ab,simprocAttr]
 refine .done (hK _ ?_);clear hK K;refine .az (by decide +kernel) fun K hK =>?_;simp only[ED,ab,simprocAttr]
 try simp only[lD,ab,simprocAttr]
 refine .flat _ (zS a.eM b.eM) rfl ?_
 try simp only[lD,ab,simprocAttr]
 refine .flat _ (zS a.no b.no) rfl ?_
 try simp only[ab,simprocAttr]
 have hb:iB 1 (some [.int .i64 (j4 a.eM b.eM),.int .i64 (j4 a.no b.no)])=some (enc [j4 a.eM b.eM,j4 a.no b.no]):=nw (ys:=[j4 a.eM b.eM,j4 a.no b.no]) 1 rfl
 try simp only[hb,fg,ab,simprocAttr]
 refine .flat _ (Od _) rfl ?_
 try simp only[ab,simprocAttr]
 refine .done (hK _ ?_);clear hK K;refine J.ret ?_;simp only[ab,simprocAttr];rfl
deriving instance DecidableEq for bL
deriving instance DecidableEq for ar
deriving instance DecidableEq for ao
def iv:bL 6 Int:=⟨List.replicate 6 0,rfl⟩
instance:Inhabited ar:=⟨⟨⟨0,0⟩,0,0,0,0,0,0,0,iv,⟨0,0⟩⟩⟩
instance:Inhabited ao:=⟨⟨0,0,0,0,0,0,0,false,[]⟩⟩
def kU(x:ar):ar where
 dp:=x.dp
 kind:=x.kind
 day:=x.day
 known:=x.known
 cG:=if x.kind=0 then 0 else x.cG
 cm:=if x.kind=1 then x.cm else 0
 cd:=if x.kind=1∨x.kind=2 then x.cd else 0
 bx:=if x.kind=1∨x.kind=3∨x.kind=5 then x.bx else 0
 bA:=if x.kind=4 then x.bA else iv
 hd:=if x.kind=0 then x.hd else ⟨0,0⟩
def j7(x:ar):Bool :=
 if x.kind=0 then (x.day==0)&&(mR x.hd&&((x.hd.eM==x.dp.eM)&&decide (x.hd.no<x.dp.no)))
 else bP 1 9999 x.cG&&(
  if x.kind=1 then bP 1 9 x.cd&&(bP 1 99 x.bx&&(bP 0 9999 x.cm&&(x.cm != x.cG)))
  else if x.kind=2 then bP 1 9 x.cd
  else if x.kind=3∨x.kind=5 then bP 1 99 x.bx
  else if x.kind=4 then mf x.bA
  else decide (x.kind=6))
def fU(x:ar):Bool:=j7 x&&(decide (x=kU x)&&(mR x.dp&&(bP 0 100000 x.day&&bP 0 100000 x.known)))
def ah(l:List ar)(i:Nat):ar:=l.getD i default
def il(l:List ar)(i:Nat):Bool:=fU (ah l i)&&(decide (i=0)||before (ah l (i-1)).dp (ah l i).dp)
def dE(l:List ar):Bool:=decide (l.length≤60)&&(List.range l.length).all (il l)
def eS(known:Int):List ar→List Bool×List Item
 | []=>([],[])
 |x::l =>
  let b:=decide (x.known≤known) && !(eS known l).2.contains x.dp
  (b::(eS known l).1,if b&&decide (x.kind=0) then x.hd::(eS known l).2 else (eS known l).2)
def gE(l:List ar)(known:Int):List Bool:=(eS known l).1
def gF(l:List ar)(known:Int):List Nat:=(List.range l.length).filter fun i=>(gE l known).getD i false
def fJ(key:Nat→Int)(i:Nat)(l:List Nat):List Nat:=(l.takeWhile fun k=>decide (key k≤key i))++i::l.dropWhile fun k=>decide (key k≤key i)
def qu(key:Nat→Int)(l:List Nat):List Nat:=l.foldl (fun o i=>fJ key i o) []
def iZ(l:List ar)(day known:Int):List Nat:=(gF l known).filter fun i=>decide ((ah l i).kind≠0)&&decide ((ah l i).day≤day)
def fH(l:List ar)(day known:Int):List Nat:=qu (fun i=>(ah l i).day) (iZ l day known)
def cI(bs:List ao)(no:Int):Option ao:=bs.find? fun b=>decide (b.no=no)
def mw(bs:List ao)(x:ao):List ao:=bs.map fun b=>if b.no=x.no then x else b
def eH(x:ar):ao:=⟨x.cG,x.cd,x.cm,x.bx,x.bx,x.day,-1,false,[]⟩
def fr(bs:List ao)(x:ar):Bool:=decide (x.cm≤0)||match cI bs x.cm with
 |some d=>decide (d.cd=x.cd) && !(decide (0≤d.cu)&&decide (d.cu<x.day))
 |none=>false
def dG(b:ao)(x:ar):Option ao :=
 if x.kind=3 then (if b.cu≥0∨b.bx=0∨b.bx=x.bx then none else some { b with bx:=x.bx })
 else if x.kind=4 then some { b with bA:=b.bA++[x.bA] }
 else if x.kind=5 then some { b with bx:=x.bx,found:=true }
 else (if b.cu≥0 then none else some { b with cu:=x.day })
def cX(add:List ao→ao→List ao)(bs:List ao)(x:ar):Option (List ao) :=
 if x.kind=1∨x.kind=2 then (if cI bs x.cG=none∧fr bs x=true then some (add bs (eH x)) else none)
 else match cI bs x.cG with
  |none=>none
  |some b=>(dG b x).map (mw bs)
def eE(bs:List ao)(b:ao):List ao:=bs++[b]
def eO(bs:List ao)(b:ao):List ao:=(bs.takeWhile fun a=>decide (a.no≤b.no))++b::bs.dropWhile fun a=>decide (a.no≤b.no)
def gG(add:List ao→ao→List ao)(l:List ar)(s:List ao×List Nat)(i:Nat):List ao×List Nat:=match cX add s.1 (ah l i) with
 |some bs=>(bs,s.2)
 |none=>(s.1,s.2++[i])
def iM(add:List ao→ao→List ao)(l:List ar)(order:List Nat):List ao×List Nat:=order.foldl (gG add l) ([],[])
theorem MO(bs:List ao)(x:ao):(mw bs x).map (·.no)=bs.map (·.no):=by
 simp only[mw,List.map_map];refine List.map_congr_left fun b _ =>?_;simp only[Function.comp];split
 ·rename_i h;exact h.symm
 ·rfl
theorem rh{bs:List ao}{no:Int}{b:ao}(h:cI bs no=some b):b∈bs∧b.no=no:=⟨List.mem_of_find?_eq_some h,by simpa using List.find?_some h⟩
theorem p6{bs:List ao}{no:Int} : cI bs no=none↔no∉bs.map (·.no):=by
 simp[cI]
theorem tu{bs:List ao}(ae:(bs.map (·.no)).Nodup){b:ao}(h:b∈bs):cI bs b.no=some b:=by
 induction bs with
 |nil=>cases h
 |cons a bs ih =>
  simp only[cI,List.find?_cons];simp only[zz9,List.nodup_cons] at ae;by_cases e:a.no=b.no
  ·rcases zx8.1 h with rfl | h
   ·simp
   ·exact absurd (zx2.2 ⟨b,h,e.symm⟩) ae.1
  ·rcases zx8.1 h with rfl | h
   ·exact absurd rfl e
   ·simp only[decide_eq_false e];exact ih ae.2 h
theorem xI{bs cs:List ao}(hp:bs.Perm cs)(ae:(bs.map (·.no)).Nodup)(no:Int):cI bs no=cI cs no:=by
 have hd2:(cs.map (·.no)).Nodup:=(hp.map _).nodup_iff.1 ae;cases h:cI bs no with
 |none =>
  refine (p6.2 fun h2=>p6.1 h ?_).symm;exact (hp.map _).mem_iff.2 h2
 |some b =>
  obtain ⟨h1,rfl⟩:=rh h;exact (tu hd2 (hp.mem_iff.1 h1)).symm
theorem Xa{bs cs:List ao}(hp:bs.Perm cs)(ae:(bs.map (·.no)).Nodup)(x:ar):fr bs x=fr cs x:=by
 simp only[fr,xI hp ae]
def kP(add:List ao→ao→List ao):Prop:=∀ bs b,(add bs b).Perm (b::bs)
theorem qN:kP eE:=fun bs b=>List.perm_append_comm
theorem sA:kP eO:=fun bs b=>by
 have h:(bs.takeWhile fun a=>decide (a.no≤b.no))++(bs.dropWhile fun a=>decide (a.no≤b.no))=bs:=List.takeWhile_append_dropWhile;have:=(List.perm_middle (a:=b) (l₁:=bs.takeWhile fun a=>decide (a.no≤b.no)) (l₂:=bs.dropWhile fun a=>decide (a.no≤b.no)))
 rw[h] at this;exact this
def pA(s t:List ao×List Nat):Prop:=s.1.Perm t.1∧(s.1.map (·.no)).Nodup∧s.2=t.2
theorem vA{add:List ao→ao→List ao}(ha:kP add){bs bs':List ao}{x:ar}(ae:(bs.map (·.no)).Nodup)(h:cX add bs x=some bs'):(bs'.map (·.no)).Nodup:=by
 simp only[cX] at h;split at h
 ·split at h
  ·rename_i h2;simp only[t7] at h;subst h;rw[((ha bs (eH x)).map _).nodup_iff];simp only[zz9,List.nodup_cons];exact ⟨p6.1 h2.1,ae⟩
  ·cases h
 ·split at h
  ·cases h
  ·simp only[zz1] at h;obtain ⟨b',_,rfl⟩:=h;rw[MO];exact ae
theorem PG{add add':List ao→ao→List ao}(ha:kP add)(ha':kP add'){bs cs:List ao}(hp:bs.Perm cs)(ae:(bs.map (·.no)).Nodup)(x:ar) :
  match cX add bs x,cX add' cs x with
  |some b,some c=>b.Perm c
  |none,none=>True
  |_,_=>False:=by
 simp only[cX,xI hp ae,Xa hp ae];by_cases hk:x.kind=1∨x.kind=2
 ·rw[if_pos hk,if_pos hk];by_cases hc:cI cs x.cG=none∧fr cs x=true
  ·rw[if_pos hc,if_pos hc];exact (ha bs _).trans ((hp.cons _).trans (ha' cs _).symm)
  ·rw[if_neg hc,if_neg hc];trivial
 ·rw[if_neg hk,if_neg hk];cases h:cI cs x.cG with
  |none=>trivial
  |some b =>
   simp only;cases dG b x with
   |none=>trivial
   |some b'=>exact hp.map _
theorem alR{add add':List ao→ao→List ao}(ha:kP add)(ha':kP add')(l:List ar){s t:List ao×List Nat}(h:pA s t)(i:Nat):pA (gG add l s i) (gG add' l t i):=by
 obtain ⟨h1,h2,h3⟩:=h;have h4:=PG ha ha' h1 h2 (ah l i);have h5:=fun bs'=>vA (bs':=bs') (x:=ah l i) ha h2;simp only[gG];generalize cX add s.1 (ah l i)=u at h4 h5 ⊢;generalize cX add' t.1 (ah l i)=v at h4 ⊢;cases u <;>cases v <;>simp only at h4 ⊢
 ·exact ⟨h1,h2,by rw[h3]⟩
 ·exact ⟨h4,h5 _ rfl,h3⟩
theorem wK{add add':List ao→ao→List ao}(ha:kP add)(ha':kP add')(l:List ar):∀ (o:List Nat) {s t:List ao×List Nat},pA s t→pA (o.foldl (gG add l) s) (o.foldl (gG add' l) t)
 | [],_,_,h=>h
 |i::o,_,_,h=>wK ha ha' l o (alR ha ha' l h i)
theorem Kk{add add':List ao→ao→List ao}(ha:kP add)(ha':kP add')(l:List ar)(o:List Nat):pA (iM add l o) (iM add' l o):=wK ha ha' l o ⟨.nil,.nil,rfl⟩
def fp(l:List Int):Prop:=l.Pairwise (· < ·)
theorem Pj{bs:List ao}{b:ao}(h:fp (bs.map (·.no)))(hn:b.no∉bs.map (·.no)):fp ((eO bs b).map (·.no)):=by
 induction bs with
 |nil=>simp[eO,fp]
 |cons a bs ih =>
  simp only[zz9,fp,zw9,zx8,not_or] at h hn;by_cases e:a.no≤b.no
  ·have hlt:a.no<b.no:=by omega
   have:eO (a::bs) b=a::eO bs b:=by simp[eO,e]
   rw[this];simp only[zz9,fp,zw9];refine ⟨fun n hm =>?_,ih h.2 hn.2⟩;obtain ⟨c,hc,rfl⟩:=zx2.1 hm;rcases zx8.1 ((sA bs b).mem_iff.1 hc) with rfl | hc
   ·exact hlt
   ·exact h.1 _ (zx2.2 ⟨c,hc,rfl⟩)
  ·have:eO (a::bs) b=b::a::bs:=by simp[eO,e]
   rw[this];simp only[zz9,fp,zw9,zx8];refine ⟨fun n hm =>?_,h.1,h.2⟩;rcases hm with rfl | hm
   ·omega
   ·have:=h.1 n hm;omega
theorem PI{bs bs':List ao}{x:ar}(ae:fp (bs.map (·.no)))(h:cX eO bs x=some bs'):fp (bs'.map (·.no)):=by
 simp only[cX] at h;split at h
 ·split at h
  ·rename_i h2;simp only[t7] at h;subst h;exact Pj ae (p6.1 h2.1)
  ·cases h
 ·split at h
  ·cases h
  ·simp only[zz1] at h;obtain ⟨b',_,rfl⟩:=h;rw[MO];exact ae
theorem alS(l:List ar){s:List ao×List Nat}(h:fp (s.1.map (·.no)))(i:Nat):fp ((gG eO l s i).1.map (·.no)):=by
 simp only[gG];cases h2:cX eO s.1 (ah l i) with
 |none=>exact h
 |some bs=>exact PI h h2
theorem DT(l:List ar):∀ (o:List Nat) {s:List ao×List Nat},fp (s.1.map (·.no))→fp ((o.foldl (gG eO l) s).1.map (·.no))
 | [],_,h=>h
 |i::o,_,h=>DT l o (alS l h i)
theorem akw(l:List ar)(o:List Nat):fp ((iM eO l o).1.map (·.no)):=DT l o List.Pairwise.nil
theorem MB:∀ {l m:List Int},fp l→fp m→(∀ x,x∈l↔x∈m)→l=m
 | [],[],_,_,_=>rfl
 | [],b::m,_,_,h=>by have:=(h b).2 (by simp);cases this
 |a::l,[],_,_,h=>by have:=(h a).1 (by simp);cases this
 |a::l,b::m,h1,h2,h=>by
  simp only[fp,zw9] at h1 h2;have e:a=b:=by
   rcases zx8.1 ((h a).1 (by simp)) with e | e
   ·exact e
   ·rcases zx8.1 ((h b).2 (by simp)) with e2 | e2
    ·exact e2.symm
    ·have:=h1.1 b e2;have:=h2.1 a e;omega
  subst e
  congr 1
  refine MB h1.2 h2.2 fun x=>⟨fun hx =>?_,fun hx =>?_⟩
  ·rcases zx8.1 ((h x).1 (by simp[hx])) with e | e
   ·have:=h1.1 x hx;omega
   ·exact e
  ·rcases zx8.1 ((h x).2 (by simp[hx])) with e | e
   ·have:=h2.1 x hx;omega
   ·exact e
theorem als{n:Nat}{p:List Nat}{sz k total i j:Nat}(h:i≤j)(hj:j≤k)(hk:k≤total):hJ n p sz 0 k total (some (.int .i64 i)) (some (.int .i64 j)) (some (.int .i64 k))=some .de:=by
 simp only[hJ,ig];rw[if_pos ⟨by omega,by omega,by omega,by omega⟩]
theorem MU{n:Nat}{p:List Nat}{sz k total i j:Nat}(h:i≤j)(hk:j≤total)(h0:i<total):hJ n p sz 0 k total (some (.int .i64 i)) (some (.int .i64 j)) none=some (.view n p sz i (j-i)):=by
 simp only[hJ,ig];rw[if_pos ⟨by omega,by omega,by omega⟩,if_neg (by omega)];simp
theorem PD{α:Type}[Enc α]{A:af}{rest:List aC}{esz bytes:Nat}{d:Option Nat}{e:Nat}(z x:I){n l:Nat}{xs ys:List α}(hx:eD A esz x=some (ys.map enc))(hy:ys≠[])(ho:A.o n=some (.box (.agg (xs.map enc))))(hr:l+ys.length≤xs.length) :
  gv A d e esz bytes z x rest (.view n [] esz 0 l)=aA rest ((A.aO n (.box (.agg ((xs.take l++(ys++xs.drop (l+ys.length))).map enc)))).aP d (.view n [] esz 0 (l+ys.length))):=by
 have h1:=qD (A:=A) (esz:=esz) (lo:=0) (k:=l) ho (by omega);have h2:(I.agg (xs.map (enc (α:=α)))).at []=some (.agg (xs.map enc)):=rfl;have h3:I.cU (ys.map (enc (α:=α)))=I.cU (((xs.map (enc (α:=α))).drop l).take ys.length):=by
  rw[←List.map_drop,←List.map_take];exact MS (by rw[zy8,zy9];omega)
 simp only[gv,h1,hx,fq];rw[if_neg (by simpa using hy)];simp only[ho,h2,zy3,zz4];rw[if_pos hr,if_pos ⟨rfl,by rw[zy3,zz4];exact h3⟩];simp only[iP,gp,zy3,zx4,List.map_take,List.map_drop]
theorem Av{α:Type}[Enc α]{A:af}{rest:List aC}{esz bytes:Nat}{d:Option Nat}{e:Nat}(z x:I){n l:Nat}{xs:List α}(hx:eD A esz x=some [])(ho:A.o n=some (.box (.agg (xs.map enc))))(hr:l≤xs.length) :
  gv A d e esz bytes z x rest (.view n [] esz 0 l)=aA rest (A.aP d (.view n [] esz 0 l)):=by
 have h1:=qD (A:=A) (esz:=esz) (lo:=0) (k:=l) ho (by omega);simp only[gv,h1,hx,fq,if_true]
theorem XJ(a b:Int):cv (.i .i64) (enc a) (enc b)=some (a==b):=by simp[fY,cv]
theorem DX:∀ (x y:List Int),x.length=y.length→((x.map (enc (α:=Int))).zip (y.map (enc (α:=Int)))).foldr (fun p acc=>iA (cv (.i .i64) p.1 p.2) acc) (some true)=some (decide (x=y))
 | [],[],_=>by simp
 |a::x,b::y,h=>by
  have ih:=DX x y (by simpa using h);rw[zz9,zz9,List.zip_cons_cons,List.foldr_cons,ih,XJ];by_cases hab:a=b <;>by_cases hxy:x=y <;>simp[iA,hab,hxy]
theorem sZ{n:Nat}(x y:bL n Int):cv (.kr n (.i .i64)) (enc x) (enc y)=some (decide (x.l=y.l)):=by
 change cv (.kr n (.i .i64)) (.agg (x.l.map enc)) (.agg (y.l.map enc))=_
 rw[cv,if_pos ⟨by simp[x.h],by simp[y.h]⟩];exact DX x.l y.l (by rw[x.h,y.h])
theorem Og(n:Int):aB Tryz.prog 162 [enc n] (enc (!bP 0 4 n)):=by
 refine aB.bu Tryz.func162 Q4 SX U6 (zz0 rfl) (fun hwf W0 D0 E1 =>?_);simp only[Bw,K6,bl];refine .az (by decide +kernel) fun K hK =>?_;simp only[F4,ab,simprocAttr];refine .done (hK _ ?_);clear hK K;refine .az (by decide +kernel) fun K hK =>?_;simp only[F5,ab,simprocAttr];refine .flat _ (sf n 0 4) rfl ?_
 try simp only[ab,simprocAttr]
 refine .done (hK _ ?_);clear hK K;refine J.ret ?_;simp only[ab,simprocAttr]
theorem OM(n:Int):aB Tryz.prog 211 [enc n] (enc (!bP 1 31 n)):=by
 refine aB.bu Tryz.func211 Rw Tq Vy (zz0 rfl) (fun hwf W0 D0 E1 =>?_);simp only[BY,Ly,bl];refine .az (by decide +kernel) fun K hK =>?_;simp only[HL,ab,simprocAttr];refine .done (hK _ ?_);clear hK K;refine .az (by decide +kernel) fun K hK =>?_;simp only[HM,ab,simprocAttr];generalize hz:(n==0)=z;cases z
 ·try simp only[ab,simprocAttr]
  refine .flat _ (zT n) rfl ?_
  try simp only[ab,simprocAttr]
  refine .done (hK _ ?_);clear hK K;refine J.ret ?_;simp only[ab,simprocAttr];simp at hz;have e:(0≤n)↔(1≤n):=by omega
  simp[bP,e]
 ·try simp only[ab,simprocAttr]
  refine .done (hK _ ?_);clear hK K;refine J.ret ?_;simp only[ab,simprocAttr];simp at hz;simp[bP,hz]
def nL(p:Int→Bool)(l:List Int):Int:=match l.findIdx? p with
 |some i=>i
 |none=>-1
theorem tc{α:Type}{p:α→Bool}{l:List α}(h:∀ x∈l,p x=false):l.findIdx? p=none:=by
 rw[List.findIdx?_eq_none_iff];exact h
theorem td{α:Type}{p:α→Bool}{l:List α}{i:Nat}(hi:i<l.length)(h:∀ x∈l.take i,p x=false)(hp:p l[i]=true):l.findIdx? p=some i:=by
 rw[List.findIdx?_eq_some_iff_getElem];refine ⟨hi,hp,fun j hj =>?_⟩;have:l[j]∈l.take i:=by
  rw[List.mem_take_iff_getElem];exact ⟨j,by omega,rfl⟩
 simp[h _ this]
theorem Ol(l:List Int)(f:FuncId)(caps:List I)(hcaps:I.eP caps=true)(p:Int→Bool)(hf:∀ x∈l,aB Tryz.prog f (enc x::caps) (enc (p x))):aB Tryz.prog 166 [enc l,.func f caps] (enc (nL p l)):=by
 refine aB.bu Tryz.func166 Q8 S1 Va (zz0 rfl) (fun hwf W0 D0 E1 =>?_);simp only[BA,La,bl,zz4];have hlen:l.length≤maxLen:=((lE l).1 hwf.1).1;simp only[maxLen] at hlen;have hcl:I.bU caps=true:=kZ caps hcaps;have hfc:∀ aD A,bV aD A caps=some caps:=fun aD A=>lf aD A caps hcaps;have hon:∀ q,I.bZ q caps=true:=fun q=>kI q caps hcl;refine .az (by decide +kernel) fun K hK =>?_;simp only[Gd,ab,simprocAttr];refine .done (hK _ ?_);clear hK K;refine J.seq ?_;refine J.seq (J.b6 (by decide +kernel) fun K hK =>?_)
 try simp only[Ge,bB,ab,simprocAttr]
 refine .done (hK _ ?_);clear hK K;refine J.block (J.loop (fun i:Nat=>au [(0,enc l),(1,.func f caps),(7,.int .i64 l.length),(8,.int .i64 i)] []) (fun i=>i≤l.length∧∀ x∈l.take i,p x=false) (fun i=>l.length-i) 0 ⟨zv1 _,by simp⟩ ?_ (fun i hi =>?_))
 ·refine aF.cq ?_ ?_ ?_ ?_ <;>simp[aY,b7,bY,bE,aZ,I.only,bK,hon]
 ·refine .az (by decide +kernel) fun K hK =>?_;simp only[Gf,ab,simprocAttr];refine .done (hK _ ?_);clear hK K;refine J.seq ?_;refine J.bX ?_;simp only[aq,ab,simprocAttr];refine ⟨fun h =>?_,fun h =>?_⟩
  ·have hlt:i<l.length:=by simpa using h
   refine J.skip ?_;try simp only[aG,simprocAttr]
   refine J.seq (J.block ?_);refine .az (by decide +kernel) fun K hK =>?_;simp only[Gg,ab,simprocAttr];refine .done (hK _ ?_);clear hK K;refine .az (by decide +kernel) fun K hK =>?_;simp only[Gh,ab,simprocAttr]
   try simp only[eL 1 hlt rfl,zy1,hfc,ab,simprocAttr]
   refine .flat _ (hf _ (zx6 hlt)) rfl ?_
   try simp only[ab,simprocAttr]
   refine .done (hK _ ?_);clear hK K;refine J.bX ?_;simp only[aq,ab,simprocAttr];refine ⟨fun h =>?_,fun h =>?_⟩
   ·refine .az (by decide +kernel) fun K hK =>?_;simp only[Gi,ab,simprocAttr];refine .done (hK _ ?_);clear hK K;refine J.ret ?_;simp only[cj,aG,ab,simprocAttr];simp[nL,td hlt hi.2 h]
   ·refine J.skip ?_;try simp only[aG,cj,simprocAttr]
    refine .b6 (by decide +kernel) fun K hK =>?_;simp only[Gj,ab,simprocAttr];refine .done (hK _ ?_);clear hK K;try simp only[aG]
    refine ⟨i+1,⟨by omega,fun x hm =>?_⟩,by omega,?_⟩
    ·rw[zy2 hlt] at hm;rcases zy6.1 hm with hm | hm
     ·exact hi.2 x hm
     ·simp at hm;rw[hm];exact h
    ·rw[dI _ (by omega) (by omega)];refine aF.cq ?_ ?_ ?_ ?_ <;>simp[aY,b7,bY,bE,aZ,I.only,bK,hon]
  ·have hge:i=l.length:=by simp at h;omega
   refine J.exit ?_;try simp only[aG,cj,simprocAttr]
   refine .az (by decide +kernel) fun K hK =>?_;simp only[Gk,ab,simprocAttr];refine .done (hK _ ?_);clear hK K;refine J.ret ?_;simp only[ab,simprocAttr];simp[hge] at hi;simp[nL,tc hi]
theorem IW(p:Int→Bool)(l:List Int):decide (0≤nL p l)=l.any p:=by
 unfold nL;cases h:l.findIdx? p with
 |none =>
  rw[List.findIdx?_eq_none_iff] at h;have:l.any p=false:=by rw[List.any_eq_false];intro x hx;simp[h x hx]
  simp[this]
 |some i =>
  rw[List.findIdx?_eq_some_iff_getElem] at h;obtain ⟨h1,h2,_⟩:=h;have:l.any p=true:=by rw[List.any_eq_true];exact ⟨_,zx6 h1,h2⟩
  rw[this];exact decide_eq_true (Int.natCast_nonneg i)
theorem vb(l:List Int)(f:FuncId)(caps:List I)(hcaps:I.eP caps=true)(p:Int→Bool)(hf:∀ x∈l,aB Tryz.prog f (enc x::caps) (enc (p x))):aB Tryz.prog 125 [enc l,.func f caps] (enc (l.any p)):=by
 refine aB.bu Tryz.func125 QF Sx UG (zz0 rfl) (fun hwf W0 D0 E1 =>?_);simp only[A6,KH,bl,zz4];have hcl:I.bU caps=true:=kZ caps hcaps;have hfc:∀ aD A,bV aD A caps=some caps:=fun aD A=>lf aD A caps hcaps;refine .az (by decide +kernel) fun K hK =>?_;simp only[EX,ab,simprocAttr];refine .done (hK _ ?_);clear hK K;refine .az (by decide +kernel) fun K hK =>?_;simp only[EY,ab,simprocAttr]
 try simp only[fg,hfc,ab,simprocAttr]
 refine .flat _ (Ol l f caps hcaps p hf) rfl ?_
 try simp only[ab,simprocAttr]
 refine .done (hK _ ?_);clear hK K;refine J.ret ?_;simp only[ab,simprocAttr];rw[IW]
theorem DG{α:Type}[Enc α]{n sz:Nat}(x:bL n α)(hs:Enc.sz α=sz):kA sz 0 n (some (x.l.map enc))=some (enc x.l):=by
 have h:((x.l.map (enc (α:=α))).drop 0).take n=x.l.map enc:=by
  rw[List.drop_zero,zw8];simp[x.h]
 simp only[kA,h];rw[if_pos (iW x.l),gi,hs]
theorem Nv{α:Type}[Enc α]{n sz:Nat}(x:bL n α)(hs:Enc.sz α=sz)(h1:n≤maxLen)(h0:n≠0)(y:I):pt n sz (x.l.map enc) y=some y:=by
 simp only[pt];rw[if_pos ⟨wB n sz x.l x.h hs,h1,h0⟩]
theorem Ao(p:Int→Bool)(x:bL 6 Int):x.l.any (fun v => !p v) = !(List.range 6).all (fun i=>p (x.g i)):=by
 have h:(List.range 6).all (fun i=>p (x.g i))=x.l.all p:=by
  rw[Bool.eq_iff_iff];simp only[zx9,zw7];constructor
  ·intro h v hv;obtain ⟨i,hi,rfl⟩:=List.getElem_of_mem hv;have:=h i (by rw[x.h] at hi;exact hi)
   rwa [←x.tr (by rw[x.h] at hi;exact hi)] at this
  ·intro h i hi;rw[←x.tr hi];exact h _ (zx6 _)
 rw[h,List.not_all_eq_any_not]
theorem NS(m:bL 6 Int):aB Tryz.prog 123 [enc m] (enc (gm m)):=by
 refine aB.bu Tryz.func123 QD Sv UE (zz0 rfl) (fun hwf W0 D0 E1 =>?_);simp only[A4,KF,bl];refine .az (by decide +kernel) fun K hK =>?_;simp only[ET,ab,simprocAttr];refine .done (hK _ ?_);clear hK K;refine .az (by decide +kernel) fun K hK =>?_;simp only[EU,ab,simprocAttr]
 try simp only[bB,Nv (sz:=1) m rfl (zz0 rfl) (Nat.succ_ne_zero 5),DG (sz:=1) m rfl,ab,simprocAttr]
 refine .flat _ (vb m.l 162 [] rfl (fun n => !bP 0 4 n) (fun x _=>Og x)) rfl ?_
 try simp only[ab,simprocAttr]
 refine .done (hK _ ?_);clear hK K;refine J.ret ?_;simp only[ab,simprocAttr];rw[Ao (bP 0 4)];simp[gm]
theorem OB(m:bL 6 Int):aB Tryz.prog 193 [enc m] (enc (mf m)):=by
 refine aB.bu Tryz.func193 Rl Te Vn (zz0 rfl) (fun hwf W0 D0 E1 =>?_);simp only[BN,Ln,bl];refine .az (by decide +kernel) fun K hK =>?_;simp only[GH,ab,simprocAttr];refine .done (hK _ ?_);clear hK K;refine .az (by decide +kernel) fun K hK =>?_;simp only[GI,ab,simprocAttr]
 try simp only[bB,Nv (sz:=1) m rfl (zz0 rfl) (Nat.succ_ne_zero 5),DG (sz:=1) m rfl,ab,simprocAttr]
 refine .flat _ (vb m.l 211 [] rfl (fun n => !bP 1 31 n) (fun x _=>OM x)) rfl ?_
 try simp only[ab,simprocAttr]
 refine .done (hK _ ?_);clear hK K;refine J.ret ?_;simp only[ab,simprocAttr];rw[Ao (bP 1 31)];simp[mf]
theorem NR(n:Int):aB Tryz.prog 122 [enc n] (enc (bP 1 99 n)):=by
 refine aB.bu Tryz.func122 QC Su UD (zz0 rfl) (fun hwf W0 D0 E1 =>?_);simp only[AZ,KE,bl];refine .az (by decide +kernel) fun K hK =>?_;simp only[ER,ab,simprocAttr];refine .done (hK _ ?_);clear hK K;refine .az (by decide +kernel) fun K hK =>?_;simp only[ES,ab,simprocAttr];refine .flat _ (sf n 1 99) rfl ?_
 try simp only[ab,simprocAttr]
 refine .done (hK _ ?_);clear hK K;refine J.ret ?_;simp only[ab,simprocAttr]
theorem zR(m:bL 6 Int):aB Tryz.prog 157 [enc m] (enc (if mf m then (0:Int) else 12)):=by
 refine aB.bu Tryz.func157 QY SQ U0 (zz0 rfl) (fun hwf W0 D0 E1 =>?_);simp only[Bp,K0,bl];refine .az (by decide +kernel) fun K hK =>?_;simp only[FC,ab,simprocAttr];refine .done (hK _ ?_);clear hK K;refine J.seq (J.seq ?_);refine .b6 (by decide +kernel) fun K hK =>?_;simp only[FD,ab,simprocAttr]
 try simp only[ew,fg,ab,simprocAttr]
 refine .flat _ (OB m) rfl ?_;generalize hm:mf m=b;cases b
 ·try simp only[ab,simprocAttr]
  refine .done (hK _ ?_);clear hK K;try simp only[aG]
  refine J.bX ?_;simp only[aq,ab,simprocAttr];refine ⟨fun h =>?_,fun h =>?_⟩
  ·refine .az (by decide +kernel) fun K hK =>?_;simp only[FE,ab,simprocAttr];refine .done (hK _ ?_);clear hK K;refine J.ret ?_;simp only[aG,ab,simprocAttr];simp[hm]
  ·cases h
 ·try simp only[ab,simprocAttr]
  refine .done (hK _ ?_);clear hK K;refine J.bX ?_;simp only[aq,ab,simprocAttr];refine ⟨fun h =>?_,fun h =>?_⟩
  ·cases h
  ·refine J.skip ?_;try simp only[aG,simprocAttr]
   refine .az (by decide +kernel) fun K hK =>?_;simp only[FF,ab,simprocAttr];refine .done (hK _ ?_);clear hK K;refine J.ret ?_;simp only[ab,simprocAttr];simp[hm]
def xQ(s:Int)(k:Nat):Bool:=oz (s.fdiv (2^min k IntKind.i64.bits)) 1==1
theorem Of(s:Int)(k:Nat):aB Tryz.prog 161 [enc s,enc (k:Int)] (enc (xQ s k)):=by
 refine aB.bu Tryz.func161 Q3 SW U5 (zz0 rfl) (fun hwf W0 D0 E1 =>?_);simp only[Bv,K5,bl,zz4];refine .az (by decide +kernel) fun K hK =>?_;simp only[F2,ab,simprocAttr];refine .done (hK _ ?_);clear hK K;refine .az (by decide +kernel) fun K hK =>?_;simp only[F3,ab,simprocAttr];refine .done (hK _ ?_);clear hK K;refine J.ret ?_;simp only[ab,simprocAttr];rfl
theorem ahG(s:Int)(h0:0≤s)(h1:s≤31)(k:Nat)(hk:k<5):xQ s k=kV s k:=by
 have key:∀ s:Fin 32,∀ k:Fin 5,xQ (s.1:Int) k.1=kV (s.1:Int) k.1:=by decide +kernel
 have:=key ⟨s.toNat,by omega⟩ ⟨k,hk⟩;simpa[Int.toNat_of_nonneg h0] using this
theorem NQ(m:bL 5 Int):aB Tryz.prog 120 [enc m] (enc (qp m)):=by
 refine aB.bu Tryz.func120 QA Sr UB (zz0 rfl) (fun hwf W0 D0 E1 =>?_);simp only[AX,KC,bl];refine .az (by decide +kernel) fun K hK =>?_;simp only[EG,ab,simprocAttr];refine .done (hK _ ?_);clear hK K;refine J.seq ?_;refine J.seq (J.b6 (by decide +kernel) fun K hK =>?_)
 try simp only[EH,ew,ab,simprocAttr]
 refine .done (hK _ ?_);clear hK K;refine J.block (J.loop (fun i:Nat=>au [(2,.bool false),(6,enc m),(7,.int .i64 i)] []) (fun j=>j≤5∧∀ i,i<j→(bP 0 31 (m.g i)&&kV (m.g i) i)=true) (fun i=>5-i) 0 ⟨by omega,fun k h=>by omega⟩ ?_ (fun i hi =>?_))
 ·refine aF.cq ?_ ?_ ?_ ?_ <;>simp[aY,b7,bY,bE,aZ,I.only,bK]
 ·refine .az (by decide +kernel) fun K hK =>?_;simp only[EI,ab,simprocAttr];refine .done (hK _ ?_);clear hK K;refine J.seq ?_;refine J.bX ?_;simp only[aq,ab,simprocAttr];refine ⟨fun h =>?_,fun h =>?_⟩
  ·have hlt:i<5:=by simp at h;omega
   refine J.skip ?_;try simp only[aG,simprocAttr]
   refine J.seq (J.block ?_);refine .az (by decide +kernel) fun K hK =>?_;simp only[EJ,ab,simprocAttr]
   try simp only[ry,bB,oM 1 m hlt rfl,tv m hlt,ab,simprocAttr]
   refine .done (hK _ ?_);clear hK K;refine .az (by decide +kernel) fun K hK =>?_;simp only[EK,ab,simprocAttr];refine .done (hK _ ?_);clear hK K;refine .az (by decide +kernel) fun K hK =>?_;simp only[EL,ab,simprocAttr];refine .flat _ (zT _) rfl ?_;generalize hb:bP 0 31 (m.g i)=b;cases b
   ·try simp only[ab,simprocAttr]
    refine .done (hK _ ?_);clear hK K;refine J.bX ?_;simp only[aq,ab,simprocAttr];refine ⟨fun h =>?_,fun h =>?_⟩
    ·refine .az (by decide +kernel) fun K hK =>?_;simp only[wP,ab,simprocAttr];refine .done (hK _ ?_);clear hK K;refine J.ret ?_;simp only[cj,aG,ab,simprocAttr];rw[qp,nq i hlt];simp[hb]
    ·cases h
   ·have hr:0≤m.g i∧m.g i≤31:=by simpa[bP] using hb
    try simp only[ab,simprocAttr]
    refine .flat _ (Of (m.g i) i) rfl ?_;rw[ahG _ hr.1 hr.2 i hlt]
    try simp only[ab,simprocAttr]
    refine .done (hK _ ?_);clear hK K;refine J.bX ?_;simp only[aq,ab,simprocAttr];refine ⟨fun h =>?_,fun h =>?_⟩
    ·refine .az (by decide +kernel) fun K hK =>?_;simp only[wP,ab,simprocAttr];refine .done (hK _ ?_);clear hK K;refine J.ret ?_;simp only[cj,aG,ab,simprocAttr];rw[qp,nq i hlt];simp at h;simp[h]
    ·refine J.skip ?_;try simp only[aG,cj,simprocAttr]
     refine .b6 (by decide +kernel) fun K hK =>?_;simp only[EM,ab,simprocAttr];refine .done (hK _ ?_);clear hK K;try simp only[aG]
     refine ⟨i+1,⟨by omega,fun k hk =>?_⟩,by omega,?_⟩
     ·by_cases hk':k=i
      ·subst hk';simp at h;simp[hb,h]
      ·exact hi.2 k (by omega)
     ·rw[dI _ (by omega) (by omega)];refine aF.cq ?_ ?_ ?_ ?_ <;>simp[aY,b7,bY,bE,aZ,I.only,bK]
  ·have hge:i=5:=by simp at h;omega
   subst hge;refine J.exit ?_;try simp only[aG,cj,simprocAttr]
   refine .az (by decide +kernel) fun K hK =>?_;simp only[EN,ab,simprocAttr];refine .done (hK _ ?_);clear hK K;refine J.ret ?_;simp only[ab,simprocAttr];rw[qp,pE hi.2]
theorem zX(f:FuncId)(caps:List I)(hcaps:I.eP caps=true)(p:Nat→Bool)(hf:∀ i:Nat,i<6→aB Tryz.prog f (enc (i:Int)::caps) (enc (p i))):aB Tryz.prog 197 [.func f caps] (enc (j5 (fun i => !p i) 6:Int)):=by
 refine aB.bu Tryz.func197 Rp Ti Vr (zz0 rfl) (fun hwf W0 D0 E1 =>?_);simp only[BR,Lr,bl];have hcl:I.bU caps=true:=kZ caps hcaps;have hfc:∀ aD A,bV aD A caps=some caps:=fun aD A=>lf aD A caps hcaps;have hon:∀ q,I.bZ q caps=true:=fun q=>kI q caps hcl;refine .az (by decide +kernel) fun K hK =>?_;simp only[GW,ab,simprocAttr];refine .done (hK _ ?_);clear hK K;refine .az (by decide +kernel) fun K hK =>?_;simp only[GX,ab,simprocAttr];refine .done (hK _ ?_);clear hK K;refine J.seq ?_;refine .az (by decide +kernel) fun K hK =>?_;simp only[GY,ab,simprocAttr];refine .done (hK _ ?_);clear hK K;refine J.block (J.loop (fun i:Nat=>au [(0,.func f caps),(3,.int .i64 (j5 (fun i => !p i) i:Int)),(5,.int .i64 i)] []) (fun i=>i≤6∧j5 (fun i => !p i) i≤i) (fun i=>6-i) 0 ⟨by omega,by simp[j5]⟩ ?_ (fun i hi =>?_))
 ·refine aF.cq ?_ ?_ ?_ ?_ <;>simp[aY,b7,bY,bE,aZ,I.only,hon,j5]
 ·refine .az (by decide +kernel) fun K hK =>?_;simp only[GZ,ab,simprocAttr];refine .done (hK _ ?_);clear hK K;refine J.seq ?_;refine J.bX ?_;simp only[aq,ab,simprocAttr];refine ⟨fun h =>?_,fun h =>?_⟩
  ·have hlt:i<6:=by simp at h;omega
   refine J.skip ?_;try simp only[aG,simprocAttr]
   refine J.seq (J.block ?_);refine .az (by decide +kernel) fun K hK =>?_;simp only[G0,ab,simprocAttr];refine .done (hK _ ?_);clear hK K;refine .az (by decide +kernel) fun K hK =>?_;simp only[G1,ab,simprocAttr]
   try simp only[zy1,hfc,ab,simprocAttr]
   refine .flat _ (hf i hlt) rfl ?_
   try simp only[ab,simprocAttr]
   refine .done (hK _ ?_);clear hK K;refine J.bX ?_;simp only[aq,ab,simprocAttr];refine ⟨fun h =>?_,fun h =>?_⟩
   ·simp at h;refine .b6 (by decide +kernel) fun K hK =>?_;simp only[G2,ab,simprocAttr];refine .done (hK _ ?_);clear hK K;try simp only[aG,cj]
    refine .b6 (by decide +kernel) fun K hK =>?_;simp only[xm,ab,simprocAttr];refine .done (hK _ ?_);clear hK K;try simp only[aG]
    refine ⟨i+1,⟨by omega,?_⟩,by omega,?_⟩
    ·simp only[j5];split <;>omega
    ·rw[dI _ (by omega) (by omega),dI _ (by omega) (by omega)];refine aF.cq ?_ ?_ ?_ ?_ <;>simp[aY,b7,bY,bE,aZ,I.only,hon,j5,h]
   ·simp at h;refine J.skip ?_;try simp only[aG,cj,simprocAttr]
    refine .b6 (by decide +kernel) fun K hK =>?_;simp only[xm,ab,simprocAttr];refine .done (hK _ ?_);clear hK K;try simp only[aG]
    refine ⟨i+1,⟨by omega,?_⟩,by omega,?_⟩
    ·simp only[j5];split <;>omega
    ·rw[dI _ (by omega) (by omega)];refine aF.cq ?_ ?_ ?_ ?_ <;>simp[aY,b7,bY,bE,aZ,I.only,hon,j5,h]
  ·have hge:i=6:=by simp at h;omega
   subst hge;refine J.exit ?_;try simp only[aG,cj,simprocAttr]
   refine .az (by decide +kernel) fun K hK =>?_;simp only[G3,ab,simprocAttr];refine .done (hK _ ?_);clear hK K;refine J.ret ?_;simp only[ab,simprocAttr]
theorem ON(w:bL 5 Int)(m r:bL 6 Int)(hm:gm m=true)(i:Nat)(hi:i<6):aB Tryz.prog 212 (enc (i:Int)::[.ref (.func 196 []),.ref (enc w),.ref (enc m),.ref (enc r)]) (enc (!sR w m r i)):=by
 obtain ⟨h0,h5⟩:=yC hm hi;refine aB.bu Tryz.func212 Rx Tr Vz (zz0 rfl) (fun hwf W0 D0 E1 =>?_);simp only[BZ,Lz,bl,zz4,Nat.reduceAdd];refine .az (by decide +kernel) fun K hK =>?_;simp only[HN,ab,simprocAttr];refine .done (hK _ ?_);clear hK K;refine .az (by decide +kernel) fun K hK =>?_;simp only[HO,ab,simprocAttr]
 try simp only[ew,fg,ab,simprocAttr]
 refine .flat _ (vg w m i hi h0 h5) rfl ?_
 try simp only[bB,oM 1 r hi rfl,rp,tv r hi,zx5,ab,simprocAttr]
 refine .flat _ (zW _ _) rfl ?_
 try simp only[ab,simprocAttr]
 refine .done (hK _ ?_);clear hK K;refine J.ret ?_;simp only[ab,simprocAttr];simp[sR,bne]
theorem OC(w:bL 5 Int)(a b:bL 6 Int)(ha:gm a=true)(hb:gm b=true)(i:Nat)(hi:i<6):aB Tryz.prog 198 (enc (i:Int)::[.ref (.func 196 []),.ref (enc w),.ref (enc a),.ref (enc b)]) (enc (!qP w a b i)):=by
 obtain ⟨h0,h5⟩:=yC ha hi;obtain ⟨k0,k5⟩:=yC hb hi;refine aB.bu Tryz.func198 Rq Tj Vs (zz0 rfl) (fun hwf W0 D0 E1 =>?_);simp only[BS,Ls,bl,zz4,Nat.reduceAdd];refine .az (by decide +kernel) fun K hK =>?_;simp only[G4,ab,simprocAttr];refine .done (hK _ ?_);clear hK K;refine .az (by decide +kernel) fun K hK =>?_;simp only[G5,ab,simprocAttr]
 try simp only[ew,fg,ab,simprocAttr]
 refine .flat _ (vg w a i hi h0 h5) rfl ?_
 try simp only[ew,fg,ab,simprocAttr]
 refine .flat _ (vg w b i hi k0 k5) rfl ?_
 try simp only[zx5,ab,simprocAttr]
 refine .flat _ (zW _ _) rfl ?_
 try simp only[ab,simprocAttr]
 refine .done (hK _ ?_);clear hK K;refine J.ret ?_;simp only[ab,simprocAttr];simp[qP,bne]
theorem M7{A:af}{n:Nat}{b:I}{f:FuncId}{caps:List I}{rest:List aC} : dj A none n [] b (.func f caps) rest (some .dh)=aA rest (A.aO n (.box (b.dM [] (.func f caps)))):=ee rfl rfl (by simp[I.aS])
theorem OG(w:bL 5 Int)(m r:bL 6 Int)(hm:gm m=true):aB Tryz.prog 202 [enc w,enc m,enc r] (enc (mI w m r)):=by
 refine aB.bu Tryz.func202 Ru Tn Vw (zz0 rfl) (fun hwf W0 D0 E1 =>?_);simp only[BW,Lw,bl,zz4,Nat.reduceAdd];refine .az (by decide +kernel) fun K hK =>?_;simp only[Hi,ab,simprocAttr]
 try simp only[dU,ab,simprocAttr]
 refine .done (hK _ ?_);clear hK K;refine .az (by decide +kernel) fun K hK =>?_;simp only[Hj,ab,simprocAttr]
 try simp only[M7,ab,simprocAttr]
 refine .done (hK _ ?_);clear hK K;refine .az (by decide +kernel) fun K hK =>?_;simp only[Hk,ab,simprocAttr]
 try simp only[List.all_cons,List.all_nil,I.cn,zw3,ec,ab,simprocAttr]
 refine .flat _ (zX 212 [.ref (.func 196 []),.ref (enc w),.ref (enc m),.ref (enc r)] ?_ (fun i => !sR w m r i) (fun i hi=>ON w m r hm i hi)) rfl ?_
 ·simp only[I.eP,I.done,I.bj,I.bU,ec,zw3]
 try simp only[ab,simprocAttr]
 refine .done (hK _ ?_);clear hK K;refine J.ret ?_;simp only[ab,simprocAttr];simp only[mI,Bool.not_not]
theorem Oj(w:bL 5 Int)(a b:bL 6 Int)(ha:gm a=true)(hb:gm b=true):aB Tryz.prog 165 [enc w,enc a,enc b] (enc (j5 (qP w a b) 6:Int)):=by
 refine aB.bu Tryz.func165 Q7 S0 U9 (zz0 rfl) (fun hwf W0 D0 E1 =>?_);simp only[Bz,K9,bl,zz4,Nat.reduceAdd];refine .az (by decide +kernel) fun K hK =>?_;simp only[Ga,ab,simprocAttr]
 try simp only[dU,ab,simprocAttr]
 refine .done (hK _ ?_);clear hK K;refine .az (by decide +kernel) fun K hK =>?_;simp only[Gb,ab,simprocAttr]
 try simp only[M7,ab,simprocAttr]
 refine .done (hK _ ?_);clear hK K;refine .az (by decide +kernel) fun K hK =>?_;simp only[Gc,ab,simprocAttr]
 try simp only[List.all_cons,List.all_nil,I.cn,zw3,ec,ab,simprocAttr]
 refine .flat _ (zX 198 [.ref (.func 196 []),.ref (enc w),.ref (enc a),.ref (enc b)] ?_ (fun i => !qP w a b i) (fun i hi=>OC w a b ha hb i hi)) rfl ?_
 ·simp only[I.eP,I.done,I.bj,I.bU,ec,zw3]
 try simp only[ab,simprocAttr]
 refine .done (hK _ ?_);clear hK K;refine J.ret ?_;simp only[ab,simprocAttr];simp only[Bool.not_not]
theorem Oi(m:cP)(g:cF)(k:bL 6 Int)(hg:gm g.mark=true)(hk:gm k=true):aB Tryz.prog 164 (enc g::[.ref (enc m),.ref (enc k)]) (enc (oh m g.mark k)):=by
 refine aB.bu Tryz.func164 Q6 SZ U8 (zz0 rfl) (fun hwf W0 D0 E1 =>?_);simp only[By,K8,bl,zz4,Nat.reduceAdd];refine .az (by decide +kernel) fun K hK =>?_;simp only[F8,ab,simprocAttr]
 try simp only[dU,ab,simprocAttr]
 refine .done (hK _ ?_);clear hK K;refine .az (by decide +kernel) fun K hK =>?_;simp only[F9,ab,simprocAttr]
 try simp only[ew,fg,ab,simprocAttr]
 refine .flat _ (Oj m.gH g.mark k hg hk) rfl ?_
 try simp only[ew,ab,simprocAttr]
 refine .done (hK _ ?_);clear hK K;refine J.ret ?_;simp only[ab,simprocAttr];rfl
theorem vf(l:List cF)(f:FuncId)(caps:List I)(hcaps:I.eP caps=true)(p:cF→Bool)(hf:∀ x∈l,aB Tryz.prog f (enc x::caps) (enc (p x))):aB Tryz.prog 195 [enc l,.func f caps] (enc (match l.findIdx? p with | some i=>(i:Int) | none=>-1)):=by
 refine aB.bu Tryz.func195 Rn Tg Vp (zz0 rfl) (fun hwf W0 D0 E1 =>?_);simp only[BP,Lp,bl,zz4];have hlen:l.length≤maxLen:=((lE l).1 hwf.1).1;simp only[maxLen] at hlen;have hcl:I.bU caps=true:=kZ caps hcaps;have hfc:∀ aD A,bV aD A caps=some caps:=fun aD A=>lf aD A caps hcaps;have hon:∀ q,I.bZ q caps=true:=fun q=>kI q caps hcl;refine .az (by decide +kernel) fun K hK =>?_;simp only[GL,ab,simprocAttr];refine .done (hK _ ?_);clear hK K;refine J.seq ?_;refine J.seq (J.b6 (by decide +kernel) fun K hK =>?_)
 try simp only[GM,bB,ab,simprocAttr]
 refine .done (hK _ ?_);clear hK K;refine J.block (J.loop (fun i:Nat=>au [(0,enc l),(1,.func f caps),(7,.int .i64 l.length),(8,.int .i64 i)] []) (fun i=>i≤l.length∧∀ x∈l.take i,p x=false) (fun i=>l.length-i) 0 ⟨zv1 _,by simp⟩ ?_ (fun i hi =>?_))
 ·refine aF.cq ?_ ?_ ?_ ?_ <;>simp[aY,b7,bY,bE,aZ,I.only,bK,hon]
 ·refine .az (by decide +kernel) fun K hK =>?_;simp only[GN,ab,simprocAttr];refine .done (hK _ ?_);clear hK K;refine J.seq ?_;refine J.bX ?_;simp only[aq,ab,simprocAttr];refine ⟨fun h =>?_,fun h =>?_⟩
  ·have hlt:i<l.length:=by simpa using h
   refine J.skip ?_;try simp only[aG,simprocAttr]
   refine J.seq (J.block ?_);refine .az (by decide +kernel) fun K hK =>?_;simp only[GO,ab,simprocAttr];refine .done (hK _ ?_);clear hK K;refine .az (by decide +kernel) fun K hK =>?_;simp only[GP,ab,simprocAttr]
   try simp only[eL 7 hlt rfl,ew,zy1,hfc,fg,ab,simprocAttr]
   refine .flat _ (hf _ (zx6 hlt)) rfl ?_
   try simp only[ab,simprocAttr]
   refine .done (hK _ ?_);clear hK K;refine J.bX ?_;simp only[aq,ab,simprocAttr];refine ⟨fun h =>?_,fun h =>?_⟩
   ·refine .az (by decide +kernel) fun K hK =>?_;simp only[GQ,ab,simprocAttr];refine .done (hK _ ?_);clear hK K;refine J.ret ?_;simp only[cj,aG,ab,simprocAttr];simp[td hlt hi.2 h]
   ·refine J.skip ?_;try simp only[aG,cj,simprocAttr]
    refine .b6 (by decide +kernel) fun K hK =>?_;simp only[GR,ab,simprocAttr];refine .done (hK _ ?_);clear hK K;try simp only[aG]
    refine ⟨i+1,⟨by omega,fun x hm =>?_⟩,by omega,?_⟩
    ·rw[zy2 hlt] at hm;rcases zy6.1 hm with hm | hm
     ·exact hi.2 x hm
     ·simp at hm;rw[hm];exact h
    ·rw[dI _ (by omega) (by omega)];refine aF.cq ?_ ?_ ?_ ?_ <;>simp[aY,b7,bY,bE,aZ,I.only,bK,hon]
  ·have hge:i=l.length:=by simp at h;omega
   refine J.exit ?_;try simp only[aG,cj,simprocAttr]
   refine .az (by decide +kernel) fun K hK =>?_;simp only[GS,ab,simprocAttr];refine .done (hK _ ?_);clear hK K;refine J.ret ?_;simp only[ab,simprocAttr];simp[hge] at hi;simp[tc hi]
theorem Yj{α:Type}(p:α→Bool)(l:List α):decide (0≤(match l.findIdx? p with | some i=>(i:Int) | none=>-1))=l.any p:=by
 cases h:l.findIdx? p with
 |none =>
  rw[List.findIdx?_eq_none_iff] at h;have:l.any p=false:=by rw[List.any_eq_false];intro x hx;simp[h x hx]
  simp[this]
 |some i =>
  rw[List.findIdx?_eq_some_iff_getElem] at h;obtain ⟨h1,h2,_⟩:=h;have:l.any p=true:=by rw[List.any_eq_true];exact ⟨_,zx6 h1,h2⟩
  rw[this];exact decide_eq_true (Int.natCast_nonneg i)
theorem Oh(l:List cF)(f:FuncId)(caps:List I)(hcaps:I.eP caps=true)(p:cF→Bool)(hf:∀ x∈l,aB Tryz.prog f (enc x::caps) (enc (p x))):aB Tryz.prog 163 [enc l,.func f caps] (enc (l.any p)):=by
 refine aB.bu Tryz.func163 Q5 SY U7 (zz0 rfl) (fun hwf W0 D0 E1 =>?_);simp only[Bx,K7,bl,zz4];have hcl:I.bU caps=true:=kZ caps hcaps;have hfc:∀ aD A,bV aD A caps=some caps:=fun aD A=>lf aD A caps hcaps;refine .az (by decide +kernel) fun K hK =>?_;simp only[F6,ab,simprocAttr];refine .done (hK _ ?_);clear hK K;refine .az (by decide +kernel) fun K hK =>?_;simp only[F7,ab,simprocAttr]
 try simp only[fg,hfc,ab,simprocAttr]
 refine .flat _ (vf l f caps hcaps p hf) rfl ?_
 try simp only[ab,simprocAttr]
 refine .done (hK _ ?_);clear hK K;refine J.ret ?_;simp only[ab,simprocAttr];rw[Yj]
theorem zO(m:cP)(l:List cF)(k:bL 6 Int)(hl:∀ g∈l,gm g.mark=true)(hk:gm k=true):aB Tryz.prog 124 [enc m,enc l,enc k] (enc (!l.any fun g=>oh m g.mark k)):=by
 refine aB.bu Tryz.func124 QE Sw UF (zz0 rfl) (fun hwf W0 D0 E1 =>?_);simp only[A5,KG,bl,zz4,Nat.reduceAdd];refine .az (by decide +kernel) fun K hK =>?_;simp only[EV,ab,simprocAttr]
 try simp only[dU,ab,simprocAttr]
 refine .done (hK _ ?_);clear hK K;refine .az (by decide +kernel) fun K hK =>?_;simp only[EW,ab,simprocAttr]
 try simp only[List.all_cons,List.all_nil,I.cn,zw3,ec,fg,ab,simprocAttr]
 refine .flat _ (Oh l 164 [.ref (enc m),.ref (enc k)] ?_ (fun g=>oh m g.mark k) (fun g hg=>Oi m g k (hl g hg) hk)) rfl ?_
 ·simp only[I.eP,I.done,ec,zw3]
 try simp only[ab,simprocAttr]
 refine .done (hK _ ?_);clear hK K;refine J.ret ?_;simp only[ab,simprocAttr]
theorem zr{α:Type}[Enc α]{A:af}(esz:Nat){l:List α}{i:Nat}(h:i≤l.length)(hs:Enc.sz α=esz):ng A esz none (some (.int .i64 i)) none (enc l)=some (enc (l.take i)):=by
 simp only[ng,gi,hs,if_true,jV,ig,zy3];rw[if_pos ⟨by omega,by omega,by omega,by omega⟩];simp
theorem Aq(m:cP)(k:bL 6 Int){i:Nat}(h:i≤m.given.length):(!(m.given.take i).any fun g=>oh m g.mark k)=(List.range i).all (fun j => !oh m (eG m j).mark k):=by
 rw[Bool.eq_iff_iff];simp only[Bool.not_eq_true',List.any_eq_false,zx9,zw7];constructor
 ·intro h1 j hj;have hjl:j<m.given.length:=by omega
  have:=h1 m.given[j] (by rw[List.mem_take_iff_getElem];exact ⟨j,by omega,rfl⟩);rw[lg hjl] at this;simpa using this
 ·intro h1 g hg;rw[List.mem_take_iff_getElem] at hg;obtain ⟨j,hj,rfl⟩:=hg;have hjl:j<m.given.length:=by omega
  rw[lg hjl];simpa using h1 j (by omega)
theorem vk(m:cP):aB Tryz.prog 66 [enc m] (enc (if gR m then (0:Int) else 13)):=by
 refine aB.bu Tryz.func66 RO TI VQ (zz0 rfl) (fun hwf W0 D0 E1 =>?_);simp only[Ch,LR,bl];refine .az (by decide +kernel) fun K hK =>?_;simp only[H7,ab,simprocAttr]
 try simp only[dU,ab,simprocAttr]
 refine .done (hK _ ?_);clear hK K;refine J.seq (J.seq ?_);refine .b6 (by decide +kernel) fun K hK =>?_;simp only[H8,ab,simprocAttr]
 try simp only[ew,fg,ab,simprocAttr]
 refine .flat _ (NQ m.gH) rfl ?_;generalize hw:qp m.gH=bw;cases bw
 ·try simp only[ab,simprocAttr]
  refine .done (hK _ ?_);clear hK K;try simp only[aG]
  refine J.bX ?_;simp only[aq,ab,simprocAttr];refine ⟨fun h =>?_,fun h =>?_⟩
  ·refine .az (by decide +kernel) fun K hK =>?_;simp only[tm,ab,simprocAttr];refine .done (hK _ ?_);clear hK K;refine J.ret ?_;simp only[aG,ab,simprocAttr];simp[gR,hw]
  ·cases h
 try simp only[ew,ab,simprocAttr]
 refine .flat _ (sf m.gW 0 2) rfl ?_;generalize hf:bP 0 2 m.gW=bf;cases bf
 ·try simp only[ab,simprocAttr]
  refine .done (hK _ ?_);clear hK K;refine J.bX ?_;simp only[aq,ab,simprocAttr];refine ⟨fun h =>?_,fun h =>?_⟩
  ·refine .az (by decide +kernel) fun K hK =>?_;simp only[tm,ab,simprocAttr];refine .done (hK _ ?_);clear hK K;refine J.ret ?_;simp only[aG,ab,simprocAttr];simp[gR,hw,hf]
  ·cases h
 try simp only[ew,bB,ab,simprocAttr]
 refine .done (hK _ ?_);clear hK K;refine J.bX ?_;simp only[aq,ab,simprocAttr];refine ⟨fun h =>?_,fun h =>?_⟩
 ·refine .az (by decide +kernel) fun K hK =>?_;simp only[tm,ab,simprocAttr];refine .done (hK _ ?_);clear hK K;refine J.ret ?_;simp only[aG,ab,simprocAttr];have:¬ m.given.length≤40:=by simp at h;omega
  simp[gR,hw,hf,this]
 have hlen:m.given.length≤40:=by simp at h;omega
 refine J.skip ?_;try simp only[aG,simprocAttr]
 refine J.seq (J.seq ?_);refine J.b6 (by decide +kernel) fun K hK =>?_
 try simp only[H9,ew,bB,ab,simprocAttr]
 refine .done (hK _ ?_);clear hK K;refine J.block (J.loop (fun i:Nat=>au [(1,.ptr 1 []),(22,enc m.given),(23,.int .i64 m.given.length),(24,.int .i64 i)] [(1,.box (enc m))]) (fun i=>i≤m.given.length∧∀ j,j<i→jn m j=true) (fun i=>m.given.length-i) 0 ⟨by omega,fun k h=>by omega⟩ ?_ (fun i hi =>?_))
 ·refine aF.cq ?_ ?_ ?_ ?_ <;>simp[aY,b7,bY,bE,av,aZ,cZ,I.only,aj.only,bK]
 refine .az (by decide +kernel) fun K hK =>?_;simp only[Ia,ab,simprocAttr];refine .done (hK _ ?_);clear hK K;refine J.seq ?_;refine J.bX ?_;simp only[aq,ab,simprocAttr];refine ⟨fun h =>?_,fun h =>?_⟩
 case refine_2.refine_2 =>
  have hge:i=m.given.length:=by simp at h;omega
  subst hge;refine J.exit ?_;try simp only[aG,cj,simprocAttr]
  refine .az (by decide +kernel) fun K hK =>?_;simp only[Ie,ab,simprocAttr];refine .done (hK _ ?_);clear hK K;refine J.ret ?_;simp only[ab,simprocAttr];have:(List.range m.given.length).all (jn m)=true:=pE hi.2;simp[gR,hw,hf,this,hlen]
 have hlt:i<m.given.length:=by simpa using h
 refine J.skip ?_;try simp only[aG,simprocAttr]
 refine J.seq (J.block ?_);refine .az (by decide +kernel) fun K hK =>?_;simp only[Ib,ab,simprocAttr]
 try simp only[ew,Jb hlt,ab,simprocAttr]
 rw[ee (dU _) (by rw[fZ];rfl) ((eQ _).trans rfl)]
 try simp only[ab,simprocAttr]
 refine .done (hK _ ?_);clear hK K;have nu:∀ b,jn m i=b→b=false→(if gR m then (0:Int) else 13)=13:=fun b h1 h2=>by
  have:(List.range m.given.length).all (jn m)=false:=nq i hlt (by rw[h1,h2]);simp[gR,this]
 have htake:∀ g∈m.given.take i,gm g.mark=true:=fun g hg=>by
  rw[List.mem_take_iff_getElem] at hg;obtain ⟨j,hj,rfl⟩:=hg;have hjl:j<m.given.length:=by omega
  rw[lg hjl];exact JS (hi.2 j (by omega))
 refine .az (by decide +kernel) fun K hK =>?_;simp only[Ic,ab,simprocAttr]
 try simp only[ew,ab,simprocAttr]
 refine .flat _ (NR (eG m i).bx) rfl ?_;generalize ho:bP 1 99 (eG m i).bx=bo;cases bo
 ·try simp only[ab,simprocAttr]
  refine .done (hK _ ?_);clear hK K;refine J.bX ?_;simp only[aq,ab,simprocAttr];refine ⟨fun h =>?_,fun h =>?_⟩
  ·refine .az (by decide +kernel) fun K hK =>?_;simp only[p5,ab,simprocAttr];refine .done (hK _ ?_);clear hK K;refine J.ret ?_;simp only[cj,aG,ab,simprocAttr];rw[nu _ rfl (by simp[jn,ho])]
  ·cases h
 try simp only[ew,fg,ab,simprocAttr]
 refine .flat _ (NS (eG m i).mark) rfl ?_;generalize hk:gm (eG m i).mark=bk;cases bk
 ·try simp only[ab,simprocAttr]
  refine .done (hK _ ?_);clear hK K;refine J.bX ?_;simp only[aq,ab,simprocAttr];refine ⟨fun h =>?_,fun h =>?_⟩
  ·refine .az (by decide +kernel) fun K hK =>?_;simp only[p5,ab,simprocAttr];refine .done (hK _ ?_);clear hK K;refine J.ret ?_;simp only[cj,aG,ab,simprocAttr];rw[nu _ rfl (by simp[jn,ho,hk])]
  ·cases h
 try simp only[ab,simprocAttr]
 generalize hz:decide (0<(i:Int))=bz;cases bz
 ·have hprev:(i==0||decide ((eG m (i-1)).bx<(eG m i).bx))=true:=by simp at hz;simp[hz]
  try simp only[ew,ab,simprocAttr]
  try simp only[ew,fg,zr 7 (Nat.le_of_lt hlt) rfl,Option.map_none,ab,simprocAttr]
  refine .flat _ (zO m (m.given.take i) (eG m i).mark htake hk) rfl ?_;rw[Aq m (eG m i).mark (Nat.le_of_lt hlt)];generalize hap:(List.range i).all (fun j => !oh m (eG m j).mark (eG m i).mark)=ba;cases ba
  ·try simp only[ab,simprocAttr]
   refine .done (hK _ ?_);clear hK K;refine J.bX ?_;simp only[aq,ab,simprocAttr];refine ⟨fun h =>?_,fun h =>?_⟩
   ·refine .az (by decide +kernel) fun K hK =>?_;simp only[p5,ab,simprocAttr];refine .done (hK _ ?_);clear hK K;refine J.ret ?_;simp only[cj,aG,ab,simprocAttr];rw[nu _ rfl (by simp only[jn,hap,Bool.and_false])]
   ·cases h
  ·try simp only[ab,simprocAttr]
   refine .done (hK _ ?_);clear hK K;refine J.bX ?_;simp only[aq,ab,simprocAttr];refine ⟨fun h =>?_,fun h =>?_⟩
   ·cases h
   refine J.skip ?_;try simp only[aG,cj,simprocAttr]
   refine .b6 (by decide +kernel) fun K hK =>?_;simp only[xv,ab,simprocAttr];refine .done (hK _ ?_);clear hK K;try simp only[aG]
   refine ⟨i+1,⟨by omega,fun k hk' =>?_⟩,by omega,?_⟩
   ·by_cases hki:k=i
    ·rw[hki];simp only[jn,ho,hk,hprev,hap,zw3]
    ·exact hi.2 k (by omega)
   ·rw[dI _ (by omega) (by omega)];refine aF.cq ?_ ?_ ?_ ?_ <;>simp[aY,b7,bY,bE,av,aZ,cZ,I.only,aj.only,bK]
 ·have hpos:0<i:=by simpa using hz
  have hpl:i-1<m.given.length:=by omega
  have hpred:IntKind.i64.wrap ((i:Int)-1)=((i-1:Nat):Int):=by rw[dI _ (by omega) (by omega)];omega
  try simp only[ew,hpred,Jb hpl,ab,simprocAttr]
  generalize hq:decide ((eG m i).bx≤(eG m (i-1)).bx)=bq;cases bq
  ·have hprev:(i==0||decide ((eG m (i-1)).bx<(eG m i).bx))=true:=by simp at hq;simp;omega
   try simp only[ew,ab,simprocAttr]
   try simp only[ew,fg,zr 7 (Nat.le_of_lt hlt) rfl,Option.map_none,ab,simprocAttr]
   refine .flat _ (zO m (m.given.take i) (eG m i).mark htake hk) rfl ?_;rw[Aq m (eG m i).mark (Nat.le_of_lt hlt)];generalize hap:(List.range i).all (fun j => !oh m (eG m j).mark (eG m i).mark)=ba;cases ba
   ·try simp only[ab,simprocAttr]
    refine .done (hK _ ?_);clear hK K;try simp only[aG,cj]
    refine J.bX ?_;simp only[aq,ab,simprocAttr];refine ⟨fun h =>?_,fun h =>?_⟩
    ·refine .az (by decide +kernel) fun K hK =>?_;simp only[p5,ab,simprocAttr];refine .done (hK _ ?_);clear hK K;refine J.ret ?_;simp only[cj,aG,ab,simprocAttr];rw[nu _ rfl (by simp only[jn,hap,Bool.and_false])]
    ·cases h
   ·try simp only[ab,simprocAttr]
    refine .done (hK _ ?_);clear hK K;refine J.bX ?_;simp only[aq,ab,simprocAttr];refine ⟨fun h =>?_,fun h =>?_⟩
    ·cases h
    refine J.skip ?_;try simp only[aG,cj,simprocAttr]
    refine .b6 (by decide +kernel) fun K hK =>?_;simp only[xv,ab,simprocAttr];refine .done (hK _ ?_);clear hK K;try simp only[aG]
    refine ⟨i+1,⟨by omega,fun k hk' =>?_⟩,by omega,?_⟩
    ·by_cases hki:k=i
     ·rw[hki];simp only[jn,ho,hk,hprev,hap,zw3]
     ·exact hi.2 k (by omega)
    ·rw[dI _ (by omega) (by omega)];refine aF.cq ?_ ?_ ?_ ?_ <;>simp[aY,b7,bY,bE,av,aZ,cZ,I.only,aj.only,bK]
  ·try simp only[ab,simprocAttr]
   refine .done (hK _ ?_);clear hK K;try simp only[aG,cj]
   refine J.bX ?_;simp only[aq,ab,simprocAttr];refine ⟨fun h =>?_,fun h =>?_⟩
   ·refine .az (by decide +kernel) fun K hK =>?_;simp only[p5,ab,simprocAttr];refine .done (hK _ ?_);clear hK K;refine J.ret ?_;simp only[cj,aG,ab,simprocAttr];have:(i==0||decide ((eG m (i-1)).bx<(eG m i).bx))=false:=by simp at hq;simp;omega
    rw[nu _ rfl (by simp only[jn,this,Bool.and_false,Bool.false_and])]
   ·cases h
theorem OE(f:FuncId)(caps:List I)(hcaps:I.eP caps=true):aB Tryz.prog 200 [enc ([]:List cF),.func f caps] (enc ([]:List cF)):=by
 refine aB.bu Tryz.func200 CK CR C5 (zz0 rfl) (fun hwf W0 D0 E1 =>?_);simp only[vK,yV,bl,zz4];have hcl:I.bU caps=true:=kZ caps hcaps;have hfc:∀ aD A,bV aD A caps=some caps:=fun aD A=>lf aD A caps hcaps;refine .az (by decide +kernel) fun K hK =>?_;simp only[xn,ab,simprocAttr];refine .done (hK _ ?_);clear hK K;refine .az (by decide +kernel) fun K hK =>?_;simp only[xp,ab,simprocAttr]
 try simp only[fg,hfc,ab,simprocAttr]
 refine .flat _ (vf [] f caps hcaps (fun _=>false) (fun x hx=>by cases hx)) rfl ?_
 try simp only[List.findIdx?_nil,ab,simprocAttr]
 refine .done (hK _ ?_);clear hK K;refine J.seq (J.seq ?_);refine .b6 (by decide +kernel) fun K hK =>?_;simp only[tk,ab,simprocAttr];refine .done (hK _ ?_);clear hK K;try simp only[aG]
 refine J.bX ?_;simp only[aq,ab,simprocAttr];refine ⟨fun h =>?_,fun h =>?_⟩
 ·refine .az (by decide +kernel) fun K hK =>?_;simp only[xr,ab,simprocAttr];refine .done (hK _ ?_);clear hK K;refine J.ret ?_;simp only[aG,ab,simprocAttr]
  try simp only[fg,ab,simprocAttr]
 ·cases h
def fQ(p:cF→Bool)(l:List cF):List cF:=l.filter fun x => !p x
def Db(k:Nat)(l:List cF):cV:=fun r os'=>∃ m,r=.view k [] 7 0 l.length∧os'=iO k l m
theorem yJ(p:Nat→Bool)(m:Nat)(x:cF):I.bZ p (List.replicate m (enc x))=true:=by
 have:List.replicate m (enc x)=(List.replicate m x).map (enc (α:=cF)):=by simp
 rw[this];exact eI p _
theorem akb(p:Nat→Bool)(xs:List cF)(i:Nat)(v:cF):I.bZ p ((xs.map enc).set i (enc v))=true:=by
 rw[←List.map_set];exact eI p _
theorem zb{xs:List cF}{m j:Nat}(h:j<xs.length):((xs++List.replicate m gj).map (enc (α:=cF)))[0+j]?=some (enc xs[j]):=by
 rw[zz4,zw5,zx0 h,zy0 h];rfl
theorem alb{xs:List cF}{m i:Nat}(h:i<xs.length)(v:cF):((xs++List.replicate m gj).map (enc (α:=cF))).set (0+i) (enc v)=(xs.set i v++List.replicate m gj).map enc:=by
 rw[zz4,←List.map_set,List.set_append_left _ _ h]
theorem zG(l:List cF)(m:Nat):(l++List.replicate m gj).take l.length=l:=List.take_left
theorem wE(p:cF→Bool)(l:List cF){j:Nat}(h:j<l.length):fQ p (l.take (j+1))=fQ p (l.take j)++(if p l[j] then [] else [l[j]]):=by
 rw[zy2 h];simp only[fQ,List.filter_append,zw1,zv5];cases p l[j] <;>simp
theorem OD(l:List cF)(f:FuncId)(caps:List I)(hcaps:I.eP caps=true)(p:cF→Bool)(hf:∀ x∈l,aB Tryz.prog f (enc x::caps) (enc (p x)))(hlen:l.length≤1000)(m:Nat) :
  cH Tryz.prog 200 [.view 1000000 [] 7 0 l.length,.func f caps] (iO 1000000 l m) (Db 1000000 (fQ p l)):=by
 refine cH.bu Tryz.func200 CK CR C5 (zz0 rfl) (zz0 rfl) (fun m hm=>by rw[dA.1 hm];exact zz8 _) (fun hwf W0 D0 E1 =>?_);simp only[vK,yV,bl,zz4];have hcl:I.bU caps=true:=kZ caps hcaps;have hfc:∀ aD A,bV aD A caps=some caps:=fun aD A=>lf aD A caps hcaps;have hon:∀ q,I.bZ q caps=true:=fun q=>kI q caps hcl;simp only[iO];refine .az (by decide +kernel) fun K hK =>?_;simp only[xn,ab,simprocAttr];refine .done (hK _ ?_);clear hK K;refine .az (by decide +kernel) fun K hK =>?_;simp only[xp,ab,simprocAttr]
 try simp only[hfc,ta (α:=cF) (sz:=7) rfl,zG,ab,simprocAttr]
 refine .flat _ (vf l f caps hcaps p hf) rfl ?_
 try simp only[ab,simprocAttr]
 refine .done (hK _ ?_);clear hK K;generalize hfi:l.findIdx? p=fi;cases fi with
 |none =>
  rw[List.findIdx?_eq_none_iff] at hfi;have hk:fQ p l=l:=by
   simp only[fQ,List.filter_eq_self];intro x hx;simp[hfi x hx]
  refine J.seq (J.seq ?_);refine .b6 (by decide +kernel) fun K hK =>?_;simp only[tk,ab,simprocAttr];refine .done (hK _ ?_);clear hK K;try simp only[aG]
  refine J.bX ?_;simp only[aq,ab,simprocAttr];refine ⟨fun h =>?_,fun h =>?_⟩
  ·refine .az (by decide +kernel) fun K hK =>?_;simp only[xr,ab,simprocAttr];refine .done (hK _ ?_);clear hK K;refine J.ret ?_;simp only[aG,fV];rw[hk];exact ⟨iO 1000000 l m,[.view 1000000 [] 7 0 l.length],nF rfl (fun p=>mT p _),⟨⟨_,rfl,.inl ⟨rfl,rfl,rfl⟩⟩,trivial⟩,m,rfl,rfl⟩
  ·cases h
 |some i0 =>
  obtain ⟨q1,q2,q3⟩:=List.findIdx?_eq_some_iff_getElem.1 hfi;have hstart:l.take i0=fQ p (l.take (i0+1)):=by
   rw[wE p l q1,q2];simp only[if_true,zx5,fQ]
   symm
   rw[List.filter_eq_self];intro x hx;rw[List.mem_take_iff_getElem] at hx;obtain ⟨j,hj,rfl⟩:=hx;have:=q3 j (by omega);simpa using this
  refine J.seq (J.seq ?_);refine .b6 (by decide +kernel) fun K hK =>?_;simp only[tk,ab,simprocAttr];refine .done (hK _ ?_);clear hK K;try simp only[aG]
  refine J.bX ?_;simp only[aq,ab,simprocAttr];refine ⟨fun h =>?_,fun h =>?_⟩
  ·simp at h
  refine J.skip ?_;try simp only[aG,simprocAttr]
  refine J.seq (J.seq ?_);refine .b6 (by decide +kernel) fun K hK =>?_;simp only[Ha,ab,simprocAttr];refine .done (hK _ ?_);clear hK K;try simp only[aG]
  refine J.block (J.loop (fun s:List cF×Nat×Nat=>au [(0,.view 1000000 [] 7 0 l.length),(1,.func f caps),(5,.int .i64 s.2.1),(6,.int .i64 s.2.2)] [(1000000,.box (.agg ((s.1++List.replicate m gj).map enc)))])
   (fun s=>s.1.length=l.length∧s.2.1<s.2.2∧s.2.2≤l.length∧s.1.take s.2.1=fQ p (l.take s.2.2)∧s.1.drop s.2.2=l.drop s.2.2) (fun s=>l.length-s.2.2) (l,i0,i0+1) ⟨rfl,by simp only;omega,by simp only;omega,hstart,rfl⟩ ?_ ?_)
  ·rw[dI _ (by omega) (by omega)];refine aF.cq ?_ ?_ ?_ ?_ <;>simp[aY,b7,bY,bE,av,aZ,cZ,I.only,aj.only,eI,jO,hon,yJ]
  ·rintro ⟨xs,i,j⟩ ⟨c1,c2,c3,jG,jZ⟩;simp only at c1 c2 c3 jG jZ ⊢;refine J.seq (J.seq ?_);refine .b6 (by decide +kernel) fun K hK =>?_;simp only[Hb,ab,simprocAttr]
   try simp only[dn,ab,simprocAttr]
   refine .done (hK _ ?_);clear hK K;try simp only[aG]
   refine J.bX ?_;simp only[aq,ab,simprocAttr];refine ⟨fun h =>?_,fun h =>?_⟩
   ·have hj:j<l.length:=by simpa using h
    have hjx:j<xs.length:=by omega
    have hix:i<xs.length:=by omega
    have hxj:xs[j]=l[j]:=by
     have h1:(xs.drop j)[0]?=(l.drop j)[0]?:=by rw[jZ]
     simpa[hj,hjx] using h1
    refine J.skip ?_;try simp only[aG,simprocAttr]
    refine J.seq (J.block ?_);refine .az (by decide +kernel) fun K hK =>?_;simp only[Hc,ab,simprocAttr]
    try simp only[dn,x2 (sz:=7) hj,zy7,ab,simprocAttr]
    try simp only[zb hjx,hxj,ew,ab,simprocAttr]
    rw[ee (dU _) (by rw[fZ];rfl) ((eQ _).trans rfl)]
    try simp only[ab,simprocAttr]
    refine .done (hK _ ?_);clear hK K;refine .az (by decide +kernel) fun K hK =>?_;simp only[Hd,ab,simprocAttr]
    try simp only[ew,fg,hfc,zy1,zy7,ab,simprocAttr]
    refine .flat _ (hf _ (zx6 hj)) rfl ?_
    try simp only[ab,simprocAttr]
    refine .done (hK _ ?_);clear hK K;refine J.bX ?_;simp only[aq,ab,simprocAttr];refine ⟨fun h =>?_,fun h =>?_⟩
    ·have hpj:p l[j]=false:=by simpa using h
     refine .az (by decide +kernel) fun K hK =>?_;simp only[He,ab,simprocAttr]
     try simp only[ew,dn,x2 (sz:=7) (show i<l.length by omega),zy7,ab,simprocAttr]
     try simp only[zb hix,ab,simprocAttr]
     rw[ee (dU _) (by rw[fZ];rfl) ((eQ _).trans (eQ _).symm)]
     try simp only[zb hix,alb hix,ab,simprocAttr]
     refine .done (hK _ ?_);clear hK K;refine .b6 (by decide +kernel) fun K hK =>?_;simp only[Hf,ab,simprocAttr];refine .done (hK _ ?_);clear hK K;try simp only[aG,cj]
     refine .b6 (by decide +kernel) fun K hK =>?_;simp only[xq,ab,simprocAttr];refine .done (hK _ ?_);clear hK K;try simp only[aG]
     refine ⟨(xs.set i l[j],i+1,j+1),⟨by simp[c1],by simp only;omega,by simp only;omega,?_,?_⟩,by simp only;omega,?_⟩
     ·simp only;rw[wE p l hj,hpj,←jG];simp only[zz6,if_false];rw[zy2 (by simpa using hix),List.take_set_of_le (zz8 _)];simp
     ·simp only;rw[List.drop_set_of_lt (by omega)];have:(xs.drop j).drop 1=(l.drop j).drop 1:=by rw[jZ]
      simpa[List.drop_drop] using this
     ·simp only;rw[dI _ (by omega) (by omega),dI _ (by omega) (by omega)];refine aF.cq ?_ ?_ ?_ ?_ <;>simp[aY,b7,bY,bE,av,aZ,cZ,I.only,aj.only,jO,hon,yJ,akb]
    ·have hpj:p l[j]=true:=by simpa using h
     refine J.skip ?_;try simp only[aG,cj,simprocAttr]
     refine .b6 (by decide +kernel) fun K hK =>?_;simp only[xq,ab,simprocAttr];refine .done (hK _ ?_);clear hK K;try simp only[aG]
     refine ⟨(xs,i,j+1),⟨c1,by simp only;omega,by simp only;omega,?_,?_⟩,by simp only;omega,?_⟩
     ·simp only;rw[wE p l hj,hpj,←jG];simp
     ·simp only;have:(xs.drop j).drop 1=(l.drop j).drop 1:=by rw[jZ]
      simpa[List.drop_drop] using this
     ·simp only;rw[dI _ (by omega) (by omega)];refine aF.cq ?_ ?_ ?_ ?_ <;>simp[aY,b7,bY,bE,av,aZ,cZ,I.only,aj.only,eI,jO,hon,yJ]
   ·have hj:j=l.length:=by simp at h;omega
    subst hj;rw[List.take_length] at jG;have hlk:(fQ p l).length=i:=by rw[←jG,zy8];omega
    have htot:((xs++List.replicate m gj).map (enc (α:=cF))).length=l.length+m:=by simp[c1]
    refine J.exit ?_;try simp only[aG,cj,simprocAttr]
    refine .az (by decide +kernel) fun K hK =>?_;simp only[G8,ab,simprocAttr]
    try simp only[dn,htot,Option.map_none,zu (show i≤l.length by omega) (show l.length≤l.length+m by omega) (show i<l.length+m by omega),wo,ab,simprocAttr]
    rw[vV gj rfl (by simp[c1];omega)];have hcont:(xs++List.replicate m gj).take i++(List.replicate (l.length-i) gj++(xs++List.replicate m gj).drop (i+(l.length-i)))=fQ p l++List.replicate (l.length-i+m) gj:=by
     rw[zw6 (by omega),jG];have e1:i+(l.length-i)=xs.length:=by omega
     rw[e1,List.drop_left,List.replicate_append_replicate]
    rw[hcont]
    try simp only[ab,simprocAttr]
    refine .done (hK _ ?_);clear hK K;have htot2:((fQ p l++List.replicate (l.length-i+m) gj).map (enc (α:=cF))).length=l.length+m:=by simp[hlk];omega
    refine .az (by decide +kernel) fun K hK =>?_;simp only[G9,ab,simprocAttr]
    try simp only[dn,htot2,Option.map_none,zt (show i≤l.length+m by omega) (show 0<l.length+m by omega),ab,simprocAttr]
    refine .done (hK _ ?_);clear hK K;refine J.ret ?_;simp only[fV];exact ⟨iO 1000000 (fQ p l) (l.length-i+m),[.view 1000000 [] 7 0 i],nF rfl (fun p=>mT p _),⟨⟨_,rfl,.inl ⟨rfl,rfl,rfl⟩⟩,trivial⟩,l.length-i+m,by rw[hlk];rfl,rfl⟩
def qf(a:Item)(k d kn b:Int):ar:=⟨a,k,d,kn,b,0,0,0,iv,⟨0,0⟩⟩
theorem Dj:I.agg [.agg [.int .i64 0,.int .i64 0],.int .i64 0,.int .i64 0,.int .i64 0,.int .i64 0,.int .i64 0,.int .i64 0,.int .i64 0,.agg [.int .i64 0,.int .i64 0,.int .i64 0,.int .i64 0,.int .i64 0,.int .i64 0],.agg [.int .i64 0,.int .i64 0]]=enc (qf ⟨0,0⟩ 0 0 0 0):=rfl
theorem AJ(a:Item)(k d kn b:Int):(eJ [.agg [.int .i64 0,.int .i64 0],.int .i64 0,.int .i64 0,.int .i64 0,.int .i64 0,.int .i64 0,.int .i64 0,.int .i64 0,.agg [.int .i64 0,.int .i64 0,.int .i64 0,.int .i64 0,.int .i64 0,.int .i64 0],.agg [.int .i64 0,.int .i64 0]] [(0,enc a),(1,.int .i64 k),(2,.int .i64 d),(3,.int .i64 kn),(4,.int .i64 b)]).map .agg=some (enc (qf a k d kn b)):=by
 simp[eJ,I.cn,I.size,I.sizes,ja,sY];rfl
theorem AI(a:Item)(k d kn:Int):(eJ [.agg [.int .i64 0,.int .i64 0],.int .i64 0,.int .i64 0,.int .i64 0,.int .i64 0,.int .i64 0,.int .i64 0,.int .i64 0,.agg [.int .i64 0,.int .i64 0,.int .i64 0,.int .i64 0,.int .i64 0,.int .i64 0],.agg [.int .i64 0,.int .i64 0]] [(0,enc a),(1,.int .i64 k),(2,.int .i64 d),(3,.int .i64 kn)]).map .agg=some (enc (qf a k d kn 0)):=by
 simp[eJ,I.cn,I.size,I.sizes,ja,sY];rfl
theorem M3(A:af)(n:Nat)(b:I)(x y:ar)(rest:List aC):dj A (some 17) n [] b (enc x) rest (some (enc y))=aA rest (A.aO n (.box (enc x))):=ee (dU _) (JX x) ((eQ x).trans (eQ y).symm)
theorem pn(A:af)(n:Nat)(p:List Nat)(b:I)(k:IntKind)(x y:Int)(rest:List aC):dj A none n p b (.int k x) rest (some (.int k y))=aA rest (A.aO n (.box (b.dM p (.int k x)))):=ee rfl rfl rfl
theorem alB(A:af)(n:Nat)(p:List Nat)(b:I)(x y:bL 6 Int)(rest:List aC):dj A (some 6) n p b (enc x) rest (some (enc y))=aA rest (A.aO n (.box (b.dM p (enc x)))):=ee (dU _) (JW x) ((eQ x).trans (eQ y).symm)
theorem Na(A:af)(n:Nat)(p:List Nat)(b:I)(x y:Item)(rest:List aC):dj A (some 2) n p b (enc x) rest (some (enc y))=aA rest (A.aO n (.box (b.dM p (enc x)))):=ee (dU _) (JY x) ((eQ x).trans (eQ y).symm)
theorem MQ :
  (∀ (A:af) (n:Nat) (rest:List aC) (e:ar) v y,dj A (some 2) n [0] (enc e) (enc (v:Item)) rest (some (enc (y:Item)))=aA rest (A.aO n (.box (enc { e with dp:=v })))) ∧
  (∀ (A:af) (n:Nat) (rest:List aC) (e:ar) v y,dj A none n [1] (enc e) (.int .i64 v) rest (some (.int .i64 y))=aA rest (A.aO n (.box (enc { e with kind:=v })))) ∧
  (∀ (A:af) (n:Nat) (rest:List aC) (e:ar) v y,dj A none n [2] (enc e) (.int .i64 v) rest (some (.int .i64 y))=aA rest (A.aO n (.box (enc { e with day:=v })))) ∧
  (∀ (A:af) (n:Nat) (rest:List aC) (e:ar) v y,dj A none n [3] (enc e) (.int .i64 v) rest (some (.int .i64 y))=aA rest (A.aO n (.box (enc { e with known:=v })))) ∧
  (∀ (A:af) (n:Nat) (rest:List aC) (e:ar) v y,dj A none n [4] (enc e) (.int .i64 v) rest (some (.int .i64 y))=aA rest (A.aO n (.box (enc { e with cG:=v })))) ∧
  (∀ (A:af) (n:Nat) (rest:List aC) (e:ar) v y,dj A none n [5] (enc e) (.int .i64 v) rest (some (.int .i64 y))=aA rest (A.aO n (.box (enc { e with cm:=v })))) ∧
  (∀ (A:af) (n:Nat) (rest:List aC) (e:ar) v y,dj A none n [6] (enc e) (.int .i64 v) rest (some (.int .i64 y))=aA rest (A.aO n (.box (enc { e with cd:=v })))) ∧
  (∀ (A:af) (n:Nat) (rest:List aC) (e:ar) v y,dj A none n [7] (enc e) (.int .i64 v) rest (some (.int .i64 y))=aA rest (A.aO n (.box (enc { e with bx:=v })))) ∧
  (∀ (A:af) (n:Nat) (rest:List aC) (e:ar) v y,dj A (some 6) n [8] (enc e) (enc (v:bL 6 Int)) rest (some (enc (y:bL 6 Int)))=aA rest (A.aO n (.box (enc { e with bA:=v })))) ∧
  (∀ (A:af) (n:Nat) (rest:List aC) (e:ar) v y,dj A (some 2) n [9] (enc e) (enc (v:Item)) rest (some (enc (y:Item)))=aA rest (A.aO n (.box (enc { e with hd:=v })))) :=
 ⟨fun _ _ _ _ _ _=>by rw[Na];rfl,fun _ _ _ _ _ _=>by rw[pn];rfl,fun _ _ _ _ _ _=>by rw[pn];rfl,fun _ _ _ _ _ _=>by rw[pn];rfl,fun _ _ _ _ _ _=>by rw[pn];rfl,fun _ _ _ _ _ _=>by rw[pn];rfl,fun _ _ _ _ _ _=>by rw[pn];rfl,fun _ _ _ _ _ _=>by rw[pn];rfl,fun _ _ _ _ _ _=>by rw[alB];rfl,fun _ _ _ _ _ _=>by rw[Na];rfl⟩
theorem NJ(x y:bL 6 Int):x=y↔x.l=y.l:=by cases x;cases y;simp
theorem amq(p q:Prop)[Decidable p][Decidable q]:iA (some (decide p)) (some (decide q))=some (decide (p∧q)):=by simp[iA]
theorem Dq(a b:Int):cv (.i .i64) (.int .i64 a) (.int .i64 b)=some (decide (a=b)):=by simp[cv];rfl
theorem Dp(x y:ar):cv (.br [(.br [(.i .i64),(.i .i64)]),(.i .i64),(.i .i64),(.i .i64),(.i .i64),(.i .i64),(.i .i64),(.i .i64),(.kr 6 (.i .i64)),(.br [(.i .i64),(.i .i64)])]) (enc x) (enc y)=some (decide (x=y)):=by
 obtain ⟨a1,k1,d1,n1,b1,m1,s1,o1,r1,f1⟩:=x;obtain ⟨a2,k2,d2,n2,b2,m2,s2,o2,dP,f2⟩:=y
 show cv _ (.agg [enc a1,.int .i64 k1,.int .i64 d1,.int .i64 n1,.int .i64 b1,.int .i64 m1,.int .i64 s1,.int .i64 o1,enc r1,enc f1]) (.agg [enc a2,.int .i64 k2,.int .i64 d2,.int .i64 n2,.int .i64 b2,.int .i64 m2,.int .i64 s2,.int .i64 o2,enc dP,enc f2])=_
 have hr:cv (.kr 6 (.i .i64)) (enc r1) (enc dP)=some (decide (r1=dP)):=by
  rw[sZ]
  congr 1
  exact decide_eq_decide.2 (NJ r1 dP).symm
 rw[cv];simp only[jb,qX,Dq,hr,ar.mk.injEq];simp[iA]
theorem aN:(type_of% @lD)∧(type_of% @nT)∧(type_of% @kH)∧(∀ {α:Type} [Enc α] (aD:Bool) (A:af) (x:α),a6 aD A (enc x)=some (enc x))∧(∀ {α:Type} [Enc α] (x:α),(enc x).cn=true)∧(type_of% @Dj)∧(type_of% @AJ)∧(type_of% @AI)∧(type_of% @M3) ∧
  (type_of% @MQ)∧(type_of% @Dp)∧(type_of% @qX)∧(∀ (a:Nat) l m,(a::l)++m=a::(l++m))∧(∀ b:Bool,((if b=true then (0:Int) else 12)==0)=b)∧(∀ b:Bool,((if b=true then (0:Int) else 12) != 0) = !b) :=
 ⟨lD,nT,kH,@fg,@dU,Dj,AJ,AI,M3,MQ,Dp,qX,fun _ _ _=>rfl,fun b=>by cases b <;>rfl,fun b=>by cases b <;>rfl⟩
theorem O3(x:ar):aB Tryz.prog 84 [enc x] (enc (kU x)):=by
 refine aB.bu Tryz.func84 R0 TU V2 (zz0 rfl) (fun hwf W0 D0 E1 =>?_);simp only[Ct,L4,bl];have R:=u8 @aN @ab
 repeat' ((first |(with_reducible refine .guard (fun hb =>?_) (fun hb =>?_) <;>try simp only[hb])|refine J.aI (by decide +kernel) rfl fun K hK =>?_|(refine .ay [0,1,2,3,15,24,25,36,41,47] hK ?_;clear hK K)|(with_reducible refine .done (hK _ ?_);clear hK K)|refine J.of rfl ?_|(with_reducible refine aq.aH (fun h =>?_) (fun h =>?_) <;>try simp only[h])) <;>try simp only[aK,R,simprocAttr])
 all_goals clear R
 all_goals (congr 1;simp_all[kU,qf])
theorem u9(x:ar):aB Tryz.prog 117 [enc x] (enc (fU x)):=by
 refine aB.bu Tryz.func117 Qx Sn Uy (zz0 rfl) (fun hwf W0 D0 E1 =>?_);simp only[AU,Kz,bl];refine .az (by decide +kernel) fun K hK =>?_;simp only[Ez,ab,simprocAttr]
 try simp only[aN,ab,simprocAttr]
 refine .done (hK _ ?_);clear hK K;refine .az (by decide +kernel) fun K hK =>?_;simp only[EA,ab,simprocAttr]
 try simp only[aN,ab,simprocAttr]
 refine .done (hK _ ?_);clear hK K;refine .az (by decide +kernel) fun K hK =>?_;simp only[EB,ab,simprocAttr]
 try simp only[aN,ab,simprocAttr]
 refine .flat _ (Oa _) rfl ?_
 try simp only[ab,simprocAttr]
 refine .done (hK _ ?_);clear hK K;refine J.fQ [1,2,3,4] ?_;simp only[x4,reduceIte,Nat.reduceBEq];by_cases hk:0≤x.kind∧x.kind≤6
 ·refine J.seq (J.oj (au [(1,.ptr 1 []),(3,.ptr 3 []),(4,.bool (j7 x))] [(1,.box (enc x)),(3,.box (enc (kU x)))]) ?_ fun B hB=>J.sub hB ?_)
  ·clear hwf;obtain hk | hk | hk | hk | hk | hk | hk:x.kind=0∨x.kind=1∨x.kind=2∨x.kind=3∨x.kind=4∨x.kind=5∨x.kind=6:=by omega
   all_goals
    have R:=u8 @hk (u8 @aN @ab)
    repeat' ((first |(with_reducible refine .guard (fun hb =>?_) (fun hb =>?_) <;>try simp only[hb])|refine J.aI (by decide +kernel) rfl fun K hK =>?_|refine .flat _ (zK _) rfl ?_|refine .flat _ (Ob _) rfl ?_|refine .flat _ (Oc _) rfl ?_|refine .flat _ (mB _ _ _) rfl ?_|refine .flat _ (zR _) rfl ?_|refine .flat _ (vc _) rfl ?_|(refine J.rT (gs:=wN) [] [(1,[1]),(3,[3]),(23,[1]),(25,[3]),(26,[3])] [0,1,2,3,4,5] (by decide +kernel) (eA.of (by simp[nO,aZ,tL,I.only])) fun K hK =>?_;simp only[mg,wN,List.getD_cons_zero,List.getD_cons_succ,R,simprocAttr])|(refine J.rT (gs:=wO) [] [(1,[1]),(3,[3]),(55,[1]),(57,[1]),(59,[1]),(61,[3]),(62,[3]),(63,[3])] [0,1,2,3,4,5,6,7,8,9,10,11] (by decide +kernel) (eA.of (by simp[nO,aZ,tL,I.only])) fun K hK =>?_;simp only[mg,wO,List.getD_cons_zero,List.getD_cons_succ,R,simprocAttr])|(refine .ay [0,1,2,3,4,20,21,53,87,98,110,122] hK ?_;clear hK K)|(with_reducible refine .done (hK _ ?_);clear hK K)|refine J.of rfl ?_|(with_reducible refine aq.aH (fun h =>?_) (fun h =>?_) <;>try simp only[h])) <;>try simp only[aK,R,simprocAttr])
    all_goals clear R
   all_goals
    refine aF.cq ?_ ?_ ?_ ?_ <;>simp[*,aY,b7,bY,bE,av,aZ,cZ,I.only,aj.only,bK,j7,kU,qf]
  ·have R:=u8 @aN @ab
   repeat' ((first |(with_reducible refine .guard (fun hb =>?_) (fun hb =>?_) <;>try simp only[hb])|refine J.aI (by decide +kernel) rfl fun K hK =>?_|refine .flat _ (zK _) rfl ?_|refine .flat _ (vc _) rfl ?_|(refine .ay [0,1,2,3,4,20,21,53,87,98,110,122] hK ?_;clear hK K)|(with_reducible refine .done (hK _ ?_);clear hK K)|refine J.of rfl ?_|(with_reducible refine aq.aH (fun h =>?_) (fun h =>?_) <;>try simp only[h])) <;>try simp only[aK,R,simprocAttr])
   all_goals clear R
   all_goals simp[fU, *]
 ·have h0:(x.kind==0)=false:=by simp;omega
  have h1:(x.kind==1)=false:=by simp;omega
  have h2:(x.kind==2)=false:=by simp;omega
  have h3:(x.kind==3)=false:=by simp;omega
  have h4:(x.kind==4)=false:=by simp;omega
  have h5:(x.kind==5)=false:=by simp;omega
  have h6:(x.kind==6)=false:=by simp;omega
  have R:=u8 @h0 (u8 @h1 (u8 @h2 (u8 @h3 (u8 @h4 (u8 @h5 (u8 @h6 (u8 @aN @ab)))))))
  repeat' ((first |(with_reducible refine .guard (fun hb =>?_) (fun hb =>?_) <;>try simp only[hb])|refine J.aI (by decide +kernel) rfl fun K hK =>?_|(refine .ay [0,1,2,3,4,20,21,53,87,98,110,122] hK ?_;clear hK K)|(with_reducible refine .done (hK _ ?_);clear hK K)|refine J.of rfl ?_|(with_reducible refine aq.aH (fun h =>?_) (fun h =>?_) <;>try simp only[h])) <;>try simp only[aK,R,simprocAttr])
  all_goals clear R
  simp at h0 h1 h2 h3 h4 h5 h6;simp[fU,j7, *]
def gX:ar:=qf ⟨0,0⟩ 0 0 0 0
theorem sX:I.agg [.agg [.int .i64 0,.int .i64 0],.int .i64 0,.int .i64 0,.int .i64 0,.int .i64 0,.int .i64 0,.int .i64 0,.int .i64 0,.agg [.int .i64 0,.int .i64 0,.int .i64 0,.int .i64 0,.int .i64 0,.int .i64 0],.agg [.int .i64 0,.int .i64 0]]=enc gX:=rfl
theorem yf(p:Nat→Bool)(l:List ar):(I.agg (l.map enc)).only p=true:=by simp only[I.only];exact eI p l
def lz(k:Nat)(l:List ar)(m:Nat):List (Nat×aj):=[(k,.box (.agg ((l++List.replicate m gX).map enc)))]
def CY(l:List ar):cV:=fun r os'=>(l=[]∧(r=.nils 17∨r=.c0 17)∧os'=[])∨(l≠[]∧∃ m,r=.view 7 [] 17 0 l.length∧os'=lz 7 l m)
theorem N4(l:List ar)(hl:l.length≤1000):cH Tryz.prog 136 [enc l] [] (CY l):=by
 refine cH.bu Tryz.func136 QN SF UO (zz0 rfl) (zz0 rfl) (fun m hm=>by simp[av,ak] at hm) (fun hwf W0 D0 E1 =>?_);simp only[Be,KP,bl];refine .az (by decide +kernel) fun K hK =>?_;simp only[Ff,ab];refine .done (hK _ ?_);clear hK K;refine J.seq (J.seq ?_);by_cases hn:l=[]
 ·subst hn;refine .b6 (by decide +kernel) fun K hK =>?_;simp only[xb,ab,Nat.reduceEqDiff,reduceIte];simp only[uT,List.isEmpty_nil,qj];refine .any rfl fun b _ =>?_
  try simp only[ab]
  generalize (b==0)=t;cases t
  ·refine .done (hK _ ?_);clear hK K;try simp only[aG]
   refine J.bX ?_;simp only[aq,ab,Nat.reduceEqDiff,reduceIte];refine ⟨fun h =>?_,fun h =>?_⟩
   ·cases h
   refine J.skip ?_;try simp only[aG]
   refine .az (by decide +kernel) fun K hK =>?_;simp only[xc,ab]
   try simp only[dn,sX,ab,Nat.reduceEqDiff,reduceIte]
   refine .done (hK _ ?_);clear hK K;refine J.ret ?_;simp only[fV];exact ⟨[],[.c0 17],rj,⟨⟨.c0 17,rfl,.inl ⟨rfl,rfl,rfl⟩⟩,trivial⟩,.inl ⟨rfl,.inr rfl,rfl⟩⟩
  ·refine .done (hK _ ?_);clear hK K;refine J.bX ?_;simp only[aq,ab,Nat.reduceEqDiff,reduceIte];refine ⟨fun h =>?_,fun h =>?_⟩
   ·refine .az (by decide +kernel) fun K hK =>?_;simp only[Fg,ab];refine .done (hK _ ?_);clear hK K;refine J.ret ?_;simp only[aG,fV];exact ⟨[],[.nils 17],rj,⟨⟨.nils 17,rfl,.inl ⟨rfl,rfl,rfl⟩⟩,trivial⟩,.inl ⟨rfl,.inl rfl,rfl⟩⟩
   ·cases h
 ·have hu:kj (enc l)=false:=by rw[uT];simpa using hn
  refine .b6 (by decide +kernel) fun K hK =>?_;simp only[xb,ab,Nat.reduceEqDiff,reduceIte]
  try simp only[hu,JK _ l hn,ab]
  refine .done (hK _ ?_);clear hK K;try simp only[aG]
  refine J.bX ?_;simp only[aq,ab,Nat.reduceEqDiff,reduceIte];refine ⟨fun h =>?_,fun h =>?_⟩
  ·cases h
  refine J.skip ?_;try simp only[aG]
  refine .az (by decide +kernel) fun K hK =>?_;simp only[xc,ab]
  try simp only[dn,sX,ab,Nat.reduceEqDiff,reduceIte]
  refine bh.ox gX rfl hn rfl (by omega) (by simp only[maxLen];omega) fun m =>?_
  try simp only[ab,Nat.reduceEqDiff,reduceIte]
  refine .done (hK _ ?_);clear hK K;refine J.ret ?_;simp only[fV];exact ⟨lz 7 l m,[.view 7 [] 17 0 l.length],nF rfl (fun p=>yf p _),⟨⟨_,rfl,.inl ⟨rfl,rfl,rfl⟩⟩,trivial⟩,.inr ⟨hn,m,rfl,rfl⟩⟩
def I8(l:List ar)(i:Nat)(g:ar):List ar:=l.take i++g::l.drop i
theorem ams(l:List ar)(i k:Nat)(g:ar)(h:i<l.length)(hk:1≤k)(xs:List ar)(hx:xs=l++List.replicate k gX)(ys:List ar)(hy:ys=xs.take (i+1)++(((xs.drop i).take (l.length+1-i)).take (l.length-i)++xs.drop (i+1+(l.length-i)))) :
  ys.take i++([g].take 1++ys.drop (i+1))=I8 l i g++List.replicate (k-1) gX:=by
 have e1:((xs.drop i).take (l.length+1-i)).take (l.length-i)=l.drop i:=by
  rw[List.take_take,Nat.min_eq_left (by omega),hx,List.drop_append_of_le_length (by omega),zw6 (by rw[zy9];omega),zw8 (by rw[zy9];omega)]
 have e2:xs.drop (i+1+(l.length-i))=List.replicate (k-1) gX:=by
  rw[hx,List.drop_append,zv2 (by omega),zy7,List.drop_replicate]
  congr 1;omega
 have hl:(xs.take (i+1)).length=i+1:=by rw[zy8,hx,zz7];omega
 have e3:ys.take i=l.take i:=by
  rw[hy,zw6 (by omega),List.take_take,Nat.min_eq_left (by omega),hx,zw6 (by omega)]
 have e4:ys.drop (i+1)=l.drop i++List.replicate (k-1) gX:=by
  rw[hy,e1,e2];exact List.drop_left' hl
 rw[e3,e4];simp[I8]
def ff(l:List ar)(i:Nat):List ar:=l.take i++l.drop (i+1)
theorem Dc{l:List ar}{i:Nat}(h:i<l.length):(ff l i).length=l.length-1:=by
 simp only[ff,zz7,zy8,zy9];omega
def Da(l:List ar)(i:Nat):cV:=fun r os'=>∃ q,r=.view 1000000 [] 17 0 (l.length-1)∧os'=lz 1000000 (ff l i) q
theorem aiy(l:List ar)(i k:Nat)(h:i+1<l.length)(xs:List ar)(hx:xs=l++List.replicate k gX)(a:List ar)(ha:a=xs.take i++(l.drop (i+1)++xs.drop (i+(l.drop (i+1)).length))) :
  a.take (l.length-1)++(List.replicate 1 gX++a.drop (l.length-1+1))=ff l i++List.replicate (k+1) gX:=by
 have e1:xs.take i=l.take i:=by rw[hx,zw6 (by omega)]
 have e0:i+(l.drop (i+1)).length=l.length-1:=by rw[zy9];omega
 have e2:a=ff l i++xs.drop (l.length-1):=by rw[ha,e1,e0,ff,zz5]
 have hl:=Dc (l:=l) (i:=i) (by omega);have e3:a.take (l.length-1)=ff l i:=by rw[e2,←hl,List.take_left]
 have e4:a.drop (l.length-1+1)=List.replicate k gX:=by
  rw[e2,List.drop_append,hl,zv2 (by omega),zy7,List.drop_drop];have:l.length-1+(l.length-1+1-(l.length-1))=l.length:=by omega
  rw[this,hx,List.drop_left]
 rw[e3,e4,List.replicate_append_replicate,Nat.add_comm 1 k]
theorem aiz(l:List ar)(k:Nat)(i:Nat)(h:i+1=l.length)(xs:List ar)(hx:xs=l++List.replicate k gX):xs.take (l.length-1)++(List.replicate 1 gX++xs.drop (l.length-1+1))=ff l i++List.replicate (k+1) gX:=by
 have e1:l.length-1=i:=by omega
 have e2:xs.drop (l.length-1+1)=List.replicate k gX:=by rw[show l.length-1+1=l.length by omega,hx,List.drop_left]
 have e3:xs.take (l.length-1)=ff l i:=by
  rw[e1,hx,zw6 (by omega),ff,zv2 (by omega),zx5]
 rw[e2,e3,List.replicate_append_replicate,Nat.add_comm 1 k]
theorem N3(l:List ar)(i:Nat)(k:Nat)(hi:i<l.length)(hlen:l.length≤1000) :
  cH Tryz.prog 135 [.view 1000000 [] 17 0 l.length,enc (i:Int),enc ((i+1:Nat):Int)] (lz 1000000 l k) (Da l i):=by
 refine cH.bu Tryz.func135 QM SE UN (zz0 rfl) (zz0 rfl) (fun m hm=>by rw[dA.1 hm];exact zz8 _) (fun hwf W0 D0 E1 =>?_);simp only[Bd,KO,bl,zz4,Nat.reduceAdd];simp only[lz];obtain ⟨xs,hxs⟩:∃ xs,xs=l++List.replicate k gX:=⟨_,rfl⟩
 have hxl:xs.length=l.length+k:=by rw[hxs];simp
 have htot:(xs.map (enc (α:=ar))).length=l.length+k:=by rw[zy3];exact hxl
 rw[←hxs];have hA:∀ ts,(au ts [(1000000,.box (.agg (xs.map (enc (α:=ar)))))]).o 1000000=some (.box (.agg (xs.map enc))):=fun _=>rfl;refine .az (by decide +kernel) fun K hK =>?_;simp only[Fa,ab];refine .done (hK _ ?_);clear hK K;refine .az (by decide +kernel) fun K hK =>?_;simp only[Fb,ab,Nat.reduceEqDiff,reduceIte]
 try simp only[dn,htot,zy5,als (show i≤i+1 by omega) (show i+1≤l.length by omega) (show l.length≤l.length+k by omega),ab,Nat.reduceEqDiff,reduceIte]
 refine .done (hK _ ?_);clear hK K;refine J.seq (J.seq ?_);refine .b6 (by decide +kernel) fun K hK =>?_;simp only[Fc,ab,Nat.reduceEqDiff,reduceIte]
 try simp only[ew,bB,kH,fg,ab,Nat.reduceEqDiff,reduceIte,Int.reduceBNe,Int.reduceBEq]
 refine .done (hK _ ?_);clear hK K;try simp only[aG]
 refine J.bX ?_;simp only[aq,ab,Nat.reduceEqDiff,reduceIte];refine ⟨fun h =>?_,fun h =>?_⟩
 ·exfalso
  have:(i:Int)=((i+1:Nat):Int):=by simpa using h
  omega
 refine J.skip ?_;try simp only[aG]
 refine .az (by decide +kernel) fun K hK =>?_;simp only[Fe,ab,Nat.reduceEqDiff,reduceIte]
 try simp only[dn,ab,Nat.reduceEqDiff,reduceIte]
 refine .done (hK _ ?_);clear hK K;by_cases hl1:i+1<l.length
 ·have ae:(xs.drop (i+1)).take (l.length-(i+1))=l.drop (i+1):=by
   rw[hxs,List.drop_append_of_le_length (by omega),zw6 (by rw[zy9];omega),zw8 (by rw[zy9];omega)]
  have hdl:i+(l.drop (i+1)).length=l.length-1:=by rw[zy9];omega
  obtain ⟨b,hb⟩:∃ b,b=xs.take i++(l.drop (i+1)++xs.drop (i+(l.drop (i+1)).length)):=⟨_,rfl⟩
  have hbl:b.length=l.length+k:=by rw[hb];simp;omega
  have hcont:=aiy l i k hl1 xs hxs b hb;refine .az (by decide +kernel) fun K hK =>?_;simp only[wZ,ab,Nat.reduceEqDiff,reduceIte]
  try simp only[dn,htot,Option.map_none,zy5,zt (show i≤l.length+k by omega) (show 0<l.length+k by omega),zu (show i+1≤l.length by omega) (show l.length≤l.length+k by omega) (show i+1<l.length+k by omega),ab,Nat.reduceEqDiff,reduceIte]
  rw[PD (esz:=17) (xs:=xs) (ys:=l.drop (i+1)) _ _ (by rw[qD (xs:=xs) (hA _) (by omega),ae]) (by simp;omega) (hA _) (by rw[zy9];omega)];rw[←hb,hdl]
  try simp only[ab,Nat.reduceEqDiff,reduceIte]
  refine .done (hK _ ?_);clear hK K;have htb:(b.map (enc (α:=ar))).length=l.length+k:=by rw[zy3];exact hbl
  have hB:∀ ts os,(au ts ((1000000,.box (.agg (b.map (enc (α:=ar)))))::os)).o 1000000=some (.box (.agg (b.map enc))):=fun _ _=>rfl;refine .az (by decide +kernel) fun K hK =>?_;simp only[w0,ab,Nat.reduceEqDiff,reduceIte]
  try simp only[dn,htb,Option.map_none,zy5,sX,ab,Nat.reduceEqDiff,reduceIte]
  rw[MU (show l.length-1≤l.length by omega) (show l.length≤l.length+k by omega) (by omega)]
  try simp only[dn,ab,Nat.reduceEqDiff,reduceIte]
  rw[vV (xs:=b) gX (hB _ _) (by omega)];have hone:l.length-(l.length-1)=1:=by omega
  try simp only[hone,hcont,ab]
  refine .done (hK _ ?_);clear hK K;refine .az (by decide +kernel) fun K hK =>?_;simp only[xa,ab,Nat.reduceEqDiff,reduceIte];refine .done (hK _ ?_);clear hK K;refine J.ret ?_;simp only[fV];exact ⟨lz 1000000 (ff l i) (k+1),[.view 1000000 [] 17 0 (l.length-1)],nF rfl (fun p=>yf p _),⟨⟨_,rfl,.inl ⟨rfl,rfl,rfl⟩⟩,trivial⟩,k+1,rfl,rfl⟩
 ·have hie:i+1=l.length:=by omega
  obtain ⟨b,hb⟩:∃ b,b=xs:=⟨_,rfl⟩
  have hbl:b.length=l.length+k:=by rw[hb];exact hxl
  have hcont:=aiz l k i hie xs hxs;rw[←hb] at hcont;have hi1:i=l.length-1:=by omega
  obtain ⟨y,hy⟩:=alr (n:=1000000) (p:=[]) (sz:=17) (show i+1≤l.length by omega) (show l.length≤l.length+k by omega);have hye:∀ ts,eD (au ts [(1000000,.box (.agg (xs.map (enc (α:=ar)))))]) 17 y=some []:=fun ts=>by
   by_cases hk:k=0
   ·have:hJ 1000000 [] 17 0 l.length (l.length+k) (some (.int .i64 ((i+1:Nat):Int))) none none=some (.c0 17):=by
     simp only[hJ,ig];rw[if_pos ⟨by omega,by omega,by omega⟩,if_pos (by omega)]
    rw[this] at hy;cases hy;rfl
   ·rw[zu (show i+1≤l.length by omega) (show l.length≤l.length+k by omega) (by omega)] at hy;cases hy;rw[qD (xs:=xs) (hA _) (by omega),hie];simp
  refine .az (by decide +kernel) fun K hK =>?_;simp only[wZ,ab,Nat.reduceEqDiff,reduceIte]
  try simp only[dn,htot,Option.map_none,zy5,zt (show i≤l.length+k by omega) (show 0<l.length+k by omega),hy,ab,Nat.reduceEqDiff,reduceIte]
  rw[Av (esz:=17) (xs:=xs) _ _ (hye _) (hA _) (by omega)];rw[hi1,←hb]
  try simp only[ab,Nat.reduceEqDiff,reduceIte]
  refine .done (hK _ ?_);clear hK K;have htb:(b.map (enc (α:=ar))).length=l.length+k:=by rw[zy3];exact hbl
  have hB:∀ ts os,(au ts ((1000000,.box (.agg (b.map (enc (α:=ar)))))::os)).o 1000000=some (.box (.agg (b.map enc))):=fun _ _=>rfl;refine .az (by decide +kernel) fun K hK =>?_;simp only[w0,ab,Nat.reduceEqDiff,reduceIte]
  try simp only[dn,htb,Option.map_none,zy5,sX,ab,Nat.reduceEqDiff,reduceIte]
  rw[MU (show l.length-1≤l.length by omega) (show l.length≤l.length+k by omega) (by omega)]
  try simp only[dn,ab,Nat.reduceEqDiff,reduceIte]
  rw[vV (xs:=b) gX (hB _ _) (by omega)];have hone:l.length-(l.length-1)=1:=by omega
  try simp only[hone,hcont,ab]
  refine .done (hK _ ?_);clear hK K;refine .az (by decide +kernel) fun K hK =>?_;simp only[xa,ab,Nat.reduceEqDiff,reduceIte];refine .done (hK _ ?_);clear hK K;refine J.ret ?_;simp only[fV];exact ⟨lz 1000000 (ff l i) (k+1),[.view 1000000 [] 17 0 (l.length-1)],nF rfl (fun p=>yf p _),⟨⟨_,rfl,.inl ⟨rfl,rfl,rfl⟩⟩,trivial⟩,k+1,rfl,rfl⟩
def er(b:ao)(s:I):I:=.agg [.agg [.int .i64 b.no,.int .i64 b.cd,.int .i64 b.cm,.int .i64 b.bx,.int .i64 b.jF,.int .i64 b.born,.int .i64 b.cu,.bool b.found,s]]
structure eh where
 b:ao
instance:Enc eh where
 enc x:=.agg [enc x.b]
 sz:=9
 aS:=.ej [.ej [.one,.one,.one,.one,.one,.one,.one,.one,.one]]
 fP:=true
 done e:=by simp only[I.done,I.eP,Enc.done,zw3]
 size e:=by simp only[I.size,I.sizes,ja,Dm]
 jU e:=by simp only[I.aS,I.cU,eQ];rfl
 agg _:=rfl
def eY(B:Nat):Nat→List ao→List (Nat×aj)
 |_,[]=>[]
 |i,b::bs=>(B+2+2*i,.box (er b (.own (B+3+2*i) b.bA.length)))::(B+3+2*i,.bR 66 6 (b.bA.map enc))::eY B (i+1) bs
def en(B n:Nat):List I:=(List.range n).map fun i=>.ptr (B+2+2*i) []
def dc(bs:List ao):List I:=(bs.map (·.no)).map enc
def cB(B:Nat)(bs:List ao):List (Nat×aj):=(B,.box (.agg [.mref (B+1)]))::(B+1,.cC (dc bs) (en B bs.length))::eY B 0 bs
theorem tI(B:Nat):∀ (bs:List ao) (i n:Nat),n<B+2+2*i→ak (eY B i bs) n=none
 | [],_,_,_=>rfl
 |b::bs,i,n,h=>by
  simp only[eY,ak];rw[if_neg (by omega),if_neg (by omega)];exact tI B bs (i+1) n (by omega)
theorem tG(B:Nat):∀ (bs:List ao) (i n:Nat),B+2+2*(i+bs.length)≤n→ak (eY B i bs) n=none
 | [],_,_,_=>rfl
 |b::bs,i,n,h=>by
  simp only[zv9] at h;simp only[eY,ak];rw[if_neg (by omega),if_neg (by omega)];exact tG B bs (i+1) n (by omega)
theorem tH(B:Nat):∀ (bs:List ao) (i k:Nat) (h:k<bs.length),ak (eY B i bs) (B+2+2*(i+k))=some (.box (er bs[k] (.own (B+3+2*(i+k)) (bs[k]).bA.length)))
 | [],_,_,h=>by simp at h
 |b::bs,i,0,_=>by simp[eY,ak]
 |b::bs,i,k+1,h=>by
  simp only[eY,ak];rw[if_neg (by omega),if_neg (by omega)];have:=tH B bs (i+1) k (by simpa using h);rw[show i+1+k=i+(k+1) by omega] at this;exact this
theorem tJ(B:Nat):∀ (bs:List ao) (i k:Nat) (h:k<bs.length),ak (eY B i bs) (B+3+2*(i+k))=some (.bR 66 6 ((bs[k]).bA.map enc))
 | [],_,_,h=>by simp at h
 |b::bs,i,0,_=>by
  simp only[eY,ak];rw[if_neg (by omega),if_pos (by omega)];rfl
 |b::bs,i,k+1,h=>by
  simp only[eY,ak];rw[if_neg (by omega),if_neg (by omega)];have:=tJ B bs (i+1) k (by simpa using h);rw[show i+1+k=i+(k+1) by omega] at this;exact this
theorem tX(B n m:Nat):n<B∨n=B∨n=B+1∨(∃ k,k<m∧n=B+2+2*k)∨(∃ k,k<m∧n=B+3+2*k)∨B+2+2*m≤n:=by
 by_cases h1:n<B
 ·exact .inl h1
 by_cases h2:n=B
 ·exact .inr (.inl h2)
 by_cases h3:n=B+1
 ·exact .inr (.inr (.inl h3))
 by_cases h4:B+2+2*m≤n
 ·exact .inr (.inr (.inr (.inr (.inr h4))))
 rcases Nat.mod_two_eq_zero_or_one (n-B) with h5 | h5
 ·exact .inr (.inr (.inr (.inl ⟨(n-B-2) / 2,by omega,by omega⟩)))
 ·exact .inr (.inr (.inr (.inr (.inl ⟨(n-B-3) / 2,by omega,by omega⟩))))
section
variable {B:Nat} {bs:List ao}
theorem kE{n:Nat}(h:n<B):ak (cB B bs) n=none:=by
 simp only[cB,ak];rw[if_neg (by omega),if_neg (by omega)];exact tI B bs 0 n (by omega)
theorem tA{n:Nat}(h:B+2+2*bs.length≤n):ak (cB B bs) n=none:=by
 simp only[cB,ak];rw[if_neg (by omega),if_neg (by omega)];exact tG B bs 0 n (by omega)
theorem kD:ak (cB B bs) B=some (.box (.agg [.mref (B+1)])):=by simp[cB,ak]
theorem lh:ak (cB B bs) (B+1)=some (.cC (dc bs) (en B bs.length)):=by simp[cB,ak]
theorem mP{k:Nat}(h:k<bs.length):ak (cB B bs) (B+2+2*k)=some (.box (er bs[k] (.own (B+3+2*k) (bs[k]).bA.length))):=by
 simp only[cB,ak];rw[if_neg (by omega),if_neg (by omega)];have:=tH B bs 0 k h
 rwa [zz4] at this
theorem l4{k:Nat}(h:k<bs.length):ak (cB B bs) (B+3+2*k)=some (.bR 66 6 ((bs[k]).bA.map enc)):=by
 simp only[cB,ak];rw[if_neg (by omega),if_neg (by omega)];have:=tJ B bs 0 k h
 rwa [zz4] at this
theorem nK{n:Nat} : av (cB B bs) n=decide (B≤n∧n<B+2+2*bs.length):=by
 rcases tX B n bs.length with h | h | h | ⟨k,hk,h⟩ | ⟨k,hk,h⟩ | h
 ·simp only[av,kE h];simp;omega
 ·subst h;simp only[av,kD];simp;omega
 ·subst h;simp only[av,lh];simp;omega
 ·subst h;simp only[av,mP hk];simp;omega
 ·subst h;simp only[av,l4 hk];simp;omega
 ·simp only[av,tA h];simp;omega
theorem yI(p:Nat→Bool){n:Nat}(h:∀ i,i<n→p (B+2+2*i)=true):I.bZ p (en B n)=true:=by
 unfold en
 induction n with
 |zero=>rfl
 |succ n ih =>
  rw[List.range_succ,zx4,jO,ih fun i hi=>h i (by omega)];simp[I.bZ,I.only,h n (by omega)]
theorem fx{n:Nat}{x:aj}(h:ak (cB B bs) n=some x):x.only (av (cB B bs))=true∧x.eR=true:=by
 rcases tX B n bs.length with h2 | h2 | h2 | ⟨k,hk,h2⟩ | ⟨k,hk,h2⟩ | h2
 ·rw[kE h2] at h;cases h
 ·subst h2;rw[kD] at h;cases h;simp[aj.only,I.only,I.bZ,nK,aj.eR];omega
 ·subst h2;rw[lh] at h;cases h;refine ⟨?_,rfl⟩;simp only[aj.only,zz3];exact ⟨eI _ _,yI _ fun i hi=>by rw[nK];simp;omega⟩
 ·subst h2;rw[mP hk] at h;cases h;simp[aj.only,I.only,I.bZ,nK,aj.eR,er];omega
 ·subst h2;rw[l4 hk] at h;cases h;exact ⟨eI _ _,rfl⟩
 ·rw[tA h2] at h;cases h
theorem IV{i:Nat}(hi:i<bs.length)(b:ao)(hno:b.no=(bs[i]).no)(n:Nat):ak (cB B (bs.set i b)) n =
  if n=B+2+2*i then some (.box (er b (.own (B+3+2*i) b.bA.length))) else if n=B+3+2*i then some (.bR 66 6 (b.bA.map enc)) else ak (cB B bs) n:=by
 have hl:(bs.set i b).length=bs.length:=List.length_set;have hnos:dc (bs.set i b)=dc bs:=by
  simp only[dc,List.map_set,hno]
  congr 1
  exact List.ext_getElem (by simp) fun j h1 h2=>by
   simp only[List.getElem_set,List.getElem_map];split
   ·rename_i e;subst e;rfl
   ·rfl
 rcases tX B n bs.length with h2 | h2 | h2 | ⟨k,hk,h2⟩ | ⟨k,hk,h2⟩ | h2
 ·rw[kE h2,kE h2,if_neg (by omega),if_neg (by omega)]
 ·subst h2;rw[kD,kD,if_neg (by omega),if_neg (by omega)]
 ·subst h2;rw[lh,lh,hl,hnos,if_neg (by omega),if_neg (by omega)]
 ·subst h2;rw[mP (by omega),mP hk];by_cases e:k=i
  ·subst e;simp
  ·rw[if_neg (by omega),if_neg (by omega)];simp[Ne.symm e]
 ·subst h2;rw[l4 (by omega),l4 hk];by_cases e:k=i
  ·subst e;rw[if_neg (by omega),if_pos rfl];simp
  ·rw[if_neg (by omega),if_neg (by omega)];simp[Ne.symm e]
 ·rw[tA (by omega),tA h2,if_neg (by omega),if_neg (by omega)]
end
theorem Ko{B n i:Nat}(h:i<n):(en B n)[i]?=some (.ptr (B+2+2*i) []):=by simp[en,h]
theorem pU(a b:Int):cv (.i .i64) (enc a) (enc b)=some (decide (a=b)):=Dq a b
theorem tt{bs:List ao}{no:Int} : match (bs.map (·.no)).findIdx? fun x=>decide (no=x) with
  |some i=>∃ h:i<bs.length,cI bs no=some bs[i]∧(bs[i]).no=no
  |none=>cI bs no=none:=by
 cases h:(bs.map (·.no)).findIdx? fun x=>decide (no=x) with
 |none =>
  rw[List.findIdx?_eq_none_iff] at h;simp only;rw[p6];intro hm;have:=h no hm;simp at this
 |some i =>
  obtain ⟨h1,h2,h3⟩:=List.findIdx?_eq_some_iff_getElem.1 h;have hi:i<bs.length:=by simpa using h1
  have hno:(bs[i]).no=no:=by simpa using (of_decide_eq_true h2).symm
  refine ⟨hi,?_,hno⟩;simp only[cI,List.find?_eq_some_iff_getElem];refine ⟨by simpa using hno,i,hi,rfl,fun j hj =>?_⟩;have:=h3 j hj;simp at this;simpa using fun e=>this e.symm
theorem qb(B:Nat)(bs:List ao)(no:Int):(cI bs no=none∧gz (.i .i64) .nilp (.int .i64 no) (dc bs) (en B bs.length)=some (.nilp,false)) ∨
  ∃ i,∃ h:i<bs.length,cI bs no=some bs[i]∧(bs[i]).no=no∧gz (.i .i64) .nilp (.int .i64 no) (dc bs) (en B bs.length)=some (.ptr (B+2+2*i) [],true):=by
 have h1:=tt (bs:=bs) (no:=no);have h2:=x8 pU .nilp no (bs.map (·.no)) (en B bs.length);rw[fY] at h2;unfold dc;cases h:(bs.map (·.no)).findIdx? fun x=>decide (no=x) with
 |none=>rw[h] at h1 h2;exact .inl ⟨h1,h2⟩
 |some i =>
  rw[h] at h1 h2;obtain ⟨hi,g1,g2⟩:=h1;refine .inr ⟨i,hi,g1,g2,?_⟩;rw[h2];simp only[Ko hi,zy5]
theorem MN{bs:List ao}(ae:(bs.map (·.no)).Nodup){i:Nat}(hi:i<bs.length){b:ao}(hno:b.no=(bs[i]).no):mw bs b=bs.set i b:=by
 refine List.ext_getElem (by simp[mw]) fun j h1 h2 =>?_;simp only[mw,List.getElem_map,List.getElem_set];have hj:j<bs.length:=by simpa using h2
 by_cases e:i=j
 ·subst e;rw[if_pos hno.symm,if_pos rfl]
 ·rw[if_neg e,if_neg];intro he;have he:=he.trans hno;have:=(List.getElem_inj (h₀:=by simpa using hj) (h₁:=by simpa using hi) ae).1 (by simpa using he);exact e this.symm
theorem Dz(x:eh):(enc x).dv=some [enc x.b]:=rfl
theorem DA(b:ao)(s:I):(er b s).dv=some [.agg [.int .i64 b.no,.int .i64 b.cd,.int .i64 b.cm,.int .i64 b.bx,.int .i64 b.jF,.int .i64 b.born,.int .i64 b.cu,.bool b.found,s]]:=rfl
theorem CX(b:ao)(n k:Nat):(er b (.own n k)).bj=false:=by simp[er,I.bj,I.bU]
theorem mO{A:af}{m n:Nat}{b:ao}(ho:A.o n=some (.bR 66 6 (b.bA.map enc))):df A (m+3) (er b (.own n b.bA.length))=some (enc (⟨b⟩:eh)):=by
 have h1:df A (m+1) (.own n b.bA.length)=some (enc b.bA):=by
  simp only[df,I.bj,zz6,if_false,ho,zy3,iW,and_self,if_true];rfl
 have hi:∀ (k:IntKind) (v:Int),df A (m+1) (.int k v)=some (.int k v):=fun _ _=>by simp[df,I.bj]
 have hb:∀ v:Bool,df A (m+1) (.bool v)=some (.bool v):=fun _=>by simp[df,I.bj]
 have h2:df A (m+2) (.agg [.int .i64 b.no,.int .i64 b.cd,.int .i64 b.cm,.int .i64 b.bx,.int .i64 b.jF,.int .i64 b.born,.int .i64 b.cu,.bool b.found,.own n b.bA.length])=some (enc b):=by
  rw[df];simp only[I.bj,I.bU,Bool.and_false,Bool.and_true,zz6,if_false,fy,hi,hb,h1,zy5];rfl
 rw[er,df];simp only[I.bj,I.bU,Bool.and_false,Bool.and_true,zz6,if_false,fy,h2,zy5];rfl
theorem M5 :
  (∀ (A:af) n b s (v u:Int) rest,dj A none n [0,3] (er b s) (.int .i64 v) rest (some (.int .i64 u))=aA rest (A.aO n (.box (er { b with bx:=v } s)))) ∧
  (∀ (A:af) n b s (v u:Int) rest,dj A none n [0,6] (er b s) (.int .i64 v) rest (some (.int .i64 u))=aA rest (A.aO n (.box (er { b with cu:=v } s)))) ∧
  (∀ (A:af) n b s (v u:Bool) rest,dj A none n [0,7] (er b s) (.bool v) rest (some (.bool u))=aA rest (A.aO n (.box (er { b with found:=v } s)))) ∧
  (∀ (A:af) n b s m k m' k' rest,dj A none n [0,8] (er b s) (.own m k) rest (some (.own m' k'))=aA rest (A.aO n (.box (er b (.own m k))))) :=
 ⟨fun _ _ _ _ v u _=>by rw[ee (s:=none) (v:=.int .i64 v) (old:=.int .i64 u) rfl rfl rfl];rfl,fun _ _ _ _ v u _=>by rw[ee (s:=none) (v:=.int .i64 v) (old:=.int .i64 u) rfl rfl rfl];rfl,
  fun _ _ _ _ v u _=>by rw[ee (s:=none) (v:=.bool v) (old:=.bool u) rfl rfl rfl];rfl,fun _ _ _ _ m k m' k' _=>by rw[ee (s:=none) (v:=.own m k) (old:=.own m' k') rfl rfl rfl];rfl⟩
theorem fM:(type_of% @Dz)∧(type_of% @DA)∧(type_of% @CX)∧(type_of% @M5)∧(type_of% @fA)∧(∀ n:Nat,(n=n)=True)∧(∀ rs post A,nY rs post .ret A=kR rs post A):=⟨Dz,DA,CX,M5,fA,fun _=>eq_self _,fV⟩
theorem jA(b:ao):aB Tryz.prog 90 [.ref (enc (⟨b⟩:eh))] (enc (decide (0≤b.cu))):=by
 refine aB.bu Tryz.func90 R3 TX V5 (zz0 rfl) (fun hwf W0 D0 E1 =>?_);simp only[Cw,L7,bl];have R:=u8 @fM (u8 @dT (u8 @aN @ab))
 repeat' ((first |(with_reducible refine .guard (fun hb =>?_) (fun hb =>?_) <;>try simp only[hb])|refine J.aI (by decide +kernel) rfl fun K hK =>?_|(refine .ay [0,2] hK ?_;clear hK K)|(with_reducible refine .done (hK _ ?_);clear hK K)|refine J.of rfl ?_|(with_reducible refine aq.aH (fun h =>?_) (fun h =>?_) <;>try simp only[h])) <;>try simp only[aK,R,simprocAttr])
 all_goals clear R
def jd(B d:Nat)(bs:List ao)(x:ar):cV:=fun r os'=>match cX eE bs x with
 |none=>r=.bool false∧os'=cB B bs
 |some bs'=>r=.bool true∧os'=if x.kind=1∨x.kind=2 then (B+1,.cC (dc bs') (en B bs.length++[.ptr d []]))::(d,.box (er (eH x) (.nils 6)))::cB B bs else cB B bs'
theorem lj{bs:List ao} : ∀ m,av (cB 1000000 bs) m=true→1000000≤m:=fun m hm=>by rw[nK] at hm;simp at hm;omega
theorem gn{ts:List (Nat×I)}{os os':List (Nat×aj)}{b:Bool}{post:cV}(ht:Abs.bO ts 4=.bool b)(ho:∀ n,av os' n=true→ak os n=ak os' n)(hg:∀ n x,ak os' n=some x→x.only (av os')=true∧x.eR=true)(hp:post (.bool b) os'):kR [.tmp 4] post (au ts os):=by
 refine ⟨os',[.bool b],fun n x hx=>⟨?_,hg n x hx⟩,⟨⟨.bool b,?_,.inl ⟨rfl,rfl,rfl⟩⟩,trivial⟩,hp⟩
 ·show ak os n=some x
  rw[ho n (by simp[av,hx])];exact hx
 ·show some (Abs.bO ts 4)=some _
  rw[ht]
theorem l5{bs:List ao}{z:aj} : ∀ n,av (cB 1000000 bs) n=true→ak ((3,z)::cB 1000000 bs) n=ak (cB 1000000 bs) n:=fun n h=>by
 have:=lj n h;simp only[ak];rw[if_neg (by omega)]
theorem xT{bs:List ao}{i:Nat}(hi:i<bs.length){b:ao}(hno:b.no=(bs[i]).no)(hs:b.bA=(bs[i]).bA){z:aj}{nl nr:Nat}(hnl:nl=1000000+2+2*i)(hnr:nr=1000000+3+2*i) :
  ∀ n,av (cB 1000000 (bs.set i b)) n=true→ak ((nl,.box (er b (.own nr (bs[i]).bA.length)))::(3,z)::cB 1000000 bs) n=ak (cB 1000000 (bs.set i b)) n:=fun n h=>by
 have:=lj n h;rw[IV hi b hno];simp only[ak,hs];subst hnl hnr;rw[if_neg (show ¬ n=3 by omega)];split
 ·rfl
 ·split
  ·rename_i e;subst e;exact l4 hi
  ·rfl
theorem j8{B d:Nat}{bs:List ao}{x:ar}(h:cX eE bs x=none):jd B d bs x (.bool false) (cB B bs):=by simp[jd,h]
theorem tC{B d:Nat}{bs:List ao}{x:ar}(ae:(bs.map (·.no)).Nodup)(hk:¬ (x.kind=1∨x.kind=2)){i:Nat}(hi:i<bs.length)(hg:cI bs x.cG=some bs[i]){b:ao}(ht:dG bs[i] x=some b)(hno:b.no=(bs[i]).no) :
  jd B d bs x (.bool true) (cB B (bs.set i b)):=by
 have:cX eE bs x=some (bs.set i b):=by
  simp only[cX,if_neg hk,hg,ht,zy5,MN ae hi hno]
 simp only[jd,this,if_neg hk,and_self]
theorem sE{bs:List ao}{x:ar}(hk:¬ (x.kind=1∨x.kind=2))(hg:cI bs x.cG=none):cX eE bs x=none:=by
 simp only[cX,if_neg hk,hg]
theorem Ay{bs:List ao}{x:ar}(hk:¬ (x.kind=1∨x.kind=2)){b:ao}(hg:cI bs x.cG=some b)(ht:dG b x=none):cX eE bs x=none:=by
 simp only[cX,if_neg hk,hg,ht,Option.map_none]
theorem Ov(bs:List ao)(x:ar)(d:Nat)(hk:x.kind=3)(ae:(bs.map (·.no)).Nodup):cH Tryz.prog 174 [.ptr 1000000 [],enc x] (cB 1000000 bs) (jd 1000000 d bs x):=by
 refine cH.bu Tryz.func174 Rg S8 Vh (zz0 rfl) (zz0 rfl) lj (fun hwf W0 D0 E1 =>?_);simp only[BH,Lh,bl,zz4];clear hwf;have hk12:¬ (x.kind=1∨x.kind=2):=by omega
 have n3:ak (cB 1000000 bs) 3=none:=kE (by omega);have h0:ak (cB 1000000 bs) 1000000=some (.box (.agg [.mref 1000001])):=kD;have h1:ak (cB 1000000 bs) 1000001=some (.cC (dc bs) (en 1000000 bs.length)):=lh;rcases qb 1000000 bs x.cG with ⟨hg,hlk⟩ | ⟨i,hi,hg,hno,hlk⟩
 ·have R:=u8 @n3 (u8 @h0 (u8 @h1 (u8 @hlk (u8 @cA (u8 @fM (u8 @dT (u8 @aN @ab)))))))
  repeat' ((first |(with_reducible refine .guard (fun hb =>?_) (fun hb =>?_) <;>try simp only[hb])|refine J.aI (by decide +kernel) rfl fun K hK =>?_|refine .flat _ (jA _) rfl ?_|(refine .ay [0,1,3,4,5,36] hK ?_;clear hK K)|(with_reducible refine .done (hK _ ?_);clear hK K)|refine J.of rfl ?_|(with_reducible refine aq.aH (fun h =>?_) (fun h =>?_) <;>try simp only[h])) <;>try simp only[aK,R,simprocAttr])
  all_goals clear R
  exact gn rfl l5 (fun n x h=>fx h) (j8 (sE hk12 hg))
 ·have hl:=mP (B:=1000000) hi;have hr:=l4 (B:=1000000) hi;obtain ⟨nl,hnl⟩:∃ nl,nl=1000000+2+2*i:=⟨_,rfl⟩
  obtain ⟨nr,hnr⟩:∃ nr,nr=1000000+3+2*i:=⟨_,rfl⟩
  rw[←hnl] at hl hlk;rw[←hnr] at hl hr;have e1:(nl=3)=False:=by simp;omega
  have e2:(nr=3)=False:=by simp;omega
  have e3:(3=nl)=False:=by simp;omega
  have e4:(nr=nl)=False:=by simp;omega
  have e5:(nl=nr)=False:=by simp;omega
  have e6:(3=nr)=False:=by simp;omega
  have R:=u8 @n3 (u8 @h0 (u8 @h1 (u8 @hl (u8 @hr (u8 @e1 (u8 @e2 (u8 @e3 (u8 @hlk (u8 @mO (u8 @cA (u8 @fM (u8 @dT (u8 @aN @ab)))))))))))))
  repeat' ((first |(with_reducible refine .guard (fun hb =>?_) (fun hb =>?_) <;>try simp only[hb])|refine J.aI (by decide +kernel) rfl fun K hK =>?_|refine .flat _ (jA _) rfl ?_|(refine .ay [0,1,3,4,5,36] hK ?_;clear hK K)|(with_reducible refine .done (hK _ ?_);clear hK K)|refine J.of rfl ?_|(with_reducible refine aq.aH (fun h =>?_) (fun h =>?_) <;>try simp only[h])) <;>try simp only[aK,R,simprocAttr])
  all_goals clear R
  all_goals first
   |exact gn rfl l5 (fun n x h=>fx h) (j8 (Ay hk12 hg (by simp_all[dG])))
   |exact gn rfl (xT hi (b := { bs[i] with bx:=x.bx }) rfl rfl hnl hnr) (fun n x h=>fx h) (tC ae hk12 hi hg (by simp_all[dG]) rfl)
theorem Ox(bs:List ao)(x:ar)(d:Nat)(hk:x.kind=5)(ae:(bs.map (·.no)).Nodup):cH Tryz.prog 176 [.ptr 1000000 [],enc x] (cB 1000000 bs) (jd 1000000 d bs x):=by
 refine cH.bu Tryz.func176 Ri Ta Vj (zz0 rfl) (zz0 rfl) lj (fun hwf W0 D0 E1 =>?_);simp only[BJ,Lj,bl,zz4];clear hwf;have hk12:¬ (x.kind=1∨x.kind=2):=by omega
 have n3:ak (cB 1000000 bs) 3=none:=kE (by omega);have h0:ak (cB 1000000 bs) 1000000=some (.box (.agg [.mref 1000001])):=kD;have h1:ak (cB 1000000 bs) 1000001=some (.cC (dc bs) (en 1000000 bs.length)):=lh;rcases qb 1000000 bs x.cG with ⟨hg,hlk⟩ | ⟨i,hi,hg,hno,hlk⟩
 ·have R:=u8 @n3 (u8 @h0 (u8 @h1 (u8 @hlk (u8 @cA (u8 @fM (u8 @dT (u8 @aN @ab)))))))
  repeat' ((first |(with_reducible refine .guard (fun hb =>?_) (fun hb =>?_) <;>try simp only[hb])|refine J.aI (by decide +kernel) rfl fun K hK =>?_|refine .flat _ (jA _) rfl ?_|(refine .ay [0,1,3,4,5,14] hK ?_;clear hK K)|(with_reducible refine .done (hK _ ?_);clear hK K)|refine J.of rfl ?_|(with_reducible refine aq.aH (fun h =>?_) (fun h =>?_) <;>try simp only[h])) <;>try simp only[aK,R,simprocAttr])
  all_goals clear R
  exact gn rfl l5 (fun n x h=>fx h) (j8 (sE hk12 hg))
 ·have hl:=mP (B:=1000000) hi;have hr:=l4 (B:=1000000) hi;obtain ⟨nl,hnl⟩:∃ nl,nl=1000000+2+2*i:=⟨_,rfl⟩
  obtain ⟨nr,hnr⟩:∃ nr,nr=1000000+3+2*i:=⟨_,rfl⟩
  rw[←hnl] at hl hlk;rw[←hnr] at hl hr;have e1:(nl=3)=False:=by simp;omega
  have e2:(nr=3)=False:=by simp;omega
  have e3:(3=nl)=False:=by simp;omega
  have e4:(nr=nl)=False:=by simp;omega
  have e5:(nl=nr)=False:=by simp;omega
  have e6:(3=nr)=False:=by simp;omega
  have R:=u8 @n3 (u8 @h0 (u8 @h1 (u8 @hl (u8 @hr (u8 @e1 (u8 @e2 (u8 @e3 (u8 @hlk (u8 @mO (u8 @cA (u8 @fM (u8 @dT (u8 @aN @ab)))))))))))))
  repeat' ((first |(with_reducible refine .guard (fun hb =>?_) (fun hb =>?_) <;>try simp only[hb])|refine J.aI (by decide +kernel) rfl fun K hK =>?_|refine .flat _ (jA _) rfl ?_|(refine .ay [0,1,3,4,5,14] hK ?_;clear hK K)|(with_reducible refine .done (hK _ ?_);clear hK K)|refine J.of rfl ?_|(with_reducible refine aq.aH (fun h =>?_) (fun h =>?_) <;>try simp only[h])) <;>try simp only[aK,R,simprocAttr])
  all_goals clear R
  refine gn rfl (fun n h =>?_) (fun n x h=>fx h) (tC ae hk12 hi hg (b := { bs[i] with bx:=x.bx,found:=true }) (by simp[dG,hk]) rfl);rw[←xT hi (b := { bs[i] with bx:=x.bx,found:=true }) rfl rfl (z:=.box (enc x)) hnl hnr n h];simp only[ak];split <;>rfl
theorem Oy(bs:List ao)(x:ar)(d:Nat)(hk:x.kind=6)(ae:(bs.map (·.no)).Nodup):cH Tryz.prog 177 [.ptr 1000000 [],enc x] (cB 1000000 bs) (jd 1000000 d bs x):=by
 refine cH.bu Tryz.func177 Rj Tb Vk (zz0 rfl) (zz0 rfl) lj (fun hwf W0 D0 E1 =>?_);simp only[BK,Lk,bl,zz4];clear hwf;have hk12:¬ (x.kind=1∨x.kind=2):=by omega
 have n3:ak (cB 1000000 bs) 3=none:=kE (by omega);have h0:ak (cB 1000000 bs) 1000000=some (.box (.agg [.mref 1000001])):=kD;have h1:ak (cB 1000000 bs) 1000001=some (.cC (dc bs) (en 1000000 bs.length)):=lh;rcases qb 1000000 bs x.cG with ⟨hg,hlk⟩ | ⟨i,hi,hg,hno,hlk⟩
 ·have R:=u8 @n3 (u8 @h0 (u8 @h1 (u8 @hlk (u8 @cA (u8 @fM (u8 @dT (u8 @aN @ab)))))))
  repeat' ((first |(with_reducible refine .guard (fun hb =>?_) (fun hb =>?_) <;>try simp only[hb])|refine J.aI (by decide +kernel) rfl fun K hK =>?_|refine .flat _ (jA _) rfl ?_|(refine .ay [0,1,3,4,5,18] hK ?_;clear hK K)|(with_reducible refine .done (hK _ ?_);clear hK K)|refine J.of rfl ?_|(with_reducible refine aq.aH (fun h =>?_) (fun h =>?_) <;>try simp only[h])) <;>try simp only[aK,R,simprocAttr])
  all_goals clear R
  exact gn rfl l5 (fun n x h=>fx h) (j8 (sE hk12 hg))
 ·have hl:=mP (B:=1000000) hi;have hr:=l4 (B:=1000000) hi;obtain ⟨nl,hnl⟩:∃ nl,nl=1000000+2+2*i:=⟨_,rfl⟩
  obtain ⟨nr,hnr⟩:∃ nr,nr=1000000+3+2*i:=⟨_,rfl⟩
  rw[←hnl] at hl hlk;rw[←hnr] at hl hr;have e1:(nl=3)=False:=by simp;omega
  have e2:(nr=3)=False:=by simp;omega
  have e3:(3=nl)=False:=by simp;omega
  have e4:(nr=nl)=False:=by simp;omega
  have e5:(nl=nr)=False:=by simp;omega
  have e6:(3=nr)=False:=by simp;omega
  have R:=u8 @n3 (u8 @h0 (u8 @h1 (u8 @hl (u8 @hr (u8 @e1 (u8 @e2 (u8 @e3 (u8 @hlk (u8 @mO (u8 @cA (u8 @fM (u8 @dT (u8 @aN @ab)))))))))))))
  repeat' ((first |(with_reducible refine .guard (fun hb =>?_) (fun hb =>?_) <;>try simp only[hb])|refine J.aI (by decide +kernel) rfl fun K hK =>?_|refine .flat _ (jA _) rfl ?_|(refine .ay [0,1,3,4,5,18] hK ?_;clear hK K)|(with_reducible refine .done (hK _ ?_);clear hK K)|refine J.of rfl ?_|(with_reducible refine aq.aH (fun h =>?_) (fun h =>?_) <;>try simp only[h])) <;>try simp only[aK,R,simprocAttr])
  all_goals clear R
  all_goals first
   |exact gn rfl l5 (fun n x h=>fx h) (j8 (Ay hk12 hg (by simp_all[dG])))
   |exact gn rfl (xT hi (b := { bs[i] with cu:=x.day }) rfl rfl hnl hnr) (fun n x h=>fx h) (tC ae hk12 hi hg (by simp_all[dG]) rfl)
theorem ahN{bs:List ao}{i:Nat}(hi:i<bs.length){b:ao}(hno:b.no=(bs[i]).no){z:aj}{nl nr:Nat}(hnl:nl=1000000+2+2*i)(hnr:nr=1000000+3+2*i) :
  ∀ n,av (cB 1000000 (bs.set i b)) n=true→ak ((nl,.box (er b (.own nr b.bA.length)))::(nr,.bR 66 6 (b.bA.map enc))::(3,z)::cB 1000000 bs) n=ak (cB 1000000 (bs.set i b)) n:=fun n h=>by
 have:=lj n h;rw[IV hi b hno];simp only[ak];subst hnl hnr;rw[if_neg (show ¬ n=3 by omega)]
theorem Ow(bs:List ao)(x:ar)(d:Nat)(hk:x.kind=4)(ae:(bs.map (·.no)).Nodup)(hlen:∀ b∈bs,b.bA.length≤1000):cH Tryz.prog 175 [.ptr 1000000 [],enc x] (cB 1000000 bs) (jd 1000000 d bs x):=by
 refine cH.bu Tryz.func175 Rh S9 Vi (zz0 rfl) (zz0 rfl) lj (fun hwf W0 D0 E1 =>?_);simp only[BI,Li,bl,zz4];clear hwf;have hk12:¬ (x.kind=1∨x.kind=2):=by omega
 have n3:ak (cB 1000000 bs) 3=none:=kE (by omega);have h0:ak (cB 1000000 bs) 1000000=some (.box (.agg [.mref 1000001])):=kD;have h1:ak (cB 1000000 bs) 1000001=some (.cC (dc bs) (en 1000000 bs.length)):=lh;rcases qb 1000000 bs x.cG with ⟨hg,hlk⟩ | ⟨i,hi,hg,hno,hlk⟩
 ·have R:=u8 @n3 (u8 @h0 (u8 @h1 (u8 @hlk (u8 @cA (u8 @fM (u8 @dT (u8 @aN @ab)))))))
  repeat' ((first |(with_reducible refine .guard (fun hb =>?_) (fun hb =>?_) <;>try simp only[hb])|refine J.aI (by decide +kernel) rfl fun K hK =>?_|refine .flat _ (jA _) rfl ?_|(refine .ay [0,1,3,4,5,14] hK ?_;clear hK K)|(with_reducible refine .done (hK _ ?_);clear hK K)|refine J.of rfl ?_|(with_reducible refine aq.aH (fun h =>?_) (fun h =>?_) <;>try simp only[h])) <;>try simp only[aK,R,simprocAttr])
  all_goals clear R
  exact gn rfl l5 (fun n x h=>fx h) (j8 (sE hk12 hg))
 ·have hl:=mP (B:=1000000) hi;have hr:=l4 (B:=1000000) hi;obtain ⟨nl,hnl⟩:∃ nl,nl=1000000+2+2*i:=⟨_,rfl⟩
  obtain ⟨nr,hnr⟩:∃ nr,nr=1000000+3+2*i:=⟨_,rfl⟩
  rw[←hnl] at hl hlk;rw[←hnr] at hl hr;have e1:(nl=3)=False:=by simp;omega
  have e2:(nr=3)=False:=by simp;omega
  have e3:(3=nl)=False:=by simp;omega
  have e4:(nr=nl)=False:=by simp;omega
  have e5:(nl=nr)=False:=by simp;omega
  have e6:(3=nr)=False:=by simp;omega
  have hle:=hlen _ (zx6 hi);have happ:=fun (A:af) d rest=>kS (α:=bL 6 Int) (A:=A) (d:=d) 66 6 48 nr (l:=(bs[i]).bA.length) (es:=(bs[i]).bA) (ys:=[x.bA]) (rest:=rest) rfl rfl (by simp) (by simp[maxLen];omega) (by simp;omega);have hbs:=pL 6 x.bA rfl;have R:=u8 @n3 (u8 @h0 (u8 @h1 (u8 @hl (u8 @hr (u8 @e1 (u8 @e2 (u8 @e3 (u8 @e4 (u8 @e5 (u8 @e6 (u8 @hlk (u8 @happ (u8 @hbs (u8 @mO (u8 @cA (u8 @fM (u8 @dT (u8 @aN @ab))))))))))))))))))
  repeat' ((first |(with_reducible refine .guard (fun hb =>?_) (fun hb =>?_) <;>try simp only[hb])|refine J.aI (by decide +kernel) rfl fun K hK =>?_|(refine J.rT (gs:=xl) [] [] [0,1,2,3,4,5,6,7,8,9,10,11,12,13] (by decide +kernel) (eA.of (by simp[nO])) fun K hK =>?_;simp only[mg,xl,List.getD_cons_zero,List.getD_cons_succ,R,simprocAttr])|(refine .ay [0,1,3,4,5,14] hK ?_;clear hK K)|(with_reducible refine .done (hK _ ?_);clear hK K)|refine J.of rfl ?_|(with_reducible refine aq.aH (fun h =>?_) (fun h =>?_) <;>try simp only[h])) <;>try simp only[aK,R,simprocAttr])
  all_goals clear R
  refine gn rfl (fun n h =>?_) (fun n x h=>fx h) (tC ae hk12 hi hg (b := { bs[i] with bA:=(bs[i]).bA++[x.bA] }) (by simp[dG,hk]) rfl);rw[←ahN hi (b := { bs[i] with bA:=(bs[i]).bA++[x.bA] }) rfl (z:=.box (enc x)) hnl hnr n h];rfl
def gO(B d:Nat)(bs:List ao)(b:ao):List (Nat×aj):=(B+1,.cC (dc (bs++[b])) (en B bs.length++[.ptr d []]))::(d,.box (er b (.nils 6)))::cB B bs
theorem tB{B d:Nat}{bs:List ao}{x:ar}(hk:x.kind=1∨x.kind=2)(hg:cI bs x.cG=none)(hdam:fr bs x=true):jd B d bs x (.bool true) (gO B d bs (eH x)):=by
 have:cX eE bs x=some (bs++[eH x]):=by simp only[cX,if_pos hk,hg,hdam,eE,and_self,if_true]
 simp only[jd,this,if_pos hk,gO,and_self]
def IT(B d:Nat)(bs:List ao)(x:ar):cV:=fun r os' =>
 (cI bs x.cG≠none∧r=.bool false∧os'=cB B bs)∨(cI bs x.cG=none∧r=.bool true∧os'=gO B d bs (eH x))
theorem Qh(a b c d e f g:Int):(eJ [.int .i64 0,.int .i64 0,.int .i64 0,.int .i64 0,.int .i64 0,.int .i64 0,.int .i64 0,.bool false,.nils 6] [(0,.int .i64 a),(1,.int .i64 b),(2,.int .i64 c),(3,.int .i64 d),(4,.int .i64 e),(5,.int .i64 f),(6,.int .i64 g)]).map I.agg=some (I.agg [.int .i64 a,.int .i64 b,.int .i64 c,.int .i64 d,.int .i64 e,.int .i64 f,.int .i64 g,.bool false,.nils 6]):=by
 simp[eJ,I.cn,I.size]
theorem Qi(a b c d e f g:Int):(eJ [.agg [.int .i64 0,.int .i64 0,.int .i64 0,.int .i64 0,.int .i64 0,.int .i64 0,.int .i64 0,.bool false,.nils 6]] [(0,.agg [.int .i64 a,.int .i64 b,.int .i64 c,.int .i64 d,.int .i64 e,.int .i64 f,.int .i64 g,.bool false,.nils 6])]).map I.agg=some (er ⟨a,b,c,d,e,f,g,false,[]⟩ (.nils 6)):=by
 simp[eJ,I.cn,I.size,I.sizes];rfl
theorem ah4(b:ao)(s:I):(er b s).cn=true:=rfl
theorem aiW(B d:Nat)(bs:List ao)(x:ar)(hg:cI bs x.cG=none):gl (.i .i64) (.int .i64 x.cG) (.ptr d []) (dc bs) (en B bs.length)=some (dc (bs++[eH x]),en B bs.length++[.ptr d []]):=by
 have h2:=JH pU x.cG (.ptr d []) rfl (bs.map (·.no)) (en B bs.length);rw[fY] at h2;unfold dc;rw[h2];have h1:=tt (bs:=bs) (no:=x.cG);cases h:(bs.map (·.no)).findIdx? fun y=>decide (x.cG=y) with
 |none=>simp only[zx4,zz9,zx3];rfl
 |some i=>rw[h] at h1;obtain ⟨hi,g,_⟩:=h1;rw[hg] at g;cases g
theorem nI{B d:Nat}{bs:List ao}{b:ao}{n:Nat} : av (gO B d bs b) n=(decide (n=d)||av (cB B bs) n):=by
 by_cases h1:n=B+1
 ·subst h1;have:av (cB B bs) (B+1)=true:=by simp[av,lh]
  rw[this];simp[gO,av,ak]
 ·by_cases h2:n=d
  ·subst h2;simp[gO,av,ak,h1]
  ·simp[gO,av,ak,h1,h2]
theorem nJ{B d:Nat}{bs:List ao}{b:ao}{n:Nat}{x:aj}(h:ak (gO B d bs b) n=some x):x.only (av (gO B d bs b))=true∧x.eR=true:=by
 have cN:∀ m,av (cB B bs) m=true→av (gO B d bs b) m=true:=fun m hm=>by rw[nI,hm,Bool.or_true]
 simp only[gO,ak] at h;split at h
 ·cases h;refine ⟨?_,rfl⟩;simp only[aj.only,zz3,jO];refine ⟨eI _ _,yI _ fun i hi=>cN _ (by rw[nK];simp;omega),?_⟩;simp[I.bZ,I.only,nI]
 ·split at h
  ·cases h;exact ⟨by simp[aj.only,I.only,I.bZ,er],rfl⟩
  ·obtain ⟨k1,k2⟩:=fx h;exact ⟨aj.jo cN _ k1,k2⟩
theorem sj(bs:List ao)(x:ar):cH Tryz.prog 173 [.ptr 1000000 [],enc x] (cB 1000000 bs) (IT 1000000 33 bs x):=by
 refine cH.bu Tryz.func173 Rf S7 Vg (zz0 rfl) (zz0 rfl) lj (fun hwf W0 D0 E1 =>?_);simp only[BG,Lg,bl,zz4];clear hwf;have n3:ak (cB 1000000 bs) 3=none:=kE (by omega);have n33:ak (cB 1000000 bs) 33=none:=kE (by omega);have h0:ak (cB 1000000 bs) 1000000=some (.box (.agg [.mref 1000001])):=kD;have h1:ak (cB 1000000 bs) 1000001=some (.cC (dc bs) (en 1000000 bs.length)):=lh;rcases qb 1000000 bs x.cG with ⟨hg,hlk⟩ | ⟨i,hi,hg,hno,hlk⟩
 ·have hup:=aiW 1000000 33 bs x hg;have R:=u8 @n3 (u8 @n33 (u8 @h0 (u8 @h1 (u8 @hlk (u8 @hup (u8 @Qh (u8 @Qi (u8 @ah4 (u8 @cA (u8 @fM (u8 @dT (u8 @aN @ab))))))))))))
  repeat' ((first |(with_reducible refine .guard (fun hb =>?_) (fun hb =>?_) <;>try simp only[hb])|refine J.aI (by decide +kernel) rfl fun K hK =>?_|(refine .ay [0,1,3,4,12] hK ?_;clear hK K)|(with_reducible refine .done (hK _ ?_);clear hK K)|refine J.of rfl ?_|(with_reducible refine aq.aH (fun h =>?_) (fun h =>?_) <;>try simp only[h])) <;>try simp only[aK,R,simprocAttr])
  all_goals clear R
  refine gn (os':=gO 1000000 33 bs (eH x)) (b:=true) rfl (fun n h =>?_) (fun n x h=>nJ h) (Or.inr ⟨hg,rfl,rfl⟩);rw[nI] at h;simp only[gO,ak];by_cases e:n=33
  ·subst e;simp;rfl
  ·have:=lj n (by simpa[e] using h);rw[if_neg (show ¬ n=33 by omega),if_neg (show ¬ n=3 by omega),if_neg (show ¬ n=33 by omega)]
 ·have R:=u8 @n3 (u8 @h0 (u8 @h1 (u8 @hlk (u8 @cA (u8 @fM (u8 @dT (u8 @aN @ab)))))))
  repeat' ((first |(with_reducible refine .guard (fun hb =>?_) (fun hb =>?_) <;>try simp only[hb])|refine J.aI (by decide +kernel) rfl fun K hK =>?_|(refine .ay [0,1,3,4,12] hK ?_;clear hK K)|(with_reducible refine .done (hK _ ?_);clear hK K)|refine J.of rfl ?_|(with_reducible refine aq.aH (fun h =>?_) (fun h =>?_) <;>try simp only[h])) <;>try simp only[aK,R,simprocAttr])
  all_goals clear R
  exact gn (b:=false) rfl l5 (fun n x h=>fx h) (Or.inl ⟨by rw[hg];simp,rfl,rfl⟩)
theorem bh.xR{K:af→Prop}{f:FuncId}{x:ar}{avs:List I}{a1 a2:Option (List I)}{dst:Option Nat}{rest:List aC}{ts:List (Nat×I)}{z:aj}{bs:List ao}(hc:cH Tryz.prog f [.ptr 1000000 [],enc x] (cB 1000000 bs) (IT 1000000 33 bs x))(hav:avs=[.ptr 1000000 [],enc x])
  (h1:cI bs x.cG≠none→bh Tryz.prog iG false K (aA rest ((au ts (cB 1000000 bs++((3,z)::cB 1000000 bs))).aP dst (.bool false))))
  (h2:cI bs x.cG=none→bh Tryz.prog iG false K (aA rest ((au ts (gO 1000000 33 bs (eH x)++((3,z)::cB 1000000 bs))).aP dst (.bool true)))) :
  bh Tryz.prog iG false K (.call f avs a1 a2 dst rest (au ts ((3,z)::cB 1000000 bs))):=by
 subst hav;refine .bT false [] (cB 1000000 bs) [.ptr 1000000 [],enc x] _ rfl hc ⟨fun m y hy =>?_,fun m m' _ _ h=>h⟩ ⟨.inl ⟨?_,?_,rfl⟩,.inl ⟨(ky _ _).symm,bK _ _,dU _⟩,trivial⟩ ?_ ?_
 ·have hm:=lj (bs:=bs) m (by simp[av,hy]);rw[aj.mj (ρ:=bD []) (fun n=>rfl)];refine ⟨?_,fx hy⟩
  show ak ((3,z)::cB 1000000 bs) m=some y
  have h3:¬ m=3:=by omega
  simp only[ak,if_neg h3];exact hy
 ·simp only[I.aQ,bD]
 ·simp only[I.only];simp[av,kD]
 ·rintro r os' (⟨_,rfl,rfl⟩ | ⟨_,rfl,rfl⟩)
  ·exact ⟨fun m y hy=>⟨(fx hy).1,(fx hy).2,fun h=>by cases h⟩,fun m m' _ _ h=>h,fun m hm=>hm,(fun m a b=>by rw[a] at b;cases b),rfl,(fun h=>by cases h)⟩
  ·refine ⟨fun m y hy=>⟨(nJ hy).1,(nJ hy).2,fun h=>by cases h⟩,fun m m' _ _ h=>h,fun m hm=>by rw[nI,hm,Bool.or_true],fun m a b =>?_,rfl,fun h=>by cases h⟩;rw[nI,b,Bool.or_false,decide_eq_true_eq] at a;subst a;have h3:¬ (33:Nat)=3:=by omega
   refine ⟨?_,by simp[bD]⟩
   show ak ((3,z)::cB 1000000 bs) 33=none
   simp only[ak,if_neg h3];exact kE (by omega)
 ·rintro r os' (⟨hg,rfl,rfl⟩ | ⟨hg,rfl,rfl⟩)
  ·rw[uB];exact h1 hg
  ·rw[uB];exact h2 hg
theorem pG{os os0:List (Nat×aj)} : ∀ n,av os n=true→ak (os++os0) n=ak os n:=fun n h=>by
 rw[kF];cases hx:ak os n with
 |none=>simp[av,hx] at h
 |some y=>rfl
theorem Ou(bs:List ao)(x:ar)(hk:x.kind=1):cH Tryz.prog 172 [.ptr 1000000 [],enc x] (cB 1000000 bs) (jd 1000000 33 bs x):=by
 refine cH.bu Tryz.func172 Re S6 Vf (zz0 rfl) (zz0 rfl) lj (fun hwf W0 D0 E1 =>?_);simp only[BF,Lf,bl,zz4];clear hwf;have n3:ak (cB 1000000 bs) 3=none:=kE (by omega);have h0:ak (cB 1000000 bs) 1000000=some (.box (.agg [.mref 1000001])):=kD;have h1:ak (cB 1000000 bs) 1000001=some (.cC (dc bs) (en 1000000 bs.length)):=lh;by_cases hd0:x.cm≤0
 ·have hc:decide (0<x.cm)=false:=by simp;omega
  have hdam:fr bs x=true:=by simp[fr,hd0]
  have R:=u8 @n3 (u8 @h0 (u8 @h1 (u8 @hc (u8 @cA (u8 @fM (u8 @dT (u8 @aN @ab)))))))
  repeat' ((first |(with_reducible refine .guard (fun hb =>?_) (fun hb =>?_) <;>try simp only[hb])|refine J.aI (by decide +kernel) rfl fun K hK =>?_|(refine .ay [0,1,3,4,5,8,41] hK ?_;clear hK K)|(with_reducible refine .done (hK _ ?_);clear hK K)|refine J.of rfl ?_|(with_reducible refine aq.aH (fun h =>?_) (fun h =>?_) <;>try simp only[h])) <;>try simp only[aK,R,simprocAttr])
  all_goals clear R
  refine bh.xR (sj bs x) rfl (fun hg =>?_) (fun hg =>?_)
  ·try simp only[ab,simprocAttr]
   refine .done (hK _ ?_);clear hK K;refine J.ret ?_;simp only[fV];exact gn (b:=false) rfl pG (fun n x h=>fx h) (j8 (by simp[cX,hk,hg]))
  ·try simp only[ab,simprocAttr]
   refine .done (hK _ ?_);clear hK K;refine J.ret ?_;simp only[fV];exact gn (b:=true) rfl pG (fun n x h=>nJ h) (tB (.inl hk) hg hdam)
 have hc:decide (0<x.cm)=true:=by simp;omega
 rcases qb 1000000 bs x.cm with ⟨hg,hlk⟩ | ⟨i,hi,hg,hno,hlk⟩
 ·have hdam:fr bs x=false:=by simp[fr,hg];omega
  have R:=u8 @n3 (u8 @h0 (u8 @h1 (u8 @hc (u8 @hlk (u8 @cA (u8 @fM (u8 @dT (u8 @aN @ab))))))))
  repeat' ((first |(with_reducible refine .guard (fun hb =>?_) (fun hb =>?_) <;>try simp only[hb])|refine J.aI (by decide +kernel) rfl fun K hK =>?_|(refine .ay [0,1,3,4,5,8,41] hK ?_;clear hK K)|(with_reducible refine .done (hK _ ?_);clear hK K)|refine J.of rfl ?_|(with_reducible refine aq.aH (fun h =>?_) (fun h =>?_) <;>try simp only[h])) <;>try simp only[aK,R,simprocAttr])
  all_goals clear R
  exact gn (b:=false) rfl l5 (fun n x h=>fx h) (j8 (by simp[cX,hk,hdam]))
 ·have hl:=mP (B:=1000000) hi;have hr:=l4 (B:=1000000) hi;obtain ⟨nl,hnl⟩:∃ nl,nl=1000000+2+2*i:=⟨_,rfl⟩
  obtain ⟨nr,hnr⟩:∃ nr,nr=1000000+3+2*i:=⟨_,rfl⟩
  rw[←hnl] at hl hlk;rw[←hnr] at hl hr;have e1:(nl=3)=False:=by simp;omega
  have e2:(nr=3)=False:=by simp;omega
  cases hs:(bs[i]).cd != x.cd with
  |true =>
   have hdam:fr bs x=false:=by simp at hs;simp[fr,hg,hs];omega
   have R:=u8 @n3 (u8 @h0 (u8 @h1 (u8 @hl (u8 @hr (u8 @e1 (u8 @e2 (u8 @hc (u8 @hlk (u8 @hs (u8 @mO (u8 @cA (u8 @fM (u8 @dT (u8 @aN @ab))))))))))))))
   repeat' ((first |(with_reducible refine .guard (fun hb =>?_) (fun hb =>?_) <;>try simp only[hb])|refine J.aI (by decide +kernel) rfl fun K hK =>?_|refine .flat _ (jA _) rfl ?_|(refine .ay [0,1,3,4,5,8,41] hK ?_;clear hK K)|(with_reducible refine .done (hK _ ?_);clear hK K)|refine J.of rfl ?_|(with_reducible refine aq.aH (fun h =>?_) (fun h =>?_) <;>try simp only[h])) <;>try simp only[aK,R,simprocAttr])
   all_goals clear R
   exact gn (b:=false) rfl l5 (fun n x h=>fx h) (j8 (by simp[cX,hk,hdam]))
  |false =>
   cases hdd:decide (0≤(bs[i]).cu) with
   |false =>
    have hdam:fr bs x=true:=by simp at hs hdd;simp[fr,hg,hs];omega
    have R:=u8 @n3 (u8 @h0 (u8 @h1 (u8 @hl (u8 @hr (u8 @e1 (u8 @e2 (u8 @hc (u8 @hlk (u8 @hs (u8 @hdd (u8 @mO (u8 @cA (u8 @fM (u8 @dT (u8 @aN @ab)))))))))))))))
    repeat' ((first |(with_reducible refine .guard (fun hb =>?_) (fun hb =>?_) <;>try simp only[hb])|refine J.aI (by decide +kernel) rfl fun K hK =>?_|refine .flat _ (jA _) rfl ?_|(refine .ay [0,1,3,4,5,8,41] hK ?_;clear hK K)|(with_reducible refine .done (hK _ ?_);clear hK K)|refine J.of rfl ?_|(with_reducible refine aq.aH (fun h =>?_) (fun h =>?_) <;>try simp only[h])) <;>try simp only[aK,R,simprocAttr])
    all_goals clear R
    refine bh.xR (sj bs x) rfl (fun hg =>?_) (fun hg =>?_)
    ·try simp only[ab,simprocAttr]
     refine .done (hK _ ?_);clear hK K;refine J.ret ?_;simp only[fV];exact gn (b:=false) rfl pG (fun n x h=>fx h) (j8 (by simp[cX,hk,hg]))
    ·try simp only[ab,simprocAttr]
     refine .done (hK _ ?_);clear hK K;refine J.ret ?_;simp only[fV];exact gn (b:=true) rfl pG (fun n x h=>nJ h) (tB (.inl hk) hg hdam)
   |true =>
    cases hdy:decide ((bs[i]).cu<x.day) with
    |true =>
     have hdam:fr bs x=false:=by simp at hs hdd hdy;simp[fr,hg,hs];omega
     have R:=u8 @n3 (u8 @h0 (u8 @h1 (u8 @hl (u8 @hr (u8 @e1 (u8 @e2 (u8 @hc (u8 @hlk (u8 @hs (u8 @hdd (u8 @hdy (u8 @mO (u8 @cA (u8 @fM (u8 @dT (u8 @aN @ab))))))))))))))))
     repeat' ((first |(with_reducible refine .guard (fun hb =>?_) (fun hb =>?_) <;>try simp only[hb])|refine J.aI (by decide +kernel) rfl fun K hK =>?_|refine .flat _ (jA _) rfl ?_|(refine .ay [0,1,3,4,5,8,41] hK ?_;clear hK K)|(with_reducible refine .done (hK _ ?_);clear hK K)|refine J.of rfl ?_|(with_reducible refine aq.aH (fun h =>?_) (fun h =>?_) <;>try simp only[h])) <;>try simp only[aK,R,simprocAttr])
     all_goals clear R
     exact gn (b:=false) rfl l5 (fun n x h=>fx h) (j8 (by simp[cX,hk,hdam]))
    |false =>
     have hdam:fr bs x=true:=by simp at hs hdd hdy;simp[fr,hg,hs];omega
     have R:=u8 @n3 (u8 @h0 (u8 @h1 (u8 @hl (u8 @hr (u8 @e1 (u8 @e2 (u8 @hc (u8 @hlk (u8 @hs (u8 @hdd (u8 @hdy (u8 @mO (u8 @cA (u8 @fM (u8 @dT (u8 @aN @ab))))))))))))))))
     repeat' ((first |(with_reducible refine .guard (fun hb =>?_) (fun hb =>?_) <;>try simp only[hb])|refine J.aI (by decide +kernel) rfl fun K hK =>?_|refine .flat _ (jA _) rfl ?_|(refine .ay [0,1,3,4,5,8,41] hK ?_;clear hK K)|(with_reducible refine .done (hK _ ?_);clear hK K)|refine J.of rfl ?_|(with_reducible refine aq.aH (fun h =>?_) (fun h =>?_) <;>try simp only[h])) <;>try simp only[aK,R,simprocAttr])
     all_goals clear R
     refine bh.xR (sj bs x) rfl (fun hg =>?_) (fun hg =>?_)
     ·try simp only[ab,simprocAttr]
      refine .done (hK _ ?_);clear hK K;refine J.ret ?_;simp only[fV];exact gn (b:=false) rfl pG (fun n x h=>fx h) (j8 (by simp[cX,hk,hg]))
     ·try simp only[ab,simprocAttr]
      refine .done (hK _ ?_);clear hK K;refine J.ret ?_;simp only[fV];exact gn (b:=true) rfl pG (fun n x h=>nJ h) (tB (.inl hk) hg hdam)
def kY:I:=.cM [.int .i64 1,.int .i64 2,.int .i64 3,.int .i64 4,.int .i64 5,.int .i64 6] [.func 172 [],.func 173 [],.func 174 [],.func 175 [],.func 176 [],.func 177 []]
theorem aiQ:gl (.i .i64) (.int .i64 1) (.func 172 []) [] []=some ([.int .i64 1],[.func 172 []]):=by simp[gl,fh,cv,I.cn]
theorem aiR:gl (.i .i64) (.int .i64 2) (.func 173 []) [.int .i64 1] [.func 172 []]=some ([.int .i64 1,.int .i64 2],[.func 172 [],.func 173 []]):=by simp[gl,fh,cv,I.cn]
theorem aiS:gl (.i .i64) (.int .i64 3) (.func 174 []) [.int .i64 1,.int .i64 2] [.func 172 [],.func 173 []]=some ([.int .i64 1,.int .i64 2,.int .i64 3],[.func 172 [],.func 173 [],.func 174 []]):=by simp[gl,fh,cv,I.cn]
theorem aiT:gl (.i .i64) (.int .i64 4) (.func 175 []) [.int .i64 1,.int .i64 2,.int .i64 3] [.func 172 [],.func 173 [],.func 174 []]=some ([.int .i64 1,.int .i64 2,.int .i64 3,.int .i64 4],[.func 172 [],.func 173 [],.func 174 [],.func 175 []]):=by simp[gl,fh,cv,I.cn]
theorem aiU:gl (.i .i64) (.int .i64 5) (.func 176 []) [.int .i64 1,.int .i64 2,.int .i64 3,.int .i64 4] [.func 172 [],.func 173 [],.func 174 [],.func 175 []]=some ([.int .i64 1,.int .i64 2,.int .i64 3,.int .i64 4,.int .i64 5],[.func 172 [],.func 173 [],.func 174 [],.func 175 [],.func 176 []]):=by simp[gl,fh,cv,I.cn]
theorem aiV:gl (.i .i64) (.int .i64 6) (.func 177 []) [.int .i64 1,.int .i64 2,.int .i64 3,.int .i64 4,.int .i64 5] [.func 172 [],.func 173 [],.func 174 [],.func 175 [],.func 176 []]=some ([.int .i64 1,.int .i64 2,.int .i64 3,.int .i64 4,.int .i64 5,.int .i64 6],[.func 172 [],.func 173 [],.func 174 [],.func 175 [],.func 176 [],.func 177 []]):=by simp[gl,fh,cv,I.cn]
theorem zQ:aB Tryz.prog 139 [] kY:=by
 refine aB.bu Tryz.func139 QP SH UQ (zz0 rfl) (fun hwf W0 D0 E1 =>?_);simp only[Bg,KR,bl];refine .az (by decide +kernel) fun K hK =>?_;simp only[Fi,ab,simprocAttr];refine .done (hK _ ?_);clear hK K;refine .az (by decide +kernel) fun K hK =>?_;simp only[Fj,ab,simprocAttr]
 try simp only[dT,aiQ,aiR,aiS,aiT,aiU,aiV,ab,simprocAttr]
 refine .done (hK _ ?_);clear hK K;refine J.ret ?_;simp only[ab,simprocAttr];simp[kY,a6,au,cZ,df,fy,I.bU,I.bj,lQ,nZ];rfl
def dZ(bs:List ao):List (Nat×aj):=(43,.box (.agg [.mref 41]))::(41,.cC (dc bs) (en 2000 bs.length))::eY 2000 0 bs
def nH(bs:List ao)(b:ao):List (Nat×aj):=(41,.cC (dc (bs++[b])) (en 2000 bs.length++[.ptr (2002+2*bs.length) []]))::(2002+2*bs.length,.box (er b (.nils 6)))::dZ bs
def gD(n:Nat):List (Nat×Nat):=(33,2002+2*n)::(1000000,43)::(1000001,41)::(List.range' 0 200).map fun j=>(1000002+j,2002+j)
theorem MC(m:Nat):∀ k a,bD ((List.range' a k).map fun j=>(1000002+j,2002+j)) m=if 1000002+a≤m∧m<1000002+a+k then m-998000 else m
 |0,a=>by
  rw[if_neg (by omega)];rfl
 |k+1,a=>by
  rw[List.range'_succ,zz9,bD,MC m k (a+1)];by_cases h:m=1000002+a
  ·rw[if_pos h,if_pos (by omega)];omega
  ·rw[if_neg h];by_cases h2:1000002+(a+1)≤m∧m<1000002+(a+1)+k
   ·rw[if_pos h2,if_pos (by omega)]
   ·rw[if_neg h2,if_neg (by omega)]
theorem mn(n m:Nat):bD (gD n) m=if m=33 then 2002+2*n else if m=1000000 then 43 else if m=1000001 then 41 else if 1000002≤m∧m<1000202 then m-998000 else m:=by
 simp only[gD,bD,MC]
theorem MA{n i:Nat}(h:i≤80):bD (gD n) (1000000+2+2*i)=2000+2+2*i:=by
 rw[mn,if_neg (by omega),if_neg (by omega),if_neg (by omega),if_pos (by omega)];omega
theorem ak7{n i:Nat}(h:i≤80):bD (gD n) (1000000+3+2*i)=2000+3+2*i:=by
 rw[mn,if_neg (by omega),if_neg (by omega),if_neg (by omega),if_pos (by omega)];omega
theorem Mx(n:Nat):bD (gD n) 1000000=43:=by rw[mn];rfl
theorem My(n:Nat):bD (gD n) 1000001=41:=by rw[mn];rfl
theorem Mz(n:Nat):bD (gD n) 33=2002+2*n:=by rw[mn];rfl
theorem y6(ρ:List (Nat×Nat))(k:Nat)(v:aj)(os:List (Nat×aj)):dL ρ ((k,v)::os)=(bD ρ k,v.aQ (bD ρ))::dL ρ os:=rfl
theorem Mp(n:Nat):∀ (bs:List ao) (i:Nat),i+bs.length≤80→dL (gD n) (eY 1000000 i bs)=eY 2000 i bs
 | [],_,_=>rfl
 |b::bs,i,h=>by
  simp only[zv9] at h;have ih:=Mp n bs (i+1) (by omega);simp only[eY,y6,ih,MA (n:=n) (i:=i) (by omega),ak7 (n:=n) (i:=i) (by omega),aj.aQ,hE,er,I.aQ,I.cR]
theorem Mr(n:Nat){k:Nat}(h:k≤80):I.cR (bD (gD n)) (en 1000000 k)=en 2000 k:=by
 simp only[en,pb,List.map_map];refine List.map_congr_left fun i hi =>?_;have:=zw7.1 hi;simp only[Function.comp,I.aQ,MA (n:=n) (i:=i) (by omega)]
theorem Mq(ρ:Nat→Nat)(bs:List ao):I.cR ρ (dc bs)=dc bs:=by
 simp only[dc,hE]
theorem uC(n:Nat){bs:List ao}(h:bs.length≤80):dL (gD n) (cB 1000000 bs)=dZ bs:=by
 have h1:=Mp n bs 0 (by omega);simp only[cB,dZ,y6,h1,aj.aQ,I.aQ,I.cR,Mq,Mr n h,Mx,My,Nat.reduceAdd]
theorem akW(ρ:Nat→Nat)(xs ys:List I):I.cR ρ (xs++ys)=I.cR ρ xs++I.cR ρ ys:=by simp only[pb,zx4]
theorem akU{bs:List ao}{b:ao}(h:bs.length≤80):dL (gD bs.length) (gO 1000000 33 bs b)=nH bs b:=by
 have h1:=uC bs.length h;simp only[gO,nH,y6,h1,aj.aQ,I.aQ,I.cR,Mq,akW,Mr bs.length h,My,Mz,er,Nat.reduceAdd]
def ua(n m:Nat):Prop:=m=33∨(1000000≤m∧m<1000002+2*n)
theorem uH{n k m m':Nat}(hk:k≤80)(hm:1000000≤m∧m<1000002+2*k)(hm':1000000≤m'∧m'<1000002+2*k)(h:bD (gD n) m=bD (gD n) m'):m=m':=by
 rw[mn,mn] at h;rw[if_neg (by omega),if_neg (show ¬ m'=33 by omega)] at h
 (repeat' split at h) <;>omega
theorem ak6{n m m':Nat}(hk:n≤80)(hm:ua n m)(hm':ua n m')(h:bD (gD n) m=bD (gD n) m'):m=m':=by
 simp only[ua] at hm hm';rw[mn,mn] at h
 (repeat' split at h) <;>omega
theorem aiD{ρ:List (Nat×Nat)}{os:List (Nat×aj)}{m:Nat}{y:aj}(inj:∀ m',av os m'=true→bD ρ m'=bD ρ m→m'=m)(h:ak os m=some y):ak (dL ρ os) (bD ρ m)=some (y.aQ (bD ρ)):=by
 have h1:=rE ρ os [] (bD ρ m);rw[zx5] at h1;rw[h1];cases hp:pre ρ os (bD ρ m) with
 |none=>exact absurd rfl (yO hp (by simp[av,h]))
 |some m' =>
  obtain ⟨k1,k2⟩:=mi hp;have:=inj m' k1 k2;subst this;simp only[h,zy5]
theorem xS{bs:List ao}{n:Nat} : av (dZ bs) n=decide (n=43∨n=41∨(2002≤n∧n<2002+2*bs.length)):=by
 have h2:av (eY 2000 0 bs) n=decide (2002≤n∧n<2002+2*bs.length):=by
  by_cases h1:n<2002
  ·simp only[av,tI 2000 bs 0 n (by omega)];simp;omega
  by_cases h3:2002+2*bs.length≤n
  ·simp only[av,tG 2000 bs 0 n (by omega)];simp;omega
  ·rcases tX 2000 n bs.length with h | h | h | ⟨k,hk,h⟩ | ⟨k,hk,h⟩ | h
   ·omega
   ·omega
   ·omega
   ·have:=tH 2000 bs 0 k hk;rw[zz4] at this;rw[h];simp only[av,this];simp;omega
   ·have:=tJ 2000 bs 0 k hk;rw[zz4] at this;rw[h];simp only[av,this];simp;omega
   ·omega
 simp only[av,dZ,ak] at h2 ⊢;by_cases h3:n=43
 ·simp[h3]
 by_cases h4:n=41
 ·simp[h4]
 simp only[h3,h4,if_false,h2,false_or]
theorem cH.post{P:Program}{f:FuncId}{args:List I}{os:List (Nat×aj)}{post post':cV}(h:cH P f args os post)(hp:∀ r os',post r os'→post' r os'):cH P f args os post' :=
 ⟨h.1,fun w D E vs hs hD ho hv=>(h.2 w D E vs hs hD ho hv).mono fun _ _ ⟨v,D',E',r,os',k1,k2,k⟩=>⟨v,D',E',r,os',k1,hp _ _ k2,k⟩⟩
def nz:List I:=[.int .i64 1,.int .i64 2,.int .i64 3,.int .i64 4,.int .i64 5,.int .i64 6]
def nA:List I:=[.func 172 [],.func 173 [],.func 174 [],.func 175 [],.func 176 [],.func 177 []]
theorem Ji{x:ar}(h:fU x=true):0≤x.kind∧x.kind≤6∧(x.kind=2→x.cm=0):=by
 simp only[fU,zz3,decide_eq_true_eq] at h;obtain ⟨h1,h2,_⟩:=h;have h3:x.kind=2→x.cm=0:=fun hk=>by rw[h2];simp[kU,hk]
 simp only[j7] at h1;refine ⟨?_,?_,h3⟩
 all_goals
  split at h1
  ·omega
  ·simp only[zz3] at h1;obtain ⟨-,h1⟩:=h1
   repeat' split at h1
   all_goals first | omega | (simp only[decide_eq_true_eq] at h1;omega)
theorem wa{bs:List ao}{x:ar}(hok:fU x=true)(hk0:x.kind≠0)(ae:(bs.map (·.no)).Nodup)(hlen:∀ b∈bs,b.bA.length≤1000) :
  ∃ f,gz (.i .i64) .dh (.int .i64 x.kind) nz nA=some (.func f [],true)∧[172,173,174,175,176,177].contains f=true∧cH Tryz.prog f [.ptr 1000000 [],enc x] (cB 1000000 bs) (jd 1000000 33 bs x):=by
 obtain ⟨h1,h2,h3⟩:=Ji hok;have h4:x.kind=1∨x.kind=2∨x.kind=3∨x.kind=4∨x.kind=5∨x.kind=6:=by omega
 rcases h4 with h | h | h | h | h | h
 ·exact ⟨172,by rw[h];simp[gz,fh,cv,nz,nA],rfl,Ou bs x h⟩
 ·refine ⟨173,by rw[h];simp[gz,fh,cv,nz,nA],rfl,cH.post (sj bs x) ?_⟩;have hdam:fr bs x=true:=by simp[fr,h3 h]
  rintro r os' (⟨k1,rfl,rfl⟩ | ⟨k1,rfl,rfl⟩)
  ·exact j8 (by simp[cX,h,k1])
  ·exact tB (.inr h) k1 hdam
 ·exact ⟨174,by rw[h];simp[gz,fh,cv,nz,nA],rfl,Ov bs x 33 h ae⟩
 ·exact ⟨175,by rw[h];simp[gz,fh,cv,nz,nA],rfl,Ow bs x 33 h ae hlen⟩
 ·exact ⟨176,by rw[h];simp[gz,fh,cv,nz,nA],rfl,Ox bs x 33 h ae⟩
 ·exact ⟨177,by rw[h];simp[gz,fh,cv,nz,nA],rfl,Oy bs x 33 h ae⟩
theorem vz{bs bs':List ao}{x:ar}(hk:¬ (x.kind=1∨x.kind=2))(h:cX eE bs x=some bs'):bs'.length=bs.length:=by
 simp only[cX,if_neg hk] at h;split at h
 ·cases h
 ·simp only[zz1] at h;obtain ⟨b',_,rfl⟩:=h;simp[mw]
theorem cg.wa{hs:List FuncId}{K:af→Prop}{f:FuncId}{x:ar}{avs:List I}{a1 a2:Option (List I)}{dst:Option Nat}{rest:List aC}{ts:List (Nat×I)}{z y:aj}{bs:List ao}(hlen:bs.length≤60)(hf:hs.contains f=true)
  (hc:cH Tryz.prog f [.ptr 1000000 [],enc x] (cB 1000000 bs) (jd 1000000 33 bs x)) (hav:avs=[.ptr 43 [],enc x])
  (h1:cX eE bs x=none→cg Tryz.prog hs K (aA rest ((au ts (dZ bs++((900,z)::(dZ bs++[(3,y)])))).aP dst (.bool false))))
  (h2:∀ bs',cX eE bs x=some bs'→¬ (x.kind=1∨x.kind=2)→cg Tryz.prog hs K (aA rest ((au ts (dZ bs'++((900,z)::(dZ bs++[(3,y)])))).aP dst (.bool true))))
  (h3:cX eE bs x=some (bs++[eH x])→cg Tryz.prog hs K (aA rest ((au ts (nH bs (eH x)++((900,z)::(dZ bs++[(3,y)])))).aP dst (.bool true)))) :
  cg Tryz.prog hs K (.call f avs a1 a2 dst rest (au ts ((900,z)::(dZ bs++[(3,y)])))):=by
 subst hav;have nm:∀ {bs:List ao} {m},av (cB 1000000 bs) m=true→1000000≤m∧m<1000002+2*bs.length:=fun {bs m} h=>by
  rw[nK] at h;simpa using h
 have hlow:∀ {bs':List ao},bs'.length≤60→∀ {m y},ak (cB 1000000 bs') m=some y→ak (dZ bs') (bD (gD bs.length) m)=some (y.aQ (bD (gD bs.length))):=fun {bs'} hl {m y} hy=>by
  rw[←uC bs.length (bs:=bs') (by omega)];exact aiD (fun m' hm' he=>uH (by omega) (nm hm') (nm (by simp[av,hy])) he) hy
 refine .yq false (gD bs.length) (cB 1000000 bs) [.ptr 1000000 [],enc x] _ hf hc ⟨fun m y' hy =>?_,fun m m' h h' e=>uH (n:=bs.length) (by omega) (nm h) (nm h') e⟩ ⟨.inl ⟨?_,?_,rfl⟩,.inl ⟨(ky _ _).symm,bK _ _,dU _⟩,trivial⟩ ?_ ?_
 ·have hm:=nm (bs:=bs) (m:=m) (by simp[av,hy]);refine ⟨?_,fx hy⟩;have h9:bD (gD bs.length) m≠900:=fun e=>by
   rw[mn] at e
   (repeat' split at e) <;>omega
  simp only[ak,if_neg h9,kF,hlow hlen hy]
 ·simp only[I.aQ,Mx]
 ·simp only[I.only];simp[av,kD]
 ·intro r os' hp;simp only[jd] at hp;split at hp
  ·obtain ⟨rfl,rfl⟩:=hp;exact ⟨fun m y hy=>⟨(fx hy).1,(fx hy).2,fun h=>by cases h⟩,fun m m' h h' e=>uH (n:=bs.length) (k:=bs.length) (by omega) (nm h) (nm h') e,fun m hm=>hm,(fun m a b=>by rw[a] at b;cases b),rfl,(fun h=>by cases h)⟩
  ·rename_i bs' hb;obtain ⟨rfl,rfl⟩:=hp;split
   ·rename_i hk;have hbs:bs'=bs++[eH x]:=by
     simp only[cX,if_pos hk] at hb;split at hb
     ·simpa[eE] using hb.symm
     ·cases hb
    subst hbs;have hN:∀ {m},av (gO 1000000 33 bs (eH x)) m=true→ua bs.length m:=fun {m} h=>by
     rw[nI] at h;simp only[Bool.or_eq_true,decide_eq_true_eq] at h;rcases h with h | h
     ·exact .inl h
     ·exact .inr (nm h)
    refine ⟨fun m y hy=>⟨(nJ hy).1,(nJ hy).2,fun h=>by cases h⟩,fun m m' h h' e=>ak6 (by omega) (hN h) (hN h') e,fun m hm =>?_,fun m a b =>?_,rfl,fun h=>by cases h⟩
    ·show av (gO 1000000 33 bs (eH x)) m=true
     rw[nI,hm,Bool.or_true]
    ·have a':av (gO 1000000 33 bs (eH x)) m=true:=a;rw[nI,b,Bool.or_false,decide_eq_true_eq] at a';subst a';rw[Mz];refine ⟨?_,by omega⟩;have h9:¬ 2002+2*bs.length=900:=by omega
     have h3:¬ 2002+2*bs.length=3:=by omega
     have hno:ak (dZ bs) (2002+2*bs.length)=none:=by
      have:=xS (bs:=bs) (n:=2002+2*bs.length);rw[decide_eq_false (by omega)] at this;simpa[av] using this
     simp only[ak,if_neg h9,kF,hno,if_neg h3]
   ·rename_i hk;have hl:=vz hk hb;refine ⟨fun m y hy=>⟨(fx hy).1,(fx hy).2,fun h=>by cases h⟩,fun m m' h h' e=>uH (n:=bs.length) (k:=bs'.length) (by omega) (nm h) (nm h') e,fun m hm =>?_,fun m a b =>?_,rfl,fun h=>by cases h⟩
    ·rw[nK] at hm ⊢;rw[hl];exact hm
    ·rw[nK] at a b;rw[hl] at a;rw[a] at b;cases b
 ·intro r os' hp;simp only[jd] at hp;split at hp
  ·rename_i hb;obtain ⟨rfl,rfl⟩:=hp;rw[uC bs.length (by omega)];exact h1 hb
  ·rename_i bs' hb;obtain ⟨rfl,rfl⟩:=hp;split
   ·rename_i hk;have hbs:bs'=bs++[eH x]:=by
     simp only[cX,if_pos hk] at hb;split at hb
     ·simpa[eE] using hb.symm
     ·cases hb
    subst hbs;have e:dL (gD bs.length) ((1000000+1,aj.cC (dc (bs++[eH x])) (en 1000000 bs.length++[.ptr 33 []]))::(33,.box (er (eH x) (.nils 6)))::cB 1000000 bs)=nH bs (eH x):=akU (by omega);rw[e];exact h3 hb
   ·rename_i hk;have hl:=vz hk hb;rw[uC bs.length (by omega)];exact h2 bs' hb hk
def vr(a b c d e f:Int):bL 6 Int:=⟨[a,b,c,d,e,f],rfl⟩
def a5(a b c d e:Int):bL 5 Int:=⟨[a,b,c,d,e],rfl⟩
theorem XC(a b c d e:Int):I.agg [.int .i64 a,.int .i64 b,.int .i64 c,.int .i64 d,.int .i64 e]=enc (a5 a b c d e):=rfl
theorem XD(a b c d e f:Int):I.agg [.int .i64 a,.int .i64 b,.int .i64 c,.int .i64 d,.int .i64 e,.int .i64 f]=enc (vr a b c d e f):=rfl
theorem zq{zs:List I}{i:Nat}{v z:I}{rest:List (Nat×I)}(h:zs[i]?=some z)(h1:v.cn=true)(h2:v.size=z.size):eJ zs ((i,v)::rest)=eJ (zs.set i v) rest:=by
 simp only[eJ,h];rw[if_pos ⟨h1,h2⟩]
theorem XB(w:bL 5 Int)(n:Int)(l:List cF):I.agg [enc w,.int .i64 n,enc l]=enc (⟨w,n,l⟩:cP):=rfl
theorem amo(x:ar):aB Tryz.prog 62 [enc x] (enc (if fU x then (0:Int) else 40)):=by
 refine aB.bu Tryz.func62 RK TE VM (zz0 rfl) (fun hwf W0 D0 E1 =>?_);simp only[Cd,LN,bl];have R:=u8 @aN @ab
 repeat' ((first |(with_reducible refine .guard (fun hb =>?_) (fun hb =>?_) <;>try simp only[hb])|refine J.aI (by decide +kernel) rfl fun K hK =>?_|refine .flat _ (u9 _) rfl ?_|(refine .ay [0,1,2,5] hK ?_;clear hK K)|(with_reducible refine .done (hK _ ?_);clear hK K)|refine J.of rfl ?_|(with_reducible refine aq.aH (fun h =>?_) (fun h =>?_) <;>try simp only[h])) <;>try simp only[aK,R,simprocAttr])
 all_goals clear R
 all_goals simp_all
theorem ah8{x:ar}(h:j7 x=true):bP 0 6 x.kind=true:=by
 simp only[j7] at h;simp only[bP,zz3,decide_eq_true_eq]
 repeat' split at h
 all_goals first | omega | (simp at h;omega)
def sT(x:ar):Bool:=bP 0 100000 x.known&&bP 0 100000 x.day
def qw(x:ar):Bool:=mR x.dp&&(sT x&&(bP 0 6 x.kind&&decide (x=kU x)))
theorem JT(x:ar):fU x=(qw x&&j7 x):=by
 simp only[fU,qw,sT];cases h:j7 x
 ·simp
 ·simp[ah8 h,Bool.and_comm,Bool.and_left_comm,Bool.and_assoc]
theorem Aa(x:ar):aB Tryz.prog 63 [enc x] (enc (if fU x then (0:Int) else 40)):=by
 refine aB.bu Tryz.func63 RL TF VN (zz0 rfl) (fun hwf W0 D0 E1 =>?_);simp only[Ce,LO,bl];clear hwf;refine .az (by decide +kernel) fun K hK =>?_;simp only[HZ,ab,simprocAttr]
 try simp only[aN,ab,simprocAttr]
 refine .done (hK _ ?_);clear hK K;refine J.seq (J.oj (au [(1,.ptr 1 []),(3,.bool (sT x))] [(1,.box (enc x))]) ?_ fun B hB=>J.sub hB ?_)
 ·have R:=u8 @aN @ab
  repeat' ((first |(with_reducible refine .guard (fun hb =>?_) (fun hb =>?_) <;>try simp only[hb])|refine J.aI (by decide +kernel) rfl fun K hK =>?_|refine .flat _ (kl _ _ _) rfl ?_|(refine .ay [0,1,2,3,4,5,6,34,37,64,68,76,77,98,102,107,113] hK ?_;clear hK K)|(with_reducible refine .done (hK _ ?_);clear hK K)|refine J.of rfl ?_|(with_reducible refine aq.aH (fun h =>?_) (fun h =>?_) <;>try simp only[h])) <;>try simp only[aK,R,simprocAttr])
  all_goals clear R
  all_goals
   refine aF.cq ?_ ?_ ?_ ?_ <;>simp[*,aY,b7,bY,bE,av,aZ,cZ,I.only,aj.only,bK,sT]
 refine J.seq (J.seq (J.oj (au [(1,.ptr 1 []),(34,.bool !(qw x))] [(1,.box (enc x))]) ?_ fun B hB=>J.sub hB ?_))
 ·have R:=u8 @aN @ab
  repeat' ((first |(with_reducible refine .guard (fun hb =>?_) (fun hb =>?_) <;>try simp only[hb])|refine J.aI (by decide +kernel) rfl fun K hK =>?_|refine .flat _ (kl _ _ _) rfl ?_|refine .flat _ (zL _) rfl ?_|refine .lead _ (O3 _) ?_|(refine .ay [0,1,2,3,4,5,6,34,37,64,68,76,77,98,102,107,113] hK ?_;clear hK K)|(with_reducible refine .done (hK _ ?_);clear hK K)|refine J.of rfl ?_|(with_reducible refine aq.aH (fun h =>?_) (fun h =>?_) <;>try simp only[h])) <;>try simp only[aK,R,simprocAttr])
  all_goals clear R
  all_goals
   refine aF.cq ?_ ?_ ?_ ?_ <;>simp[*,aY,b7,bY,bE,av,aZ,cZ,I.only,aj.only,bK,qw]
 refine J.bX ?_;simp only[aq,ab,simprocAttr];refine ⟨fun h =>?_,fun h =>?_⟩
 ·have R:=u8 @aN @ab
  repeat' ((first |(with_reducible refine .guard (fun hb =>?_) (fun hb =>?_) <;>try simp only[hb])|refine J.aI (by decide +kernel) rfl fun K hK =>?_|(refine .ay [0,1,2,3,4,5,6,34,37,64,68,76,77,98,102,107,113] hK ?_;clear hK K)|(with_reducible refine .done (hK _ ?_);clear hK K)|refine J.of rfl ?_|(with_reducible refine aq.aH (fun h =>?_) (fun h =>?_) <;>try simp only[h])) <;>try simp only[aK,R,simprocAttr])
  all_goals clear R
  simp at h;simp[JT,h]
 refine J.skip ?_;try simp only[aG,simprocAttr]
 have hp:qw x=true:=by simpa using h
 have hr:0≤x.kind∧x.kind≤6:=by simp[qw,bP] at hp;omega
 have ho:fU x=j7 x:=by rw[JT,hp];rfl
 rw[ho];obtain hk | hk | hk | hk | hk | hk | hk:x.kind=0∨x.kind=1∨x.kind=2∨x.kind=3∨x.kind=4∨x.kind=5∨x.kind=6:=by omega
 all_goals
  have R:=u8 @hk (u8 @aN @ab)
  repeat' ((first |(with_reducible refine .guard (fun hb =>?_) (fun hb =>?_) <;>try simp only[hb])|refine J.aI (by decide +kernel) rfl fun K hK =>?_|refine .flat _ (kl _ _ _) rfl ?_|refine .flat _ (zL _) rfl ?_|refine .flat _ (NL _) rfl ?_|(refine .ay [0,1,2,3,4,5,6,34,37,64,68,76,77,98,102,107,113] hK ?_;clear hK K)|(with_reducible refine .done (hK _ ?_);clear hK K)|refine J.of rfl ?_|(with_reducible refine aq.aH (fun h =>?_) (fun h =>?_) <;>try simp only[h])) <;>try simp only[aK,R,simprocAttr])
  all_goals clear R
 all_goals (clear hp hr;simp_all[j7];try omega)
theorem Uo(a b:Item):decide (oC a b<0)=before a b:=by
 simp only[oC,mZ,j4,before]
 repeat' split
 all_goals simp_all
 all_goals omega
theorem PR{a b c:Item}(h:before a b=true)(k:before b c=true):before a c=true:=by
 simp only[before,Bool.or_eq_true,decide_eq_true_eq,zz3] at *;omega
theorem CZ(a b:Item):decide (0≤oC a b) = !before a b:=by
 rw[←Uo];by_cases h:oC a b<0
 ·have:¬ 0≤oC a b:=by omega
  simp[h,this]
 ·have:0≤oC a b:=by omega
  simp[h,this]
theorem lU{l:List ar}{i:Nat}(h:i<l.length):l[i]=ah l i:=by simp[ah,h]
theorem jh{l:List ar}{i:Nat}(h:i<l.length)(A:af):ik A 17 (i:Int) (enc l)=some (.ref (enc (ah l i))):=by
 rw[eL 17 h rfl,lU h]
theorem fT{i n:Nat}(h:i<n):decide ((i:Int)<(n:Int))=true:=by simp;omega
theorem ga{i n:Nat}(h:¬ i<n):decide ((i:Int)<(n:Int))=false:=by simp;omega
theorem uX{n:Nat}(h:n≤9223372036854775807):IntKind.i64.wrap (n:Int)=(n:Int):=dI _ (by omega) (by omega)
theorem fc{i:Nat}(h:i<9223372036854775807):IntKind.i64.wrap ((i:Int)+1)=((i+1:Nat):Int):=by rw[dI _ (by omega) (by omega)];rfl
theorem NA{i:Nat}(h:0<i)(h2:i<9223372036854775807):IntKind.i64.wrap ((i:Int)-1)=((i-1:Nat):Int):=by rw[dI _ (by omega) (by omega)];omega
theorem qo{l:List ar}(h:dE l=true):l.length≤60:=by simp[dE] at h;exact h.1
theorem yz{l:List ar}(h:dE l=true){i:Nat}(hi:i<l.length):il l i=true:=by
 simp only[dE,zz3,zx9,zw7] at h;exact h.2 i hi
theorem ug{l:List ar}{i:Nat}(hi:i<l.length)(h:il l i=false):dE l=false:=by
 cases hk:dE l with
 |false=>rfl
 |true=>rw[yz hk hi] at h;cases h
theorem yA{l:List ar}(hl:l.length≤60)(h:∀ i,i<l.length→il l i=true):dE l=true:=by
 simp only[dE,zz3,zx9,zw7,decide_eq_true_eq];exact ⟨hl,h⟩
theorem uh{l:List ar}(h:dE l=true){i:Nat}(hi:i<l.length):fU (ah l i)=true:=by
 have:=yz h hi;simp only[il,zz3] at this;exact this.1
theorem JU{l:List ar}(h:dE l=true):∀ {j i:Nat},i<j→j<l.length→before (ah l i).dp (ah l j).dp=true
 |0,i,hij,_=>by omega
 |j+1,i,hij,hj=>by
  have h1:=yz h hj;simp only[il,zz3,Bool.or_eq_true,decide_eq_true_eq,Nat.add_sub_cancel] at h1;have h2:=h1.2.resolve_left (by omega);by_cases e:i=j
  ·rw[e];exact h2
  ·exact PR (JU h (j:=j) (by omega) (by omega)) h2
theorem tO{p:Nat→Prop}{i:Nat}(h:∀ j,j<i→p j)(hi:p i):∀ j,j<i+1→p j:=fun j hj=>by
 by_cases e:j=i
 ·exact e▸hi
 ·exact h j (by omega)
theorem OW(l:List ar):aB Tryz.prog 64 [enc l] (enc (if dE l then (0:Int) else 41)):=by
 refine aB.bu Tryz.func64 RM TG VO (zz0 rfl) (fun hwf W0 D0 E1 =>?_);simp only[Cf,LP,bl];have hlen:l.length≤maxLen:=((lE l).1 hwf.1).1;simp only[maxLen] at hlen;clear hwf;refine .az (by decide +kernel) fun K hK =>?_;simp only[H0,ab,simprocAttr];refine .done (hK _ ?_);clear hK K;refine J.seq (J.seq ?_);refine .b6 (by decide +kernel) fun K hK =>?_;simp only[H2,ab,simprocAttr]
 try simp only[bB,ab,simprocAttr]
 refine .done (hK _ ?_);clear hK K;try simp only[aG]
 refine J.bX ?_;simp only[aq,ab,simprocAttr];refine ⟨fun h =>?_,fun h =>?_⟩
 ·have R:=u8 @aN @ab
  repeat' ((first |(with_reducible refine .guard (fun hb =>?_) (fun hb =>?_) <;>try simp only[hb])|refine J.aI (by decide +kernel) rfl fun K hK =>?_|(refine .ay [0,2,3,4,7,8,9,10,11,33] hK ?_;clear hK K)|(with_reducible refine .done (hK _ ?_);clear hK K)|refine J.of rfl ?_|(with_reducible refine aq.aH (fun h =>?_) (fun h =>?_) <;>try simp only[h])) <;>try simp only[aK,R,simprocAttr])
  all_goals clear R
  have:¬ l.length≤60:=by simp at h;omega
  simp[dE,this]
 have hl6:l.length≤60:=by simp at h;omega
 refine J.skip ?_;try simp only[aG,simprocAttr]
 refine J.seq (J.seq ?_);refine .b6 (by decide +kernel) fun K hK =>?_;simp only[H3,ab,simprocAttr]
 try simp only[bB,ab,simprocAttr]
 refine .done (hK _ ?_);clear hK K;try simp only[aG]
 refine J.block (J.loop (fun i:Nat=>au [(0,enc l),(8,enc l),(9,.int .i64 l.length),(10,.int .i64 i)] []) (fun i=>i≤l.length∧∀ j,j<i→il l j=true) (fun i=>l.length-i) 0 ⟨by omega,fun k h=>by omega⟩ ?_ (fun i hi =>?_))
 ·refine aF.cq ?_ ?_ ?_ ?_ <;>simp[aY,b7,bY,bE,aZ,I.only,bK]
 by_cases hlt:i<l.length
 ·have he:=jh hlt;have hc:=fT hlt;have hw:=fc (i:=i) (by omega);by_cases h0:i=0
  ·have hc0:decide ((0:Int)<(i:Int))=false:=by simp;omega
   have R:=u8 @he (u8 @hc (u8 @hw (u8 @hc0 (u8 @CZ (u8 @aN @ab)))))
   repeat' ((first |(with_reducible refine .guard (fun hb =>?_) (fun hb =>?_) <;>try simp only[hb])|refine J.aI (by decide +kernel) rfl fun K hK =>?_|refine .flat _ (u9 _) rfl ?_|refine .flat _ (zM _ _) rfl ?_|(refine .ay [0,2,3,4,7,8,9,10,11,33] hK ?_;clear hK K)|(with_reducible refine .done (hK _ ?_);clear hK K)|refine J.of rfl ?_|(with_reducible refine aq.aH (fun h =>?_) (fun h =>?_) <;>try simp only[h])) <;>try simp only[aK,R,simprocAttr])
   all_goals clear R
   all_goals first
    |(refine ⟨i+1,⟨by omega,tO hi.2 (by simp_all[il])⟩,by omega,?_⟩;(refine aF.cq ?_ ?_ ?_ ?_ <;>simp[aY,b7,bY,bE,aZ,I.only,bK]))
    |(rw[ug hlt (by simp_all[il])];rfl)
  ·have he2:=jh (l:=l) (i:=i-1) (by omega);have hw2:=NA (i:=i) (by omega) (by omega);have hc0:decide ((0:Int)<(i:Int))=true:=by simp;omega
   have R:=u8 @he (u8 @hc (u8 @hw (u8 @he2 (u8 @hw2 (u8 @hc0 (u8 @CZ (u8 @aN @ab)))))))
   repeat' ((first |(with_reducible refine .guard (fun hb =>?_) (fun hb =>?_) <;>try simp only[hb])|refine J.aI (by decide +kernel) rfl fun K hK =>?_|refine .flat _ (u9 _) rfl ?_|refine .flat _ (zM _ _) rfl ?_|(refine .ay [0,2,3,4,7,8,9,10,11,33] hK ?_;clear hK K)|(with_reducible refine .done (hK _ ?_);clear hK K)|refine J.of rfl ?_|(with_reducible refine aq.aH (fun h =>?_) (fun h =>?_) <;>try simp only[h])) <;>try simp only[aK,R,simprocAttr])
   all_goals clear R
   all_goals first
    |(refine ⟨i+1,⟨by omega,tO hi.2 (by simp_all[il])⟩,by omega,?_⟩;(refine aF.cq ?_ ?_ ?_ ?_ <;>simp[aY,b7,bY,bE,aZ,I.only,bK]))
    |(rw[ug hlt (by simp_all[il])];rfl)
 ·have hc:=ga hlt;have R:=u8 @hc (u8 @aN @ab)
  repeat' ((first |(with_reducible refine .guard (fun hb =>?_) (fun hb =>?_) <;>try simp only[hb])|refine J.aI (by decide +kernel) rfl fun K hK =>?_|(refine .ay [0,2,3,4,7,8,9,10,11,33] hK ?_;clear hK K)|(with_reducible refine .done (hK _ ?_);clear hK K)|refine J.of rfl ?_|(with_reducible refine aq.aH (fun h =>?_) (fun h =>?_) <;>try simp only[h])) <;>try simp only[aK,R,simprocAttr])
  all_goals clear R
  rw[yA hl6 fun j hj=>hi.2 j (by omega)];rfl
theorem vj(l:List ar):aB Tryz.prog 65 [enc l] (enc (if dE l then (0:Int) else 41)):=by
 refine aB.bu Tryz.func65 RN TH VP (zz0 rfl) (fun hwf W0 D0 E1 =>?_);simp only[Cg,LQ,bl];have hlen:l.length≤maxLen:=((lE l).1 hwf.1).1;simp only[maxLen] at hlen;clear hwf;refine .az (by decide +kernel) fun K hK =>?_;simp only[H4,ab,simprocAttr];refine .done (hK _ ?_);clear hK K;refine J.seq (J.seq ?_);refine .b6 (by decide +kernel) fun K hK =>?_;simp only[H5,ab,simprocAttr]
 try simp only[bB,ab,simprocAttr]
 refine .done (hK _ ?_);clear hK K;try simp only[aG]
 refine J.bX ?_;simp only[aq,ab,simprocAttr];refine ⟨fun h =>?_,fun h =>?_⟩
 ·have R:=u8 @aN @ab
  repeat' ((first |(with_reducible refine .guard (fun hb =>?_) (fun hb =>?_) <;>try simp only[hb])|refine J.aI (by decide +kernel) rfl fun K hK =>?_|(refine .ay [0,2,3,6,10,37] hK ?_;clear hK K)|(with_reducible refine .done (hK _ ?_);clear hK K)|refine J.of rfl ?_|(with_reducible refine aq.aH (fun h =>?_) (fun h =>?_) <;>try simp only[h])) <;>try simp only[aK,R,simprocAttr])
  all_goals clear R
  have:¬ l.length≤60:=by simp at h;omega
  simp[dE,this]
 have hl6:l.length≤60:=by simp at h;omega
 refine J.skip ?_;try simp only[aG,simprocAttr]
 refine J.seq (J.seq ?_);refine .b6 (by decide +kernel) fun K hK =>?_;simp only[H6,ab,simprocAttr]
 try simp only[ew,bB,kH,fg,ab,simprocAttr]
 refine .done (hK _ ?_);clear hK K;try simp only[aG]
 refine J.block (J.loop (fun i:Nat=>au [(0,enc l),(3,.int .i64 i)] []) (fun i=>i≤l.length∧∀ j,j<i→il l j=true) (fun i=>l.length-i) 0 ⟨by omega,fun k h=>by omega⟩ ?_ (fun i hi =>?_))
 ·refine aF.cq ?_ ?_ ?_ ?_ <;>simp[aY,b7,bY,bE,aZ,I.only,bK]
 by_cases hlt:i<l.length
 ·have he:=jh hlt;have hc:=fT hlt;have hw:=fc (i:=i) (by omega);have hb0:∀ b:Bool,((if b=true then (0:Int) else 40) != 0) = !b:=fun b=>by cases b <;>rfl
  by_cases h0:i=0
  ·have hc0:decide ((0:Int)<(i:Int))=false:=by simp;omega
   have R:=u8 @he (u8 @hc (u8 @hw (u8 @hc0 (u8 @hb0 (u8 @bB (u8 @aN @ab))))))
   repeat' ((first |(with_reducible refine .guard (fun hb =>?_) (fun hb =>?_) <;>try simp only[hb])|refine J.aI (by decide +kernel) rfl fun K hK =>?_|refine .flat _ (Aa _) rfl ?_|refine .flat _ (zN _ _) rfl ?_|(refine .ay [0,2,3,6,10,37] hK ?_;clear hK K)|(with_reducible refine .done (hK _ ?_);clear hK K)|refine J.of rfl ?_|(with_reducible refine aq.aH (fun h =>?_) (fun h =>?_) <;>try simp only[h])) <;>try simp only[aK,R,simprocAttr])
   all_goals clear R
   all_goals first
    |(refine ⟨i+1,⟨by omega,tO hi.2 (by simp_all[il])⟩,by omega,?_⟩;(refine aF.cq ?_ ?_ ?_ ?_ <;>simp[aY,b7,bY,bE,aZ,I.only,bK]))
    |(rw[ug hlt (by simp_all[il])];rfl)
  ·have he2:=jh (l:=l) (i:=i-1) (by omega);have hw2:=NA (i:=i) (by omega) (by omega);have hc0:decide ((0:Int)<(i:Int))=true:=by simp;omega
   have R:=u8 @he (u8 @hc (u8 @hw (u8 @he2 (u8 @hw2 (u8 @hc0 (u8 @hb0 (u8 @bB (u8 @aN @ab))))))))
   repeat' ((first |(with_reducible refine .guard (fun hb =>?_) (fun hb =>?_) <;>try simp only[hb])|refine J.aI (by decide +kernel) rfl fun K hK =>?_|refine .flat _ (Aa _) rfl ?_|refine .flat _ (zN _ _) rfl ?_|(refine .ay [0,2,3,6,10,37] hK ?_;clear hK K)|(with_reducible refine .done (hK _ ?_);clear hK K)|refine J.of rfl ?_|(with_reducible refine aq.aH (fun h =>?_) (fun h =>?_) <;>try simp only[h])) <;>try simp only[aK,R,simprocAttr])
   all_goals clear R
   all_goals first
    |(refine ⟨i+1,⟨by omega,tO hi.2 (by simp_all[il])⟩,by omega,?_⟩;(refine aF.cq ?_ ?_ ?_ ?_ <;>simp[aY,b7,bY,bE,aZ,I.only,bK]))
    |(rw[ug hlt (by simp_all[il])];rfl)
 ·have hc:=ga hlt;have R:=u8 @hc (u8 @bB (u8 @aN @ab))
  repeat' ((first |(with_reducible refine .guard (fun hb =>?_) (fun hb =>?_) <;>try simp only[hb])|refine J.aI (by decide +kernel) rfl fun K hK =>?_|(refine .ay [0,2,3,6,10,37] hK ?_;clear hK K)|(with_reducible refine .done (hK _ ?_);clear hK K)|refine J.of rfl ?_|(with_reducible refine aq.aH (fun h =>?_) (fun h =>?_) <;>try simp only[h])) <;>try simp only[aK,R,simprocAttr])
  all_goals clear R
  rw[yA hl6 fun j hj=>hi.2 j (by omega)];rfl
def cE(k:Nat)(ws:List Int):List (Nat×aj):=[(k,.box (.agg (ws.map enc)))]
theorem oT(p:Nat→Bool)(l:List Int):(I.agg (l.map enc)).only p=true:=by simp only[I.only];exact eI p l
theorem aiE(l:List Int):(I.agg (l.map enc)).c8=true:=by simp only[I.c8];exact x7 l
theorem n8{ws:List Int} : ∀ m,av (cE 1000000 ws) m=true→1000000≤m:=fun m hm=>by rw[dA.1 hm];exact zz8 _
def kM(ws:List Int)(i j:Nat):List Int:=(ws.set i (ws.getD j 0)).set j (ws.getD i 0)
theorem Nl{A B C:List Int}{x y:Int}{i j:Nat}(hi:A.length=i)(hj:A.length+1+B.length=j):kM (A++x::B++y::C) i j=A++y::B++x::C:=by
 subst hi hj;have e1:(A++x::B++y::C).getD A.length 0=x:=by simp[zz2,zz5]
 have e2:(A++x::B++y::C).getD (A.length+1+B.length) 0=y:=by
  rw[zz2,zw0 (by simp;omega)];simp[];have:A.length+1+B.length-(A.length+(B.length+1))=0:=by omega
  rw[this];rfl
 simp only[kM,e1,e2];rw[zz5,List.set_append_right _ _ (zz8 _),Nat.sub_self,zy1,List.set_cons_zero];rw[List.set_append_right _ _ (by omega)];have:A.length+1+B.length-A.length=(B.length)+1:=by omega
 rw[this,List.set_cons_succ,List.set_append_right _ _ (zz8 _),Nat.sub_self,List.set_cons_zero];simp
theorem jL{n i:Nat}(h:i<n)(fs:List I):jK 1000000 [] 1 0 n 1 (i:Int) (some fs)=some (.ptr 1000000 [i]):=by
 have:=oO (m:=1000000) (sz:=1) (lo:=0) (l:=n) (i:=i) (fs:=fs) h
 rwa [zz4] at this
theorem lF(x y:Nat)(h:x+y<9223372036854775807):IntKind.i64.wrap ((x:Int)+(y:Int))=((x+y:Nat):Int):=by rw[dI _ (by omega) (by omega)];omega
theorem iR{x y:Nat}(h:y≤x)(hx:x<9223372036854775807):IntKind.i64.wrap ((x:Int)-(y:Int))=((x-y:Nat):Int):=by rw[dI _ (by omega) (by omega)];omega
def ki(p x y z q:List Int)(i:Nat):List Int:=p++(z.take i++x.drop i)++y++(x.take i++z.drop i)++q
theorem alU{p x y z q:List Int}{i a b:Nat}(hx:i<x.length)(hz:z.length=x.length)(ha:p.length=a)(hb:a+x.length+y.length=b):kM (ki p x y z q i) (a+i) (b+i)=ki p x y z q (i+1):=by
 have e1:ki p x y z q i=(p++z.take i)++x[i]::(x.drop (i+1)++y++x.take i)++z[i]::(z.drop (i+1)++q):=by
  simp only[ki];rw[zv3 hx,zv3 (l:=z) (by omega)];simp only[zz5,zy1]
 have e2:ki p x y z q (i+1)=(p++z.take i)++z[i]::(x.drop (i+1)++y++x.take i)++x[i]::(z.drop (i+1)++q):=by
  simp only[ki];rw[zy2 hx,zy2 (l:=z) (by omega)];simp only[zz5,zy1,zy7]
 rw[e1,e2];refine Nl ?_ ?_
 ·simp;omega
 ·simp;omega
theorem alT(p x y z q:List Int)(i:Nat)(hz:z.length=x.length)(hi:i≤x.length):(ki p x y z q i).length=p.length+x.length+y.length+x.length+q.length:=by
 simp only[ki,zz7,zy8,zy9];omega
def zc(ws:List Int):cV:=fun r os'=>r=.tuple []∧os'=cE 1000000 ws
theorem nX{ts:List (Nat×I)}{ws ws':List Int}{os:List (Nat×aj)}{post:cV}(hl:ak os 1000000=some (.box (.agg (ws.map enc))))(he:ws=ws')(hp:post (.tuple []) (cE 1000000 ws')):kR [] post (au ts os):=by
 subst he;exact ⟨cE 1000000 ws,[],nF hl (fun p=>oT p _),trivial,hp⟩
theorem vi(p x y z q:List Int)(a b n k:Nat)(f:I)(hz:z.length=x.length)(ha:p.length=a)(hb:a+x.length+y.length=b)(hk:x.length=k)(hn:b+k≤n)(hN:n≤1000) :
  cH Tryz.prog 216 [.view 1000000 [] 1 0 n,enc (a:Int),enc (b:Int),enc (k:Int),f] (cE 1000000 (p++x++y++z++q)) (zc (p++z++y++x++q)):=by
 refine cH.bu Tryz.func216 Rz Tt VB (zz0 rfl) (zz0 rfl) n8 (fun hwf W0 D0 E1 =>?_);simp only[B3,LB,bl,zz4,Nat.reduceAdd];clear hwf;refine .az (by decide +kernel) fun K hK =>?_;simp only[HY,ab,simprocAttr];refine .done (hK _ ?_);clear hK K;refine J.block (J.loop (fun i:Nat=>au [(0,.view 1000000 [] 1 0 n),(1,.int .i64 a),(2,.int .i64 b),(3,.int .i64 k),(10,.int .i64 i)] (cE 1000000 (ki p x y z q i))) (fun i=>i≤k) (fun i=>k-i) 0 (by omega) ?_ (fun i hi =>?_))
 ·have e:ki p x y z q 0=p++x++y++z++q:=by simp[ki]
  rw[e];simp only[cE];refine aF.cq ?_ ?_ ?_ ?_ <;>simp[aY,b7,bY,bE,av,aZ,cZ,I.only,aj.only,eI,jO]
 by_cases hlt:i<k
 ·have hc:=fT hlt;have hw:=fc (i:=i) (by omega);have w1:=lF a i (by omega);have w2:=lF b i (by omega);have hst:=alU (p:=p) (q:=q) (i:=i) (by omega) hz ha hb;have hl:=alT p x y z q i hz (by omega);simp only[cE];generalize ki p x y z q i=ws at hst hl;have v1:=jL (n:=n) (i:=a+i) (by omega);have v2:=jL (n:=n) (i:=b+i) (by omega);have l1:=gT (xs:=ws) (i:=a+i) (by omega);have l2:=gT (xs:=ws) (i:=b+i) (by omega);have s1:=fun (A:af) v u rest=>og (A:=A) (n:=1000000) (xs:=ws) (i:=a+i) (by omega) v u rest;obtain ⟨ws2,hws2⟩:∃ ws2,ws2=ws.set (a+i) (ws.getD (b+i) 0):=⟨_,rfl⟩
  have s2:=fun (A:af) v u rest=>og (A:=A) (n:=1000000) (xs:=ws2) (i:=b+i) (by rw[hws2];simp;omega) v u rest;have l3:=gT (xs:=ws2) (i:=b+i) (by rw[hws2];simp;omega);have R:=u8 @hc (u8 @hw (u8 @w1 (u8 @w2 (u8 @v1 (u8 @v2 (u8 @l1 (u8 @l2 (u8 @s1 (u8 @s2 (u8 @l3 (u8 @dn (u8 @aN @ab))))))))))))
  repeat' ((first |(with_reducible refine .guard (fun hb =>?_) (fun hb =>?_) <;>try simp only[hb])|refine J.aI (by decide +kernel) rfl fun K hK =>?_|(refine .ay [0,1,2,3,10,13] hK ?_;clear hK K)|(with_reducible refine .done (hK _ ?_);clear hK K)|refine J.of rfl ?_|(with_reducible refine aq.aH (fun h =>?_) (fun h =>?_) <;>try simp only[h])) <;>try simp only[aK,R,←hws2,simprocAttr])
  all_goals clear R
  refine ⟨i+1,by omega,by omega,?_⟩;rw[←hst];simp only[kM,←hws2];generalize ws2.set _ _=ws3;refine aF.cq ?_ ?_ ?_ ?_ <;>simp[aY,b7,bY,bE,av,aZ,cZ,I.only,aj.only,eI]
 ·have hc:=ga hlt;have he:i=k:=by omega
  subst he;have R:=u8 @hc (u8 @aN @ab)
  repeat' ((first |(with_reducible refine .guard (fun hb =>?_) (fun hb =>?_) <;>try simp only[hb])|refine J.aI (by decide +kernel) rfl fun K hK =>?_|(refine .ay [0,1,2,3,10,13] hK ?_;clear hK K)|(with_reducible refine .done (hK _ ?_);clear hK K)|refine J.of rfl ?_|(with_reducible refine aq.aH (fun h =>?_) (fun h =>?_) <;>try simp only[h])) <;>try simp only[aK,R,simprocAttr])
  all_goals clear R
  rw[lx];refine nX rfl ?_ ⟨rfl,rfl⟩;have h1:z.take i=z:=zw8 (by omega);have h2:x.take i=x:=zw8 (by omega);have h3:z.drop i=[]:=zv2 (by omega);have h4:x.drop i=[]:=zv2 (by omega);simp only[ki,h1,h2,h3,h4,zx5]
end Go.Proofs.YtcldiigclhgafaaGreat
