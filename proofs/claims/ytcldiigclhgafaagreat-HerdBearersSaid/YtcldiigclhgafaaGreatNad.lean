/-
  A part of the proof that the law HerdBearers returns true for every input; conditions: none beyond the statement's own. (part 4 of 7)
-/
import Derived.Test.YtcldiigclhgafaaGreatChecked
import Derived.KernelRfl
import Derived.Test.YtcldiigclhgafaaGreatNac
set_option linter.unusedSimpArgs false
set_option linter.unusedVariables false
set_option maxHeartbeats 16000000
set_option maxRecDepth 100000
namespace Go.Proofs.YtcldiigclhgafaaGreat
open Go Go.Abs Go.Abs.C
def Ec:=[o 6 (.mv bh)]
def Ed:=[m 7 1,m 8 0,o 9 (.bin .leq (.t 7) (.t 8)),m 10 9,cg 11 0 10,cg 12 2 10,aZ 13 (.bin .leq (.t 11) (.t 12)) 10,and 14 10 13,m 6 14]
def Av:aN:=(s (r Ec) (s (r Ed) .ret))
def KN:List aY:=[.tmp 6]
theorem SN:bF Tryz.prog Tryz.f114 Av:=e (by kernel_rfl)
theorem UY:bG Tryz.prog Tryz.f114 KN:=e (by kernel_rfl)
theorem QR:bE Tryz.prog 114:=e (by kernel_rfl)
def Ee:=[b 1 0,o 2 (.mv bh)]
def Ef:=[f 3 0 0 1,l 4 3,o 5 (.call 114 [.t 4,(ai 0),(ai 5)]),m 6 5,cB 7 1 1 1 6,cF 8 7 6,aZ 9 (.call 114 [.t 8,(ai 0),(ai 9999)]) 6,and 10 6 9,m 2 10]
def Aw:aN:=(s (r Ee) (s (r Ef) .ret))
def KO:List aY:=[.tmp 2]
theorem SO:bF Tryz.prog Tryz.f115 Aw:=e (by kernel_rfl)
theorem UZ:bG Tryz.prog Tryz.f115 KO:=e (by kernel_rfl)
theorem QS:bE Tryz.prog 115:=e (by kernel_rfl)
def Eg:=[b 1 0,o 2 (.mv bh)]
def Ei:=[f 3 0 0 1,l 4 3,o 5 (.call 94 [.t 4,(ai 0),(ai 5)]),m 6 5,cB 7 1 1 1 6,cF 8 7 6,aZ 9 (.call 94 [.t 8,(ai 0),(ai 9999)]) 6,and 10 6 9,m 2 10]
def Ax:aN:=(s (r Eg) (s (r Ei) .ret))
def KP:List aY:=[.tmp 2]
theorem SP:bF Tryz.prog Tryz.f116 Ax:=e (by kernel_rfl)
theorem U0:bG Tryz.prog Tryz.f116 KP:=e (by kernel_rfl)
theorem QT:bE Tryz.prog 116:=e (by kernel_rfl)
def Ej:=[b 1 0,o 2 (.mv bh)]
def Ek:=[f 5 0 0 1,L 6 2 5,f 7 1 2 1,l 8 7,f 9 2 3 1,l 10 9,f 11 3 4 1,l 12 11,f 13 4 5 1,l 14 13,o 15 (.bld [.agg [.int .i64 0,.int .i64 0],.int .i64 0,.int .i64 0,.int .i64 0,.int .i64 0,.int .i64 0,.int .i64 0,.int .i64 0,.agg [.int .i64 0,.int .i64 0,.int .i64 0,.int .i64 0,.int .i64 0,.int .i64 0],.agg [.int .i64 0,.int .i64 0]] [(0,(.t 6)),(1,(.t 8)),(2,(.t 10)),(3,(.t 12)),(4,(.t 14))]),o 3 (.alloc (.agg [.agg [.int .i64 0,.int .i64 0],.int .i64 0,.int .i64 0,.int .i64 0,.int .i64 0,.int .i64 0,.int .i64 0,.int .i64 0,.agg [.int .i64 0,.int .i64 0,.int .i64 0,.int .i64 0,.int .i64 0,.int .i64 0],.agg [.int .i64 0,.int .i64 0]])),p (.bl (some 17) (.t 3) (.t 15))]
def El:=[f 16 4 5 1,l 17 16,o 18 (.call 154 [.t 17]),m 4 18]
def Zn:=[f 19 1 2 1,l 20 19]
def Zo:=[o 22 (.bin .eql (.t 20) (ai 0)),m 21 22]
def wc:=[f 23 9 15 1,L 24 2 23,f 25 4 5 3,p (.bl none (.t 25) (ai 0)),f 26 9 15 3,p (.bl (some 2) (.t 26) (.t 24))]
def WQ:=some [[],[0],[],[2],[0,1,2,3],[4,1,3,0,1,2,3]] -- DRAW BAD
def Zp:=[f 27 2 3 1,l 28 27,o 29 (.bin .eql (.t 28) (ai 0)),m 30 29,cB 31 9 15 1 30,aZ 32 (.ld (some 2) (.t 31)) 30,aZ 33 (.call 115 [.t 32]) 30,and 34 30 33,m 35 34,cB 36 9 15 1 35,cB 37 0 0 36 35,cF 38 37 35,cB 39 0 0 1 35,cB 40 0 0 39 35,cF 41 40 35,aZ 42 (.bin .eql (.t 38) (.t 41)) 35,and 43 35 42,m 44 43,cB 45 9 15 1 44,cB 46 1 1 45 44,cF 47 46 44,cB 48 0 0 1 44,cB 49 1 1 48 44,cF 50 49 44,aZ 51 (.bin .lss (.t 47) (.t 50)) 44,and 52 44 51,m 4 52]
def Zq:=[o 54 (.bin .eql (.t 20) (ai 1)),m 53 54]
def we:=[f 55 6 7 1,l 56 55,f 57 7 8 1,l 58 57,f 59 5 6 1,l 60 59,f 61 6 7 3,p (.bl none (.t 61) (.t 56)),f 62 7 8 3,p (.bl none (.t 62) (.t 58)),f 63 5 6 3,p (.bl none (.t 63) (.t 60))]
def WR:=some [[],[0],[],[2],[],[4],[0,1],[6,1,0,1],[0,1,2,3,6,7],[8,3,7,0,1,2,3,6,7],[0,1,2,3,4,5,6,7,8,9],[10,5,9,0,1,2,3,4,5,6,7,8,9]] -- DRAW BAD
def Zr:=[m 64 4,m 65 64,cB 66 6 7 1 65,cF 67 66 65,aZ 68 (.call 155 [.t 67]) 65,and 69 65 68,m 70 69,cB 71 7 8 1 70,cF 72 71 70,aZ 73 (.call 156 [.t 72]) 70,and 74 70 73,m 75 74,cB 76 5 6 1 75,cF 77 76 75,aZ 78 (.call 114 [.t 77,(ai 0),(ai 9999)]) 75,and 79 75 78,m 80 79,cB 81 5 6 1 80,cF 82 81 80,cB 83 4 5 1 80,cF 84 83 80,aZ 85 (.bin .neq (.t 82) (.t 84)) 80,and 86 80 85,m 4 86]
def Za:=[o 88 (.bin .eql (.t 20) (ai 2)),m 87 88]
def Zb:=[f 89 6 7 1,l 90 89,f 91 6 7 3,p (.bl none (.t 91) (.t 90))]
def Zc:=[m 92 4,m 93 92,cB 94 6 7 1 93,cF 95 94 93,aZ 96 (.call 155 [.t 95]) 93,and 97 93 96,m 4 97]
def Zd:=[o 99 (.bin .eql (.t 20) (ai 3)),m 98 99]
def Ze:=[o 100 (.bin .eql (.t 20) (ai 5)),m 98 100]
def Zf:=[f 101 7 8 1,l 102 101,f 103 7 8 3,p (.bl none (.t 103) (.t 102))]
def Zg:=[m 104 4,m 105 104,cB 106 7 8 1 105,cF 107 106 105,aZ 108 (.call 156 [.t 107]) 105,and 109 105 108,m 4 109]
def Zh:=[o 111 (.bin .eql (.t 20) (ai 4)),m 110 111]
def Zi:=[f 112 8 9 1,L 113 6 112,f 114 8 9 3,p (.bl (some 6) (.t 114) (.t 113))]
def Zj:=[m 115 4,m 116 115,cB 117 8 9 1 116,aZ 118 (.ld (some 6) (.t 117)) 116,aZ 119 (.call 157 [.t 118]) 116,aZ 120 (.bin .eql (.t 119) (ai 0)) 116,and 121 116 120,m 4 121]
def Zk:=[o 123 (.bin .eql (.t 20) (ai 6)),m 122 123]
def Zl:=[o 2 (.mv bh)]
def Zm:=[m 124 4,m 125 124,aZ 126 (.ld (some 17) (.t 1)) 125,aZ 127 (.ld (some 17) (.t 3)) 125,aZ 128 (.eqv (.bl [(.bl [(.i .i64),(.i .i64)]),(.i .i64),(.i .i64),(.i .i64),(.i .i64),(.i .i64),(.i .i64),(.i .i64),(.j7 6 (.i .i64)),(.bl [(.i .i64),(.i .i64)])]) false (.t 126) (.t 127)) 125,and 129 125 128,m 130 129,cB 131 0 0 1 130,aZ 132 (.ld (some 2) (.t 131)) 130,aZ 133 (.call 115 [.t 132]) 130,and 134 130 133,m 135 134,cB 136 2 3 1 135,cF 137 136 135,aZ 138 (.call 127 [.t 137]) 135,and 139 135 138,m 140 139,cB 141 3 4 1 140,cF 142 141 140,aZ 143 (.call 127 [.t 142]) 140,and 144 140 143,m 2 144]
def Ay:aN:=(s (r Ej) (s (r Ek) (s (r El) (s (s (r Zn) (.block 0 (s (r Zo) (.cond (.t 21) (s (.bT WQ wc) (r Zp)) (s (r Zq) (.cond (.t 53) (s (.bT WR we) (r Zr)) (s (r Za) (.cond (.t 87) (s (r Zb) (r Zc)) (s (s (r Zd) (.cond (.t 98) .skip (r Ze))) (.cond (.t 98) (s (r Zf) (r Zg)) (s (r Zh) (.cond (.t 110) (s (r Zi) (r Zj)) (s (r Zk) (.cond (.t 122) .skip (s (r Zl) .ret))))))))))))))) (s (r Zm) .ret)))))
def KQ:List aY:=[.tmp 2]
theorem SQ:bF Tryz.prog Tryz.f117 Ay:=e (by kernel_rfl)
theorem U1:bG Tryz.prog Tryz.f117 KQ:=e (by kernel_rfl)
theorem QU:bE Tryz.prog 117:=e (by kernel_rfl)
def Em:=[b 2 0,b 3 1,aV 4 0]
def En:=[f 5 0 0 2,l 6 5,f 7 0 0 3,l 8 7,o 9 (.call 159 [.t 6,.t 8]),f 10 1 1 2,l 11 10,f 12 1 1 3,l 13 12,o 14 (.call 159 [.t 11,.t 13]),o 15 (.bs 1 [.t 9,.t 14]),o 16 (.call 158 [.t 15]),m 4 16]
def WS:=some [[],[0],[],[2],[1,3],[],[5],[],[7],[6,8,4],[4,9],[10,9],[11,11,0,1,2,3,4,5,6,7,8,9,10,11]]
def Az:aN:=(s (r Em) (s (.bT WS En) .ret))
def KR:List aY:=[.tmp 4]
theorem SR:bF Tryz.prog Tryz.f118 Az:=e (by kernel_rfl)
theorem U2:bG Tryz.prog Tryz.f118 KR:=e (by kernel_rfl)
theorem QV:bE Tryz.prog 118:=e (by kernel_rfl)
def Eo:=[b 2 0,b 3 1,o 4 (.mv bh)]
def Ep:=[f 5 0 0 2,l 6 5,f 7 0 0 3,l 8 7,lt 9 6 8,m 10 9,fn 11 0 0 2 10,eO 12 11 10,fn 13 0 0 3 10,eO 14 13 10,on 15 (.bin .eql (.t 12) (.t 14)) 10,eb 16 15 10,cB 17 1 1 2 16,cF 18 17 16,cB 19 1 1 3 16,cF 20 19 16,aZ 21 (.bin .lss (.t 18) (.t 20)) 16,on 22 (.pick (.t 16) (.t 21) bh) 10,or 23 10 22,m 4 23]
def AA:aN:=(s (r Eo) (s (r Ep) .ret))
def KS:List aY:=[.tmp 4]
theorem SS:bF Tryz.prog Tryz.f119 AA:=e (by kernel_rfl)
theorem U3:bG Tryz.prog Tryz.f119 KS:=e (by kernel_rfl)
theorem QW:bE Tryz.prog 119:=e (by kernel_rfl)
def Er:=[b 1 0,o 2 (.mv bh)]
def Es:=[L 6 5 1,aV 7 0]
def Et:=[o 8 (.bin .lss (.t 7) (ai 5))]
def Eu:=[m 9 7,o 10 (.ix 5 1 none (.t 6) (.t 7)),m 3 9,m 4 10]
def Ev:=[m 11 4,m 5 11]
def Ew:=[m 12 5,o 13 (.call 160 [.t 12]),no 14 13,m 15 14,eb 16 5 15,eb 17 3 15,on 18 (.call 161 [.t 16,.t 17]) 15,on 19 (.un .not (.t 18)) 15,or 20 15 19]
def wg:=[o 2 (.mv bh)]
def Ey:=[ad 21 7 1,m 7 21]
def Ez:=[o 2 (.mv T)]
def AB:aN:=(s (r Er) (s (s (r Es) (.block 0 (.loop (s (r Et) (s (.cond (.t 8) .skip (.exit 0)) (s (.block 1 (s (r Eu) (s (r Ev) (s (r Ew) (.cond (.t 20) (s (r wg) .ret) .skip))))) (r Ey))))))) (s (r Ez) .ret)))
def KT:List aY:=[.tmp 2]
theorem SU:bF Tryz.prog Tryz.f120 AB:=e (by kernel_rfl)
theorem U4:bG Tryz.prog Tryz.f120 KT:=e (by kernel_rfl)
theorem QX:bE Tryz.prog 120:=e (by kernel_rfl)
def EA:=[o 6 (.mv bh)]
def EB:=[m 7 1,m 8 0,o 9 (.bin .leq (.t 7) (.t 8)),m 10 9,cg 11 0 10,cg 12 2 10,aZ 13 (.bin .leq (.t 11) (.t 12)) 10,and 14 10 13,m 6 14]
def AD:aN:=(s (r EA) (s (r EB) .ret))
def KU:List aY:=[.tmp 6]
theorem SV:bF Tryz.prog Tryz.f121 AD:=e (by kernel_rfl)
theorem U5:bG Tryz.prog Tryz.f121 KU:=e (by kernel_rfl)
theorem QY:bE Tryz.prog 121:=e (by kernel_rfl)
def EC:=[o 2 (.mv bh)]
def ED:=[m 3 0,o 4 (.call 121 [.t 3,(ai 1),(ai 99)]),m 2 4]
def AE:aN:=(s (r EC) (s (r ED) .ret))
def KV:List aY:=[.tmp 2]
theorem SW:bF Tryz.prog Tryz.f122 AE:=e (by kernel_rfl)
theorem U6:bG Tryz.prog Tryz.f122 KV:=e (by kernel_rfl)
theorem QZ:bE Tryz.prog 122:=e (by kernel_rfl)
def EE:=[b 1 0,o 2 (.mv bh)]
def EF:=[o 3 (.va 6 1 (.t 1)),o 4 (.call 125 [.t 3,(.c (.func 162 []))]),no 5 4,m 2 5]
def AF:aN:=(s (r EE) (s (r EF) .ret))
def KW:List aY:=[.tmp 2]
theorem SX:bF Tryz.prog Tryz.f123 AF:=e (by kernel_rfl)
theorem U7:bG Tryz.prog Tryz.f123 KW:=e (by kernel_rfl)
theorem Q0:bE Tryz.prog 123:=e (by kernel_rfl)
def EG:=[b 3 0,b 5 2,o 6 (.mv bh)]
def EH:=[m 7 1,o 8 (.mk 164 [.t 3,.t 5]),o 9 (.call 163 [.t 7,.t 8]),no 10 9,m 6 10]
def AG:aN:=(s (r EG) (s (r EH) .ret))
def KX:List aY:=[.tmp 6]
theorem SY:bF Tryz.prog Tryz.f124 AG:=e (by kernel_rfl)
theorem U8:bG Tryz.prog Tryz.f124 KX:=e (by kernel_rfl)
theorem Q1:bE Tryz.prog 124:=e (by kernel_rfl)
def EI:=[o 4 (.mv bh)]
def EJ:=[m 5 0,m 6 1,o 7 (.call 166 [.t 5,.t 6]),o 8 (.bin .geq (.t 7) (ai 0)),m 4 8]
def AH:aN:=(s (r EI) (s (r EJ) .ret))
def KY:List aY:=[.tmp 4]
theorem SZ:bF Tryz.prog Tryz.f125 AH:=e (by kernel_rfl)
theorem U9:bG Tryz.prog Tryz.f125 KY:=e (by kernel_rfl)
theorem Q2:bE Tryz.prog 125:=e (by kernel_rfl)
def Zs:=[o 2 (.mv bh)]
def Zt:=[m 3 0,o 4 (.call 127 [.t 3]),no 5 4,m 2 5]
def AI:aN:=(s (r Zs) (s (r Zt) .ret))
def KZ:List aY:=[.tmp 2]
theorem S0:bF Tryz.prog Tryz.f126 AI:=e (by kernel_rfl)
theorem Va:bG Tryz.prog Tryz.f126 KZ:=e (by kernel_rfl)
theorem Q3:bE Tryz.prog 126:=e (by kernel_rfl)
def EK:=[o 2 (.mv bh)]
def EL:=[m 3 0,o 4 (.call 114 [.t 3,(ai 0),(ai 100000)]),m 2 4]
def AJ:aN:=(s (r EK) (s (r EL) .ret))
def K0:List aY:=[.tmp 2]
theorem S1:bF Tryz.prog Tryz.f127 AJ:=e (by kernel_rfl)
theorem Vb:bG Tryz.prog Tryz.f127 K0:=e (by kernel_rfl)
theorem Q4:bE Tryz.prog 127:=e (by kernel_rfl)
def EM:=[b 2 0,o 4 (.mv (.c (.nils 1))),aV 5 0]
def EN:=[L 11 7 2,o 12 (.call 66 [.t 11]),m 6 12]
def wo:=[m 13 6,o 14 (.bin .neq (.t 13) (ai 0))]
def EO:=[m 15 6,o 4 (.mv (.c (.nils 1))),m 5 15]
def EP:=[m 16 1,o 17 (.len (.t 16)),o 18 (.bin .gtr (.t 17) (ai 60))]
def ER:=[o 4 (.mv (.c (.nils 1))),aV 5 2]
def ES:=[f 19 2 6 2,l 20 19,o 21 (.call 167 [.t 20]),m 7 21]
def wq:=[m 22 1,o 23 (.len (.t 22)),aV 24 0]
def wu:=[lt 25 24 23]
def wv:=[o 26 (.is 6 (.t 22) (.t 24)),L 27 6 26,o 9 (.alloc (.agg [.int .i64 0,.int .i64 0,.int .i64 0,.int .i64 0,.int .i64 0,.int .i64 0])),p (.bl (some 6) (.t 9) (.t 27))]
def wh:=[L 28 6 9,o 29 (.call 157 [.t 28]),m 10 29]
def sN:=[m 30 10,o 31 (.bin .neq (.t 30) (ai 0))]
def wi:=[m 32 10,o 4 (.mv (.c (.nils 1))),m 5 32]
def wj:=[f 33 0 0 2,L 34 5 33,f 35 1 5 2,l 36 35,m 37 7,o 38 (.bld [.agg [.int .i64 0,.int .i64 0,.int .i64 0,.int .i64 0,.int .i64 0],.int .i64 0,.nils 7] [(0,(.t 34)),(1,(.t 36)),(2,(.t 37))]),L 39 6 9,o 40 (.call 168 [.t 38,.t 39]),m 7 40]
def sO:=[ad 41 24 1,m 24 41]
def wm:=[m 42 7,o 43 (.call 169 [.t 42]),m 4 43,aV 5 0]
def AK:aN:=(s (r EM) (s (s (r EN) (s (r wo) (.cond (.t 14) (s (r EO) .ret) .skip))) (s (s (r EP) (.cond (.t 18) (s (r ER) .ret) .skip)) (s (r ES) (s (s (r wq) (.block 0 (.loop (s (r wu) (s (.cond (.t 25) .skip (.exit 0)) (s (.block 1 (s (r wv) (s (s (r wh) (s (r sN) (.cond (.t 31) (s (r wi) .ret) .skip))) (r wj)))) (r sO))))))) (s (r wm) .ret))))))
def K1:List aY:=[.tmp 4,.tmp 5]
theorem S2:bF Tryz.prog Tryz.f128 AK:=e (by kernel_rfl)
theorem Vc:bG Tryz.prog Tryz.f128 K1:=e (by kernel_rfl)
theorem Q5:bE Tryz.prog 128:=e (by kernel_rfl)
def ET:=[b 3 0,b 4 1,b 5 2,aV 6 0]
def EU:=[aV 7 0]
def EV:=[aV 8 0]
def EW:=[m 9 8,o 10 (.bin .lss (.t 9) (ai 6))]
def EX:=[m 13 8,o 14 (.ia 6 1 (.t 4) (.t 13)),l 15 14,o 16 (.ia 5 1 (.t 3) (.t 15)),l 17 16,m 18 8,o 19 (.ia 6 1 (.t 5) (.t 18)),l 20 19,o 21 (.ia 5 1 (.t 3) (.t 20)),l 22 21,o 23 (.bin .and (.t 17) (.t 22)),o 24 (.bin .eql (.t 23) (ai 0))]
def WT:=some [[],[0],[1],[2],[3],[],[5],[6],[7],[8],[4,9],[10]]
def EY:=[m 25 7,ad 26 25 1,m 7 26]
def wy:=[m 11 8,ad 12 11 1,m 8 12]
def EZ:=[m 27 7,m 6 27]
def AL:aN:=(s (r ET) (s (r EU) (s (s (r EV) (.block 0 (.loop (s (s (r EW) (.cond (.t 10) .skip (.exit 0))) (s (.block 1 (s (.bT WT EX) (.cond (.t 24) (r EY) .skip))) (r wy)))))) (s (r EZ) .ret))))
def K2:List aY:=[.tmp 6]
theorem S3:bF Tryz.prog Tryz.f129 AL:=e (by kernel_rfl)
theorem Vd:bG Tryz.prog Tryz.f129 K2:=e (by kernel_rfl)
theorem Q6:bE Tryz.prog 129:=e (by kernel_rfl)
def E0:=[b 2 0,o 4 (.mv (.c (.nils 1))),aV 5 0]
def E4:=[L 11 7 2,o 12 (.call 70 [.t 11]),o 13 (.bin .neq (.t 12) (ai 0))]
def Ff:=[o 4 (.mv (.c (.nils 1))),aV 5 13]
def Fh:=[m 14 1,o 15 (.len (.t 14)),o 16 (.bin .gtr (.t 15) (ai 60))]
def Fi:=[o 4 (.mv (.c (.nils 1))),aV 5 2]
def Fj:=[aV 6 0]
def Fk:=[m 17 6,m 18 1,o 19 (.len (.t 18)),lt 20 17 19]
def Fl:=[m 23 1,m 24 6,o 25 (.is 6 (.t 23) (.t 24)),L 26 6 25,o 27 (.call 101 [.t 26]),o 28 (.bin .neq (.t 27) (ai 0))]
def Fm:=[o 4 (.mv (.c (.nils 1))),aV 5 12]
def Fo:=[m 21 6,ad 22 21 1,m 6 22]
def E5:=[o 7 (.mv (.c (.nils 1)))]
def E6:=[aV 8 0]
def E7:=[m 29 8,f 30 2 6 2,l 31 30,o 32 (.len (.t 31)),lt 33 29 32]
def E8:=[o 9 (.mv T)]
def E9:=[aV 10 0]
def Fa:=[m 36 10,m 37 1,o 38 (.len (.t 37)),lt 39 36 38]
def Fb:=[m 42 9,m 43 42,cB 44 0 0 2 43,aZ 45 (.ld (some 5) (.t 44)) 43,cB 46 2 6 2 43,cF 47 46 43,cg 48 8 43,aZ 49 (.is 7 (.t 47) (.t 48)) 43,cB 50 1 1 49 43,aZ 51 (.ld (some 6) (.t 50)) 43,cg 52 1 43,cg 53 10 43,aZ 54 (.is 6 (.t 52) (.t 53)) 43,aZ 55 (.ld (some 6) (.t 54)) 43,aZ 56 (.call 102 [.t 45,.t 51,.t 55]) 43,cB 57 1 5 2 43,cF 58 57 43,aZ 59 (.bin .leq (.t 56) (.t 58)) 43,and 60 43 59,m 9 60]
def WU:=some [[],[0],[1],[2,1],[1],[4,1],[1],[5,6,1],[7,1],[8,1],[1],[1],[10,11,1],[12,1],[3,9,13,1,1],[1],[15,1],[14,16,1],[1,17],[18,14,0,1,2,3,4,5,6,7,8,9,10,11,12,13,14,15,16,17,18]]
def wz:=[m 40 10,ad 41 40 1,m 10 41]
def Fc:=[m 61 9]
def Fe:=[m 62 7,f 63 2 6 2,l 64 63,m 65 8,o 66 (.is 7 (.t 64) (.t 65)),f 67 0 0 66,l 68 67,o 69 (.bs 1 [.t 68]),o 70 (.cS 3 1 8 (.int .i64 0) (.t 62) (.t 69)),m 7 70]
def wA:=[m 34 8,ad 35 34 1,m 8 35]
def Fg:=[m 71 7,m 4 71,aV 5 0]
def AM:aN:=(s (r E0) (s (s (r E4) (.cond (.t 13) (s (r Ff) .ret) .skip)) (s (s (r Fh) (.cond (.t 16) (s (r Fi) .ret) .skip)) (s (s (r Fj) (.block 0 (.loop (s (s (r Fk) (.cond (.t 20) .skip (.exit 0))) (s (.block 1 (s (r Fl) (.cond (.t 28) (s (r Fm) .ret) .skip))) (r Fo)))))) (s (r E5) (s (s (r E6) (.block 2 (.loop (s (s (r E7) (.cond (.t 33) .skip (.exit 2))) (s (.block 3 (s (r E8) (s (s (r E9) (.block 4 (.loop (s (s (r Fa) (.cond (.t 39) .skip (.exit 4))) (s (.block 5 (.bT WU Fb)) (r wz)))))) (s (r Fc) (.cond (.t 61) (r Fe) .skip))))) (r wA)))))) (s (r Fg) .ret)))))))
def K3:List aY:=[.tmp 4,.tmp 5]
theorem S4:bF Tryz.prog Tryz.f130 AM:=e (by kernel_rfl)
theorem Ve:bG Tryz.prog Tryz.f130 K3:=e (by kernel_rfl)
theorem Q7:bE Tryz.prog 130:=e (by kernel_rfl)
def Zu:=[aV 4 0]
def Zv:=[m 6 0,o 7 (.len (.t 6)),aV 8 0]
def Zw:=[lt 9 8 7]
def Zx:=[m 10 8,m 5 10]
def Zy:=[m 11 1,m 12 0,m 13 5,o 14 (.is 1 (.t 12) (.t 13)),l 15 14,o 16 (.bin .eql (.t 11) (.t 15))]
def Zz:=[m 17 5,m 4 17]
def ZA:=[ad 18 8 1,m 8 18]
def ZB:=[aV 4 (-1)]
def AN:aN:=(s (r Zu) (s (s (r Zv) (.block 0 (.loop (s (r Zw) (s (.cond (.t 9) .skip (.exit 0)) (s (.block 1 (s (r Zx) (s (r Zy) (.cond (.t 16) (s (r Zz) .ret) .skip)))) (r ZA))))))) (s (r ZB) .ret)))
def K4:List aY:=[.tmp 4]
theorem S5:bF Tryz.prog Tryz.f131 AN:=e (by kernel_rfl)
theorem Vf:bG Tryz.prog Tryz.f131 K4:=e (by kernel_rfl)
theorem Q8:bE Tryz.prog 131:=e (by kernel_rfl)
def ZC:=[b 3 1,o 4 (.mv (.c (.nils 9))),o 5 (.mv bh)]
def ZD:=[m 11 0,f 12 4 5 3,l 13 12,o 14 (.call 93 [.t 11,.t 13]),m 6 14]
def ZO:=[f 15 1 2 3,l 16 15,o 17 (.bin .eql (.t 16) (ai 1)),m 18 17,fn 19 1 2 3 18,eO 20 19 18,on 21 (.bin .eql (.t 20) (ai 2)) 18,or 22 18 21]
def ZY:=[m 23 6,o 24 (.bin .geq (.t 23) (ai 0))]
def Z0:=[m 25 0,m 4 25,o 5 (.mv bh)]
def Z1:=[f 26 5 6 3,l 27 26,o 28 (.bin .neq (.t 27) (ai 0))]
def Z2:=[m 29 0,f 30 5 6 3,l 31 30,o 32 (.call 93 [.t 29,.t 31]),m 7 32]
def Z3:=[m 33 7,o 34 (.bin .lss (.t 33) (ai 0)),m 35 34,eb 36 0 35,eb 37 7 35,on 38 (.is 9 (.t 36) (.t 37)) 35,fn 39 1 1 38 35,eO 40 39 35,fn 41 6 7 3 35,eO 42 41 35,on 43 (.bin .neq (.t 40) (.t 42)) 35,or 44 35 43,m 45 44,eb 46 0 45,eb 47 7 45,on 48 (.is 9 (.t 46) (.t 47)) 45,fn 49 6 6 48 45,eO 50 49 45,on 51 (.bin .geq (.t 50) (ai 0)) 45,eb 52 51 45,cg 53 0 52,cg 54 7 52,aZ 55 (.is 9 (.t 53) (.t 54)) 52,cB 56 6 6 55 52,cF 57 56 52,cB 58 2 3 3 52,cF 59 58 52,aZ 60 (.bin .lss (.t 57) (.t 59)) 52,on 61 (.pick (.t 52) (.t 60) bh) 45,or 62 45 61]
def WW:=some [[],[0],[1],[2],[2],[3,4,2],[5,2],[6,2],[2],[8,2],[7,9,2],[2,10],[11,2],[12],[12],[13,14,12],[15,12],[16,12],[17,12],[18,12,12],[19],[19],[20,21,19],[22,19],[23,19],[19],[25,19],[24,26,19],[19,27,12],[12,28]]
def Z4:=[m 63 0,m 4 63,o 5 (.mv bh)]
def Z5:=[m 64 0,f 65 4 5 3,l 66 65,f 67 6 7 3,l 68 67,f 69 5 6 3,l 70 69,f 71 7 8 3,l 72 71,f 73 7 8 3,l 74 73,f 75 2 3 3,l 76 75,o 77 (.bld [.int .i64 0,.int .i64 0,.int .i64 0,.int .i64 0,.int .i64 0,.int .i64 0,.int .i64 0,.bool false,.nils 6] [(0,(.t 66)),(1,(.t 68)),(2,(.t 70)),(3,(.t 72)),(4,(.t 74)),(5,(.t 76)),(6,(.c (.int .i64 (-1))))]),o 78 (.call 170 [.t 64,.t 77]),m 8 78]
def ZE:=[m 79 8,m 4 79,o 5 (.mv T)]
def ZF:=[m 80 6,o 81 (.bin .lss (.t 80) (ai 0))]
def ZG:=[m 82 0,m 4 82,o 5 (.mv bh)]
def ZH:=[m 83 0,m 84 6,o 85 (.is 9 (.t 83) (.t 84)),L 86 9 85,o 9 (.alloc (.agg [.int .i64 0,.int .i64 0,.int .i64 0,.int .i64 0,.int .i64 0,.int .i64 0,.int .i64 0,.bool false,.nils 6])),p (.bl (some 9) (.t 9) (.t 86))]
def ZI:=[f 87 1 2 3,l 88 87]
def ZJ:=[o 90 (.bin .eql (.t 88) (ai 3)),m 89 90]
def ZK:=[f 91 6 6 9,l 92 91,o 93 (.bin .geq (.t 92) (ai 0)),m 94 93,fn 95 3 3 9 94,eO 96 95 94,on 97 (.bin .eql (.t 96) (ai 0)) 94,or 98 94 97,m 99 98,fn 100 3 3 9 99,eO 101 100 99,fn 102 7 8 3 99,eO 103 102 99,on 104 (.bin .eql (.t 101) (.t 103)) 99,or 105 99 104]
def ZL:=[m 106 0,m 4 106,o 5 (.mv bh)]
def ZM:=[f 107 7 8 3,l 108 107,f 109 3 3 9,p (.bl none (.t 109) (.t 108))]
def ZN:=[o 111 (.bin .eql (.t 88) (ai 4)),m 110 111]
def wB:=[o 112 (.bs0 6),f 113 8 8 9,l 114 113,o 115 (.cS 66 6 48 (.agg [.int .i64 0,.int .i64 0,.int .i64 0,.int .i64 0,.int .i64 0,.int .i64 0]) (.t 112) (.t 114)),f 116 8 9 3,L 117 6 116,o 118 (.bs 6 [.t 117]),o 119 (.cS 66 6 48 (.agg [.int .i64 0,.int .i64 0,.int .i64 0,.int .i64 0,.int .i64 0,.int .i64 0]) (.t 115) (.t 118)),f 120 8 8 9,p (.bl none (.t 120) (.t 119))]
def WV:=some [[],[],[1],[0,2],[],[4],[5],[3,6,3],[0,1,2,3,4,5,6,7],[8,7,7,0,1,2,3,4,5,6,7]] -- DRAW BAD
def ZP:=[o 122 (.bin .eql (.t 88) (ai 5)),m 121 122]
def ZQ:=[f 123 7 8 3,l 124 123,f 125 3 3 9,p (.bl none (.t 125) (.t 124))]
def ZR:=[f 126 7 7 9,p (.bl none (.t 126) T)]
def ZS:=[o 128 (.bin .eql (.t 88) (ai 6)),m 127 128]
def ZT:=[f 129 6 6 9,l 130 129,o 131 (.bin .geq (.t 130) (ai 0))]
def ZU:=[m 132 0,m 4 132,o 5 (.mv bh)]
def ZV:=[f 133 2 3 3,l 134 133,f 135 6 6 9,p (.bl none (.t 135) (.t 134))]
def ZW:=[o 136 (.bs0 9),m 137 0,o 138 (.cS 78 9 88 (.agg [.int .i64 0,.int .i64 0,.int .i64 0,.int .i64 0,.int .i64 0,.int .i64 0,.int .i64 0,.bool false,.nils 6]) (.t 136) (.t 137)),m 10 138]
def ZX:=[m 139 10,m 140 6,L 141 9 9,o 142 (.is 9 (.t 139) (.t 140)),p (.bl (some 9) (.t 142) (.t 141))]
def ZZ:=[m 143 10,m 4 143,o 5 (.mv T)]
def oe:aN:=(s (r ZC) (s (r ZD) (s (s (r ZO) (.cond (.t 22) (s (s (r ZY) (.cond (.t 24) (s (r Z0) .ret) .skip)) (s (s (r Z1) (.cond (.t 28) (s (r Z2) (s (.bT WW Z3) (.cond (.t 62) (s (r Z4) .ret) .skip))) .skip)) (s (r Z5) (s (r ZE) .ret)))) .skip)) (s (s (r ZF) (.cond (.t 81) (s (r ZG) .ret) .skip)) (s (r ZH) (s (s (r ZI) (.block 0 (s (r ZJ) (.cond (.t 89) (s (s (r ZK) (.cond (.t 105) (s (r ZL) .ret) .skip)) (r ZM)) (s (r ZN) (.cond (.t 110) (.bT WV wB) (s (r ZP) (.cond (.t 121) (s (r ZQ) (r ZR)) (s (r ZS) (.cond (.t 127) (s (s (r ZT) (.cond (.t 131) (s (r ZU) .ret) .skip)) (r ZV)) .skip)))))))))) (s (r ZW) (s (r ZX) (s (r ZZ) .ret)))))))))
def oH:List aY:=[.tmp 4,.tmp 5]
theorem pq:bF Tryz.prog Tryz.f132 oe:=e (by kernel_rfl)
theorem px:bG Tryz.prog Tryz.f132 oH:=e (by kernel_rfl)
theorem pn:bE Tryz.prog 132:=e (by kernel_rfl)
def Z6:=[o 2 (.alloc (.agg [.int .i64 0,.int .i64 0,.int .i64 0,.int .i64 0,.int .i64 0,.int .i64 0,.int .i64 0,.int .i64 0]))]
def Z7:=[aV 3 0]
def Z8:=[m 4 0,o 5 (.nilC (.t 4)),f 6 0 0 5,f 7 7 7 6,l 8 7]
def Z9:=[aV 3 1]
def aaa:=[m 9 0,o 10 (.nilC (.t 9)),f 11 0 0 10,f 12 0 0 11,l 13 12,m 14 0,o 15 (.nilC (.t 14)),f 16 0 0 15,f 17 1 1 16,l 18 17,m 19 0,o 20 (.nilC (.t 19)),f 21 0 0 20,f 22 2 2 21,l 23 22,m 24 0,o 25 (.nilC (.t 24)),f 26 0 0 25,f 27 3 3 26,l 28 27,m 29 0,o 30 (.nilC (.t 29)),f 31 0 0 30,f 32 4 4 31,l 33 32,m 34 0,o 35 (.nilC (.t 34)),f 36 0 0 35,f 37 5 5 36,l 38 37,m 39 0,o 40 (.nilC (.t 39)),f 41 0 0 40,f 42 6 6 41,l 43 42,m 44 3,o 45 (.bld [.int .i64 0,.int .i64 0,.int .i64 0,.int .i64 0,.int .i64 0,.int .i64 0,.int .i64 0,.int .i64 0] [(0,(.t 13)),(1,(.t 18)),(2,(.t 23)),(3,(.t 28)),(4,(.t 33)),(5,(.t 38)),(6,(.t 43)),(7,(.t 44))]),p (.bl (some 8) (.t 2) (.t 45))]
def WX:=some [[],[0],[1],[2],[3],[],[5],[6],[7],[8],[],[10],[11],[12],[13],[],[15],[16],[17],[18],[],[20],[21],[22],[23],[],[25],[26],[27],[28],[],[30],[31],[32],[33],[],[4,9,14,19,24,29,34,35],[36,0,1,2,3,4,5,6,7,8,9,10,11,12,13,14,15,16,17,18,19,20,21,22,23,24,25,26,27,28,29,30,31,32,33,34,35,36]]
def AO:aN:=(s (r Z6) (s (r Z7) (s (s (r Z8) (.cond (.t 8) (r Z9) .skip)) (s (.bT WX aaa) .ret))))
def K5:List aY:=[.cell 2 (some 8)]
theorem S6:bF Tryz.prog Tryz.f133 AO:=e (by kernel_rfl)
theorem Vg:bG Tryz.prog Tryz.f133 K5:=e (by kernel_rfl)
theorem Q9:bE Tryz.prog 133:=e (by kernel_rfl)
def aab:=[o 4 (.mv bh)]
def aac:=[m 6 0,o 7 (.len (.t 6)),m 8 1,o 9 (.len (.t 8)),o 10 (.bin .neq (.t 7) (.t 9))]
def aad:=[o 4 (.mv bh)]
def aae:=[m 11 0,o 12 (.len (.t 11)),aV 13 0]
def aaf:=[lt 14 13 12]
def aag:=[m 15 13,m 5 15]
def aah:=[m 16 0,m 17 5,o 18 (.is 1 (.t 16) (.t 17)),l 19 18,m 20 1,m 21 5,o 22 (.is 1 (.t 20) (.t 21)),l 23 22,o 24 (.bin .neq (.t 19) (.t 23))]
def WY:=some [[],[],[0,1],[2],[],[],[4,5],[6],[3,7]]
def aai:=[o 4 (.mv bh)]
def aaj:=[ad 25 13 1,m 13 25]
def aak:=[o 4 (.mv T)]
def AP:aN:=(s (r aab) (s (s (r aac) (.cond (.t 10) (s (r aad) .ret) .skip)) (s (s (r aae) (.block 0 (.loop (s (r aaf) (s (.cond (.t 14) .skip (.exit 0)) (s (.block 1 (s (r aag) (s (.bT WY aah) (.cond (.t 24) (s (r aai) .ret) .skip)))) (r aaj))))))) (s (r aak) .ret))))
def K6:List aY:=[.tmp 4]
theorem S7:bF Tryz.prog Tryz.f134 AP:=e (by kernel_rfl)
theorem Vh:bG Tryz.prog Tryz.f134 K6:=e (by kernel_rfl)
theorem Ra:bE Tryz.prog 134:=e (by kernel_rfl)
def Fp:=[o 6 (.mv (.c (.nils 17)))]
def Fq:=[m 8 0,m 9 1,m 10 2,m 11 0,o 12 (.len (.t 11)),o 13 (.sl 17 (.t 8) (some (.t 9)) (some (.t 10)) (some (.t 12)))]
def Fs:=[m 14 1,m 15 2,o 16 (.bin .eql (.t 14) (.t 15))]
def aal:=[m 17 0,m 6 17]
def Ft:=[m 18 0,o 19 (.len (.t 18)),m 7 19]
def wC:=[m 20 0,m 21 1,o 22 (.sl 17 (.t 20) none (some (.t 21)) none),m 23 0,m 24 2,o 25 (.sl 17 (.t 23) (some (.t 24)) none none),o 26 (.cS 68 17 136 (.agg [.agg [.int .i64 0,.int .i64 0],.int .i64 0,.int .i64 0,.int .i64 0,.int .i64 0,.int .i64 0,.int .i64 0,.int .i64 0,.agg [.int .i64 0,.int .i64 0,.int .i64 0,.int .i64 0,.int .i64 0,.int .i64 0],.agg [.int .i64 0,.int .i64 0]]) (.t 22) (.t 25)),m 0 26]
def WZ:=some [[],[],[0,1],[],[],[3,4],[2,5],[6,6,0,1,2,3,4,5,6]]
def wD:=[m 27 0,m 28 0,o 29 (.len (.t 28)),m 30 7,o 31 (.sl 17 (.t 27) (some (.t 29)) (some (.t 30)) none),p (.js 17 (.agg [.agg [.int .i64 0,.int .i64 0],.int .i64 0,.int .i64 0,.int .i64 0,.int .i64 0,.int .i64 0,.int .i64 0,.int .i64 0,.agg [.int .i64 0,.int .i64 0,.int .i64 0,.int .i64 0,.int .i64 0,.int .i64 0],.agg [.int .i64 0,.int .i64 0]]) (.t 31))]
def wE:=[m 32 0,m 6 32]
def AQ:aN:=(s (r Fp) (s (r Fq) (s (s (r Fs) (.cond (.t 16) (s (r aal) .ret) .skip)) (s (r Ft) (s (.bT WZ wC) (s (r wD) (s (r wE) .ret)))))))
def K7:List aY:=[.tmp 6]
theorem S8:bF Tryz.prog Tryz.f135 AQ:=e (by kernel_rfl)
theorem Vi:bG Tryz.prog Tryz.f135 K7:=e (by kernel_rfl)
theorem Rb:bE Tryz.prog 135:=e (by kernel_rfl)
def Fu:=[o 2 (.mv (.c (.nils 17)))]
def wF:=[m 3 0,o 4 (.nilS false (.t 3))]
def Fv:=[o 2 (.mv (.c (.nils 17)))]
def wG:=[o 5 (.bs0 17),m 6 0,o 7 (.cS 68 17 136 (.agg [.agg [.int .i64 0,.int .i64 0],.int .i64 0,.int .i64 0,.int .i64 0,.int .i64 0,.int .i64 0,.int .i64 0,.int .i64 0,.agg [.int .i64 0,.int .i64 0,.int .i64 0,.int .i64 0,.int .i64 0,.int .i64 0],.agg [.int .i64 0,.int .i64 0]]) (.t 5) (.t 6)),m 2 7]
def AR:aN:=(s (r Fu) (s (s (r wF) (.cond (.t 4) (s (r Fv) .ret) .skip)) (s (r wG) .ret)))
def K8:List aY:=[.tmp 2]
theorem S9:bF Tryz.prog Tryz.f136 AR:=e (by kernel_rfl)
theorem Vj:bG Tryz.prog Tryz.f136 K8:=e (by kernel_rfl)
theorem Rc:bE Tryz.prog 136:=e (by kernel_rfl)
def Fw:=[m 4 0,m 5 0,o 6 (.len (.t 5)),m 7 1,o 8 (.call 171 [.t 4,.t 6,.t 7])]
def vh:aN:=(r Fw)
def yx:List aY:=[]
theorem Cy:bF Tryz.prog Tryz.f137 vh:=e (by kernel_rfl)
theorem CM:bG Tryz.prog Tryz.f137 yx:=e (by kernel_rfl)
theorem Cp:bE Tryz.prog 137:=e (by kernel_rfl)
def aam:=[aV 5 0]
def aan:=[l 6 2,m 7 0,o 8 (.is 17 (.t 6) (.t 7)),f 9 2 3 8,l 10 9,l 11 2,m 12 1,o 13 (.is 17 (.t 11) (.t 12)),f 14 2 3 13,l 15 14,o 16 (.bin .sub (.t 10) (.t 15)),m 5 16]
def W2:=some [[],[],[0,1],[2],[3],[],[],[5,6],[7],[8],[4,9],[10,0,1,2,3,4,5,6,7,8,9,10]]
def AS:aN:=(s (r aam) (s (.bT W2 aan) .ret))
def K9:List aY:=[.tmp 5]
theorem Ta:bF Tryz.prog Tryz.f138 AS:=e (by kernel_rfl)
theorem Vk:bG Tryz.prog Tryz.f138 K9:=e (by kernel_rfl)
theorem Re:bE Tryz.prog 138:=e (by kernel_rfl)
def Fx:=[o 0 (.mv (.c (.raw (.map none))))]
def Fy:=[o 1 (.jP),p (.gK (.i .i64) (.t 1) (ai 1) (.c (.func 172 []))),p (.gK (.i .i64) (.t 1) (ai 2) (.c (.func 173 []))),p (.gK (.i .i64) (.t 1) (ai 3) (.c (.func 174 []))),p (.gK (.i .i64) (.t 1) (ai 4) (.c (.func 175 []))),p (.gK (.i .i64) (.t 1) (ai 5) (.c (.func 176 []))),p (.gK (.i .i64) (.t 1) (ai 6) (.c (.func 177 []))),m 2 1,m 0 2]
def AT:aN:=(s (r Fx) (s (r Fy) .ret))
def La:List aY:=[.tmp 0]
theorem Tb:bF Tryz.prog Tryz.f139 AT:=e (by kernel_rfl)
theorem Vl:bG Tryz.prog Tryz.f139 La:=e (by kernel_rfl)
theorem Rf:bE Tryz.prog 139:=e (by kernel_rfl)
def aao:=[o 4 (.mv (.c (.nils 1)))]
def aap:=[o 5 (.mv (.c (.nils 1)))]
def aav:=[o 6 (.mv bh)]
def aaw:=[aV 7 0]
def aax:=[m 8 7,m 9 0,o 10 (.len (.t 9)),lt 11 8 10]
def aay:=[m 14 0,m 15 7,o 16 (.is 1 (.t 14) (.t 15)),l 17 16,m 18 1,o 19 (.bin .eql (.t 17) (.t 18))]
def aaz:=[m 20 0,m 4 20]
def aaA:=[m 21 6,no 22 21,m 23 22,cg 24 0 23,cg 25 7 23,aZ 26 (.is 1 (.t 24) (.t 25)) 23,cF 27 26 23,cg 28 1 23,aZ 29 (.bin .gtr (.t 27) (.t 28)) 23,and 30 23 29]
def aaB:=[m 31 5,m 32 1,o 33 (.bs 1 [.t 32]),o 34 (.cS 3 1 8 (.int .i64 0) (.t 31) (.t 33)),m 5 34]
def aaC:=[o 6 (.mv T)]
def aaq:=[m 35 5,m 36 0,m 37 7,o 38 (.is 1 (.t 36) (.t 37)),l 39 38,o 40 (.bs 1 [.t 39]),o 41 (.cS 3 1 8 (.int .i64 0) (.t 35) (.t 40)),m 5 41]
def aar:=[m 12 7,ad 13 12 1,m 7 13]
def aas:=[m 42 6,no 43 42]
def aat:=[m 44 5,m 45 1,o 46 (.bs 1 [.t 45]),o 47 (.cS 3 1 8 (.int .i64 0) (.t 44) (.t 46)),m 5 47]
def aau:=[m 48 5,m 4 48]
def AV:aN:=(s (r aao) (s (r aap) (s (r aav) (s (s (r aaw) (.block 0 (.loop (s (s (r aax) (.cond (.t 11) .skip (.exit 0))) (s (.block 1 (s (s (r aay) (.cond (.t 19) (s (r aaz) .ret) .skip)) (s (s (r aaA) (.cond (.t 30) (s (r aaB) (r aaC)) .skip)) (r aaq)))) (r aar)))))) (s (s (r aas) (.cond (.t 43) (r aat) .skip)) (s (r aau) .ret))))))
def Lc:List aY:=[.tmp 4]
theorem Td:bF Tryz.prog Tryz.f140 AV:=e (by kernel_rfl)
theorem Vn:bG Tryz.prog Tryz.f140 Lc:=e (by kernel_rfl)
theorem Rh:bE Tryz.prog 140:=e (by kernel_rfl)
def Fz:=[o 2 (.mv (.c (.nils 1)))]
def FA:=[o 3 (.mv (.c (.nils 1)))]
def FB:=[aV 4 0]
def FC:=[m 5 4,o 6 (.bin .lss (.t 5) (ai 5))]
def FD:=[m 9 0,m 10 4,o 11 (.bin .shl (ai 1) (.t 10)),o 12 (.bin .and (.t 9) (.t 11)),o 13 (.bin .neq (.t 12) (ai 0))]
def FE:=[m 14 3,m 15 4,o 16 (.bs 1 [.t 15]),o 17 (.cS 3 1 8 (.int .i64 0) (.t 14) (.t 16)),m 3 17]
def wH:=[m 7 4,ad 8 7 1,m 4 8]
def FF:=[m 18 3,m 2 18]
def AW:aN:=(s (r Fz) (s (r FA) (s (s (r FB) (.block 0 (.loop (s (s (r FC) (.cond (.t 6) .skip (.exit 0))) (s (.block 1 (s (r FD) (.cond (.t 13) (r FE) .skip))) (r wH)))))) (s (r FF) .ret))))
def Ld:List aY:=[.tmp 2]
theorem Te:bF Tryz.prog Tryz.f141 AW:=e (by kernel_rfl)
theorem Vo:bG Tryz.prog Tryz.f141 Ld:=e (by kernel_rfl)
theorem Ri:bE Tryz.prog 141:=e (by kernel_rfl)
def aaD:=[b 1 0,o 2 (.mv (.c (.dj)))]
def aaE:=[o 3 (.mk 178 [.t 1]),m 2 3]
def AX:aN:=(s (r aaD) (s (r aaE) .ret))
def Le:List aY:=[.tmp 2]
theorem Tf:bF Tryz.prog Tryz.f145 AX:=e (by kernel_rfl)
theorem Vp:bG Tryz.prog Tryz.f145 Le:=e (by kernel_rfl)
theorem Rj:bE Tryz.prog 145:=e (by kernel_rfl)
def FG:=[l 5 1,o 6 (.len (.t 5)),aV 7 0]
def FH:=[lt 8 7 6]
def FI:=[m 9 7,m 4 9]
def wI:=[l 10 2,m 11 4,o 12 (.is 1 (.t 10) (.t 11)),l 13 12,m 14 13,cg 15 0 14,cg 16 4 14,aZ 17 (.eH (.t 15) [.t 16]) 14,aZ 18 (.un .not (.t 17)) 14,and 19 14 18]
def wJ:=[ad 20 7 1,m 7 20]
def AY:aN:=(s (r FG) (.block 0 (.loop (s (r FH) (s (.cond (.t 8) .skip (.exit 0)) (s (.block 1 (s (r FI) (s (r wI) (.cond (.t 19) .ret .skip)))) (r wJ)))))))
def Lf:List aY:=[]
theorem Tg:bF Tryz.prog Tryz.f146 AY:=e (by kernel_rfl)
theorem Vq:bG Tryz.prog Tryz.f146 Lf:=e (by kernel_rfl)
theorem Cq:bE Tryz.prog 146:=e (by kernel_rfl)
def FJ:=[o 2 (.mv bh)]
def FK:=[m 3 0,o 4 (.call 114 [.t 3,(ai 1),(ai 9999)]),m 2 4]
def A4:aN:=(s (r FJ) (s (r FK) .ret))
def Lh:List aY:=[.tmp 2]
theorem Ti:bF Tryz.prog Tryz.f154 A4:=e (by kernel_rfl)
theorem Vs:bG Tryz.prog Tryz.f154 Lh:=e (by kernel_rfl)
theorem Rl:bE Tryz.prog 154:=e (by kernel_rfl)
def FL:=[o 2 (.mv bh)]
def FM:=[m 3 0,o 4 (.call 114 [.t 3,(ai 1),(ai 9)]),m 2 4]
def A5:aN:=(s (r FL) (s (r FM) .ret))
def Li:List aY:=[.tmp 2]
theorem Tj:bF Tryz.prog Tryz.f155 A5:=e (by kernel_rfl)
theorem Vt:bG Tryz.prog Tryz.f155 Li:=e (by kernel_rfl)
theorem Rm:bE Tryz.prog 155:=e (by kernel_rfl)
def FN:=[o 2 (.mv bh)]
def FO:=[m 3 0,o 4 (.call 114 [.t 3,(ai 1),(ai 99)]),m 2 4]
def A6:aN:=(s (r FN) (s (r FO) .ret))
def Lj:List aY:=[.tmp 2]
theorem Tk:bF Tryz.prog Tryz.f156 A6:=e (by kernel_rfl)
theorem Vu:bG Tryz.prog Tryz.f156 Lj:=e (by kernel_rfl)
theorem Rn:bE Tryz.prog 156:=e (by kernel_rfl)
def FP:=[b 1 0,aV 2 0]
def FQ:=[L 3 6 1,o 4 (.call 193 [.t 3]),no 5 4]
def FR:=[aV 2 12]
def FT:=[aV 2 0]
def A7:aN:=(s (r FP) (s (s (r FQ) (.cond (.t 5) (s (r FR) .ret) .skip)) (s (r FT) .ret)))
def Lk:List aY:=[.tmp 2]
theorem Tl:bF Tryz.prog Tryz.f157 A7:=e (by kernel_rfl)
theorem Vv:bG Tryz.prog Tryz.f157 Lk:=e (by kernel_rfl)
theorem Ro:bE Tryz.prog 157:=e (by kernel_rfl)
def FU:=[aV 2 0]
def FV:=[aV 3 0]
def FW:=[m 6 0,o 7 (.len (.t 6)),aV 8 0]
def FX:=[lt 9 8 7]
def FY:=[o 10 (.is 1 (.t 6) (.t 8)),l 11 10,m 5 11]
def FZ:=[m 12 5,m 13 3,o 14 (.bin .neq (.t 12) (.t 13))]
def F0:=[m 15 5,m 2 15]
def F1:=[ad 16 8 1,m 8 16]
def F2:=[m 17 3,m 2 17]
def A8:aN:=(s (r FU) (s (r FV) (s (s (r FW) (.block 0 (.loop (s (r FX) (s (.cond (.t 9) .skip (.exit 0)) (s (.block 1 (s (r FY) (s (r FZ) (.cond (.t 14) (s (r F0) .ret) .skip)))) (r F1))))))) (s (r F2) .ret))))
def Ll:List aY:=[.tmp 2]
theorem Tm:bF Tryz.prog Tryz.f158 A8:=e (by kernel_rfl)
theorem Vw:bG Tryz.prog Tryz.f158 Ll:=e (by kernel_rfl)
theorem Rp:bE Tryz.prog 158:=e (by kernel_rfl)
def F3:=[aV 4 0]
def F4:=[m 7 0,o 8 (.call 194 [.t 7]),m 5 8]
def F9:=[m 9 1,o 10 (.call 194 [.t 9]),m 6 10]
def Ga:=[m 11 5]
def aaQ:=[m 12 6]
def aaR:=[aV 4 0]
def aaS:=[aV 4 (-1)]
def Gb:=[m 13 6]
def aaT:=[aV 4 1]
def Gc:=[m 14 0,m 15 1,lt 16 14 15]
def F5:=[aV 4 (-1)]
def F6:=[m 17 0,m 18 1,o 19 (.bin .gtr (.t 17) (.t 18))]
def F7:=[aV 4 1]
def F8:=[aV 4 0]
def A9:aN:=(s (r F3) (s (r F4) (s (r F9) (s (s (r Ga) (.cond (.t 11) (s (s (r aaQ) (.cond (.t 12) (s (r aaR) .ret) .skip)) (s (r aaS) .ret)) .skip)) (s (s (r Gb) (.cond (.t 13) (s (r aaT) .ret) .skip)) (s (s (r Gc) (.cond (.t 16) (s (r F5) .ret) .skip)) (s (s (r F6) (.cond (.t 19) (s (r F7) .ret) .skip)) (s (r F8) .ret))))))))
def Lm:List aY:=[.tmp 4]
theorem Tn:bF Tryz.prog Tryz.f159 A9:=e (by kernel_rfl)
theorem Vx:bG Tryz.prog Tryz.f159 Lm:=e (by kernel_rfl)
theorem Rq:bE Tryz.prog 159:=e (by kernel_rfl)
def Gd:=[o 2 (.mv bh)]
def Ge:=[m 3 0,o 4 (.call 121 [.t 3,(ai 0),(ai 31)]),m 2 4]
def Bb:aN:=(s (r Gd) (s (r Ge) .ret))
def Lo:List aY:=[.tmp 2]
theorem Tq:bF Tryz.prog Tryz.f160 Bb:=e (by kernel_rfl)
theorem Vz:bG Tryz.prog Tryz.f160 Lo:=e (by kernel_rfl)
theorem Rs:bE Tryz.prog 160:=e (by kernel_rfl)
def Gf:=[o 4 (.mv bh)]
def Gg:=[m 5 0,m 6 1,o 7 (.bin .shr (.t 5) (.t 6)),o 8 (.bin .and (.t 7) (ai 1)),o 9 (.bin .eql (.t 8) (ai 1)),m 4 9]
def Bc:aN:=(s (r Gf) (s (r Gg) .ret))
def Lp:List aY:=[.tmp 4]
theorem Tr:bF Tryz.prog Tryz.f161 Bc:=e (by kernel_rfl)
theorem VA:bG Tryz.prog Tryz.f161 Lp:=e (by kernel_rfl)
theorem Rt:bE Tryz.prog 161:=e (by kernel_rfl)
def Gh:=[o 2 (.mv bh)]
def Gi:=[m 3 0,o 4 (.call 121 [.t 3,(ai 0),(ai 4)]),no 5 4,m 2 5]
def Bd:aN:=(s (r Gh) (s (r Gi) .ret))
def Lq:List aY:=[.tmp 2]
theorem Ts:bF Tryz.prog Tryz.f162 Bd:=e (by kernel_rfl)
theorem VB:bG Tryz.prog Tryz.f162 Lq:=e (by kernel_rfl)
theorem Ru:bE Tryz.prog 162:=e (by kernel_rfl)
def Gj:=[o 4 (.mv bh)]
def Gk:=[m 5 0,m 6 1,o 7 (.call 195 [.t 5,.t 6]),o 8 (.bin .geq (.t 7) (ai 0)),m 4 8]
def Be:aN:=(s (r Gj) (s (r Gk) .ret))
def Lr:List aY:=[.tmp 4]
theorem Tt:bF Tryz.prog Tryz.f163 Be:=e (by kernel_rfl)
theorem VC:bG Tryz.prog Tryz.f163 Lr:=e (by kernel_rfl)
theorem Rv:bE Tryz.prog 163:=e (by kernel_rfl)
def Gl:=[b 3 0,o 4 (.mv bh)]
def Gm:=[f 5 0 0 1,L 6 5 5,f 7 1 1 3,L 8 6 7,L 9 6 2,o 10 (.call 165 [.t 6,.t 8,.t 9]),f 11 1 5 1,l 12 11,o 13 (.bin .mul (ai 2) (.t 12)),o 14 (.bin .leq (.t 10) (.t 13)),m 4 14]
def W3:=some [[],[0],[],[2],[],[1,3,4],[],[6],[7],[5,8],[9,5,0,1,2,3,4,5,6,7,8,9]]
def Bf:aN:=(s (r Gl) (s (.bT W3 Gm) .ret))
def Ls:List aY:=[.tmp 4]
theorem Tu:bF Tryz.prog Tryz.f164 Bf:=e (by kernel_rfl)
theorem VD:bG Tryz.prog Tryz.f164 Ls:=e (by kernel_rfl)
theorem Rw:bE Tryz.prog 164:=e (by kernel_rfl)
def Gn:=[b 3 0,b 4 1,b 5 2,aV 6 0]
def Gp:=[o 7 (.alloc (.dj)),p (.bl none (.t 7) (.c (.func 196 [])))]
def Gq:=[o 8 (.mk 198 [.t 7,.t 3,.t 4,.t 5]),o 9 (.call 197 [.t 8]),m 6 9]
def Bg:aN:=(s (r Gn) (s (r Gp) (s (r Gq) .ret)))
def Lt:List aY:=[.tmp 6]
theorem Tv:bF Tryz.prog Tryz.f165 Bg:=e (by kernel_rfl)
theorem VE:bG Tryz.prog Tryz.f165 Lt:=e (by kernel_rfl)
theorem Rx:bE Tryz.prog 165:=e (by kernel_rfl)
def Gr:=[aV 4 0]
def Gs:=[m 6 0,o 7 (.len (.t 6)),aV 8 0]
def Gt:=[lt 9 8 7]
def Gu:=[m 10 8,m 5 10]
def Gv:=[m 11 1,m 12 0,m 13 5,o 14 (.is 1 (.t 12) (.t 13)),l 15 14,o 16 (.eH (.t 11) [.t 15])]
def Gw:=[m 17 5,m 4 17]
def Gx:=[ad 18 8 1,m 8 18]
def Gy:=[aV 4 (-1)]
def Bh:aN:=(s (r Gr) (s (s (r Gs) (.block 0 (.loop (s (r Gt) (s (.cond (.t 9) .skip (.exit 0)) (s (.block 1 (s (r Gu) (s (r Gv) (.cond (.t 16) (s (r Gw) .ret) .skip)))) (r Gx))))))) (s (r Gy) .ret)))
def Lu:List aY:=[.tmp 4]
theorem Tw:bF Tryz.prog Tryz.f166 Bh:=e (by kernel_rfl)
theorem VF:bG Tryz.prog Tryz.f166 Lu:=e (by kernel_rfl)
theorem Ry:bE Tryz.prog 166:=e (by kernel_rfl)
def Gz:=[o 2 (.mv (.c (.nils 7)))]
def wK:=[m 3 0,o 4 (.nilS false (.t 3))]
def GA:=[o 2 (.mv (.c (.nils 7)))]
def wL:=[o 5 (.bs0 7),m 6 0,o 7 (.cS 63 7 56 (.agg [.int .i64 0,.agg [.int .i64 0,.int .i64 0,.int .i64 0,.int .i64 0,.int .i64 0,.int .i64 0]]) (.t 5) (.t 6)),m 2 7]
def Bi:aN:=(s (r Gz) (s (s (r wK) (.cond (.t 4) (s (r GA) .ret) .skip)) (s (r wL) .ret)))
def Lv:List aY:=[.tmp 2]
theorem Tx:bF Tryz.prog Tryz.f167 Bi:=e (by kernel_rfl)
theorem VG:bG Tryz.prog Tryz.f167 Lv:=e (by kernel_rfl)
theorem Rz:bE Tryz.prog 167:=e (by kernel_rfl)
def GB:=[b 2 0,b 3 1,o 4 (.mv (.c (.nils 7)))]
def GC:=[f 5 2 6 2,l 6 5,o 7 (.call 167 [.t 6]),o 8 (.mk 201 [.t 2,.t 3]),o 9 (.call 200 [.t 7,.t 8]),m 4 9]
def Bj:aN:=(s (r GB) (s (r GC) .ret))
def Lw:List aY:=[.tmp 4]
theorem Ty:bF Tryz.prog Tryz.f168 Bj:=e (by kernel_rfl)
theorem VH:bG Tryz.prog Tryz.f168 Lw:=e (by kernel_rfl)
theorem RA:bE Tryz.prog 168:=e (by kernel_rfl)
def GD:=[o 2 (.mv (.c (.nils 1)))]
def GF:=[o 3 (.mv (.c (.nils 1)))]
def GG:=[m 6 0,o 7 (.len (.t 6)),aV 8 0]
def GH:=[lt 9 8 7]
def GI:=[o 10 (.is 7 (.t 6) (.t 8)),L 11 7 10,o 5 (.alloc (.agg [.int .i64 0,.agg [.int .i64 0,.int .i64 0,.int .i64 0,.int .i64 0,.int .i64 0,.int .i64 0]])),p (.bl (some 7) (.t 5) (.t 11))]
def GJ:=[m 12 3,f 13 0 0 5,l 14 13,o 15 (.bs 1 [.t 14]),o 16 (.cS 3 1 8 (.int .i64 0) (.t 12) (.t 15)),m 3 16]
def GK:=[ad 17 8 1,m 8 17]
def GL:=[m 18 3,m 2 18]
def Bk:aN:=(s (r GD) (s (r GF) (s (s (r GG) (.block 0 (.loop (s (r GH) (s (.cond (.t 9) .skip (.exit 0)) (s (.block 1 (s (r GI) (r GJ))) (r GK))))))) (s (r GL) .ret))))
def Lx:List aY:=[.tmp 2]
theorem Tz:bF Tryz.prog Tryz.f169 Bk:=e (by kernel_rfl)
theorem VI:bG Tryz.prog Tryz.f169 Lx:=e (by kernel_rfl)
theorem RB:bE Tryz.prog 169:=e (by kernel_rfl)
def aa9:=[b 3 1,o 4 (.mv (.c (.nils 9)))]
def aba:=[o 5 (.mv (.c (.nils 9)))]
def abe:=[o 6 (.mv bh)]
def abf:=[aV 7 0]
def abg:=[m 8 7,m 9 0,o 10 (.len (.t 9)),lt 11 8 10]
def abh:=[m 14 6,no 15 14,m 16 15,cg 17 0 16,cg 18 7 16,aZ 19 (.is 9 (.t 17) (.t 18)) 16,cB 20 0 0 19 16,cF 21 20 16,cB 22 0 0 3 16,cF 23 22 16,aZ 24 (.bin .gtr (.t 21) (.t 23)) 16,and 25 16 24]
def W4:=some [[],[0],[1],[2],[2],[3,4,2],[5,2],[6,2],[2],[8,2],[7,9,2],[2,10]]
def abi:=[m 26 5,L 27 9 3,o 28 (.bs 9 [.t 27]),o 29 (.cS 78 9 88 (.agg [.int .i64 0,.int .i64 0,.int .i64 0,.int .i64 0,.int .i64 0,.int .i64 0,.int .i64 0,.bool false,.nils 6]) (.t 26) (.t 28)),m 5 29]
def abj:=[o 6 (.mv T)]
def abk:=[m 30 5,m 31 0,m 32 7,o 33 (.is 9 (.t 31) (.t 32)),L 34 9 33,o 35 (.bs 9 [.t 34]),o 36 (.cS 78 9 88 (.agg [.int .i64 0,.int .i64 0,.int .i64 0,.int .i64 0,.int .i64 0,.int .i64 0,.int .i64 0,.bool false,.nils 6]) (.t 30) (.t 35)),m 5 36]
def abl:=[m 12 7,ad 13 12 1,m 7 13]
def abb:=[m 37 6,no 38 37]
def abc:=[m 39 5,L 40 9 3,o 41 (.bs 9 [.t 40]),o 42 (.cS 78 9 88 (.agg [.int .i64 0,.int .i64 0,.int .i64 0,.int .i64 0,.int .i64 0,.int .i64 0,.int .i64 0,.bool false,.nils 6]) (.t 39) (.t 41)),m 5 42]
def abd:=[m 43 5,m 4 43]
def Bm:aN:=(s (r aa9) (s (r aba) (s (r abe) (s (s (r abf) (.block 0 (.loop (s (s (r abg) (.cond (.t 11) .skip (.exit 0))) (s (.block 1 (s (s (.bT W4 abh) (.cond (.t 25) (s (r abi) (r abj)) .skip)) (r abk))) (r abl)))))) (s (s (r abb) (.cond (.t 38) (r abc) .skip)) (s (r abd) .ret))))))
def Lz:List aY:=[.tmp 4]
theorem TB:bF Tryz.prog Tryz.f170 Bm:=e (by kernel_rfl)
theorem VK:bG Tryz.prog Tryz.f170 Lz:=e (by kernel_rfl)
theorem RD:bE Tryz.prog 170:=e (by kernel_rfl)
def wM:=[aV 6 20]
def wN:=[m 10 6,aV 7 0,m 8 10]
def GM:=[m 11 8,m 12 1,o 13 (.bin .leq (.t 11) (.t 12))]
def abu:=[m 14 0,m 15 7,m 16 8,m 17 2,o 18 (.call 203 [.t 14,.t 15,.t 16,.t 17])]
def abv:=[m 19 8,m 7 19]
def abw:=[m 20 8,m 21 6,o 22 (.bin .add (.t 20) (.t 21)),m 8 22]
def GN:=[m 23 0,m 24 7,m 25 1,m 26 2,o 27 (.call 203 [.t 23,.t 24,.t 25,.t 26])]
def wO:=[m 28 6,m 29 1,lt 30 28 29]
def GO:=[m 31 6,o 32 (.bin .mul (ai 2) (.t 31)),aV 7 0,m 8 32]
def GP:=[m 33 8,m 34 1,o 35 (.bin .leq (.t 33) (.t 34))]
def abm:=[m 36 0,m 37 7,m 38 7,m 39 6,o 40 (.bin .add (.t 38) (.t 39)),m 41 8,m 42 2,o 43 (.call 204 [.t 36,.t 37,.t 40,.t 41,.t 42])]
def abn:=[m 44 8,m 7 44]
def abo:=[m 45 8,m 46 6,o 47 (.bin .mul (ai 2) (.t 46)),o 48 (.bin .add (.t 45) (.t 47)),m 8 48]
def abp:=[m 49 7,m 50 6,o 51 (.bin .add (.t 49) (.t 50)),m 9 51]
def abq:=[m 52 9,m 53 1,lt 54 52 53]
def abr:=[m 55 0,m 56 7,m 57 9,m 58 1,m 59 2,o 60 (.call 204 [.t 55,.t 56,.t 57,.t 58,.t 59])]
def abt:=[m 61 6,o 62 (.bin .mul (.t 61) (ai 2)),m 6 62]
def vi:aN:=(s (r wM) (s (r wN) (s (.block 0 (.loop (s (s (r GM) (.cond (.t 13) .skip (.exit 0))) (.block 1 (s (r abu) (s (r abv) (r abw))))))) (s (r GN) (.block 2 (.loop (s (s (r wO) (.cond (.t 30) .skip (.exit 2))) (.block 3 (s (r GO) (s (.block 4 (.loop (s (s (r GP) (.cond (.t 35) .skip (.exit 4))) (.block 5 (s (r abm) (s (r abn) (r abo))))))) (s (s (r abp) (s (r abq) (.cond (.t 54) (r abr) .skip))) (r abt))))))))))))
def yz:List aY:=[]
theorem Cz:bF Tryz.prog Tryz.f171 vi:=e (by kernel_rfl)
theorem CN:bG Tryz.prog Tryz.f171 yz:=e (by kernel_rfl)
theorem Cr:bE Tryz.prog 171:=e (by kernel_rfl)
def abx:=[b 3 1,o 4 (.mv bh)]
def aby:=[f 6 5 6 3,l 7 6,o 8 (.bin .gtr (.t 7) (ai 0))]
def abz:=[m 9 0,o 10 (.nilC (.t 9)),f 11 0 0 10,l 12 11,f 13 5 6 3,l 14 13,o 15 (.lk (.i .i64) (.nilp) false (.t 12) (.t 14)),m 5 15]
def W5:=some [[],[0],[1],[2],[],[4],[3,5],[6,0,1,2,3,4,5,6]]
def abA:=[m 16 5,o 17 (.ptrE false (.t 16) (.c (.nilp))),m 18 17,eb 19 5 18,on 20 (.nilC (.t 19)) 18,fn 21 0 0 20 18,fn 22 1 1 21 18,eO 23 22 18,fn 24 6 7 3 18,eO 25 24 18,on 26 (.bin .neq (.t 23) (.t 25)) 18,or 27 18 26,m 28 27,eb 29 5 28,on 30 (.call 90 [.t 29]) 28,eb 31 30 28,cg 32 5 31,aZ 33 (.nilC (.t 32)) 31,cB 34 0 0 33 31,cB 35 6 6 34 31,cF 36 35 31,cB 37 2 3 3 31,cF 38 37 31,aZ 39 (.bin .lss (.t 36) (.t 38)) 31,on 40 (.pick (.t 31) (.t 39) bh) 28,or 41 28 40]
def W6:=some [[],[0],[1],[2],[3,2],[4,2],[5,2],[6,2],[2],[8,2],[7,9,2],[2,10],[11,2],[12],[13,12,12],[14,14,12],[15],[16,15],[17,15],[18,15],[19,15],[15],[21,15],[20,22,15],[15,23,12],[12,24]]
def abB:=[o 4 (.mv bh)]
def abC:=[m 42 0,L 43 17 3,o 44 (.call 173 [.t 42,.t 43]),m 4 44]
def Bn:aN:=(s (r abx) (s (s (r aby) (.cond (.t 8) (s (.bT W5 abz) (s (.bT W6 abA) (.cond (.t 41) (s (r abB) .ret) .skip))) .skip)) (s (r abC) .ret)))
def LA:List aY:=[.tmp 4]
theorem TC:bF Tryz.prog Tryz.f172 Bn:=e (by kernel_rfl)
theorem VL:bG Tryz.prog Tryz.f172 LA:=e (by kernel_rfl)
theorem RE:bE Tryz.prog 172:=e (by kernel_rfl)
def abD:=[b 3 1,o 4 (.mv bh)]
def abE:=[m 5 0,o 6 (.nilC (.t 5)),f 7 0 0 6,l 8 7,f 9 4 5 3,l 10 9,o 11 (.lk (.i .i64) (.nilp) false (.t 8) (.t 10)),o 12 (.ptrE true (.t 11) (.c (.nilp)))]
def W7:=some [[],[0],[1],[2],[],[4],[3,5],[6]]
def abF:=[o 4 (.mv bh)]
def abG:=[m 13 0,o 14 (.nilC (.t 13)),f 15 0 0 14,l 16 15,f 17 4 5 3,l 18 17,f 19 4 5 3,l 20 19,f 21 6 7 3,l 22 21,f 23 5 6 3,l 24 23,f 25 7 8 3,l 26 25,f 27 7 8 3,l 28 27,f 29 2 3 3,l 30 29,o 31 (.bld [.int .i64 0,.int .i64 0,.int .i64 0,.int .i64 0,.int .i64 0,.int .i64 0,.int .i64 0,.bool false,.nils 6] [(0,(.t 20)),(1,(.t 22)),(2,(.t 24)),(3,(.t 26)),(4,(.t 28)),(5,(.t 30)),(6,(.c (.int .i64 (-1))))]),o 32 (.bld [.agg [.int .i64 0,.int .i64 0,.int .i64 0,.int .i64 0,.int .i64 0,.int .i64 0,.int .i64 0,.bool false,.nils 6]] [(0,(.t 31))]),b 33 32,p (.gK (.i .i64) (.t 16) (.t 18) (.t 33))]
def W8:=some [[],[0],[1],[2],[],[4],[],[6],[],[8],[],[10],[],[12],[],[14],[],[16],[7,9,11,13,15,17],[18],[19],[3,5,20,0,1,2,3,4,5,6,7,8,9,10,11,12,13,14,15,16,17,18,19,20]]
def abH:=[o 4 (.mv T)]
def Bo:aN:=(s (r abD) (s (s (.bT W7 abE) (.cond (.t 12) (s (r abF) .ret) .skip)) (s (.bT W8 abG) (s (r abH) .ret))))
def LB:List aY:=[.tmp 4]
theorem TD:bF Tryz.prog Tryz.f173 Bo:=e (by kernel_rfl)
theorem VM:bG Tryz.prog Tryz.f173 LB:=e (by kernel_rfl)
theorem RF:bE Tryz.prog 173:=e (by kernel_rfl)
def abI:=[b 3 1,o 4 (.mv bh)]
def abJ:=[m 6 0,o 7 (.nilC (.t 6)),f 8 0 0 7,l 9 8,f 10 4 5 3,l 11 10,o 12 (.lk (.i .i64) (.nilp) false (.t 9) (.t 11)),m 5 12]
def W9:=some [[],[0],[1],[2],[],[4],[3,5],[6,0,1,2,3,4,5,6]]
def abK:=[m 13 5,o 14 (.ptrE false (.t 13) (.c (.nilp))),m 15 14,eb 16 5 15,on 17 (.call 90 [.t 16]) 15,or 18 15 17,m 19 18,eb 20 5 19,on 21 (.nilC (.t 20)) 19,fn 22 0 0 21 19,fn 23 3 3 22 19,eO 24 23 19,on 25 (.bin .eql (.t 24) (ai 0)) 19,or 26 19 25,m 27 26,eb 28 5 27,on 29 (.nilC (.t 28)) 27,fn 30 0 0 29 27,fn 31 3 3 30 27,eO 32 31 27,fn 33 7 8 3 27,eO 34 33 27,on 35 (.bin .eql (.t 32) (.t 34)) 27,or 36 27 35]
def Xa:=some [[],[0],[1],[2],[3,2,2],[2,4],[5,4],[6],[7,6],[8,6],[9,6],[10,6],[11,6],[6,12],[13,6],[14],[15,14],[16,14],[17,14],[18,14],[14],[20,14],[19,21,14],[14,22]]
def abL:=[o 4 (.mv bh)]
def abM:=[m 37 5,f 38 7 8 3,l 39 38,o 40 (.nilC (.t 37)),f 41 0 0 40,f 42 3 3 41,p (.bl none (.t 42) (.t 39))]
def abN:=[o 4 (.mv T)]
def Bp:aN:=(s (r abI) (s (.bT W9 abJ) (s (s (.bT Xa abK) (.cond (.t 36) (s (r abL) .ret) .skip)) (s (r abM) (s (r abN) .ret)))))
def LC:List aY:=[.tmp 4]
theorem TE:bF Tryz.prog Tryz.f174 Bp:=e (by kernel_rfl)
theorem VN:bG Tryz.prog Tryz.f174 LC:=e (by kernel_rfl)
theorem RG:bE Tryz.prog 174:=e (by kernel_rfl)
def abO:=[b 3 1,o 4 (.mv bh)]
def abP:=[m 6 0,o 7 (.nilC (.t 6)),f 8 0 0 7,l 9 8,f 10 4 5 3,l 11 10,o 12 (.lk (.i .i64) (.nilp) false (.t 9) (.t 11)),m 5 12]
def Xb:=some [[],[0],[1],[2],[],[4],[3,5],[6,0,1,2,3,4,5,6]]
def abQ:=[m 13 5,o 14 (.ptrE false (.t 13) (.c (.nilp)))]
def abR:=[o 4 (.mv bh)]
def wP:=[m 15 5,m 16 5,o 17 (.nilC (.t 16)),f 18 0 0 17,f 19 8 8 18,l 20 19,f 21 8 9 3,L 22 6 21,o 23 (.bs 6 [.t 22]),o 24 (.cS 66 6 48 (.agg [.int .i64 0,.int .i64 0,.int .i64 0,.int .i64 0,.int .i64 0,.int .i64 0]) (.t 20) (.t 23)),o 25 (.nilC (.t 15)),f 26 0 0 25,f 27 8 8 26,p (.bl none (.t 27) (.t 24))]
def Xc:=some [[],[],[1],[2],[3],[4],[],[6],[7],[5,8],[0,0,1,2,3,4,5,6,7,8,9],[10,0,1,2,3,4,5,6,7,8,9],[11,0,1,2,3,4,5,6,7,8,9],[12,9,9,0,1,2,3,4,5,6,7,8,9]] -- DRAW BAD
def abS:=[o 4 (.mv T)]
def Bq:aN:=(s (r abO) (s (.bT Xb abP) (s (s (r abQ) (.cond (.t 14) (s (r abR) .ret) .skip)) (s (.bT Xc wP) (s (r abS) .ret)))))
def LD:List aY:=[.tmp 4]
theorem TF:bF Tryz.prog Tryz.f175 Bq:=e (by kernel_rfl)
theorem VO:bG Tryz.prog Tryz.f175 LD:=e (by kernel_rfl)
theorem RH:bE Tryz.prog 175:=e (by kernel_rfl)
def abT:=[b 3 1,o 4 (.mv bh)]
def abU:=[m 6 0,o 7 (.nilC (.t 6)),f 8 0 0 7,l 9 8,f 10 4 5 3,l 11 10,o 12 (.lk (.i .i64) (.nilp) false (.t 9) (.t 11)),m 5 12]
def Xd:=some [[],[0],[1],[2],[],[4],[3,5],[6,0,1,2,3,4,5,6]]
def abV:=[m 13 5,o 14 (.ptrE false (.t 13) (.c (.nilp)))]
def abW:=[o 4 (.mv bh)]
def abX:=[m 15 5,m 16 5,f 17 7 8 3,l 18 17,o 19 (.nilC (.t 15)),f 20 0 0 19,f 21 3 3 20,p (.bl none (.t 21) (.t 18)),o 22 (.nilC (.t 16)),f 23 0 0 22,f 24 7 7 23,p (.bl none (.t 24) T)]
def abY:=[o 4 (.mv T)]
def Br:aN:=(s (r abT) (s (.bT Xd abU) (s (s (r abV) (.cond (.t 14) (s (r abW) .ret) .skip)) (s (r abX) (s (r abY) .ret)))))
def LF:List aY:=[.tmp 4]
theorem TG:bF Tryz.prog Tryz.f176 Br:=e (by kernel_rfl)
theorem VP:bG Tryz.prog Tryz.f176 LF:=e (by kernel_rfl)
theorem RI:bE Tryz.prog 176:=e (by kernel_rfl)
def abZ:=[b 3 1,o 4 (.mv bh)]
def ab0:=[m 6 0,o 7 (.nilC (.t 6)),f 8 0 0 7,l 9 8,f 10 4 5 3,l 11 10,o 12 (.lk (.i .i64) (.nilp) false (.t 9) (.t 11)),m 5 12]
def Xe:=some [[],[0],[1],[2],[],[4],[3,5],[6,0,1,2,3,4,5,6]]
def ab1:=[m 13 5,o 14 (.ptrE false (.t 13) (.c (.nilp))),m 15 14,eb 16 5 15,on 17 (.call 90 [.t 16]) 15,or 18 15 17]
def ab2:=[o 4 (.mv bh)]
def ab3:=[m 19 5,f 20 2 3 3,l 21 20,o 22 (.nilC (.t 19)),f 23 0 0 22,f 24 6 6 23,p (.bl none (.t 24) (.t 21))]
def ab4:=[o 4 (.mv T)]
def Bt:aN:=(s (r abZ) (s (.bT Xe ab0) (s (s (r ab1) (.cond (.t 18) (s (r ab2) .ret) .skip)) (s (r ab3) (s (r ab4) .ret)))))
def LG:List aY:=[.tmp 4]
theorem TH:bF Tryz.prog Tryz.f177 Bt:=e (by kernel_rfl)
theorem VQ:bG Tryz.prog Tryz.f177 LG:=e (by kernel_rfl)
theorem RJ:bE Tryz.prog 177:=e (by kernel_rfl)
def GQ:=[l 4 1,o 5 (.len (.t 4)),o 6 (.bin .sub (.t 5) (ai 1)),m 3 6]
def GR:=[m 7 3,o 8 (.bin .geq (.t 7) (ai 0))]
def GS:=[m 11 0,m 12 3,l 13 1,m 14 3,o 15 (.is 17 (.t 13) (.t 14)),L 16 17 15,o 17 (.eH (.t 11) [.t 12,.t 16]),no 18 17]
def GU:=[m 9 3,o 10 (.bin .sub (.t 9) (ai 1)),m 3 10]
def Bu:aN:=(s (r GQ) (.block 0 (.loop (s (s (r GR) (.cond (.t 8) .skip (.exit 0))) (s (.block 1 (s (r GS) (.cond (.t 18) .ret .skip))) (r GU))))))
def LH:List aY:=[]
theorem TI:bF Tryz.prog Tryz.f178 Bu:=e (by kernel_rfl)
theorem VR:bG Tryz.prog Tryz.f178 LH:=e (by kernel_rfl)
theorem Cs:bE Tryz.prog 178:=e (by kernel_rfl)
def GV:=[b 1 0,o 2 (.mv bh)]
def GW:=[o 3 (.va 6 1 (.t 1)),o 4 (.call 125 [.t 3,(.c (.func 211 []))]),no 5 4,m 2 5]
def Bx:aN:=(s (r GV) (s (r GW) .ret))
def LK:List aY:=[.tmp 2]
theorem TL:bF Tryz.prog Tryz.f193 Bx:=e (by kernel_rfl)
theorem VU:bG Tryz.prog Tryz.f193 LK:=e (by kernel_rfl)
theorem RM:bE Tryz.prog 193:=e (by kernel_rfl)
def GX:=[o 2 (.mv bh)]
def GY:=[m 3 0,m 4 0,o 5 (.bin .neq (.t 3) (.t 4)),m 2 5]
def By:aN:=(s (r GX) (s (r GY) .ret))
def LL:List aY:=[.tmp 2]
theorem TM:bF Tryz.prog Tryz.f194 By:=e (by kernel_rfl)
theorem VV:bG Tryz.prog Tryz.f194 LL:=e (by kernel_rfl)
theorem RN:bE Tryz.prog 194:=e (by kernel_rfl)
def GZ:=[aV 4 0]
def G0:=[m 6 0,o 7 (.len (.t 6)),aV 8 0]
def G1:=[lt 9 8 7]
def G2:=[m 10 8,m 5 10]
def G3:=[m 11 1,m 12 0,m 13 5,o 14 (.is 7 (.t 12) (.t 13)),L 15 7 14,o 16 (.eH (.t 11) [.t 15])]
def G4:=[m 17 5,m 4 17]
def G5:=[ad 18 8 1,m 8 18]
def G6:=[aV 4 (-1)]
def Bz:aN:=(s (r GZ) (s (s (r G0) (.block 0 (.loop (s (r G1) (s (.cond (.t 9) .skip (.exit 0)) (s (.block 1 (s (r G2) (s (r G3) (.cond (.t 16) (s (r G4) .ret) .skip)))) (r G5))))))) (s (r G6) .ret)))
def LM:List aY:=[.tmp 4]
theorem TN:bF Tryz.prog Tryz.f195 Bz:=e (by kernel_rfl)
theorem VW:bG Tryz.prog Tryz.f195 LM:=e (by kernel_rfl)
theorem RO:bE Tryz.prog 195:=e (by kernel_rfl)
def G7:=[o 4 (.mv bh)]
def G8:=[m 5 0,m 6 1,o 7 (.bin .and (.t 5) (.t 6)),o 8 (.bin .neq (.t 7) (ai 0)),m 4 8]
def BA:aN:=(s (r G7) (s (r G8) .ret))
def LN:List aY:=[.tmp 4]
theorem TO:bF Tryz.prog Tryz.f196 BA:=e (by kernel_rfl)
theorem VX:bG Tryz.prog Tryz.f196 LN:=e (by kernel_rfl)
theorem RP:bE Tryz.prog 196:=e (by kernel_rfl)
def G9:=[aV 2 0]
def Ha:=[aV 3 0]
def Hb:=[aV 5 0]
def Hc:=[o 6 (.bin .lss (.t 5) (ai 6))]
def Hd:=[m 7 5,m 4 7]
def He:=[m 8 0,m 9 4,o 10 (.eH (.t 8) [.t 9]),no 11 10]
def Hf:=[m 12 3,ad 13 12 1,m 3 13]
def wQ:=[ad 14 5 1,m 5 14]
def Hg:=[m 15 3,m 2 15]
def BB:aN:=(s (r G9) (s (r Ha) (s (s (r Hb) (.block 0 (.loop (s (r Hc) (s (.cond (.t 6) .skip (.exit 0)) (s (.block 1 (s (r Hd) (s (r He) (.cond (.t 11) (r Hf) .skip)))) (r wQ))))))) (s (r Hg) .ret))))
def LO:List aY:=[.tmp 2]
theorem TP:bF Tryz.prog Tryz.f197 BB:=e (by kernel_rfl)
theorem VY:bG Tryz.prog Tryz.f197 LO:=e (by kernel_rfl)
theorem RQ:bE Tryz.prog 197:=e (by kernel_rfl)
def Hh:=[o 6 (.mv bh)]
def Hi:=[l 7 1,L 8 5 2,L 9 6 3,m 10 0,o 11 (.call 199 [.t 8,.t 9,.t 10]),L 12 5 2,L 13 6 4,m 14 0,o 15 (.call 199 [.t 12,.t 13,.t 14]),o 16 (.eH (.t 7) [.t 11,.t 15]),m 6 16]
def Xh:=some [[],[],[],[],[1,2,3],[],[],[],[5,6,7,4],[0,4,8,8],[9,9,0,1,2,3,4,5,6,7,8,9]]
def BC:aN:=(s (r Hh) (s (.bT Xh Hi) .ret))
def LP:List aY:=[.tmp 6]
theorem TQ:bF Tryz.prog Tryz.f198 BC:=e (by kernel_rfl)
theorem VZ:bG Tryz.prog Tryz.f198 LP:=e (by kernel_rfl)
theorem RR:bE Tryz.prog 198:=e (by kernel_rfl)
def Hj:=[b 3 0,b 4 1,aV 6 0]
def Hk:=[m 7 2,o 8 (.ia 6 1 (.t 4) (.t 7)),l 9 8,o 10 (.ia 5 1 (.t 3) (.t 9)),l 11 10,m 6 11]
def BD:aN:=(s (r Hj) (s (r Hk) .ret))
def LQ:List aY:=[.tmp 6]
theorem TR:bF Tryz.prog Tryz.f199 BD:=e (by kernel_rfl)
theorem V0:bG Tryz.prog Tryz.f199 LQ:=e (by kernel_rfl)
theorem RS:bE Tryz.prog 199:=e (by kernel_rfl)
def wR:=[o 4 (.mv (.c (.nils 7)))]
def wS:=[m 8 0,m 9 1,o 10 (.call 195 [.t 8,.t 9]),m 5 10]
def sP:=[m 11 5,o 12 (.bin .eql (.t 11) (.c (.int .i64 (-1))))]
def wU:=[m 13 0,m 4 13]
def Hn:=[m 14 5,ad 15 14 1,m 6 15]
def Ho:=[m 16 6,m 17 0,o 18 (.len (.t 17)),lt 19 16 18]
def Hp:=[m 22 0,m 23 6,o 24 (.is 7 (.t 22) (.t 23)),L 25 7 24,o 7 (.alloc (.agg [.int .i64 0,.agg [.int .i64 0,.int .i64 0,.int .i64 0,.int .i64 0,.int .i64 0,.int .i64 0]])),p (.bl (some 7) (.t 7) (.t 25))]
def Hq:=[m 26 1,L 27 7 7,o 28 (.eH (.t 26) [.t 27]),no 29 28]
def Hr:=[m 30 0,m 31 5,L 32 7 7,o 33 (.is 7 (.t 30) (.t 31)),p (.bl (some 7) (.t 33) (.t 32))]
def Hs:=[m 34 5,ad 35 34 1,m 5 35]
def wT:=[m 20 6,ad 21 20 1,m 6 21]
def Hl:=[m 36 0,m 37 5,o 38 (.sl 7 (.t 36) (some (.t 37)) none none),p (.js 7 (.agg [.int .i64 0,.agg [.int .i64 0,.int .i64 0,.int .i64 0,.int .i64 0,.int .i64 0,.int .i64 0]]) (.t 38))]
def Hm:=[m 39 0,m 40 5,o 41 (.sl 7 (.t 39) none (some (.t 40)) none),m 4 41]
def vj:aN:=(s (r wR) (s (r wS) (s (s (r sP) (.cond (.t 12) (s (r wU) .ret) .skip)) (s (s (r Hn) (.block 0 (.loop (s (s (r Ho) (.cond (.t 19) .skip (.exit 0))) (s (.block 1 (s (r Hp) (s (r Hq) (.cond (.t 29) (s (r Hr) (r Hs)) .skip)))) (r wT)))))) (s (r Hl) (s (r Hm) .ret))))))
def yA:List aY:=[.tmp 4]
theorem CA:bF Tryz.prog Tryz.f200 vj:=e (by kernel_rfl)
theorem CO:bG Tryz.prog Tryz.f200 yA:=e (by kernel_rfl)
theorem Ct:bE Tryz.prog 200:=e (by kernel_rfl)
def Ht:=[b 3 0,o 4 (.mv bh)]
def Hu:=[f 5 0 0 1,L 6 5 5,f 7 1 1 3,L 8 6 7,L 9 6 2,o 10 (.call 202 [.t 6,.t 8,.t 9]),f 11 1 5 1,l 12 11,o 13 (.bin .gtr (.t 10) (.t 12)),m 4 13]
def Xj:=some [[],[0],[],[2],[],[1,3,4],[],[6],[5,7],[8,5,0,1,2,3,4,5,6,7,8]]
def BF:aN:=(s (r Ht) (s (.bT Xj Hu) .ret))
def LS:List aY:=[.tmp 4]
theorem TT:bF Tryz.prog Tryz.f201 BF:=e (by kernel_rfl)
theorem V2:bG Tryz.prog Tryz.f201 LS:=e (by kernel_rfl)
theorem RU:bE Tryz.prog 201:=e (by kernel_rfl)
def Hv:=[b 3 0,b 4 1,b 5 2,aV 6 0]
def Hw:=[o 7 (.alloc (.dj)),p (.bl none (.t 7) (.c (.func 196 [])))]
def Hx:=[o 8 (.mk 212 [.t 7,.t 3,.t 4,.t 5]),o 9 (.call 197 [.t 8]),m 6 9]
def BG:aN:=(s (r Hv) (s (r Hw) (s (r Hx) .ret)))
def LU:List aY:=[.tmp 6]
theorem TU:bF Tryz.prog Tryz.f202 BG:=e (by kernel_rfl)
theorem V3:bG Tryz.prog Tryz.f202 LU:=e (by kernel_rfl)
theorem RV:bE Tryz.prog 202:=e (by kernel_rfl)
def wV:=[m 10 1,ad 11 10 1,m 8 11]
def Hy:=[m 12 8,m 13 2,lt 14 12 13]
def Hz:=[m 17 8,m 9 17]
def acN:=[m 18 9,m 19 1,o 20 (.bin .gtr (.t 18) (.t 19)),m 21 20,cg 22 3 21,cg 23 0 21,cg 24 9 21,aZ 25 (.is 1 (.t 23) (.t 24)) 21,cF 26 25 21,cg 27 0 21,cg 28 9 21,aZ 29 (.bin .sub (.t 28) (ai 1)) 21,aZ 30 (.is 1 (.t 27) (.t 29)) 21,cF 31 30 21,aZ 32 (.eH (.t 22) [.t 26,.t 31]) 21,aZ 33 (.bin .lss (.t 32) (ai 0)) 21,and 34 21 33]
def Xk:=some [[],[],[0,1],[2],[3],[3],[3],[5,6,3],[7,3],[3],[3],[10,3],[9,11,3],[12,3],[4,8,13,3,3],[14,3],[3,15]]
def acO:=[m 37 0,m 38 9,m 39 0,m 40 9,o 41 (.bin .sub (.t 40) (ai 1)),m 42 0,m 43 9,o 44 (.bin .sub (.t 43) (ai 1)),o 45 (.is 1 (.t 42) (.t 44)),l 46 45,m 47 0,m 48 9,o 49 (.is 1 (.t 47) (.t 48)),l 50 49,o 51 (.is 1 (.t 37) (.t 38)),p (.bl none (.t 51) (.t 46)),o 52 (.is 1 (.t 39) (.t 41)),p (.bl none (.t 52) (.t 50))]
def Xl:=some [[],[],[],[],[3],[],[],[6],[5,7],[8],[],[],[10,11],[12],[0,1,0,1,5,6,7,8,9,13],[14,9,0,1,5,6,7,8,9,13],[2,4,0,1,2,3,4,5,6,7,8,9,10,11,12,13,14,15],[16,13,15,0,1,2,3,4,5,6,7,8,9,10,11,12,13,14,15]]
def acP:=[m 35 9,o 36 (.bin .sub (.t 35) (ai 1)),m 9 36]
def acQ:=[m 15 8,ad 16 15 1,m 8 16]
def vk:aN:=(s (r wV) (.block 0 (.loop (s (s (r Hy) (.cond (.t 14) .skip (.exit 0))) (s (.block 1 (s (r Hz) (.block 2 (.loop (s (s (.bT Xk acN) (.cond (.t 34) .skip (.exit 2))) (s (.block 3 (.bT Xl acO)) (r acP))))))) (r acQ))))))
def yB:List aY:=[]
theorem CB:bF Tryz.prog Tryz.f203 vk:=e (by kernel_rfl)
theorem CP:bG Tryz.prog Tryz.f203 yB:=e (by kernel_rfl)
theorem Cu:bE Tryz.prog 203:=e (by kernel_rfl)
def sQ:=[m 25 2,m 26 1,o 27 (.bin .sub (.t 25) (.t 26)),o 28 (.bin .eql (.t 27) (ai 1))]
def HA:=[m 29 2,m 10 29]
def HE:=[m 30 3,m 11 30]
def HK:=[m 31 10,m 32 11,lt 33 31 32]
def ada:=[m 34 10,m 35 11,o 36 (.bin .add (.t 34) (.t 35)),o 37 (.conv .u64 (.t 36)),o 38 (.bin .shr (.t 37) (.c (.int .u64 1))),o 39 (.conv .i64 (.t 38)),m 12 39]
def adi:=[m 40 4,m 41 0,m 42 12,o 43 (.is 1 (.t 41) (.t 42)),l 44 43,m 45 0,m 46 1,o 47 (.is 1 (.t 45) (.t 46)),l 48 47,o 49 (.eH (.t 40) [.t 44,.t 48]),o 50 (.bin .lss (.t 49) (ai 0))]
def Xq:=some [[],[],[],[1,2],[3],[],[],[5,6],[7],[0,4,8],[9]]
def adj:=[m 51 12,ad 52 51 1,m 10 52]
def adk:=[m 53 12,m 11 53]
def HO:=[m 54 1,m 13 54]
def adl:=[m 55 13,m 56 10,o 57 (.bin .sub (.t 56) (ai 1)),lt 58 55 57]
def acR:=[m 61 0,m 62 13,m 63 0,m 64 13,ad 65 64 1,m 66 0,m 67 13,ad 68 67 1,o 69 (.is 1 (.t 66) (.t 68)),l 70 69,m 71 0,m 72 13,o 73 (.is 1 (.t 71) (.t 72)),l 74 73,o 75 (.is 1 (.t 61) (.t 62)),p (.bl none (.t 75) (.t 70)),o 76 (.is 1 (.t 63) (.t 65)),p (.bl none (.t 76) (.t 74))]
def Xm:=some [[],[],[],[],[3],[],[],[6],[5,7],[8],[],[],[10,11],[12],[0,1,0,1,5,6,7,8,9,13],[14,9,0,1,5,6,7,8,9,13],[2,4,0,1,2,3,4,5,6,7,8,9,10,11,12,13,14,15],[16,13,15,0,1,2,3,4,5,6,7,8,9,10,11,12,13,14,15]]
def acS:=[m 59 13,ad 60 59 1,m 13 60]
def wW:=[m 77 3,m 78 2,o 79 (.bin .sub (.t 77) (.t 78)),o 80 (.bin .eql (.t 79) (ai 1))]
def HB:=[m 81 1,m 14 81]
def HC:=[m 82 2,m 15 82]
def HD:=[m 83 14,m 84 15,lt 85 83 84]
def acT:=[m 86 14,m 87 15,o 88 (.bin .add (.t 86) (.t 87)),o 89 (.conv .u64 (.t 88)),o 90 (.bin .shr (.t 89) (.c (.int .u64 1))),o 91 (.conv .i64 (.t 90)),m 16 91]
def acU:=[m 92 4,m 93 0,m 94 2,o 95 (.is 1 (.t 93) (.t 94)),l 96 95,m 97 0,m 98 16,o 99 (.is 1 (.t 97) (.t 98)),l 100 99,o 101 (.eH (.t 92) [.t 96,.t 100]),o 102 (.bin .lss (.t 101) (ai 0)),no 103 102]
def Xn:=some [[],[],[],[1,2],[3],[],[],[5,6],[7],[0,4,8],[9],[10]]
def acV:=[m 104 16,ad 105 104 1,m 14 105]
def acW:=[m 106 16,m 15 106]
def HF:=[m 107 2,m 17 107]
def acX:=[m 108 17,m 109 14,o 110 (.bin .gtr (.t 108) (.t 109))]
def acY:=[m 113 0,m 114 17,m 115 0,m 116 17,o 117 (.bin .sub (.t 116) (ai 1)),m 118 0,m 119 17,o 120 (.bin .sub (.t 119) (ai 1)),o 121 (.is 1 (.t 118) (.t 120)),l 122 121,m 123 0,m 124 17,o 125 (.is 1 (.t 123) (.t 124)),l 126 125,o 127 (.is 1 (.t 113) (.t 114)),p (.bl none (.t 127) (.t 122)),o 128 (.is 1 (.t 115) (.t 117)),p (.bl none (.t 128) (.t 126))]
def Xo:=some [[],[],[],[],[3],[],[],[6],[5,7],[8],[],[],[10,11],[12],[0,1,0,1,5,6,7,8,9,13],[14,9,0,1,5,6,7,8,9,13],[2,4,0,1,2,3,4,5,6,7,8,9,10,11,12,13,14,15],[16,13,15,0,1,2,3,4,5,6,7,8,9,10,11,12,13,14,15]]
def acZ:=[m 111 17,o 112 (.bin .sub (.t 111) (ai 1)),m 17 112]
def HG:=[m 129 1,m 130 3,o 131 (.bin .add (.t 129) (.t 130)),o 132 (.conv .u64 (.t 131)),o 133 (.bin .shr (.t 132) (.c (.int .u64 1))),o 134 (.conv .i64 (.t 133)),m 18 134]
def HI:=[m 135 18,m 136 2,o 137 (.bin .add (.t 135) (.t 136)),m 19 137]
def HJ:=[aV 20 0,aV 21 0]
def ac0:=[m 138 2,m 139 18,o 140 (.bin .gtr (.t 138) (.t 139))]
def ac1:=[m 141 19,m 142 3,o 143 (.bin .sub (.t 141) (.t 142)),m 20 143]
def ac2:=[m 144 18,m 21 144]
def ac3:=[m 145 1,m 20 145]
def ac4:=[m 146 2,m 21 146]
def HL:=[m 147 19,o 148 (.bin .sub (.t 147) (ai 1)),m 22 148]
def HM:=[m 149 20,m 150 21,lt 151 149 150]
def ac5:=[m 152 20,m 153 21,o 154 (.bin .add (.t 152) (.t 153)),o 155 (.conv .u64 (.t 154)),o 156 (.bin .shr (.t 155) (.c (.int .u64 1))),o 157 (.conv .i64 (.t 156)),m 23 157]
def ac6:=[m 158 4,m 159 0,m 160 22,m 161 23,o 162 (.bin .sub (.t 160) (.t 161)),o 163 (.is 1 (.t 159) (.t 162)),l 164 163,m 165 0,m 166 23,o 167 (.is 1 (.t 165) (.t 166)),l 168 167,o 169 (.eH (.t 158) [.t 164,.t 168]),o 170 (.bin .lss (.t 169) (ai 0)),no 171 170]
def Xp:=some [[],[],[],[],[2,3],[1,4],[5],[],[],[7,8],[9],[0,6,10],[11],[12]]
def ac7:=[m 172 23,ad 173 172 1,m 20 173]
def ac8:=[m 174 23,m 21 174]
def HN:=[m 175 19,m 176 20,o 177 (.bin .sub (.t 175) (.t 176)),m 24 177]
def ac9:=[m 178 20,m 179 2,lt 180 178 179,m 181 180,cg 182 2 181,cg 183 24 181,aZ 184 (.bin .lss (.t 182) (.t 183)) 181,and 185 181 184]
def adb:=[m 186 0,m 187 20,m 188 2,m 189 24,m 190 4,o 191 (.call 213 [.t 186,.t 187,.t 188,.t 189,.t 190])]
def ade:=[m 192 1,m 193 20,lt 194 192 193,m 195 194,cg 196 20 195,cg 197 18 195,aZ 198 (.bin .lss (.t 196) (.t 197)) 195,and 199 195 198]
def adf:=[m 200 0,m 201 1,m 202 20,m 203 18,m 204 4,o 205 (.call 204 [.t 200,.t 201,.t 202,.t 203,.t 204])]
def adg:=[m 206 18,m 207 24,lt 208 206 207,m 209 208,cg 210 24 209,cg 211 3 209,aZ 212 (.bin .lss (.t 210) (.t 211)) 209,and 213 209 212]
def adh:=[m 214 0,m 215 18,m 216 24,m 217 3,m 218 4,o 219 (.call 204 [.t 214,.t 215,.t 216,.t 217,.t 218])]
def sm:aN:=(s (s (r sQ) (.cond (.t 28) (s (r HA) (s (r HE) (s (.block 0 (.loop (s (s (r HK) (.cond (.t 33) .skip (.exit 0))) (.block 1 (s (r ada) (s (.bT Xq adi) (.cond (.t 50) (r adj) (r adk)))))))) (s (s (r HO) (.block 2 (.loop (s (s (r adl) (.cond (.t 58) .skip (.exit 2))) (s (.block 3 (.bT Xm acR)) (r acS)))))) .ret)))) .skip)) (s (s (r wW) (.cond (.t 80) (s (r HB) (s (r HC) (s (.block 4 (.loop (s (s (r HD) (.cond (.t 85) .skip (.exit 4))) (.block 5 (s (r acT) (s (.bT Xn acU) (.cond (.t 103) (r acV) (r acW)))))))) (s (s (r HF) (.block 6 (.loop (s (s (r acX) (.cond (.t 110) .skip (.exit 6))) (s (.block 7 (.bT Xo acY)) (r acZ)))))) .ret)))) .skip)) (s (r HG) (s (r HI) (s (r HJ) (s (s (r ac0) (.cond (.t 140) (s (r ac1) (r ac2)) (s (r ac3) (r ac4)))) (s (r HL) (s (.block 8 (.loop (s (s (r HM) (.cond (.t 151) .skip (.exit 8))) (.block 9 (s (r ac5) (s (.bT Xp ac6) (.cond (.t 171) (r ac7) (r ac8)))))))) (s (r HN) (s (s (r ac9) (.cond (.t 185) (r adb) .skip)) (s (s (r ade) (.cond (.t 199) (r adf) .skip)) (s (r adg) (.cond (.t 213) (r adh) .skip)))))))))))))
def tZ:List aY:=[]
theorem vq:bF Tryz.prog Tryz.f204 sm:=e (by kernel_rfl)
theorem vB:bG Tryz.prog Tryz.f204 tZ:=e (by kernel_rfl)
theorem vn:bE Tryz.prog 204:=e (by kernel_rfl)
def HY:=[o 2 (.mv bh)]
def HZ:=[m 3 0,o 4 (.bin .eql (.t 3) (ai 0)),m 5 4,eb 6 0 5,on 7 (.call 160 [.t 6]) 5,on 8 (.un .not (.t 7)) 5,or 9 5 8,m 2 9]
def BI:aN:=(s (r HY) (s (r HZ) .ret))
def LW:List aY:=[.tmp 2]
theorem TW:bF Tryz.prog Tryz.f211 BI:=e (by kernel_rfl)
theorem V5:bG Tryz.prog Tryz.f211 LW:=e (by kernel_rfl)
theorem RX:bE Tryz.prog 211:=e (by kernel_rfl)
def H0:=[o 6 (.mv bh)]
def H2:=[l 7 1,L 8 5 2,L 9 6 3,m 10 0,o 11 (.call 199 [.t 8,.t 9,.t 10]),m 12 0,o 13 (.ia 6 1 (.t 4) (.t 12)),l 14 13,o 15 (.eH (.t 7) [.t 11,.t 14]),m 6 15]
def Xs:=some [[],[],[],[],[1,2,3],[],[5],[6],[0,4,7,4],[8,8,0,1,2,3,4,5,6,7,8]]
def BJ:aN:=(s (r H0) (s (.bT Xs H2) .ret))
def LX:List aY:=[.tmp 6]
theorem TX:bF Tryz.prog Tryz.f212 BJ:=e (by kernel_rfl)
theorem V6:bG Tryz.prog Tryz.f212 LX:=e (by kernel_rfl)
theorem RY:bE Tryz.prog 212:=e (by kernel_rfl)
def H3:=[m 12 2,m 13 1,o 14 (.bin .sub (.t 12) (.t 13)),m 10 14]
def H4:=[m 15 3,m 16 2,o 17 (.bin .sub (.t 15) (.t 16)),m 11 17]
def H5:=[m 18 10,m 19 11,o 20 (.bin .neq (.t 18) (.t 19))]
def H6:=[m 21 10,m 22 11,o 23 (.bin .gtr (.t 21) (.t 22))]
def H7:=[m 24 0,m 25 2,m 26 10,o 27 (.bin .sub (.t 25) (.t 26)),m 28 2,m 29 11,m 30 4,o 31 (.call 216 [.t 24,.t 27,.t 28,.t 29,.t 30])]
def H8:=[m 32 10,m 33 11,o 34 (.bin .sub (.t 32) (.t 33)),m 10 34]
def H9:=[m 35 0,m 36 2,m 37 10,o 38 (.bin .sub (.t 36) (.t 37)),m 39 2,m 40 11,o 41 (.bin .add (.t 39) (.t 40)),m 42 10,o 43 (.bin .sub (.t 41) (.t 42)),m 44 10,m 45 4,o 46 (.call 216 [.t 35,.t 38,.t 43,.t 44,.t 45])]
def Ia:=[m 47 11,m 48 10,o 49 (.bin .sub (.t 47) (.t 48)),m 11 49]
def Ib:=[m 50 0,m 51 2,m 52 10,o 53 (.bin .sub (.t 51) (.t 52)),m 54 2,m 55 10,m 56 4,o 57 (.call 216 [.t 50,.t 53,.t 54,.t 55,.t 56])]
def BK:aN:=(s (r H3) (s (r H4) (s (.block 0 (.loop (s (s (r H5) (.cond (.t 20) .skip (.exit 0))) (.block 1 (s (r H6) (.cond (.t 23) (s (r H7) (r H8)) (s (r H9) (r Ia)))))))) (r Ib))))
def LY:List aY:=[]
theorem TY:bF Tryz.prog Tryz.f213 BK:=e (by kernel_rfl)
theorem V7:bG Tryz.prog Tryz.f213 LY:=e (by kernel_rfl)
theorem RZ:bE Tryz.prog 213:=e (by kernel_rfl)
def Ic:=[aV 10 0]
def adm:=[m 11 10,m 12 3,lt 13 11 12]
def adn:=[m 16 0,m 17 1,m 18 10,o 19 (.bin .add (.t 17) (.t 18)),m 20 0,m 21 2,m 22 10,o 23 (.bin .add (.t 21) (.t 22)),m 24 0,m 25 2,m 26 10,o 27 (.bin .add (.t 25) (.t 26)),o 28 (.is 1 (.t 24) (.t 27)),l 29 28,m 30 0,m 31 1,m 32 10,o 33 (.bin .add (.t 31) (.t 32)),o 34 (.is 1 (.t 30) (.t 33)),l 35 34,o 36 (.is 1 (.t 16) (.t 19)),p (.bl none (.t 36) (.t 29)),o 37 (.is 1 (.t 20) (.t 23)),p (.bl none (.t 37) (.t 35))]
def Xt:=some [[],[],[],[1,2],[],[],[],[5,6],[],[],[],[9,10],[8,11],[12],[],[],[],[15,16],[14,17],[18],[0,3,0,1,2,3,8,9,10,11,12,13,19],[20,13,0,1,2,3,8,9,10,11,12,13,19],[4,7,0,1,2,3,4,5,6,7,8,9,10,11,12,13,14,15,16,17,18,19,20,21],[22,19,21,0,1,2,3,4,5,6,7,8,9,10,11,12,13,14,15,16,17,18,19,20,21]]
def ado:=[m 14 10,ad 15 14 1,m 10 15]
def BL:aN:=(s (r Ic) (.block 0 (.loop (s (s (r adm) (.cond (.t 13) .skip (.exit 0))) (s (.block 1 (.bT Xt adn)) (r ado))))))
def LZ:List aY:=[]
theorem TZ:bF Tryz.prog Tryz.f216 BL:=e (by kernel_rfl)
theorem V8:bG Tryz.prog Tryz.f216 LZ:=e (by kernel_rfl)
theorem R0:bE Tryz.prog 216:=e (by kernel_rfl)
end Go.Proofs.YtcldiigclhgafaaGreat
namespace Go.Proofs.YtcldiigclhgafaaGreat
open Go Go.Abs
open Go.Abs.Enc (enc)
theorem qk(n lo hi:Int):aw Tryz.prog 94 [enc n,enc lo,enc hi] (enc (decide (lo≤n)&&decide (n≤hi))):=by
 refine aw.bp Tryz.func94 SB UA WI (Nat.le_of_ble_eq_true rfl) (fun hwf W0 D0 E1 =>?_)
 simp only[Cl,Mx,a6,Nat.zero_add,Nat.reduceAdd]
 refine .ao (by decide +kernel) fun K hK =>?_
 simp only[I4,U,simprocAttr]
 refine .done (hK _ ?_);clear hK K
 refine .ao (by decide +kernel) fun K hK =>?_
 simp only[I5,U,simprocAttr]
 refine .guard (fun h =>?_) (fun h =>?_)
 ·simp only[U,simprocAttr,h]
  refine .done (hK _ ?_);clear hK K
  refine J.ret ?_
  simp only[U,simprocAttr]
  simp_all
 ·simp only[U,simprocAttr,h]
  refine .done (hK _ ?_);clear hK K
  refine J.ret ?_
  simp only[U,simprocAttr]
  simp at h
  simp;omega
theorem Pc(l:List Int)(n:Int):aw Tryz.prog 36 [enc l,enc n] (enc (decide (n∈l))):=by
 refine aw.bp Tryz.func36 R6 T7 We (Nat.le_of_ble_eq_true rfl) (fun hwf W0 D0 E1 =>?_)
 simp only[BQ,L4,a6,Nat.zero_add]
 have hlen:l.length≤maxLen:=((ku l).1 hwf.1).1
 simp only[maxLen] at hlen
 refine .ao (by decide +kernel) fun K hK =>?_
 simp only[Ie,U,simprocAttr]
 refine .done (hK _ ?_);clear hK K
 refine J.seq ?_
 refine .ao (by decide +kernel) fun K hK =>?_
 simp only[If,U,simprocAttr]
 refine .done (hK _ ?_);clear hK K
 refine J.block (J.loop (fun i:Nat=>ar [(0,enc l),(1,.int .i64 n),(4,.bool false),(5,.int .i64 i)] []) (fun i=>i≤l.length∧n∉l.take i) (fun i=>l.length-i) 0 ⟨Nat.zero_le _,by simp⟩ ?_ (fun i hi =>?_))
 ·refine az.bR ?_ ?_ ?_ ?_ <;>simp[aT,bN,bM,bg,aU,I.only,br]
 ·refine J.seq (J.seq ?_)
  refine .bD (by decide +kernel) fun K hK =>?_
  simp only[Ig,U,simprocAttr]
  try simp only[bx,U,simprocAttr]
  refine .done (hK _ ?_);clear hK K;try simp only[al]
  refine J.bI ?_
  simp only[aj,U,simprocAttr]
  refine ⟨fun h =>?_,fun h =>?_⟩
  ·have hlt:i<l.length:=by simpa using h
   refine J.skip ?_;try simp only[al,simprocAttr]
   refine J.seq (J.block ?_)
   refine .ao (by decide +kernel) fun K hK =>?_
   simp only[Ih,U,simprocAttr]
   try simp only[ew 1 hlt rfl,U,simprocAttr]
   refine .done (hK _ ?_);clear hK K
   refine J.bI ?_
   simp only[aj,U,simprocAttr]
   refine ⟨fun h =>?_,fun h =>?_⟩
   ·refine .ao (by decide +kernel) fun K hK =>?_
    simp only[Ii,U,simprocAttr]
    refine .done (hK _ ?_);clear hK K
    refine J.ret ?_
    simp only[bP,al,U,simprocAttr]
    simp at h
    simp[←h]
   ·refine J.skip ?_;try simp only[al,bP,simprocAttr]
    refine .bD (by decide +kernel) fun K hK =>?_
    simp only[Ij,U,simprocAttr]
    refine .done (hK _ ?_);clear hK K;try simp only[al]
    refine ⟨i+1,⟨by omega,fun hm =>?_⟩,by omega,?_⟩
    ·rw[List.take_succ_eq_append_getElem hlt] at hm
     rcases List.mem_append.1 hm with hm | hm
     ·exact hi.2 hm
     ·simp at h hm;exact h hm.symm
    ·rw[cG _ (by omega) (by omega)]
     refine az.bR ?_ ?_ ?_ ?_ <;>simp[aT,bN,bM,bg,aU,I.only,br]
  ·have hge:i=l.length:=by simp at h;omega
   refine J.exit ?_;try simp only[al,bP,simprocAttr]
   refine .ao (by decide +kernel) fun K hK =>?_
   simp only[Ik,U,simprocAttr]
   refine .done (hK _ ?_);clear hK K
   refine J.ret ?_
   simp only[U,simprocAttr]
   simp[hge] at hi
   simp[hi]
def b7(lo hi n:Int):Bool:=decide (lo≤n)&&decide (n≤hi)
def od(a b:Int):Int:=IntKind.i64.wrap ((BitVec.ofInt IntKind.i64.bits a &&& BitVec.ofInt IntKind.i64.bits b).toNat:Int)
def shl(a:Int)(k:Nat):Int:=IntKind.i64.wrap (a*2^min k IntKind.i64.bits)
theorem N0(m:bA 6 Int):aw Tryz.prog 100 [enc m] (enc (if (List.range 6).all (fun i=>b7 0 4 (m.g i)) then (0:Int) else 10)):=by
 refine aw.bp Tryz.func100 QL SI US (Nat.le_of_ble_eq_true rfl) (fun hwf W0 D0 E1 =>?_)
 simp only[Ap,KI,a6]
 refine .ao (by decide +kernel) fun K hK =>?_
 simp only[DG,U,simprocAttr]
 refine .done (hK _ ?_);clear hK K
 refine J.seq ?_
 refine .ao (by decide +kernel) fun K hK =>?_
 simp only[DH,U,simprocAttr]
 refine .done (hK _ ?_);clear hK K
 refine J.block (J.loop (fun i:Nat=>ar [(1,.ptr 1 []),(2,.int .i64 0),(3,.int .i64 i)] [(1,.box (enc m))]) (fun j=>j≤6∧∀ i,i<j→b7 0 4 (m.g i)=true) (fun i=>6-i) 0 ⟨by omega,fun k h=>by omega⟩ ?_ (fun i hi =>?_))
 ·refine az.bR ?_ ?_ ?_ ?_ <;>simp[aT,bN,bM,bg,aq,aU,cw,I.only,ah.only,br]
 ·refine J.seq (J.seq ?_)
  refine .bD (by decide +kernel) fun K hK =>?_
  simp only[DI,U,simprocAttr]
  refine .done (hK _ ?_);clear hK K;try simp only[al]
  refine J.bI ?_
  simp only[aj,U,simprocAttr]
  refine ⟨fun h =>?_,fun h =>?_⟩
  ·have hlt:i<6:=by simp at h;omega
   refine J.skip ?_;try simp only[al,simprocAttr]
   refine J.seq (J.block ?_)
   refine .ao (by decide +kernel) fun K hK =>?_
   simp only[DJ,U,simprocAttr]
   try simp only[bx,kM 1 m hlt rfl,jH m hlt,U,simprocAttr]
   refine .flat _ (qk _ 0 4) rfl ?_
   try simp only[U,simprocAttr]
   refine .done (hK _ ?_);clear hK K
   refine J.bI ?_
   simp only[aj,U,simprocAttr]
   refine ⟨fun h =>?_,fun h =>?_⟩
   ·refine .ao (by decide +kernel) fun K hK =>?_
    simp only[DK,U,simprocAttr]
    refine .done (hK _ ?_);clear hK K
    refine J.ret ?_
    simp only[bP,al,U,simprocAttr]
    rw[j6 i hlt]
    ·simp
    ·simp at h;simp[b7];omega
   ·refine J.skip ?_;try simp only[al,bP,simprocAttr]
    refine .bD (by decide +kernel) fun K hK =>?_
    simp only[DL,U,simprocAttr]
    refine .done (hK _ ?_);clear hK K;try simp only[al]
    refine ⟨i+1,⟨by omega,fun k hk =>?_⟩,by omega,?_⟩
    ·by_cases hk':k=i
     ·subst hk'
      simpa[b7] using h
     ·exact hi.2 k (by omega)
    ·rw[cG _ (by omega) (by omega)]
     refine az.bR ?_ ?_ ?_ ?_ <;>simp[aT,bN,bM,bg,aq,aU,cw,I.only,ah.only,br]
  ·have hge:i=6:=by simp at h;omega
   subst hge
   refine J.exit ?_;try simp only[al,bP,simprocAttr]
   refine .ao (by decide +kernel) fun K hK =>?_
   simp only[DM,U,simprocAttr]
   refine .done (hK _ ?_);clear hK K
   refine J.ret ?_
   simp only[U,simprocAttr]
   rw[lq hi.2]
   simp
theorem N2(m:bA 6 Int):aw Tryz.prog 101 [enc m] (enc (if (List.range 6).all (fun i=>b7 1 31 (m.g i)) then (0:Int) else 12)):=by
 refine aw.bp Tryz.func101 QM SJ UT (Nat.le_of_ble_eq_true rfl) (fun hwf W0 D0 E1 =>?_)
 simp only[Aq,KJ,a6]
 refine .ao (by decide +kernel) fun K hK =>?_
 simp only[DN,U,simprocAttr]
 refine .done (hK _ ?_);clear hK K
 refine J.seq ?_
 refine .ao (by decide +kernel) fun K hK =>?_
 simp only[DO,U,simprocAttr]
 refine .done (hK _ ?_);clear hK K
 refine J.block (J.loop (fun i:Nat=>ar [(1,.ptr 1 []),(2,.int .i64 0),(3,.int .i64 i)] [(1,.box (enc m))]) (fun j=>j≤6∧∀ i,i<j→b7 1 31 (m.g i)=true) (fun i=>6-i) 0 ⟨by omega,fun k h=>by omega⟩ ?_ (fun i hi =>?_))
 ·refine az.bR ?_ ?_ ?_ ?_ <;>simp[aT,bN,bM,bg,aq,aU,cw,I.only,ah.only,br]
 ·refine J.seq (J.seq ?_)
  refine .bD (by decide +kernel) fun K hK =>?_
  simp only[DP,U,simprocAttr]
  refine .done (hK _ ?_);clear hK K;try simp only[al]
  refine J.bI ?_
  simp only[aj,U,simprocAttr]
  refine ⟨fun h =>?_,fun h =>?_⟩
  ·have hlt:i<6:=by simp at h;omega
   refine J.skip ?_;try simp only[al,simprocAttr]
   refine J.seq (J.block ?_)
   refine .ao (by decide +kernel) fun K hK =>?_
   simp only[DQ,U,simprocAttr]
   try simp only[bx,kM 1 m hlt rfl,jH m hlt,U,simprocAttr]
   refine .flat _ (qk _ 1 31) rfl ?_
   try simp only[U,simprocAttr]
   refine .done (hK _ ?_);clear hK K
   refine J.bI ?_
   simp only[aj,U,simprocAttr]
   refine ⟨fun h =>?_,fun h =>?_⟩
   ·refine .ao (by decide +kernel) fun K hK =>?_
    simp only[DR,U,simprocAttr]
    refine .done (hK _ ?_);clear hK K
    refine J.ret ?_
    simp only[bP,al,U,simprocAttr]
    rw[j6 i hlt]
    ·simp
    ·simp at h;simp[b7];omega
   ·refine J.skip ?_;try simp only[al,bP,simprocAttr]
    refine .bD (by decide +kernel) fun K hK =>?_
    simp only[DS,U,simprocAttr]
    refine .done (hK _ ?_);clear hK K;try simp only[al]
    refine ⟨i+1,⟨by omega,fun k hk =>?_⟩,by omega,?_⟩
    ·by_cases hk':k=i
     ·subst hk'
      simpa[b7] using h
     ·exact hi.2 k (by omega)
    ·rw[cG _ (by omega) (by omega)]
     refine az.bR ?_ ?_ ?_ ?_ <;>simp[aT,bN,bM,bg,aq,aU,cw,I.only,ah.only,br]
  ·have hge:i=6:=by simp at h;omega
   subst hge
   refine J.exit ?_;try simp only[al,bP,simprocAttr]
   refine .ao (by decide +kernel) fun K hK =>?_
   simp only[DT,U,simprocAttr]
   refine .done (hK _ ?_);clear hK K
   refine J.ret ?_
   simp only[U,simprocAttr]
   rw[lq hi.2]
   simp
structure cA where
 bQ:Int
 mark:bA 6 Int
instance:Enc cA where
 enc g:=.agg [.int .i64 g.bQ,enc g.mark]
 sz:=7
 aQ:=.eg [.one,.eg (List.replicate 6 .one)]
 fV:=true
 done g:=by simp only[I.done,I.eQ,Enc.done,Bool.and_self]
 size g:=by simp only[I.size,I.sizes,iQ,mi,mj]
 jX g:=by simp only[I.aQ,I.cR,eD,vK,vL]
 agg _:=rfl
structure cn where
 fA:bA 5 Int
 gb:Int
 given:List cA
instance:Enc cn where
 enc m:=.agg [enc m.fA,.int .i64 m.gb,enc m.given]
 sz:=7
 aQ:=.eg [.eg (List.replicate 5 .one),.one,.one]
 fV:=true
 done m:=by simp only[I.done,I.eQ,Enc.done,Bool.and_self]
 size m:=by simp only[I.size,I.sizes,iQ,mi,mj,qy]
 jX m:=by simp only[I.aQ,I.cR,eD,vK,vL,C3]
 agg _:=rfl
theorem mH{fs:List I}{f off:Nat}{v:I}(h1:f<fs.length)(h:I.sizes (fs.take f)=off):dI fs f off v=some v:=by simp[dI,h,h1]
theorem c4 :
  (∀ m:cn,(enc m).di=some [enc m.fA,.int .i64 m.gb,enc m.given])∧(∀ g:cA,(enc g).di=some [.int .i64 g.bQ,enc g.mark]) ∧
  (∀ (w:bA 5 Int) (n:Int) (g:List cA) v,dI [enc w,.int .i64 n,enc g] 0 0 v=some v)∧(∀ (w:bA 5 Int) (n:Int) (g:List cA) v,dI [enc w,.int .i64 n,enc g] 1 5 v=some v)∧(∀ (w:bA 5 Int) (n:Int) (g:List cA) v,dI [enc w,.int .i64 n,enc g] 2 6 v=some v) ∧
  (∀ (n:Int) (m:bA 6 Int) v,dI [.int .i64 n,enc m] 0 0 v=some v)∧(∀ (n:Int) (m:bA 6 Int) v,dI [.int .i64 n,enc m] 1 1 v=some v) ∧
  (∀ (g:List cA),b5 none (enc g)=true)∧(∀ (g:List Int),b5 none (enc g)=true)∧(∀ (g:bA 5 Int),b5 (some 5) (enc g)=true)∧(∀ (g:bA 6 Int),b5 (some 6) (enc g)=true)∧(∀ (g:cA),b5 (some 7) (enc g)=true)∧(∀ (g:cn),b5 (some 7) (enc g)=true) ∧
  (∀ (fs:List I) x,(x::fs)[0]?=some x)∧(∀ (fs:List I) x n,(x::fs)[n+1]?=fs[n]?)∧(∀ (fs:List I) x,(x::fs)[1]?=fs[0]?)∧(∀ (fs:List I) x,(x::fs)[2]?=fs[1]?) :=
 ⟨fun _=>rfl,fun _=>rfl,fun _ _ _ _=>mH (Nat.le_of_ble_eq_true rfl) rfl,fun w n g v=>mH (Nat.le_of_ble_eq_true rfl) (by simp[I.sizes,iQ,mi,mj]),fun w n g v=>mH (Nat.le_of_ble_eq_true rfl) (by simp[I.sizes,I.size,iQ,mi,mj]),fun _ _ _=>mH (Nat.le_of_ble_eq_true rfl) rfl,fun _ _ _=>mH (Nat.le_of_ble_eq_true rfl) (by simp[I.sizes,I.size]),
  fun _=>by simp[kI,nj],fun _=>by simp[kI,nj],fun _=>by simp[fS,vJ,mi,mj],fun _=>by simp[fS,vJ,mi,mj],fun _=>by rw[fS];rfl,fun _=>by rw[fS];rfl,
  fun _ _=>rfl,fun _ _ _=>rfl,fun _ _=>rfl,fun _ _=>rfl⟩
theorem rP(n lo hi:Int):aw Tryz.prog 121 [enc n,enc lo,enc hi] (enc (b7 lo hi n)):=by
 refine aw.bp Tryz.func121 QY SV U5 (Nat.le_of_ble_eq_true rfl) (fun hwf W0 D0 E1 =>?_)
 simp only[AD,KU,a6,Nat.zero_add,Nat.reduceAdd]
 refine .ao (by decide +kernel) fun K hK =>?_
 simp only[EA,U,simprocAttr]
 refine .done (hK _ ?_);clear hK K
 refine .ao (by decide +kernel) fun K hK =>?_
 simp only[EB,U,simprocAttr]
 refine .guard (fun h =>?_) (fun h =>?_)
 ·simp only[U,simprocAttr,h]
  refine .done (hK _ ?_);clear hK K
  refine J.ret ?_
  simp only[U,simprocAttr]
  simp_all[b7]
 ·simp only[U,simprocAttr,h]
  refine .done (hK _ ?_);clear hK K
  refine J.ret ?_
  simp only[U,simprocAttr]
  simp at h
  simp[b7];omega
theorem zB(n:Int):aw Tryz.prog 160 [enc n] (enc (b7 0 31 n)):=by
 refine aw.bp Tryz.func160 Rs Tq Vz (Nat.le_of_ble_eq_true rfl) (fun hwf W0 D0 E1 =>?_)
 simp only[Bb,Lo,a6]
 refine .ao (by decide +kernel) fun K hK =>?_
 simp only[Gd,U,simprocAttr]
 refine .done (hK _ ?_);clear hK K
 refine .ao (by decide +kernel) fun K hK =>?_
 simp only[Ge,U,simprocAttr]
 refine .flat _ (rP n 0 31) rfl ?_
 try simp only[U,simprocAttr]
 refine .done (hK _ ?_);clear hK K
 refine J.ret ?_
 simp only[U,simprocAttr]
theorem zF(a b:Int):aw Tryz.prog 196 [enc a,enc b] (enc (od a b != 0)):=by
 refine aw.bp Tryz.func196 RP TO VX (Nat.le_of_ble_eq_true rfl) (fun hwf W0 D0 E1 =>?_)
 simp only[BA,LN,a6,Nat.zero_add]
 refine .ao (by decide +kernel) fun K hK =>?_
 simp only[G7,U,simprocAttr]
 refine .done (hK _ ?_);clear hK K
 refine .ao (by decide +kernel) fun K hK =>?_
 simp only[G8,U,simprocAttr]
 refine .done (hK _ ?_);clear hK K
 refine J.ret ?_
 simp only[U,simprocAttr]
 rfl
theorem uM(w:bA 5 Int)(m:bA 6 Int)(i:Nat)(hi:i<6)(h0:0≤m.g i)(h5:m.g i<5):aw Tryz.prog 199 [enc w,enc m,enc (i:Int)] (enc (w.g (m.g i).toNat)):=by
 refine aw.bp Tryz.func199 RS TR V0 (Nat.le_of_ble_eq_true rfl) (fun hwf W0 D0 E1 =>?_)
 simp only[BD,LQ,a6,Nat.zero_add,Nat.reduceAdd]
 refine .ao (by decide +kernel) fun K hK =>?_
 simp only[Hj,U,simprocAttr]
 refine .done (hK _ ?_);clear hK K
 refine .ao (by decide +kernel) fun K hK =>?_
 simp only[Hk,U,simprocAttr]
 have hk:(m.g i).toNat<5:=by omega
 try simp only[bx,kM 1 m hi rfl,jH m hi,U,simprocAttr]
 try simp only[bx,pG 1 w ⟨h0,h5⟩ rfl,jH w hk,U,simprocAttr]
 refine .done (hK _ ?_);clear hK K
 refine J.ret ?_
 simp only[U,simprocAttr]
def fF(p:Nat→Bool):Nat→Nat
 |0=>0
 |n+1=>fF p n+if p n then 1 else 0
theorem vz(p:Nat→Bool):∀ n,fF p n≤n
 |0=>Nat.le_refl _
 |n+1=>by have:=vz p n;simp only[fF];split <;>omega
def lu(w:bA 5 Int)(a b:bA 6 Int)(i:Nat):Bool:=od (w.g (a.g i).toNat) (w.g (b.g i).toNat)==0
def fv(m:bA 6 Int):Bool:=(List.range 6).all fun i=>b7 0 4 (m.g i)
theorem pY{m:bA 6 Int}(h:fv m=true){i:Nat}(hi:i<6):0≤m.g i∧m.g i<5:=by
 simp only[fv,List.all_eq_true,List.mem_range] at h
 have:=h i hi
 simp[b7] at this
 omega
theorem zr(w:bA 5 Int)(a b:bA 6 Int)(ha:fv a=true)(hb:fv b=true):aw Tryz.prog 129 [enc w,enc a,enc b] (enc (fF (lu w a b) 6:Int)):=by
 refine aw.bp Tryz.func129 Q6 S3 Vd (Nat.le_of_ble_eq_true rfl) (fun hwf W0 D0 E1 =>?_)
 simp only[AL,K2,a6,Nat.zero_add,Nat.reduceAdd]
 refine .ao (by decide +kernel) fun K hK =>?_
 simp only[ET,U,simprocAttr]
 refine .done (hK _ ?_);clear hK K
 refine .ao (by decide +kernel) fun K hK =>?_
 simp only[EU,U,simprocAttr]
 refine .done (hK _ ?_);clear hK K
 refine J.seq (J.seq ?_)
 refine .bD (by decide +kernel) fun K hK =>?_
 simp only[EV,U,simprocAttr]
 refine .done (hK _ ?_);clear hK K;try simp only[al]
 refine J.block (J.loop (fun i:Nat=>ar [(3,.ptr 3 []),(4,.ptr 4 []),(5,.ptr 5 []),(7,.int .i64 (fF (lu w a b) i)),(8,.int .i64 i)] [(3,.box (enc w)),(4,.box (enc a)),(5,.box (enc b))]) (fun i=>i≤6) (fun i=>6-i) 0 (by omega) ?_ (fun i hi =>?_))
 ·simp only[fF]
  refine az.bR ?_ ?_ ?_ ?_ <;>simp[aT,bN,bM,bg,aq,aU,cw,I.only,ah.only,br]
 ·have hc:=vz (lu w a b) i
  refine J.seq (J.seq ?_)
  refine .bD (by decide +kernel) fun K hK =>?_
  simp only[EW,U,simprocAttr]
  refine .done (hK _ ?_);clear hK K;try simp only[al]
  refine J.bI ?_
  simp only[aj,U,simprocAttr]
  refine ⟨fun h =>?_,fun h =>?_⟩
  ·have hlt:i<6:=by simp at h;omega
   have h1:=pY ha hlt
   have h2:=pY hb hlt
   refine J.skip ?_;try simp only[al,simprocAttr]
   refine J.seq (J.block ?_)
   refine .ao (by decide +kernel) fun K hK =>?_
   simp only[EX,U,simprocAttr]
   have k1:(a.g i).toNat<5:=by omega
   have k2:(b.g i).toNat<5:=by omega
   try simp only[bx,kM 1 a hlt rfl,jH a hlt,U,simprocAttr]
   try simp only[bx,pG 1 w h1 rfl,jH w k1,U,simprocAttr]
   try simp only[bx,kM 1 b hlt rfl,jH b hlt,U,simprocAttr]
   try simp only[bx,pG 1 w h2 rfl,jH w k2,U,simprocAttr]
   refine .done (hK _ ?_);clear hK K
   refine J.bI ?_
   simp only[aj,U,simprocAttr]
   refine ⟨fun h =>?_,fun h =>?_⟩
   ·have hap:lu w a b i=true:=h
    refine .bD (by decide +kernel) fun K hK =>?_
    simp only[EY,U,simprocAttr]
    refine .done (hK _ ?_);clear hK K;try simp only[al,bP]
    refine .bD (by decide +kernel) fun K hK =>?_
    simp only[wy,U,simprocAttr]
    refine .done (hK _ ?_);clear hK K;try simp only[al]
    refine ⟨i+1,by omega,by omega,?_⟩
    rw[cG _ (by omega) (by omega),cG _ (by omega) (by omega)]
    simp only[fF,hap,if_true]
    refine az.bR ?_ ?_ ?_ ?_ <;>simp[aT,bN,bM,bg,aq,aU,cw,I.only,ah.only,br]
   ·have hap:lu w a b i=false:=h
    refine J.skip ?_;try simp only[al,bP,simprocAttr]
    refine .bD (by decide +kernel) fun K hK =>?_
    simp only[wy,U,simprocAttr]
    refine .done (hK _ ?_);clear hK K;try simp only[al]
    refine ⟨i+1,by omega,by omega,?_⟩
    rw[cG _ (by omega) (by omega)]
    simp only[fF,hap,Bool.false_eq_true,if_false]
    refine az.bR ?_ ?_ ?_ ?_ <;>simp[aT,bN,bM,bg,aq,aU,cw,I.only,ah.only,br]
  ·have hge:i=6:=by simp at h;omega
   subst hge
   refine J.exit ?_;try simp only[al,bP,simprocAttr]
   refine .ao (by decide +kernel) fun K hK =>?_
   simp only[EZ,U,simprocAttr]
   refine .done (hK _ ?_);clear hK K
   refine J.ret ?_
   simp only[U,simprocAttr]
def kD(w:Int)(k:Nat):Bool:=od w (shl 1 k) != 0
def mB(w:Int):Nat→List Int
 |0=>[]
 |k+1=>mB w k++if kD w k then [(k:Int)] else []
theorem JW(w:Int):∀ k,(mB w k).length≤k
 |0=>Nat.le_refl _
 |k+1=>by
  have:=JW w k
  simp only[mB,List.length_append]
  split <;>simp <;>omega
theorem amq(w:Int):aw Tryz.prog 141 [enc w] (enc (mB w 5)):=by
 refine aw.bp Tryz.func141 Ri Te Vo (Nat.le_of_ble_eq_true rfl) (fun hwf W0 D0 E1 =>?_)
 simp only[AW,Ld,a6]
 refine .ao (by decide +kernel) fun K hK =>?_
 simp only[Fz,U,simprocAttr]
 refine .done (hK _ ?_);clear hK K
 refine .ao (by decide +kernel) fun K hK =>?_
 simp only[FA,U,simprocAttr]
 refine .done (hK _ ?_);clear hK K
 refine J.seq (J.seq ?_)
 refine .bD (by decide +kernel) fun K hK =>?_
 simp only[FB,U,simprocAttr]
 refine .done (hK _ ?_);clear hK K;try simp only[al]
 refine J.block (J.loop (fun i:Nat=>ar [(0,.int .i64 w),(2,.nils 1),(3,.own 3 (mB w i).length),(4,.int .i64 i)] [(3,.bW 3 1 ((mB w i).map enc))]) (fun i=>i≤5) (fun i=>5-i) 0 (by omega) ?_ (fun i hi =>?_))
 ·refine az.ln 3 3 3 1 1 ?_ ?_ ?_
  ·simp only[o8,Nat.reduceEqDiff,reduceIte]
  ·simp only[o8]
  ·simp only[mB,List.map_nil,List.length_nil]
   refine az.bR ?_ ?_ ?_ ?_ <;>simp[aT,bN,bM,bg,aq,aU,cw,I.only,I.bV,ah.only]
 ·refine J.seq (J.seq ?_)
  refine .bD (by decide +kernel) fun K hK =>?_
  simp only[FC,U,simprocAttr]
  refine .done (hK _ ?_);clear hK K;try simp only[al]
  refine J.bI ?_
  simp only[aj,U,simprocAttr]
  refine ⟨fun h =>?_,fun h =>?_⟩
  ·have hlt:i<5:=by simp at h;omega
   have hml:=JW w i
   refine J.skip ?_;try simp only[al,simprocAttr]
   refine J.seq (J.block ?_)
   refine .ao (by decide +kernel) fun K hK =>?_
   simp only[FD,U,simprocAttr]
   refine .done (hK _ ?_);clear hK K
   refine J.bI ?_
   simp only[aj,U,simprocAttr]
   refine ⟨fun h =>?_,fun h =>?_⟩
   ·have hb:kD w i=true:=h
    refine .bD (by decide +kernel) fun K hK =>?_
    simp only[FE,U,simprocAttr]
    rw[jF 3 1 8 3 rfl rfl (by simp) (by simp[maxLen];omega) (by simp;omega)]
    try simp only[U,simprocAttr]
    refine .done (hK _ ?_);clear hK K;try simp only[al,bP]
    refine .bD (by decide +kernel) fun K hK =>?_
    simp only[wH,U,simprocAttr]
    refine .done (hK _ ?_);clear hK K;try simp only[al]
    refine ⟨i+1,by omega,by omega,?_⟩
    rw[cG _ (by omega) (by omega)]
    simp only[mB,hb,reduceIte]
    refine az.bR ?_ ?_ ?_ ?_ <;>simp[aT,bN,bM,bg,aq,aU,cw,I.only,I.bV,ah.only,ec,iB,iw]
   ·have hb:kD w i=false:=h
    refine J.skip ?_;try simp only[al,bP,simprocAttr]
    refine .bD (by decide +kernel) fun K hK =>?_
    simp only[wH,U,simprocAttr]
    refine .done (hK _ ?_);clear hK K;try simp only[al]
    refine ⟨i+1,by omega,by omega,?_⟩
    rw[cG _ (by omega) (by omega)]
    simp only[mB,hb,reduceIte,Bool.false_eq_true,List.append_nil]
    refine az.bR ?_ ?_ ?_ ?_ <;>simp[aT,bN,bM,bg,aq,aU,cw,I.only,ah.only,ec]
  ·have hge:i=5:=by simp at h;omega
   subst hge
   refine J.exit ?_;try simp only[al,bP,simprocAttr]
   refine .ao (by decide +kernel) fun K hK =>?_
   simp only[FF,U,simprocAttr]
   refine .done (hK _ ?_);clear hK K
   refine J.ret ?_
   try simp only[U,simprocAttr]
theorem Pt(m:bA 5 Int):aw Tryz.prog 99 [enc m] (enc (if (List.range 5).all (fun i=>b7 0 31 (m.g i)&&kD (m.g i) i) then (0:Int) else 11)):=by
 refine aw.bp Tryz.func99 SD UC WK (Nat.le_of_ble_eq_true rfl) (fun hwf W0 D0 E1 =>?_)
 simp only[Cn,Mz,a6]
 refine .ao (by decide +kernel) fun K hK =>?_
 simp only[I6,U,simprocAttr]
 refine .done (hK _ ?_);clear hK K
 refine J.seq ?_
 refine .ao (by decide +kernel) fun K hK =>?_
 simp only[I7,U,simprocAttr]
 refine .done (hK _ ?_);clear hK K
 refine J.block (J.loop (fun i:Nat=>ar [(1,.ptr 1 []),(2,.int .i64 0),(3,.int .i64 i)] [(1,.box (enc m))]) (fun j=>j≤5∧∀ i,i<j→(b7 0 31 (m.g i)&&kD (m.g i) i)=true) (fun i=>5-i) 0 ⟨by omega,fun k h=>by omega⟩ ?_ (fun i hi =>?_))
 ·refine az.bR ?_ ?_ ?_ ?_ <;>simp[aT,bN,bM,bg,aq,aU,cw,I.only,ah.only,br]
 ·refine J.seq (J.seq ?_)
  refine .bD (by decide +kernel) fun K hK =>?_
  simp only[I8,U,simprocAttr]
  refine .done (hK _ ?_);clear hK K;try simp only[al]
  refine J.bI ?_
  simp only[aj,U,simprocAttr]
  refine ⟨fun h =>?_,fun h =>?_⟩
  ·have hlt:i<5:=by simp at h;omega
   refine J.skip ?_;try simp only[al,simprocAttr]
   refine J.seq (J.block ?_)
   refine .ao (by decide +kernel) fun K hK =>?_
   simp only[I9,U,simprocAttr]
   try simp only[bx,kM 1 m hlt rfl,jH m hlt,U,simprocAttr]
   refine .flat _ (qk _ 0 31) rfl ?_
   generalize hb:(decide (0≤m.g i)&&decide (m.g i≤31))=b
   cases b
   ·try simp only[U,simprocAttr]
    refine .done (hK _ ?_);clear hK K
    refine J.bI ?_
    simp only[aj,U,simprocAttr]
    refine ⟨fun h =>?_,fun h =>?_⟩
    ·refine .ao (by decide +kernel) fun K hK =>?_
     simp only[xj,U,simprocAttr]
     refine .done (hK _ ?_);clear hK K
     refine J.ret ?_
     simp only[bP,al,U,simprocAttr]
     rw[j6 i hlt]
     ·simp
     ·simp only[b7,hb,Bool.false_and]
    ·cases h
   ·try simp only[bx,kM 1 m hlt rfl,jH m hlt,U,simprocAttr]
    refine .done (hK _ ?_);clear hK K
    refine J.bI ?_
    simp only[aj,U,simprocAttr]
    refine ⟨fun h =>?_,fun h =>?_⟩
    ·refine .ao (by decide +kernel) fun K hK =>?_
     simp only[xj,U,simprocAttr]
     refine .done (hK _ ?_);clear hK K
     refine J.ret ?_
     simp only[bP,al,U,simprocAttr]
     rw[j6 i hlt]
     ·simp
     ·simp only[b7,hb,Bool.true_and,kD,od,shl]
      simpa using h
    ·refine J.skip ?_;try simp only[al,bP,simprocAttr]
     refine .bD (by decide +kernel) fun K hK =>?_
     simp only[Ja,U,simprocAttr]
     refine .done (hK _ ?_);clear hK K;try simp only[al]
     refine ⟨i+1,⟨by omega,fun k hk =>?_⟩,by omega,?_⟩
     ·by_cases hk':k=i
      ·subst hk'
       simp only[b7,hb,Bool.true_and,kD,od,shl]
       simpa using h
      ·exact hi.2 k (by omega)
     ·rw[cG _ (by omega) (by omega)]
      refine az.bR ?_ ?_ ?_ ?_ <;>simp[aT,bN,bM,bg,aq,aU,cw,I.only,ah.only,br]
  ·have hge:i=5:=by simp at h;omega
   subst hge
   refine J.exit ?_;try simp only[al,bP,simprocAttr]
   refine .ao (by decide +kernel) fun K hK =>?_
   simp only[Jb,U,simprocAttr]
   refine .done (hK _ ?_);clear hK K
   refine J.ret ?_
   simp only[U,simprocAttr]
   rw[lq hi.2]
   simp
theorem rU(a b:List Int):aw Tryz.prog 20 [enc a,enc b] (enc (decide (a=b))):=by
 refine aw.bp Tryz.func20 RT TS V1 (Nat.le_of_ble_eq_true rfl) (fun hwf W0 D0 E1 =>?_)
 simp only[BE,LR,a6,Nat.zero_add]
 have hlen:a.length≤maxLen:=((ku a).1 hwf.1).1
 simp only[maxLen] at hlen
 refine .ao (by decide +kernel) fun K hK =>?_
 simp only[HP,U,simprocAttr]
 refine .done (hK _ ?_);clear hK K
 refine J.seq (J.seq ?_)
 refine .bD (by decide +kernel) fun K hK =>?_
 simp only[HQ,U,simprocAttr]
 try simp only[bx,U,simprocAttr]
 refine .done (hK _ ?_);clear hK K;try simp only[al]
 refine J.bI ?_
 simp only[aj,U,simprocAttr]
 refine ⟨fun h =>?_,fun h =>?_⟩
 ·refine .ao (by decide +kernel) fun K hK =>?_
  simp only[HR,U,simprocAttr]
  refine .done (hK _ ?_);clear hK K
  refine J.ret ?_
  simp only[al,U,simprocAttr]
  simp at h
  have:a≠b:=fun e=>h (by rw[e])
  simp[this]
 ·have hab:a.length=b.length:=by simp at h;omega
  refine J.skip ?_;try simp only[al,simprocAttr]
  refine J.seq ?_
  refine .ao (by decide +kernel) fun K hK =>?_
  simp only[HS,U,simprocAttr]
  refine .done (hK _ ?_);clear hK K
  refine J.block (J.loop (fun i:Nat=>ar [(0,enc a),(1,enc b),(5,.int .i64 i)] []) (fun i=>i≤a.length∧a.take i=b.take i) (fun i=>a.length-i) 0 ⟨Nat.zero_le _,by simp⟩ ?_ (fun i hi =>?_))
  ·refine az.bR ?_ ?_ ?_ ?_ <;>simp[aT,bN,bM,bg,aU,I.only,br]
  ·refine J.seq (J.seq ?_)
   refine .bD (by decide +kernel) fun K hK =>?_
   simp only[HT,U,simprocAttr]
   try simp only[bx,U,simprocAttr]
   refine .done (hK _ ?_);clear hK K;try simp only[al]
   refine J.bI ?_
   simp only[aj,U,simprocAttr]
   refine ⟨fun h =>?_,fun h =>?_⟩
   ·have hlt:i<a.length:=by simpa using h
    have hlb:i<b.length:=by omega
    refine J.skip ?_;try simp only[al,simprocAttr]
    refine J.seq (J.block ?_)
    refine .ao (by decide +kernel) fun K hK =>?_
    simp only[HU,U,simprocAttr]
    try simp only[ew 1 hlt rfl,ew 1 hlb rfl,U,simprocAttr]
    refine .done (hK _ ?_);clear hK K
    refine J.bI ?_
    simp only[aj,U,simprocAttr]
    refine ⟨fun h =>?_,fun h =>?_⟩
    ·refine .ao (by decide +kernel) fun K hK =>?_
     simp only[HV,U,simprocAttr]
     refine .done (hK _ ?_);clear hK K
     refine J.ret ?_
     simp only[bP,al,U,simprocAttr]
     have hne:a≠b:=fun e=>by subst e;simp at h
     simp[hne]
    ·refine J.skip ?_;try simp only[al,bP,simprocAttr]
     refine .bD (by decide +kernel) fun K hK =>?_
     simp only[HW,U,simprocAttr]
     refine .done (hK _ ?_);clear hK K;try simp only[al]
     refine ⟨i+1,⟨by omega,?_⟩,by omega,?_⟩
     ·rw[List.take_succ_eq_append_getElem hlt,List.take_succ_eq_append_getElem hlb,hi.2]
      simp at h
      rw[h]
     ·rw[cG _ (by omega) (by omega)]
      refine az.bR ?_ ?_ ?_ ?_ <;>simp[aT,bN,bM,bg,aU,I.only,br]
   ·have hge:i=a.length:=by simp at h;omega
    refine J.exit ?_;try simp only[al,bP,simprocAttr]
    refine .ao (by decide +kernel) fun K hK =>?_
    simp only[HX,U,simprocAttr]
    refine .done (hK _ ?_);clear hK K
    refine J.ret ?_
    simp only[U,simprocAttr]
    have:a=b:=by
     have:=hi.2
     rw[hge,List.take_length] at this
     rw[hab,List.take_length] at this
     exact this
    simp[this]
def cd(m:cn)(i:Nat):cA:=m.given.getD i ⟨0,⟨List.replicate 6 0,rfl⟩⟩
theorem jN{m:cn}{i:Nat}(h:i<m.given.length):m.given[i]=cd m i:=by simp[cd,List.getD_eq_getElem?_getD,h]
theorem nF{A:ae}{m:cn}{i:Nat}(h:i<m.given.length):iW A 7 (i:Int) (enc m.given)=some (.ref (enc (cd m i))):=by
 rw[ew 7 h rfl,jN h]
def nL(w:bA 5 Int):Bool:=(List.range 5).all (fun i=>b7 0 31 (w.g i)&&kD (w.g i) i)
theorem Pu(w:bA 5 Int):aw Tryz.prog 99 [enc w] (enc (if nL w then (0:Int) else 11)):=Pt w
theorem N1(m:bA 6 Int):aw Tryz.prog 100 [enc m] (enc (if fv m then (0:Int) else 10)):=N0 m
theorem zN(n lo hi:Int):aw Tryz.prog 94 [enc n,enc lo,enc hi] (enc (b7 lo hi n)):=qk n lo hi
def hJ(m:cn)(a b:bA 6 Int):Bool:=decide ((fF (lu m.fA a b) 6:Int)≤IntKind.i64.wrap (2*m.gb))
def fu(m:cn)(i:Nat):Bool:=b7 1 99 (cd m i).bQ&&(fv (cd m i).mark&&((i==0||decide ((cd m (i-1)).bQ<(cd m i).bQ))&&(List.range i).all (fun j => !hJ m (cd m j).mark (cd m i).mark)))
def eI(m:cn):Bool:=nL m.fA&&(b7 0 2 m.gb&&(decide (m.given.length≤40)&&(List.range m.given.length).all (fu m)))
theorem tP{m:cn}{i:Nat}(h:fu m i=true):fv (cd m i).mark=true:=by
 simp only[fu,Bool.and_eq_true] at h
 exact h.2.1
theorem uP(m:cn):aw Tryz.prog 70 [enc m] (enc (if eI m then (0:Int) else 13)):=by
 refine aw.bp Tryz.func70 Sg Uh Wo (Nat.le_of_ble_eq_true rfl) (fun hwf W0 D0 E1 =>?_)
 simp only[B1,Me,a6]
 refine .ao (by decide +kernel) fun K hK =>?_
 simp only[IB,U,simprocAttr]
 refine .done (hK _ ?_);clear hK K
 refine J.seq (J.seq ?_)
 refine .bD (by decide +kernel) fun K hK =>?_
 simp only[IC,U,simprocAttr]
 try simp only[c4,ea,U,simprocAttr]
 refine .flat _ (Pu m.fA) rfl ?_
 generalize hw:nL m.fA=bw
 cases bw
 ·try simp only[U,simprocAttr]
  refine .done (hK _ ?_);clear hK K;try simp only[al]
  refine J.bI ?_
  simp only[aj,U,simprocAttr]
  refine ⟨fun h =>?_,fun h =>?_⟩
  ·refine .ao (by decide +kernel) fun K hK =>?_
   simp only[sS,U,simprocAttr]
   refine .done (hK _ ?_);clear hK K
   refine J.ret ?_
   simp only[al,U,simprocAttr]
   simp[eI,hw]
  ·cases h
 try simp only[c4,U,simprocAttr]
 refine .flat _ (zN m.gb 0 2) rfl ?_
 generalize hf:b7 0 2 m.gb=bf
 cases bf
 ·try simp only[U,simprocAttr]
  refine .done (hK _ ?_);clear hK K
  refine J.bI ?_
  simp only[aj,U,simprocAttr]
  refine ⟨fun h =>?_,fun h =>?_⟩
  ·refine .ao (by decide +kernel) fun K hK =>?_
   simp only[sS,U,simprocAttr]
   refine .done (hK _ ?_);clear hK K
   refine J.ret ?_
   simp only[al,U,simprocAttr]
   simp[eI,hw,hf]
  ·cases h
 try simp only[c4,bx,U,simprocAttr]
 refine .done (hK _ ?_);clear hK K
 refine J.bI ?_
 simp only[aj,U,simprocAttr]
 refine ⟨fun h =>?_,fun h =>?_⟩
 ·refine .ao (by decide +kernel) fun K hK =>?_
  simp only[sS,U,simprocAttr]
  refine .done (hK _ ?_);clear hK K
  refine J.ret ?_
  simp only[al,U,simprocAttr]
  have:¬ m.given.length≤40:=by simp at h;omega
  simp[eI,hw,hf,this]
 have hlen:m.given.length≤40:=by simp at h;omega
 refine J.skip ?_;try simp only[al,simprocAttr]
 refine J.seq (J.seq ?_)
 refine .bD (by decide +kernel) fun K hK =>?_
 simp only[IE,U,simprocAttr]
 refine .done (hK _ ?_);clear hK K;try simp only[al]
 refine J.block (J.loop (fun i:Nat=>ar [(1,.ptr 1 []),(3,.int .i64 i)] [(1,.box (enc m))]) (fun i=>i≤m.given.length∧∀ j,j<i→fu m j=true) (fun i=>m.given.length-i) 0 ⟨by omega,fun k h=>by omega⟩ ?_ (fun i hi =>?_))
 ·refine az.bR ?_ ?_ ?_ ?_ <;>simp[aT,bN,bM,bg,aq,aU,cw,I.only,ah.only,br]
 refine J.seq (J.seq ?_)
 refine .bD (by decide +kernel) fun K hK =>?_
 simp only[IF,U,simprocAttr]
 try simp only[c4,bx,U,simprocAttr]
 refine .done (hK _ ?_);clear hK K;try simp only[al]
 refine J.bI ?_
 simp only[aj,U,simprocAttr]
 refine ⟨fun h =>?_,fun h =>?_⟩
 case refine_2.refine_2 =>
  have hge:i=m.given.length:=by simp at h;omega
  subst hge
  refine J.exit ?_;try simp only[al,bP,simprocAttr]
  refine .ao (by decide +kernel) fun K hK =>?_
  simp only[ID,U,simprocAttr]
  refine .done (hK _ ?_);clear hK K
  refine J.ret ?_
  simp only[U,simprocAttr]
  have:(List.range m.given.length).all (fu m)=true:=lq hi.2
  simp[eI,hw,hf,this,hlen]
 have hlt:i<m.given.length:=by simpa using h
 refine J.skip ?_;try simp only[al,simprocAttr]
 refine J.seq (J.block ?_)
 refine .ao (by decide +kernel) fun K hK =>?_
 simp only[IG,U,simprocAttr]
 try simp only[c4,nF hlt,U,simprocAttr]
 rw[ej (dG _) (by rw[fS];rfl) ((eD _).trans rfl)]
 try simp only[U,simprocAttr]
 refine .done (hK _ ?_);clear hK K
 -- what is said of the mark at i alone
 have bad:∀ b,fu m i=b→b=false→(if eI m then (0:Int) else 13)=13:=fun b h1 h2=>by
  have:(List.range m.given.length).all (fu m)=false:=j6 i hlt (by rw[h1,h2])
  simp[eI,this]
 refine J.seq (J.seq ?_)
 refine .bD (by decide +kernel) fun K hK =>?_
 simp only[IH,U,simprocAttr]
 try simp only[c4,U,simprocAttr]
 refine .flat _ (zN (cd m i).bQ 1 99) rfl ?_
 generalize ho:b7 1 99 (cd m i).bQ=bo
 cases bo
 ·try simp only[U,simprocAttr]
  refine .done (hK _ ?_);clear hK K;try simp only[al]
  refine J.bI ?_
  simp only[aj,U,simprocAttr]
  refine ⟨fun h =>?_,fun h =>?_⟩
  ·refine .ao (by decide +kernel) fun K hK =>?_
   simp only[sT,U,simprocAttr]
   refine .done (hK _ ?_);clear hK K
   refine J.ret ?_
   simp only[bP,al,U,simprocAttr]
   rw[bad _ rfl (by simp[fu,ho])]
  ·cases h
 try simp only[c4,ea,U,simprocAttr]
 refine .flat _ (N1 (cd m i).mark) rfl ?_
 generalize hk:fv (cd m i).mark=bk
 cases bk
 ·try simp only[U,simprocAttr]
  refine .done (hK _ ?_);clear hK K
  refine J.bI ?_
  simp only[aj,U,simprocAttr]
  refine ⟨fun h =>?_,fun h =>?_⟩
  ·refine .ao (by decide +kernel) fun K hK =>?_
   simp only[sT,U,simprocAttr]
   refine .done (hK _ ?_);clear hK K
   refine J.ret ?_
   simp only[bP,al,U,simprocAttr]
   rw[bad _ rfl (by simp[fu,ho,hk])]
  ·cases h
 try simp only[U,simprocAttr]
 generalize hz:decide (0<(i:Int))=bz
 cases bz
 ·have hprev:(i==0||decide ((cd m (i-1)).bQ<(cd m i).bQ))=true:=by simp at hz;simp[hz]
  try simp only[U,simprocAttr]
  refine .done (hK _ ?_);clear hK K
  refine J.bI ?_
  simp only[aj,U,simprocAttr]
  refine ⟨fun h =>?_,fun h =>?_⟩
  ·cases h
  refine J.skip ?_;try simp only[al,simprocAttr]
  refine .ao (by decide +kernel) fun K hK =>?_
  simp only[xb,U,simprocAttr]
  refine .done (hK _ ?_);clear hK K
  refine J.block (J.loop (fun j:Nat=>ar [(1,.ptr 1 []),(3,.int .i64 i),(4,.ptr 4 []),(5,.int .i64 j)] [(1,.box (enc m)),(4,.box (enc (cd m i)))]) (fun j=>j≤i∧∀ k,k<j→(!hJ m (cd m k).mark (cd m i).mark)=true) (fun j=>i-j) 0 ⟨by omega,fun k h=>by omega⟩ ?_ (fun j hj =>?_))
  ·refine az.bR ?_ ?_ ?_ ?_ <;>simp[aT,bN,bM,bg,aq,aU,cw,I.only,ah.only,br]
  refine J.seq (J.seq ?_)
  refine .bD (by decide +kernel) fun K hK =>?_
  simp only[xc,U,simprocAttr]
  refine .done (hK _ ?_);clear hK K;try simp only[al]
  refine J.bI ?_
  simp only[aj,U,simprocAttr]
  refine ⟨fun h =>?_,fun h =>?_⟩
  ·have hji:j<i:=by simp at h;omega
   have hjl:j<m.given.length:=by omega
   refine J.skip ?_;try simp only[al,simprocAttr]
   refine J.seq (J.block ?_)
   refine .ao (by decide +kernel) fun K hK =>?_
   simp only[wY,U,simprocAttr]
   try simp only[c4,nF hjl,ea,U,simprocAttr]
   refine .flat _ (zr m.fA (cd m j).mark (cd m i).mark (tP (hi.2 j hji)) hk) rfl ?_
   try simp only[c4,U,simprocAttr]
   refine .done (hK _ ?_);clear hK K
   refine J.bI ?_
   simp only[aj,U,simprocAttr]
   refine ⟨fun h =>?_,fun h =>?_⟩
   ·refine .ao (by decide +kernel) fun K hK =>?_
    simp only[wZ,U,simprocAttr]
    refine .done (hK _ ?_);clear hK K
    refine J.ret ?_
    simp only[bP,al,U,simprocAttr]
    have hn:hJ m (cd m j).mark (cd m i).mark=true:=h
    have:(List.range i).all (fun j => !hJ m (cd m j).mark (cd m i).mark)=false:=j6 j hji (by rw[hn];rfl)
    rw[bad _ rfl (by simp only[fu,this,Bool.and_false])]
   ·refine J.skip ?_;try simp only[al,bP,simprocAttr]
    refine .bD (by decide +kernel) fun K hK =>?_
    simp only[w0,U,simprocAttr]
    refine .done (hK _ ?_);clear hK K;try simp only[al]
    refine ⟨j+1,⟨by omega,fun k hk' =>?_⟩,by omega,?_⟩
    ·by_cases hkj:k=j
     ·subst hkj
      have hn:hJ m (cd m k).mark (cd m i).mark=false:=h
      rw[hn];rfl
     ·exact hj.2 k (by omega)
    ·rw[cG _ (by omega) (by omega)]
     refine az.bR ?_ ?_ ?_ ?_ <;>simp[aT,bN,bM,bg,aq,aU,cw,I.only,ah.only,br]
  ·have hji:j=i:=by simp at h;omega
   refine J.exit ?_;try simp only[al,bP,simprocAttr]
   refine .bD (by decide +kernel) fun K hK =>?_
   simp only[xa,U,simprocAttr]
   refine .done (hK _ ?_);clear hK K;try simp only[al]
   refine ⟨i+1,⟨by omega,fun k hk' =>?_⟩,by omega,?_⟩
   ·by_cases hki:k=i
    ·have:(List.range i).all (fun j => !hJ m (cd m j).mark (cd m i).mark)=true:=lq fun k hk=>hj.2 k (by omega)
     rw[hki]
     simp only[fu,ho,hk,hprev,this,Bool.and_self]
    ·exact hi.2 k (by omega)
   ·rw[cG _ (by omega) (by omega)]
    refine az.bR ?_ ?_ ?_ ?_ <;>simp[aT,bN,bM,bg,aq,aU,cw,I.only,ah.only,br]
 ·have hpos:0<i:=by simpa using hz
  have hpl:i-1<m.given.length:=by omega
  have hpred:IntKind.i64.wrap ((i:Int)-1)=((i-1:Nat):Int):=by rw[cG _ (by omega) (by omega)];omega
  try simp only[c4,hpred,nF hpl,U,simprocAttr]
  refine .done (hK _ ?_);clear hK K;try simp only[al]
  refine J.bI ?_
  simp only[aj,U,simprocAttr]
  refine ⟨fun h =>?_,fun h =>?_⟩
  ·refine .ao (by decide +kernel) fun K hK =>?_
   simp only[sT,U,simprocAttr]
   refine .done (hK _ ?_);clear hK K
   refine J.ret ?_
   simp only[bP,al,U,simprocAttr]
   have:(i==0||decide ((cd m (i-1)).bQ<(cd m i).bQ))=false:=by simp at h;simp;omega
   rw[bad _ rfl (by simp only[fu,this,Bool.and_false,Bool.false_and])]
  have hprev:(i==0||decide ((cd m (i-1)).bQ<(cd m i).bQ))=true:=by simp at h;simp;omega
  refine J.skip ?_;try simp only[al,simprocAttr]
  refine .ao (by decide +kernel) fun K hK =>?_
  simp only[xb,U,simprocAttr]
  refine .done (hK _ ?_);clear hK K
  refine J.block (J.loop (fun j:Nat=>ar [(1,.ptr 1 []),(3,.int .i64 i),(4,.ptr 4 []),(5,.int .i64 j)] [(1,.box (enc m)),(4,.box (enc (cd m i)))]) (fun j=>j≤i∧∀ k,k<j→(!hJ m (cd m k).mark (cd m i).mark)=true) (fun j=>i-j) 0 ⟨by omega,fun k h=>by omega⟩ ?_ (fun j hj =>?_))
  ·refine az.bR ?_ ?_ ?_ ?_ <;>simp[aT,bN,bM,bg,aq,aU,cw,I.only,ah.only,br]
  refine J.seq (J.seq ?_)
  refine .bD (by decide +kernel) fun K hK =>?_
  simp only[xc,U,simprocAttr]
  refine .done (hK _ ?_);clear hK K;try simp only[al]
  refine J.bI ?_
  simp only[aj,U,simprocAttr]
  refine ⟨fun h =>?_,fun h =>?_⟩
  ·have hji:j<i:=by simp at h;omega
   have hjl:j<m.given.length:=by omega
   refine J.skip ?_;try simp only[al,simprocAttr]
   refine J.seq (J.block ?_)
   refine .ao (by decide +kernel) fun K hK =>?_
   simp only[wY,U,simprocAttr]
   try simp only[c4,nF hjl,ea,U,simprocAttr]
   refine .flat _ (zr m.fA (cd m j).mark (cd m i).mark (tP (hi.2 j hji)) hk) rfl ?_
   try simp only[c4,U,simprocAttr]
   refine .done (hK _ ?_);clear hK K
   refine J.bI ?_
   simp only[aj,U,simprocAttr]
   refine ⟨fun h =>?_,fun h =>?_⟩
   ·refine .ao (by decide +kernel) fun K hK =>?_
    simp only[wZ,U,simprocAttr]
    refine .done (hK _ ?_);clear hK K
    refine J.ret ?_
    simp only[bP,al,U,simprocAttr]
    have hn:hJ m (cd m j).mark (cd m i).mark=true:=h
    have:(List.range i).all (fun j => !hJ m (cd m j).mark (cd m i).mark)=false:=j6 j hji (by rw[hn];rfl)
    rw[bad _ rfl (by simp only[fu,this,Bool.and_false])]
   ·refine J.skip ?_;try simp only[al,bP,simprocAttr]
    refine .bD (by decide +kernel) fun K hK =>?_
    simp only[w0,U,simprocAttr]
    refine .done (hK _ ?_);clear hK K;try simp only[al]
    refine ⟨j+1,⟨by omega,fun k hk' =>?_⟩,by omega,?_⟩
    ·by_cases hkj:k=j
     ·subst hkj
      have hn:hJ m (cd m k).mark (cd m i).mark=false:=h
      rw[hn];rfl
     ·exact hj.2 k (by omega)
    ·rw[cG _ (by omega) (by omega)]
     refine az.bR ?_ ?_ ?_ ?_ <;>simp[aT,bN,bM,bg,aq,aU,cw,I.only,ah.only,br]
  ·have hji:j=i:=by simp at h;omega
   refine J.exit ?_;try simp only[al,bP,simprocAttr]
   refine .bD (by decide +kernel) fun K hK =>?_
   simp only[xa,U,simprocAttr]
   refine .done (hK _ ?_);clear hK K;try simp only[al]
   refine ⟨i+1,⟨by omega,fun k hk' =>?_⟩,by omega,?_⟩
   ·by_cases hki:k=i
    ·have:(List.range i).all (fun j => !hJ m (cd m j).mark (cd m i).mark)=true:=lq fun k hk=>hj.2 k (by omega)
     rw[hki]
     simp only[fu,ho,hk,hprev,this,Bool.and_self]
    ·exact hi.2 k (by omega)
   ·rw[cG _ (by omega) (by omega)]
    refine az.bR ?_ ?_ ?_ ?_ <;>simp[aT,bN,bM,bg,aq,aU,cw,I.only,ah.only,br]
def nf(w:bA 5 Int)(a:bA 6 Int)(r:bA 6 Int)(i:Nat):Bool:=od (w.g (a.g i).toNat) (r.g i)==0
def kF(w:bA 5 Int)(a r:bA 6 Int):Int:=(fF (nf w a r) 6:Int)
theorem N3(w:bA 5 Int)(a b:bA 6 Int)(ha:fv a=true):aw Tryz.prog 102 [enc w,enc a,enc b] (enc (kF w a b)):=by
 refine aw.bp Tryz.func102 QN SK UU (Nat.le_of_ble_eq_true rfl) (fun hwf W0 D0 E1 =>?_)
 simp only[Ar,KK,a6,Nat.zero_add,Nat.reduceAdd]
 refine .ao (by decide +kernel) fun K hK =>?_
 simp only[DU,U,simprocAttr]
 refine .done (hK _ ?_);clear hK K
 refine .ao (by decide +kernel) fun K hK =>?_
 simp only[DV,U,simprocAttr]
 refine .done (hK _ ?_);clear hK K
 refine J.seq (J.seq ?_)
 refine .bD (by decide +kernel) fun K hK =>?_
 simp only[DW,U,simprocAttr]
 refine .done (hK _ ?_);clear hK K;try simp only[al]
 refine J.block (J.loop (fun i:Nat=>ar [(3,.ptr 3 []),(4,.ptr 4 []),(5,.ptr 5 []),(7,.int .i64 (fF (nf w a b) i)),(8,.int .i64 i)] [(3,.box (enc w)),(4,.box (enc a)),(5,.box (enc b))]) (fun i=>i≤6) (fun i=>6-i) 0 (by omega) ?_ (fun i hi =>?_))
 ·simp only[fF]
  refine az.bR ?_ ?_ ?_ ?_ <;>simp[aT,bN,bM,bg,aq,aU,cw,I.only,ah.only,br]
 ·have hc:=vz (nf w a b) i
  refine J.seq (J.seq ?_)
  refine .bD (by decide +kernel) fun K hK =>?_
  simp only[DX,U,simprocAttr]
  refine .done (hK _ ?_);clear hK K;try simp only[al]
  refine J.bI ?_
  simp only[aj,U,simprocAttr]
  refine ⟨fun h =>?_,fun h =>?_⟩
  ·have hlt:i<6:=by simp at h;omega
   have h1:=pY ha hlt
   refine J.skip ?_;try simp only[al,simprocAttr]
   refine J.seq (J.block ?_)
   refine .ao (by decide +kernel) fun K hK =>?_
   simp only[DY,U,simprocAttr]
   have k1:(a.g i).toNat<5:=by omega
   try simp only[bx,kM 1 a hlt rfl,jH a hlt,U,simprocAttr]
   try simp only[bx,pG 1 w h1 rfl,jH w k1,U,simprocAttr]
   try simp only[bx,kM 1 b hlt rfl,jH b hlt,U,simprocAttr]
   refine .done (hK _ ?_);clear hK K
   refine J.bI ?_
   simp only[aj,U,simprocAttr]
   refine ⟨fun h =>?_,fun h =>?_⟩
   ·have hap:nf w a b i=true:=h
    refine .bD (by decide +kernel) fun K hK =>?_
    simp only[DZ,U,simprocAttr]
    refine .done (hK _ ?_);clear hK K;try simp only[al,bP]
    refine .bD (by decide +kernel) fun K hK =>?_
    simp only[wb,U,simprocAttr]
    refine .done (hK _ ?_);clear hK K;try simp only[al]
    refine ⟨i+1,by omega,by omega,?_⟩
    rw[cG _ (by omega) (by omega),cG _ (by omega) (by omega)]
    simp only[fF,hap,if_true]
    refine az.bR ?_ ?_ ?_ ?_ <;>simp[aT,bN,bM,bg,aq,aU,cw,I.only,ah.only,br]
   ·have hap:nf w a b i=false:=h
    refine J.skip ?_;try simp only[al,bP,simprocAttr]
    refine .bD (by decide +kernel) fun K hK =>?_
    simp only[wb,U,simprocAttr]
    refine .done (hK _ ?_);clear hK K;try simp only[al]
    refine ⟨i+1,by omega,by omega,?_⟩
    rw[cG _ (by omega) (by omega)]
    simp only[fF,hap,Bool.false_eq_true,if_false]
    refine az.bR ?_ ?_ ?_ ?_ <;>simp[aT,bN,bM,bg,aq,aU,cw,I.only,ah.only,br]
  ·have hge:i=6:=by simp at h;omega
   subst hge
   refine J.exit ?_;try simp only[al,bP,simprocAttr]
   refine .ao (by decide +kernel) fun K hK =>?_
   simp only[D4,U,simprocAttr]
   refine .done (hK _ ?_);clear hK K
   refine J.ret ?_
   simp only[U,simprocAttr]
   rfl
def kj(r:bA 6 Int):Bool:=(List.range 6).all fun i=>b7 1 31 (r.g i)
theorem zl(m:bA 6 Int):aw Tryz.prog 101 [enc m] (enc (if kj m then (0:Int) else 12)):=N2 m
theorem pS:I.slice 1 []=enc ([]:List Int):=rfl
def NX:bA 6 Int:=⟨List.replicate 6 0,rfl⟩
instance:n8 cA:=⟨fun g=>by
 show (I.agg [.int .i64 g.bQ,enc g.mark]).cY=true
 simp only[I.cY,I.iZ,C2,Bool.and_self]⟩
def gf:cA:=⟨0,NX⟩
theorem vI:I.agg [.int .i64 0,.agg [.int .i64 0,.int .i64 0,.int .i64 0,.int .i64 0,.int .i64 0,.int .i64 0]]=enc gf:=rfl
theorem mA(p:Nat→Bool)(l:List cA):(I.agg (l.map enc)).only p=true:=by simp only[I.only];exact ec p l
theorem aiO(l:List cA):(I.agg (l.map enc)).cY=true:=by simp only[I.cY];exact xQ l
def iG(k:Nat)(l:List cA)(m:Nat):List (Nat×ah):=[(k,.box (.agg ((l++List.replicate m gf).map enc)))]
def vw(l:List cA):cV:=fun r os'=>(l=[]∧(r=.nils 7∨r=.c0 7)∧os'=[])∨(l≠[]∧∃ m,r=.view 7 [] 7 0 l.length∧os'=iG 7 l m)
theorem zC(l:List cA)(hl:l.length≤1000):cH Tryz.prog 167 [enc l] [] (vw l):=by
 refine cH.bp Tryz.func167 Rz Tx VG (Nat.le_of_ble_eq_true rfl) (Nat.le_of_ble_eq_true rfl) (fun m hm=>by simp[aq,ak] at hm) (fun hwf W0 D0 E1 =>?_)
 simp only[Bi,Lv,a6]
 refine .ao (by decide +kernel) fun K hK =>?_
 simp only[Gz,U,simprocAttr]
 refine .done (hK _ ?_);clear hK K
 refine J.seq (J.seq ?_)
 by_cases hn:l=[]
 ·subst hn
  refine .bD (by decide +kernel) fun K hK =>?_
  simp only[wK,U,simprocAttr]
  simp only[uz,List.isEmpty_nil,pT]
  refine .any rfl fun b _ =>?_
  try simp only[U,simprocAttr]
  generalize (b==0)=t
  cases t
  ·refine .done (hK _ ?_);clear hK K;try simp only[al]
   refine J.bI ?_
   simp only[aj,U,simprocAttr]
   refine ⟨fun h =>?_,fun h =>?_⟩
   ·cases h
   refine J.skip ?_;try simp only[al,simprocAttr]
   refine .ao (by decide +kernel) fun K hK =>?_
   simp only[wL,U,simprocAttr]
   try simp only[df,vI,U,simprocAttr]
   refine .done (hK _ ?_);clear hK K
   refine J.ret ?_
   simp only[fP]
   exact ⟨[],[.c0 7],qG,⟨⟨.c0 7,rfl,.inl ⟨rfl,rfl,rfl⟩⟩,trivial⟩,.inl ⟨rfl,.inr rfl,rfl⟩⟩
  ·refine .done (hK _ ?_);clear hK K
   refine J.bI ?_
   simp only[aj,U,simprocAttr]
   refine ⟨fun h =>?_,fun h =>?_⟩
   ·refine .ao (by decide +kernel) fun K hK =>?_
    simp only[GA,U,simprocAttr]
    refine .done (hK _ ?_);clear hK K
    refine J.ret ?_
    simp only[al,fP]
    exact ⟨[],[.nils 7],qG,⟨⟨.nils 7,rfl,.inl ⟨rfl,rfl,rfl⟩⟩,trivial⟩,.inl ⟨rfl,.inl rfl,rfl⟩⟩
   ·cases h
 ·have hu:j4 (enc l)=false:=by rw[uz];simpa using hn
  refine .bD (by decide +kernel) fun K hK =>?_
  simp only[wK,U,simprocAttr]
  try simp only[hu,J1 _ l hn,U,simprocAttr]
  refine .done (hK _ ?_);clear hK K;try simp only[al]
  refine J.bI ?_
  simp only[aj,U,simprocAttr]
  refine ⟨fun h =>?_,fun h =>?_⟩
  ·cases h
  refine J.skip ?_;try simp only[al,simprocAttr]
  refine .ao (by decide +kernel) fun K hK =>?_
  simp only[wL,U,simprocAttr]
  try simp only[df,vI,U,simprocAttr]
  refine bj.oa gf rfl hn rfl (by omega) (by simp only[maxLen];omega) fun m =>?_
  try simp only[U,simprocAttr]
  refine .done (hK _ ?_);clear hK K
  refine J.ret ?_
  simp only[fP]
  exact ⟨iG 7 l m,[.view 7 [] 7 0 l.length],nu rfl (fun p=>mA p _),⟨⟨_,rfl,.inl ⟨rfl,rfl,rfl⟩⟩,trivial⟩,.inr ⟨hn,m,rfl,rfl⟩⟩
structure Item where
 eE:Int
 no:Int
 deriving DecidableEq
instance:Enc Item where
 enc x:=.agg [.int .i64 x.eE,.int .i64 x.no]
 sz:=2
 aQ:=.eg [.one,.one]
 fV:=true
 done _:=rfl
 size _:=by simp[I.size,I.sizes]
 jX _:=by simp[I.aQ,I.cR]
 agg _:=rfl
structure au where
 da:Item
 kind:Int
 day:Int
 known:Int
 c5:Int
 dP:Int
 er:Int
 bQ:Int
 bu:bA 6 Int
 gY:Item
instance:Enc au where
 enc e:=.agg [enc e.da,.int .i64 e.kind,.int .i64 e.day,.int .i64 e.known,.int .i64 e.c5,.int .i64 e.dP,.int .i64 e.er,.int .i64 e.bQ,enc e.bu,enc e.gY]
 sz:=17
 aQ:=.eg [.eg [.one,.one],.one,.one,.one,.one,.one,.one,.one,.eg (List.replicate 6 .one),.eg [.one,.one]]
 fV:=true
 done e:=by simp only[I.done,I.eQ,Enc.done,Bool.and_self]
 size e:=by simp only[I.size,I.sizes,iQ,mi,mj];rfl
 jX e:=by simp only[I.aQ,I.cR,eD,vK,vL];rfl
 agg _:=rfl
structure aA where
 no:Int
 er:Int
 dP:Int
 bQ:Int
 fg:Int
 born:Int
 dA:Int
 found:Bool
 bu:List (bA 6 Int)
instance:Enc aA where
 enc b:=.agg [.int .i64 b.no,.int .i64 b.er,.int .i64 b.dP,.int .i64 b.bQ,.int .i64 b.fg,.int .i64 b.born,.int .i64 b.dA,.bool b.found,enc b.bu]
 sz:=9
 aQ:=.eg [.one,.one,.one,.one,.one,.one,.one,.one,.one]
 fV:=true
 done e:=by simp only[I.done,I.eQ,Enc.done,Bool.and_self]
 size e:=by simp only[I.size,I.sizes,iQ,qy]
 jX e:=by simp only[I.aQ,I.cR,eD,C3]
 agg _:=rfl
theorem sC:Enc.sz Item=2:=rfl
theorem Yf:Enc.sz au=17:=rfl
theorem C4:Enc.sz aA=9:=rfl
theorem Ye:Enc.fV Item=true:=rfl
theorem Yd:Enc.fV au=true:=rfl
theorem Yc:Enc.fV aA=true:=rfl
theorem aik(fs:List I)(x:I):(x::fs)[0]?=some x:=rfl
theorem aiu(fs:List I)(x:I)(n:Nat):(x::fs)[n+1]?=fs[n]?:=rfl
theorem ail(fs:List I)(x:I):(x::fs)[1]?=fs[0]?:=rfl
theorem aim(fs:List I)(x:I):(x::fs)[2]?=fs[1]?:=rfl
theorem ain(fs:List I)(x:I):(x::fs)[3]?=fs[2]?:=rfl
theorem aio(fs:List I)(x:I):(x::fs)[4]?=fs[3]?:=rfl
theorem aip(fs:List I)(x:I):(x::fs)[5]?=fs[4]?:=rfl
theorem aiq(fs:List I)(x:I):(x::fs)[6]?=fs[5]?:=rfl
theorem air(fs:List I)(x:I):(x::fs)[7]?=fs[6]?:=rfl
theorem ais(fs:List I)(x:I):(x::fs)[8]?=fs[7]?:=rfl
theorem ait(fs:List I)(x:I):(x::fs)[9]?=fs[8]?:=rfl
theorem ajY(x:I)(fs:List I)(v:I):dI (x::fs) 0 0 v=some v:=mH (by simp) (by simp[I.sizes])
theorem nJ(a b:Item)(n1 n2 n3 n4 n5 n6 n7:Int)(s:bA 6 Int)(v:I) :
  (dI [enc a,.int .i64 n1,.int .i64 n2,.int .i64 n3,.int .i64 n4,.int .i64 n5,.int .i64 n6,.int .i64 n7,enc s,enc b] 1 2 v=some v) ∧
  (dI [enc a,.int .i64 n1,.int .i64 n2,.int .i64 n3,.int .i64 n4,.int .i64 n5,.int .i64 n6,.int .i64 n7,enc s,enc b] 2 3 v=some v) ∧
  (dI [enc a,.int .i64 n1,.int .i64 n2,.int .i64 n3,.int .i64 n4,.int .i64 n5,.int .i64 n6,.int .i64 n7,enc s,enc b] 3 4 v=some v) ∧
  (dI [enc a,.int .i64 n1,.int .i64 n2,.int .i64 n3,.int .i64 n4,.int .i64 n5,.int .i64 n6,.int .i64 n7,enc s,enc b] 4 5 v=some v) ∧
  (dI [enc a,.int .i64 n1,.int .i64 n2,.int .i64 n3,.int .i64 n4,.int .i64 n5,.int .i64 n6,.int .i64 n7,enc s,enc b] 5 6 v=some v) ∧
  (dI [enc a,.int .i64 n1,.int .i64 n2,.int .i64 n3,.int .i64 n4,.int .i64 n5,.int .i64 n6,.int .i64 n7,enc s,enc b] 6 7 v=some v) ∧
  (dI [enc a,.int .i64 n1,.int .i64 n2,.int .i64 n3,.int .i64 n4,.int .i64 n5,.int .i64 n6,.int .i64 n7,enc s,enc b] 7 8 v=some v) ∧
  (dI [enc a,.int .i64 n1,.int .i64 n2,.int .i64 n3,.int .i64 n4,.int .i64 n5,.int .i64 n6,.int .i64 n7,enc s,enc b] 8 9 v=some v) ∧
  (dI [enc a,.int .i64 n1,.int .i64 n2,.int .i64 n3,.int .i64 n4,.int .i64 n5,.int .i64 n6,.int .i64 n7,enc s,enc b] 9 15 v=some v):=by
 refine ⟨?_,?_,?_,?_,?_,?_,?_,?_,?_⟩ <;>refine mH (Nat.le_of_ble_eq_true rfl) ?_ <;>simp[I.sizes,I.size,iQ,sC,mi,mj]
theorem ajX(n1 n2:Int)(v:I):dI [.int .i64 n1,.int .i64 n2] 1 1 v=some v:=mH (Nat.le_of_ble_eq_true rfl) (by simp[I.sizes,I.size])
theorem fO(n0 n1 n2 n3 n4 n5 n6:Int)(f:Bool)(x:I)(v:I) :
  (dI [.int .i64 n0,.int .i64 n1,.int .i64 n2,.int .i64 n3,.int .i64 n4,.int .i64 n5,.int .i64 n6,.bool f,x] 1 1 v=some v) ∧
  (dI [.int .i64 n0,.int .i64 n1,.int .i64 n2,.int .i64 n3,.int .i64 n4,.int .i64 n5,.int .i64 n6,.bool f,x] 2 2 v=some v) ∧
  (dI [.int .i64 n0,.int .i64 n1,.int .i64 n2,.int .i64 n3,.int .i64 n4,.int .i64 n5,.int .i64 n6,.bool f,x] 3 3 v=some v) ∧
  (dI [.int .i64 n0,.int .i64 n1,.int .i64 n2,.int .i64 n3,.int .i64 n4,.int .i64 n5,.int .i64 n6,.bool f,x] 4 4 v=some v) ∧
  (dI [.int .i64 n0,.int .i64 n1,.int .i64 n2,.int .i64 n3,.int .i64 n4,.int .i64 n5,.int .i64 n6,.bool f,x] 5 5 v=some v) ∧
  (dI [.int .i64 n0,.int .i64 n1,.int .i64 n2,.int .i64 n3,.int .i64 n4,.int .i64 n5,.int .i64 n6,.bool f,x] 6 6 v=some v) ∧
  (dI [.int .i64 n0,.int .i64 n1,.int .i64 n2,.int .i64 n3,.int .i64 n4,.int .i64 n5,.int .i64 n6,.bool f,x] 7 7 v=some v) ∧
  (dI [.int .i64 n0,.int .i64 n1,.int .i64 n2,.int .i64 n3,.int .i64 n4,.int .i64 n5,.int .i64 n6,.bool f,x] 8 8 v=some v):=by
 refine ⟨?_,?_,?_,?_,?_,?_,?_,?_⟩ <;>refine mH (Nat.le_of_ble_eq_true rfl) ?_ <;>simp[I.sizes,I.size]
theorem Yx(x:Item):(enc x).di=some [.int .i64 x.eE,.int .i64 x.no]:=rfl
theorem Yw(e:au):(enc e).di=some [enc e.da,.int .i64 e.kind,.int .i64 e.day,.int .i64 e.known,.int .i64 e.c5,.int .i64 e.dP,.int .i64 e.er,.int .i64 e.bQ,enc e.bu,enc e.gY]:=rfl
theorem Yv(b:aA):(enc b).di=some [.int .i64 b.no,.int .i64 b.er,.int .i64 b.dP,.int .i64 b.bQ,.int .i64 b.fg,.int .i64 b.born,.int .i64 b.dA,.bool b.found,enc b.bu]:=rfl
theorem Kh(x:Item):b5 (some 2) (enc x)=true:=by simp[fS,Ye,sC]
theorem Kg(x:au):b5 (some 17) (enc x)=true:=by simp[fS,Yd,Yf]
theorem aj7(x:aA):b5 (some 9) (enc x)=true:=by simp[fS,Yc,C4]
theorem Kf(x:bA 6 Int):b5 (some 6) (enc x)=true:=by simp[fS,vJ,mi,mj]
theorem aj8(x:List au):b5 none (enc x)=true:=by simp[kI,nj]
theorem aj9(x:List Int):b5 none (enc x)=true:=by simp[kI,nj]
theorem akb(x:List (bA 6 Int)):b5 none (enc x)=true:=by simp[kI,nj]
theorem aka(x:List Item):b5 none (enc x)=true:=by simp[kI,nj]
theorem kZ :
  (∀ x:Item,(enc x).di=some [.int .i64 x.eE,.int .i64 x.no])∧(∀ e:au,(enc e).di=some [enc e.da,.int .i64 e.kind,.int .i64 e.day,.int .i64 e.known,.int .i64 e.c5,.int .i64 e.dP,.int .i64 e.er,.int .i64 e.bQ,enc e.bu,enc e.gY]) ∧
  (∀ b:aA,(enc b).di=some [.int .i64 b.no,.int .i64 b.er,.int .i64 b.dP,.int .i64 b.bQ,.int .i64 b.fg,.int .i64 b.born,.int .i64 b.dA,.bool b.found,enc b.bu]) ∧
  (∀ (x:I) fs v,dI (x::fs) 0 0 v=some v)∧(∀ n1 n2 v,dI [.int .i64 n1,.int .i64 n2] 1 1 v=some v) ∧
  (∀ x:Item,b5 (some 2) (enc x)=true)∧(∀ x:au,b5 (some 17) (enc x)=true)∧(∀ x:aA,b5 (some 9) (enc x)=true)∧(∀ x:bA 6 Int,b5 (some 6) (enc x)=true)∧(∀ x:List au,b5 none (enc x)=true)∧(∀ x:List Int,b5 none (enc x)=true) ∧
  (∀ x:List (bA 6 Int),b5 none (enc x)=true)∧(∀ x:List Item,b5 none (enc x)=true) ∧
  (∀ (fs:List I) x,(x::fs)[0]?=some x)∧(∀ (fs:List I) x n,(x::fs)[n+1]?=fs[n]?)∧(∀ (fs:List I) x,(x::fs)[1]?=fs[0]?)∧(∀ (fs:List I) x,(x::fs)[2]?=fs[1]?)∧(∀ (fs:List I) x,(x::fs)[3]?=fs[2]?)∧(∀ (fs:List I) x,(x::fs)[4]?=fs[3]?) ∧
  (∀ (fs:List I) x,(x::fs)[5]?=fs[4]?)∧(∀ (fs:List I) x,(x::fs)[6]?=fs[5]?)∧(∀ (fs:List I) x,(x::fs)[7]?=fs[6]?)∧(∀ (fs:List I) x,(x::fs)[8]?=fs[7]?)∧(∀ (fs:List I) x,(x::fs)[9]?=fs[8]?) :=
 ⟨Yx,Yw,Yv,fun x fs v=>ajY x fs v,ajX,Kh,Kg,aj7,Kf,aj8,aj9,akb,aka,aik,aiu,ail,aim,ain,aio,aip,aiq,air,ais,ait⟩
theorem Item.Yu(a b:Item):a=b↔a.eE=b.eE∧a.no=b.no:=by cases a;cases b;simp
theorem qz(x y:Item):ca (.bl [.i .i64,.i .i64]) (enc x) (enc y)=some (decide (x=y)):=by
 show ca (.bl [.i .i64,.i .i64]) (.agg [.int .i64 x.eE,.int .i64 x.no]) (.agg [.int .i64 y.eE,.int .i64 y.no])=_
 simp[ca,iR,ir,Item.Yu];rfl
theorem zE(x:Int):aw Tryz.prog 194 [enc x] (enc false):=by
 refine aw.bp Tryz.func194 RN TM VV (Nat.le_of_ble_eq_true rfl) (fun hwf W0 D0 E1 =>?_)
 simp only[By,LL,a6]
 refine .ao (by decide +kernel) fun K hK =>?_
 simp only[GX,U,simprocAttr]
 refine .done (hK _ ?_);clear hK K
 refine .ao (by decide +kernel) fun K hK =>?_
 simp only[GY,U,simprocAttr]
 refine .done (hK _ ?_);clear hK K
 refine J.ret ?_
 simp only[U,simprocAttr]
 simp
def jJ(x y:Int):Int:=if x<y then -1 else if y<x then 1 else 0
theorem zy(x y:Int):aw Tryz.prog 159 [enc x,enc y] (enc (jJ x y)):=by
 refine aw.bp Tryz.func159 Rq Tn Vx (Nat.le_of_ble_eq_true rfl) (fun hwf W0 D0 E1 =>?_)
 simp only[A9,Lm,a6,Nat.zero_add]
 refine .ao (by decide +kernel) fun K hK =>?_
 simp only[F3,U,simprocAttr]
 refine .done (hK _ ?_);clear hK K
 refine .ao (by decide +kernel) fun K hK =>?_
 simp only[F4,U,simprocAttr]
 refine .flat _ (zE x) rfl ?_
 try simp only[U,simprocAttr]
 refine .done (hK _ ?_);clear hK K
 refine .ao (by decide +kernel) fun K hK =>?_
 simp only[F9,U,simprocAttr]
 refine .flat _ (zE y) rfl ?_
 try simp only[U,simprocAttr]
 refine .done (hK _ ?_);clear hK K
 refine J.seq ?_
 refine .ao (by decide +kernel) fun K hK =>?_
 simp only[Ga,U,simprocAttr]
 refine .done (hK _ ?_);clear hK K
 refine J.bI ?_
 simp only[aj,U,simprocAttr]
 refine ⟨fun h =>?_,fun h =>?_⟩
 ·cases h
 refine J.skip ?_;try simp only[al,simprocAttr]
 refine J.seq ?_
 refine .ao (by decide +kernel) fun K hK =>?_
 simp only[Gb,U,simprocAttr]
 refine .done (hK _ ?_);clear hK K
 refine J.bI ?_
 simp only[aj,U,simprocAttr]
 refine ⟨fun h =>?_,fun h =>?_⟩
 ·cases h
 refine J.skip ?_;try simp only[al,simprocAttr]
 refine J.seq ?_
 refine .ao (by decide +kernel) fun K hK =>?_
 simp only[Gc,U,simprocAttr]
 refine .done (hK _ ?_);clear hK K
 refine J.bI ?_
 simp only[aj,U,simprocAttr]
 refine ⟨fun h =>?_,fun h =>?_⟩
 ·refine .ao (by decide +kernel) fun K hK =>?_
  simp only[F5,U,simprocAttr]
  refine .done (hK _ ?_);clear hK K
  refine J.ret ?_
  simp only[al,U,simprocAttr]
  have:x<y:=by simpa using h
  simp[jJ,this]
 have h1:¬ x<y:=by simpa using h
 refine J.skip ?_;try simp only[al,simprocAttr]
 refine J.seq ?_
 refine .ao (by decide +kernel) fun K hK =>?_
 simp only[F6,U,simprocAttr]
 refine .done (hK _ ?_);clear hK K
 refine J.bI ?_
 simp only[aj,U,simprocAttr]
 refine ⟨fun h =>?_,fun h =>?_⟩
 ·refine .ao (by decide +kernel) fun K hK =>?_
  simp only[F7,U,simprocAttr]
  refine .done (hK _ ?_);clear hK K
  refine J.ret ?_
  simp only[al,U,simprocAttr]
  have:y<x:=by simpa using h
  simp[jJ,this,h1]
 have h2:¬ y<x:=by simpa using h
 refine J.skip ?_;try simp only[al,simprocAttr]
 refine .ao (by decide +kernel) fun K hK =>?_
 simp only[F8,U,simprocAttr]
 refine .done (hK _ ?_);clear hK K
 refine J.ret ?_
 simp only[U,simprocAttr]
 simp[jJ,h1,h2]
theorem Am(a b:Int):eB [.int .i64 0,.int .i64 0] [(0,.int .i64 a),(1,.int .i64 b)]=some [.int .i64 a,.int .i64 b]:=by simp[eB,I.cq,I.size]
theorem l8(n lo hi:Int):aw Tryz.prog 114 [enc n,enc lo,enc hi] (enc (b7 lo hi n)):=by
 refine aw.bp Tryz.func114 QR SN UY (Nat.le_of_ble_eq_true rfl) (fun hwf W0 D0 E1 =>?_)
 simp only[Av,KN,a6,Nat.zero_add,Nat.reduceAdd]
 refine .ao (by decide +kernel) fun K hK =>?_
 simp only[Ec,U,simprocAttr]
 refine .done (hK _ ?_);clear hK K
 refine .ao (by decide +kernel) fun K hK =>?_
 simp only[Ed,U,simprocAttr]
 refine .guard (fun h =>?_) (fun h =>?_)
 ·simp only[U,simprocAttr,h]
  refine .done (hK _ ?_);clear hK K
  refine J.ret ?_
  simp only[U,simprocAttr]
  simp_all[b7]
 ·simp only[U,simprocAttr,h]
  refine .done (hK _ ?_);clear hK K
  refine J.ret ?_
  simp only[U,simprocAttr]
  simp at h
  simp[b7];omega
theorem nY(n lo hi:Int):aw Tryz.prog 94 [enc n,enc lo,enc hi] (enc (b7 lo hi n)):=qk n lo hi
def my(x:Item):Bool:=b7 0 5 x.eE&&b7 0 9999 x.no
theorem uK(n:Int):aw Tryz.prog 127 [enc n] (enc (b7 0 100000 n)):=by
 refine aw.bp Tryz.func127 Q4 S1 Vb (Nat.le_of_ble_eq_true rfl) (fun hwf W0 D0 E1 =>?_)
 simp only[AJ,K0,a6]
 refine .ao (by decide +kernel) fun K hK =>?_
 simp only[EK,U,simprocAttr]
 refine .done (hK _ ?_);clear hK K
 refine .ao (by decide +kernel) fun K hK =>?_
 simp only[EL,U,simprocAttr]
 refine .flat _ (l8 n 0 100000) rfl ?_
 try simp only[U,simprocAttr]
 refine .done (hK _ ?_);clear hK K
 refine J.ret ?_
 simp only[U,simprocAttr]
theorem Ox(n:Int):aw Tryz.prog 154 [enc n] (enc (b7 1 9999 n)):=by
 refine aw.bp Tryz.func154 Rl Ti Vs (Nat.le_of_ble_eq_true rfl) (fun hwf W0 D0 E1 =>?_)
 simp only[A4,Lh,a6]
 refine .ao (by decide +kernel) fun K hK =>?_
 simp only[FJ,U,simprocAttr]
 refine .done (hK _ ?_);clear hK K
 refine .ao (by decide +kernel) fun K hK =>?_
 simp only[FK,U,simprocAttr]
 refine .flat _ (l8 n 1 9999) rfl ?_
 try simp only[U,simprocAttr]
 refine .done (hK _ ?_);clear hK K
 refine J.ret ?_
 simp only[U,simprocAttr]
theorem Oy(n:Int):aw Tryz.prog 155 [enc n] (enc (b7 1 9 n)):=by
 refine aw.bp Tryz.func155 Rm Tj Vt (Nat.le_of_ble_eq_true rfl) (fun hwf W0 D0 E1 =>?_)
 simp only[A5,Li,a6]
 refine .ao (by decide +kernel) fun K hK =>?_
 simp only[FL,U,simprocAttr]
 refine .done (hK _ ?_);clear hK K
 refine .ao (by decide +kernel) fun K hK =>?_
 simp only[FM,U,simprocAttr]
 refine .flat _ (l8 n 1 9) rfl ?_
 try simp only[U,simprocAttr]
 refine .done (hK _ ?_);clear hK K
 refine J.ret ?_
 simp only[U,simprocAttr]
theorem Oz(n:Int):aw Tryz.prog 156 [enc n] (enc (b7 1 99 n)):=by
 refine aw.bp Tryz.func156 Rn Tk Vu (Nat.le_of_ble_eq_true rfl) (fun hwf W0 D0 E1 =>?_)
 simp only[A6,Lj,a6]
 refine .ao (by decide +kernel) fun K hK =>?_
 simp only[FN,U,simprocAttr]
 refine .done (hK _ ?_);clear hK K
 refine .ao (by decide +kernel) fun K hK =>?_
 simp only[FO,U,simprocAttr]
 refine .flat _ (l8 n 1 99) rfl ?_
 try simp only[U,simprocAttr]
 refine .done (hK _ ?_);clear hK K
 refine J.ret ?_
 simp only[U,simprocAttr]
theorem uR(n:Int):aw Tryz.prog 75 [enc n] (enc (b7 0 100000 n)):=by
 refine aw.bp Tryz.func75 Sl Um Wt (Nat.le_of_ble_eq_true rfl) (fun hwf W0 D0 E1 =>?_)
 simp only[B7,Mj,a6]
 refine .ao (by decide +kernel) fun K hK =>?_
 simp only[IN,U,simprocAttr]
 refine .done (hK _ ?_);clear hK K
 refine .ao (by decide +kernel) fun K hK =>?_
 simp only[IP,U,simprocAttr]
 refine .flat _ (nY n 0 100000) rfl ?_
 try simp only[U,simprocAttr]
 refine .done (hK _ ?_);clear hK K
 refine J.ret ?_
 simp only[U,simprocAttr]
theorem zm(x:Item):aw Tryz.prog 115 [enc x] (enc (my x)):=by
 refine aw.bp Tryz.func115 QS SO UZ (Nat.le_of_ble_eq_true rfl) (fun hwf W0 D0 E1 =>?_)
 simp only[Aw,KO,a6]
 refine .ao (by decide +kernel) fun K hK =>?_
 simp only[Ee,U,simprocAttr]
 try simp only[dG,U,simprocAttr]
 refine .done (hK _ ?_);clear hK K
 refine .ao (by decide +kernel) fun K hK =>?_
 simp only[Ef,U,simprocAttr]
 try simp only[kZ,U,simprocAttr]
 refine .flat _ (l8 x.eE 0 5) rfl ?_
 try simp only[U,simprocAttr]
 cases h1:b7 0 5 x.eE with
 |false =>
  try simp only[U,simprocAttr]
  refine .done (hK _ ?_);clear hK K
  refine J.ret ?_
  simp only[U,simprocAttr]
  simp[my,h1]
 |true =>
  try simp only[kZ,U,simprocAttr]
  refine .flat _ (l8 x.no 0 9999) rfl ?_
  try simp only[U,simprocAttr]
  refine .done (hK _ ?_);clear hK K
  refine J.ret ?_
  simp only[U,simprocAttr]
  simp[my,h1]
theorem zn(x:Item):aw Tryz.prog 116 [enc x] (enc (my x)):=by
 refine aw.bp Tryz.func116 QT SP U0 (Nat.le_of_ble_eq_true rfl) (fun hwf W0 D0 E1 =>?_)
 simp only[Ax,KP,a6]
 refine .ao (by decide +kernel) fun K hK =>?_
 simp only[Eg,U,simprocAttr]
 try simp only[dG,U,simprocAttr]
 refine .done (hK _ ?_);clear hK K
 refine .ao (by decide +kernel) fun K hK =>?_
 simp only[Ei,U,simprocAttr]
 try simp only[kZ,U,simprocAttr]
 refine .flat _ (nY x.eE 0 5) rfl ?_
 try simp only[U,simprocAttr]
 cases h1:b7 0 5 x.eE with
 |false =>
  try simp only[U,simprocAttr]
  refine .done (hK _ ?_);clear hK K
  refine J.ret ?_
  simp only[U,simprocAttr]
  simp[my,h1]
 |true =>
  try simp only[kZ,U,simprocAttr]
  refine .flat _ (nY x.no 0 9999) rfl ?_
  try simp only[U,simprocAttr]
  refine .done (hK _ ?_);clear hK K
  refine J.ret ?_
  simp only[U,simprocAttr]
  simp[my,h1]
def before(a b:Item):Bool:=decide (a.eE<b.eE)||(decide (a.eE=b.eE)&&decide (a.no<b.no))
theorem zp(a b:Item):aw Tryz.prog 119 [enc a,enc b] (enc (before a b)):=by
 refine aw.bp Tryz.func119 QW SS U3 (Nat.le_of_ble_eq_true rfl) (fun hwf W0 D0 E1 =>?_)
 simp only[AA,KS,a6,Nat.zero_add]
 refine .ao (by decide +kernel) fun K hK =>?_
 simp only[Eo,U,simprocAttr]
 try simp only[dG,U,simprocAttr]
 refine .done (hK _ ?_);clear hK K
 refine .ao (by decide +kernel) fun K hK =>?_
 simp only[Ep,U,simprocAttr]
 try simp only[kZ,U,simprocAttr]
 cases h1:decide (a.eE<b.eE) with
 |true =>
  try simp only[U,simprocAttr]
  refine .done (hK _ ?_);clear hK K
  refine J.ret ?_
  simp only[U,simprocAttr]
  simp[before,h1]
 |false =>
  try simp only[kZ,U,simprocAttr]
  cases h2:(a.eE==b.eE) with
  |false =>
   try simp only[U,simprocAttr]
   refine .done (hK _ ?_);clear hK K
   refine J.ret ?_
   simp only[U,simprocAttr]
   simp at h1 h2
   simp[before];omega
  |true =>
   try simp only[kZ,U,simprocAttr]
   refine .done (hK _ ?_);clear hK K
   refine J.ret ?_
   simp only[U,simprocAttr]
   simp at h1 h2
   simp[before,h2]
def mJ:List Int→Int
 | []=>0
 |x::l=>if x≠0 then x else mJ l
theorem Ku{l:List Int}{i:Nat}(hi:i≤l.length)(h:∀ k,k<i→l.getD k 0=0):mJ (l.drop i)=mJ l:=by
 induction i with
 |zero=>simp
 |succ i ih =>
  have hlt:i<l.length:=by omega
  rw[←ih (by omega) (fun k hk=>h k (by omega)),List.drop_eq_getElem_cons hlt]
  have:=h i (by omega)
  rw[List.getD_eq_getElem?_getD,List.getElem?_eq_getElem hlt] at this
  simp at this
  simp[mJ,this]
theorem OA(l:List Int):aw Tryz.prog 158 [enc l] (enc (mJ l)):=by
 refine aw.bp Tryz.func158 Rp Tm Vw (Nat.le_of_ble_eq_true rfl) (fun hwf W0 D0 E1 =>?_)
 simp only[A8,Ll,a6]
 have hlen:l.length≤maxLen:=((ku l).1 hwf.1).1
 simp only[maxLen] at hlen
 refine .ao (by decide +kernel) fun K hK =>?_
 simp only[FU,U,simprocAttr]
 refine .done (hK _ ?_);clear hK K
 refine .ao (by decide +kernel) fun K hK =>?_
 simp only[FV,U,simprocAttr]
 refine .done (hK _ ?_);clear hK K
 refine J.seq (J.seq ?_)
 refine .bD (by decide +kernel) fun K hK =>?_
 simp only[FW,U,simprocAttr]
 try simp only[bx,U,simprocAttr]
 refine .done (hK _ ?_);clear hK K;try simp only[al]
 refine J.block (J.loop (fun i:Nat=>ar [(3,.int .i64 0),(6,enc l),(7,.int .i64 l.length),(8,.int .i64 i)] []) (fun i=>i≤l.length∧∀ k,k<i→l.getD k 0=0) (fun i=>l.length-i) 0 ⟨Nat.zero_le _,by intro k hk;omega⟩ ?_ (fun i hi =>?_))
 ·refine az.bR ?_ ?_ ?_ ?_ <;>simp[aT,bN,bM,bg,aU,I.only,br]
 refine .ao (by decide +kernel) fun K hK =>?_
 simp only[FX,U,simprocAttr]
 refine .done (hK _ ?_);clear hK K
 refine J.seq ?_
 refine J.bI ?_
 simp only[aj,U,simprocAttr]
 refine ⟨fun h =>?_,fun h =>?_⟩
 ·have hlt:i<l.length:=by simpa using h
  refine J.skip ?_;try simp only[al,simprocAttr]
  refine J.seq (J.block ?_)
  refine .ao (by decide +kernel) fun K hK =>?_
  simp only[FY,U,simprocAttr]
  try simp only[ew 1 hlt rfl,U,simprocAttr]
  refine .done (hK _ ?_);clear hK K
  refine J.seq ?_
  refine .bD (by decide +kernel) fun K hK =>?_
  simp only[FZ,U,simprocAttr]
  refine .done (hK _ ?_);clear hK K;try simp only[al]
  refine J.bI ?_
  simp only[aj,U,simprocAttr]
  refine ⟨fun h =>?_,fun h =>?_⟩
  ·refine .ao (by decide +kernel) fun K hK =>?_
   simp only[F0,U,simprocAttr]
   refine .done (hK _ ?_);clear hK K
   refine J.ret ?_
   simp only[bP,al,U,simprocAttr]
   rw[←Ku hi.1 hi.2,List.drop_eq_getElem_cons hlt]
   simp at h
   simp[mJ,h]
  ·refine J.skip ?_;try simp only[al,bP,simprocAttr]
   refine .bD (by decide +kernel) fun K hK =>?_
   simp only[F1,U,simprocAttr]
   refine .done (hK _ ?_);clear hK K;try simp only[al]
   refine ⟨i+1,⟨by omega,fun k hk =>?_⟩,by omega,?_⟩
   ·by_cases e:k=i
    ·subst e
     simp at h
     simp[List.getD_eq_getElem?_getD,hlt,h]
    ·exact hi.2 k (by omega)
   ·rw[cG _ (by omega) (by omega)]
    refine az.bR ?_ ?_ ?_ ?_ <;>simp[aT,bN,bM,bg,aU,I.only,br]
 have hie:i=l.length:=by simp at h;omega
 refine J.exit ?_;try simp only[al,bP,simprocAttr]
 refine .ao (by decide +kernel) fun K hK =>?_
 simp only[F2,U,simprocAttr]
 refine .done (hK _ ?_);clear hK K
 refine J.ret ?_
 simp only[U,simprocAttr]
 rw[←Ku hi.1 hi.2,hie]
 simp[mJ]
def og(a b:Item):Int:=mJ [jJ a.eE b.eE,jJ a.no b.no]
theorem zo(a b:Item):aw Tryz.prog 118 [enc a,enc b] (enc (og a b)):=by
 refine aw.bp Tryz.func118 QV SR U2 (Nat.le_of_ble_eq_true rfl) (fun hwf W0 D0 E1 =>?_)
 simp only[Az,KR,a6,Nat.zero_add]
 refine .ao (by decide +kernel) fun K hK =>?_
 simp only[Em,U,simprocAttr]
 try simp only[dG,U,simprocAttr]
 refine .done (hK _ ?_);clear hK K
 refine .ao (by decide +kernel) fun K hK =>?_
 simp only[En,U,simprocAttr]
 try simp only[kZ,U,simprocAttr]
 refine .flat _ (zy a.eE b.eE) rfl ?_
 try simp only[kZ,U,simprocAttr]
 refine .flat _ (zy a.no b.no) rfl ?_
 try simp only[U,simprocAttr]
 have hb:iv 1 (some [.int .i64 (jJ a.eE b.eE),.int .i64 (jJ a.no b.no)])=some (enc [jJ a.eE b.eE,jJ a.no b.no]):=m8 (ys:=[jJ a.eE b.eE,jJ a.no b.no]) 1 rfl
 try simp only[hb,ea,U,simprocAttr]
 refine .flat _ (OA _) rfl ?_
 try simp only[U,simprocAttr]
 refine .done (hK _ ?_);clear hK K
 refine J.ret ?_
 simp only[U,simprocAttr]
 rfl
deriving instance DecidableEq for bA
deriving instance DecidableEq for au
deriving instance DecidableEq for aA
def il:bA 6 Int:=⟨List.replicate 6 0,rfl⟩
instance:Inhabited au:=⟨⟨⟨0,0⟩,0,0,0,0,0,0,0,il,⟨0,0⟩⟩⟩
instance:Inhabited aA:=⟨⟨0,0,0,0,0,0,0,false,[]⟩⟩
def kC(x:au):au where
 da:=x.da
 kind:=x.kind
 day:=x.day
 known:=x.known
 c5:=if x.kind=0 then 0 else x.c5
 dP:=if x.kind=1 then x.dP else 0
 er:=if x.kind=1∨x.kind=2 then x.er else 0
 bQ:=if x.kind=1∨x.kind=3∨x.kind=5 then x.bQ else 0
 bu:=if x.kind=4 then x.bu else il
 gY:=if x.kind=0 then x.gY else ⟨0,0⟩
def jM(x:au):Bool :=
 if x.kind=0 then (x.day==0)&&(my x.gY&&((x.gY.eE==x.da.eE)&&decide (x.gY.no<x.da.no)))
 else b7 1 9999 x.c5&&(
  if x.kind=1 then b7 1 9 x.er&&(b7 1 99 x.bQ&&(b7 0 9999 x.dP&&(x.dP != x.c5)))
  else if x.kind=2 then b7 1 9 x.er
  else if x.kind=3∨x.kind=5 then b7 1 99 x.bQ
  else if x.kind=4 then kj x.bu
  else decide (x.kind=6))
def gA(x:au):Bool:=jM x&&(decide (x=kC x)&&(my x.da&&(b7 0 100000 x.day&&b7 0 100000 x.known)))
def ab(l:List au)(i:Nat):au:=l.getD i default
def ig(l:List au)(i:Nat):Bool:=gA (ab l i)&&(decide (i=0)||before (ab l (i-1)).da (ab l i).da)
def dJ(l:List au):Bool:=decide (l.length≤60)&&(List.range l.length).all (ig l)
def eJ(known:Int):List au→List Bool×List Item
 | []=>([],[])
 |x::l =>
  let b:=decide (x.known≤known) && !(eJ known l).2.contains x.da
  (b::(eJ known l).1,if b&&decide (x.kind=0) then x.gY::(eJ known l).2 else (eJ known l).2)
def gC(l:List au)(known:Int):List Bool:=(eJ known l).1
def gO(l:List au)(known:Int):List Nat:=(List.range l.length).filter fun i=>(gC l known).getD i false
def gi(key:Nat→Int)(i:Nat)(l:List Nat):List Nat:=(l.takeWhile fun k=>decide (key k≤key i))++i::l.dropWhile fun k=>decide (key k≤key i)
def rf(key:Nat→Int)(l:List Nat):List Nat:=l.foldl (fun o i=>gi key i o) []
def jL(l:List au)(day known:Int):List Nat:=(gO l known).filter fun i=>decide ((ab l i).kind≠0)&&decide ((ab l i).day≤day)
def fw(l:List au)(day known:Int):List Nat:=rf (fun i=>(ab l i).day) (jL l day known)
def cC(bs:List aA)(no:Int):Option aA:=bs.find? fun b=>decide (b.no=no)
def l4(bs:List aA)(x:aA):List aA:=bs.map fun b=>if b.no=x.no then x else b
def fj(x:au):aA:=⟨x.c5,x.er,x.dP,x.bQ,x.bQ,x.day,-1,false,[]⟩
def fq(bs:List aA)(x:au):Bool:=decide (x.dP≤0)||match cC bs x.dP with
 |some d=>decide (d.er=x.er) && !(decide (0≤d.dA)&&decide (d.dA<x.day))
 |none=>false
def fy(b:aA)(x:au):Option aA :=
 if x.kind=3 then (if b.dA≥0∨b.bQ=0∨b.bQ=x.bQ then none else some { b with bQ:=x.bQ })
 else if x.kind=4 then some { b with bu:=b.bu++[x.bu] }
 else if x.kind=5 then some { b with bQ:=x.bQ,found:=true }
 else (if b.dA≥0 then none else some { b with dA:=x.day })
def c8(add:List aA→aA→List aA)(bs:List aA)(x:au):Option (List aA) :=
 if x.kind=1∨x.kind=2 then (if cC bs x.c5=none∧fq bs x=true then some (add bs (fj x)) else none)
 else match cC bs x.c5 with
  |none=>none
  |some b=>(fy b x).map (l4 bs)
def fo(bs:List aA)(b:aA):List aA:=bs++[b]
def eG(bs:List aA)(b:aA):List aA:=(bs.takeWhile fun a=>decide (a.no≤b.no))++b::bs.dropWhile fun a=>decide (a.no≤b.no)
def gP(add:List aA→aA→List aA)(l:List au)(s:List aA×List Nat)(i:Nat):List aA×List Nat:=match c8 add s.1 (ab l i) with
 |some bs=>(bs,s.2)
 |none=>(s.1,s.2++[i])
def iE(add:List aA→aA→List aA)(l:List au)(order:List Nat):List aA×List Nat:=order.foldl (gP add l) ([],[])
theorem M9(bs:List aA)(x:aA):(l4 bs x).map (·.no)=bs.map (·.no):=by
 simp only[l4,List.map_map]
 refine List.map_congr_left fun b _ =>?_
 simp only[Function.comp]
 split
 ·rename_i h;exact h.symm
 ·rfl
theorem xq{bs:List aA}{no:Int}{b:aA}(h:cC bs no=some b):b∈bs∧b.no=no:=⟨List.mem_of_find?_eq_some h,by simpa using List.find?_some h⟩
theorem qF{bs:List aA}{no:Int} : cC bs no=none↔no∉bs.map (·.no):=by
 simp[cC]
theorem ahs{bs:List aA}(hd:(bs.map (·.no)).Nodup){b:aA}(h:b∈bs):cC bs b.no=some b:=by
 induction bs with
 |nil=>cases h
 |cons a bs ih =>
  simp only[cC,List.find?_cons]
  simp only[List.map_cons,List.nodup_cons] at hd
  by_cases e:a.no=b.no
  ·rcases List.mem_cons.1 h with rfl | h
   ·simp
   ·exact absurd (List.mem_map.2 ⟨b,h,e.symm⟩) hd.1
  ·rcases List.mem_cons.1 h with rfl | h
   ·exact absurd rfl e
   ·simp only[decide_eq_false e];exact ih hd.2 h
theorem xn{bs cs:List aA}(hp:bs.Perm cs)(hd:(bs.map (·.no)).Nodup)(no:Int):cC bs no=cC cs no:=by
 have hd2:(cs.map (·.no)).Nodup:=(hp.map _).nodup_iff.1 hd
 cases h:cC bs no with
 |none =>
  refine (qF.2 fun h2=>qF.1 h ?_).symm
  exact (hp.map _).mem_iff.2 h2
 |some b =>
  obtain ⟨h1,rfl⟩:=xq h
  exact (ahs hd2 (hp.mem_iff.1 h1)).symm
theorem XL{bs cs:List aA}(hp:bs.Perm cs)(hd:(bs.map (·.no)).Nodup)(x:au):fq bs x=fq cs x:=by
 simp only[fq,xn hp hd]
def kz(add:List aA→aA→List aA):Prop:=∀ bs b,(add bs b).Perm (b::bs)
theorem r6:kz fo:=fun bs b=>List.perm_append_comm
theorem r7:kz eG:=fun bs b=>by
 have h:(bs.takeWhile fun a=>decide (a.no≤b.no))++(bs.dropWhile fun a=>decide (a.no≤b.no))=bs:=List.takeWhile_append_dropWhile
 have:=(List.perm_middle (a:=b) (l₁:=bs.takeWhile fun a=>decide (a.no≤b.no)) (l₂:=bs.dropWhile fun a=>decide (a.no≤b.no)))
 rw[h] at this
 exact this
def o6(s t:List aA×List Nat):Prop:=s.1.Perm t.1∧(s.1.map (·.no)).Nodup∧s.2=t.2
theorem Aa{add:List aA→aA→List aA}(ha:kz add){bs bs':List aA}{x:au}(hd:(bs.map (·.no)).Nodup)(h:c8 add bs x=some bs'):(bs'.map (·.no)).Nodup:=by
 simp only[c8] at h
 split at h
 ·split at h
  ·rename_i h2
   simp only[Option.some.injEq] at h
   subst h
   rw[((ha bs (fj x)).map _).nodup_iff]
   simp only[List.map_cons,List.nodup_cons]
   exact ⟨qF.1 h2.1,hd⟩
  ·cases h
 ·split at h
  ·cases h
  ·simp only[Option.map_eq_some_iff] at h
   obtain ⟨b',_,rfl⟩:=h
   rw[M9];exact hd
theorem P5{add add':List aA→aA→List aA}(ha:kz add)(ha':kz add'){bs cs:List aA}(hp:bs.Perm cs)(hd:(bs.map (·.no)).Nodup)(x:au) :
  match c8 add bs x,c8 add' cs x with
  |some b,some c=>b.Perm c
  |none,none=>True
  |_,_=>False:=by
 simp only[c8,xn hp hd,XL hp hd]
 by_cases hk:x.kind=1∨x.kind=2
 ·rw[if_pos hk,if_pos hk]
  by_cases hc:cC cs x.c5=none∧fq cs x=true
  ·rw[if_pos hc,if_pos hc]
   exact (ha bs _).trans ((hp.cons _).trans (ha' cs _).symm)
  ·rw[if_neg hc,if_neg hc];trivial
 ·rw[if_neg hk,if_neg hk]
  cases h:cC cs x.c5 with
  |none=>trivial
  |some b =>
   simp only
   cases fy b x with
   |none=>trivial
   |some b'=>exact hp.map _
theorem alV{add add':List aA→aA→List aA}(ha:kz add)(ha':kz add')(l:List au){s t:List aA×List Nat}(h:o6 s t)(i:Nat):o6 (gP add l s i) (gP add' l t i):=by
 obtain ⟨h1,h2,h3⟩:=h
 have h4:=P5 ha ha' h1 h2 (ab l i)
 have h5:=fun bs'=>Aa (bs':=bs') (x:=ab l i) ha h2
 simp only[gP]
 generalize c8 add s.1 (ab l i)=u at h4 h5 ⊢
 generalize c8 add' t.1 (ab l i)=v at h4 ⊢
 cases u <;>cases v <;>simp only at h4 ⊢
 ·exact ⟨h1,h2,by rw[h3]⟩
 ·exact ⟨h4,h5 _ rfl,h3⟩
theorem vY{add add':List aA→aA→List aA}(ha:kz add)(ha':kz add')(l:List au):∀ (o:List Nat) {s t:List aA×List Nat},o6 s t→o6 (o.foldl (gP add l) s) (o.foldl (gP add' l) t)
 | [],_,_,h=>h
 |i::o,_,_,h=>vY ha ha' l o (alV ha ha' l h i)
theorem KC{add add':List aA→aA→List aA}(ha:kz add)(ha':kz add')(l:List au)(o:List Nat):o6 (iE add l o) (iE add' l o):=vY ha ha' l o ⟨.nil,.nil,rfl⟩
def jo(l:List Int):Prop:=l.Pairwise (· < ·)
theorem PG{bs:List aA}{b:aA}(h:jo (bs.map (·.no)))(hn:b.no∉bs.map (·.no)):jo ((eG bs b).map (·.no)):=by
 induction bs with
 |nil=>simp[eG,jo]
 |cons a bs ih =>
  simp only[List.map_cons,jo,List.pairwise_cons,List.mem_cons,not_or] at h hn
  by_cases e:a.no≤b.no
  ·have hlt:a.no<b.no:=by omega
   have:eG (a::bs) b=a::eG bs b:=by simp[eG,e]
   rw[this]
   simp only[List.map_cons,jo,List.pairwise_cons]
   refine ⟨fun n hm =>?_,ih h.2 hn.2⟩
   obtain ⟨c,hc,rfl⟩:=List.mem_map.1 hm
   rcases List.mem_cons.1 ((r7 bs b).mem_iff.1 hc) with rfl | hc
   ·exact hlt
   ·exact h.1 _ (List.mem_map.2 ⟨c,hc,rfl⟩)
  ·have:eG (a::bs) b=b::a::bs:=by simp[eG,e]
   rw[this]
   simp only[List.map_cons,jo,List.pairwise_cons,List.mem_cons]
   refine ⟨fun n hm =>?_,h.1,h.2⟩
   rcases hm with rfl | hm
   ·omega
   ·have:=h.1 n hm;omega
theorem P7{bs bs':List aA}{x:au}(hd:jo (bs.map (·.no)))(h:c8 eG bs x=some bs'):jo (bs'.map (·.no)):=by
 simp only[c8] at h
 split at h
 ·split at h
  ·rename_i h2
   simp only[Option.some.injEq] at h
   subst h
   exact PG hd (qF.1 h2.1)
  ·cases h
 ·split at h
  ·cases h
  ·simp only[Option.map_eq_some_iff] at h
   obtain ⟨b',_,rfl⟩:=h
   rw[M9];exact hd
theorem alW(l:List au){s:List aA×List Nat}(h:jo (s.1.map (·.no)))(i:Nat):jo ((gP eG l s i).1.map (·.no)):=by
 simp only[gP]
 cases h2:c8 eG s.1 (ab l i) with
 |none=>exact h
 |some bs=>exact P7 h h2
theorem Dz(l:List au):∀ (o:List Nat) {s:List aA×List Nat},jo (s.1.map (·.no))→jo ((o.foldl (gP eG l) s).1.map (·.no))
 | [],_,h=>h
 |i::o,_,h=>Dz l o (alW l h i)
theorem akE(l:List au)(o:List Nat):jo ((iE eG l o).1.map (·.no)):=Dz l o List.Pairwise.nil
theorem alA{n:Nat}{p:List Nat}{sz k total i j:Nat}(h:i≤j)(hj:j≤k)(hk:k≤total):hE n p sz 0 k total (some (.int .i64 i)) (some (.int .i64 j)) (some (.int .i64 k))=some .c9:=by
 simp only[hE,ib]
 rw[if_pos ⟨by omega,by omega,by omega,by omega⟩]
theorem Ng{n:Nat}{p:List Nat}{sz k total i j:Nat}(h:i≤j)(hk:j≤total)(h0:i<total):hE n p sz 0 k total (some (.int .i64 i)) (some (.int .i64 j)) none=some (.view n p sz i (j-i)):=by
 simp only[hE,ib]
 rw[if_pos ⟨by omega,by omega,by omega⟩,if_neg (by omega)]
 simp
theorem P1{α:Type}[Enc α]{A:ae}{rest:List aB}{esz bytes:Nat}{d:Option Nat}{e:Nat}(z x:I){n l:Nat}{xs ys:List α}(hx:ev A esz x=some (ys.map enc))(hy:ys≠[])(ho:A.o n=some (.box (.agg (xs.map enc))))(hr:l+ys.length≤xs.length) :
  gq A d e esz bytes z x rest (.view n [] esz 0 l)=ay rest ((A.aM n (.box (.agg ((xs.take l++(ys++xs.drop (l+ys.length))).map enc)))).aO d (.view n [] esz 0 (l+ys.length))):=by
 have h1:=qc (A:=A) (esz:=esz) (lo:=0) (k:=l) ho (by omega)
 have h2:(I.agg (xs.map (enc (α:=α)))).at []=some (.agg (xs.map enc)):=rfl
 have h3:I.cR (ys.map (enc (α:=α)))=I.cR (((xs.map (enc (α:=α))).drop l).take ys.length):=by
  rw[←List.map_drop,←List.map_take]
  exact Nd (by rw[List.length_take,List.length_drop];omega)
 simp only[gq,h1,hx,ff]
 rw[if_neg (by simpa using hy)]
 simp only[ho,h2,List.length_map,Nat.zero_add]
 rw[if_pos hr,if_pos ⟨rfl,by rw[List.length_map,Nat.zero_add];exact h3⟩]
 simp only[iH,gZ,List.length_map,List.map_append,List.map_take,List.map_drop]
theorem z7{α:Type}[Enc α]{A:ae}{rest:List aB}{esz bytes:Nat}{d:Option Nat}{e:Nat}(z x:I){n l:Nat}{xs:List α}(hx:ev A esz x=some [])(ho:A.o n=some (.box (.agg (xs.map enc))))(hr:l≤xs.length) :
  gq A d e esz bytes z x rest (.view n [] esz 0 l)=ay rest (A.aO d (.view n [] esz 0 l)):=by
 have h1:=qc (A:=A) (esz:=esz) (lo:=0) (k:=l) ho (by omega)
 simp only[gq,h1,hx,ff,if_true]
theorem Yh(a b:Int):ca (.i .i64) (enc a) (enc b)=some (a==b):=by simp[iw,ca]
theorem DB:∀ (x y:List Int),x.length=y.length→((x.map (enc (α:=Int))).zip (y.map (enc (α:=Int)))).foldr (fun p acc=>ir (ca (.i .i64) p.1 p.2) acc) (some true)=some (decide (x=y))
 | [],[],_=>by simp
 |a::x,b::y,h=>by
  have ih:=DB x y (by simpa using h)
  rw[List.map_cons,List.map_cons,List.zip_cons_cons,List.foldr_cons,ih,Yh]
  by_cases hab:a=b <;>by_cases hxy:x=y <;>simp[ir,hab,hxy]
theorem sD{n:Nat}(x y:bA n Int):ca (.j7 n (.i .i64)) (enc x) (enc y)=some (decide (x.l=y.l)):=by
 change ca (.j7 n (.i .i64)) (.agg (x.l.map enc)) (.agg (y.l.map enc))=_
 rw[ca,if_pos ⟨by simp[x.h],by simp[y.h]⟩]
 exact DB x.l y.l (by rw[x.h,y.h])
theorem OC(n:Int):aw Tryz.prog 162 [enc n] (enc (!b7 0 4 n)):=by
 refine aw.bp Tryz.func162 Ru Ts VB (Nat.le_of_ble_eq_true rfl) (fun hwf W0 D0 E1 =>?_)
 simp only[Bd,Lq,a6]
 refine .ao (by decide +kernel) fun K hK =>?_
 simp only[Gh,U,simprocAttr]
 refine .done (hK _ ?_);clear hK K
 refine .ao (by decide +kernel) fun K hK =>?_
 simp only[Gi,U,simprocAttr]
 refine .flat _ (rP n 0 4) rfl ?_
 try simp only[U,simprocAttr]
 refine .done (hK _ ?_);clear hK K
 refine J.ret ?_
 simp only[U,simprocAttr]
theorem O4(n:Int):aw Tryz.prog 211 [enc n] (enc (!b7 1 31 n)):=by
 refine aw.bp Tryz.func211 RX TW V5 (Nat.le_of_ble_eq_true rfl) (fun hwf W0 D0 E1 =>?_)
 simp only[BI,LW,a6]
 refine .ao (by decide +kernel) fun K hK =>?_
 simp only[HY,U,simprocAttr]
 refine .done (hK _ ?_);clear hK K
 refine .ao (by decide +kernel) fun K hK =>?_
 simp only[HZ,U,simprocAttr]
 generalize hz:(n==0)=z
 cases z
 ·try simp only[U,simprocAttr]
  refine .flat _ (zB n) rfl ?_
  try simp only[U,simprocAttr]
  refine .done (hK _ ?_);clear hK K
  refine J.ret ?_
  simp only[U,simprocAttr]
  simp at hz
  have e:(0≤n)↔(1≤n):=by omega
  simp[b7,e]
 ·try simp only[U,simprocAttr]
  refine .done (hK _ ?_);clear hK K
  refine J.ret ?_
  simp only[U,simprocAttr]
  simp at hz
  simp[b7,hz]
def nz(p:Int→Bool)(l:List Int):Int:=match l.findIdx? p with
 |some i=>i
 |none=>-1
theorem sI{α:Type}{p:α→Bool}{l:List α}(h:∀ x∈l,p x=false):l.findIdx? p=none:=by
 rw[List.findIdx?_eq_none_iff];exact h
theorem sJ{α:Type}{p:α→Bool}{l:List α}{i:Nat}(hi:i<l.length)(h:∀ x∈l.take i,p x=false)(hp:p l[i]=true):l.findIdx? p=some i:=by
 rw[List.findIdx?_eq_some_iff_getElem]
 refine ⟨hi,hp,fun j hj =>?_⟩
 have:l[j]∈l.take i:=by
  rw[List.mem_take_iff_getElem]
  exact ⟨j,by omega,rfl⟩
 simp[h _ this]
theorem OG(l:List Int)(f:FuncId)(caps:List I)(hcaps:I.eQ caps=true)(p:Int→Bool)(hf:∀ x∈l,aw Tryz.prog f (enc x::caps) (enc (p x))):aw Tryz.prog 166 [enc l,.func f caps] (enc (nz p l)):=by
 refine aw.bp Tryz.func166 Ry Tw VF (Nat.le_of_ble_eq_true rfl) (fun hwf W0 D0 E1 =>?_)
 simp only[Bh,Lu,a6,Nat.zero_add]
 have hlen:l.length≤maxLen:=((ku l).1 hwf.1).1
 simp only[maxLen] at hlen
 have hcl:I.bY caps=true:=kH caps hcaps
 have hfc:∀ aC A,bZ aC A caps=some caps:=fun aC A=>kJ aC A caps hcaps
 have hon:∀ q,I.bV q caps=true:=fun q=>kl q caps hcl
 refine .ao (by decide +kernel) fun K hK =>?_
 simp only[Gr,U,simprocAttr]
 refine .done (hK _ ?_);clear hK K
 refine J.seq ?_
 refine J.seq (J.bD (by decide +kernel) fun K hK =>?_)
 try simp only[Gs,bx,U,simprocAttr]
 refine .done (hK _ ?_);clear hK K
 refine J.block (J.loop (fun i:Nat=>ar [(0,enc l),(1,.func f caps),(7,.int .i64 l.length),(8,.int .i64 i)] []) (fun i=>i≤l.length∧∀ x∈l.take i,p x=false) (fun i=>l.length-i) 0 ⟨Nat.zero_le _,by simp⟩ ?_ (fun i hi =>?_))
 ·refine az.bR ?_ ?_ ?_ ?_ <;>simp[aT,bN,bM,bg,aU,I.only,br,hon]
 ·refine .ao (by decide +kernel) fun K hK =>?_
  simp only[Gt,U,simprocAttr]
  refine .done (hK _ ?_);clear hK K
  refine J.seq ?_
  refine J.bI ?_
  simp only[aj,U,simprocAttr]
  refine ⟨fun h =>?_,fun h =>?_⟩
  ·have hlt:i<l.length:=by simpa using h
   refine J.skip ?_;try simp only[al,simprocAttr]
   refine J.seq (J.block ?_)
   refine .ao (by decide +kernel) fun K hK =>?_
   simp only[Gu,U,simprocAttr]
   refine .done (hK _ ?_);clear hK K
   refine .ao (by decide +kernel) fun K hK =>?_
   simp only[Gv,U,simprocAttr]
   try simp only[ew 1 hlt rfl,List.cons_append,hfc,U,simprocAttr]
   refine .flat _ (hf _ (List.getElem_mem hlt)) rfl ?_
   try simp only[U,simprocAttr]
   refine .done (hK _ ?_);clear hK K
   refine J.bI ?_
   simp only[aj,U,simprocAttr]
   refine ⟨fun h =>?_,fun h =>?_⟩
   ·refine .ao (by decide +kernel) fun K hK =>?_
    simp only[Gw,U,simprocAttr]
    refine .done (hK _ ?_);clear hK K
    refine J.ret ?_
    simp only[bP,al,U,simprocAttr]
    simp[nz,sJ hlt hi.2 h]
   ·refine J.skip ?_;try simp only[al,bP,simprocAttr]
    refine .bD (by decide +kernel) fun K hK =>?_
    simp only[Gx,U,simprocAttr]
    refine .done (hK _ ?_);clear hK K;try simp only[al]
    refine ⟨i+1,⟨by omega,fun x hm =>?_⟩,by omega,?_⟩
    ·rw[List.take_succ_eq_append_getElem hlt] at hm
     rcases List.mem_append.1 hm with hm | hm
     ·exact hi.2 x hm
     ·simp at hm;rw[hm];exact h
    ·rw[cG _ (by omega) (by omega)]
     refine az.bR ?_ ?_ ?_ ?_ <;>simp[aT,bN,bM,bg,aU,I.only,br,hon]
  ·have hge:i=l.length:=by simp at h;omega
   refine J.exit ?_;try simp only[al,bP,simprocAttr]
   refine .ao (by decide +kernel) fun K hK =>?_
   simp only[Gy,U,simprocAttr]
   refine .done (hK _ ?_);clear hK K
   refine J.ret ?_
   simp only[U,simprocAttr]
   simp[hge] at hi
   simp[nz,sI hi]
theorem Jm(p:Int→Bool)(l:List Int):decide (0≤nz p l)=l.any p:=by
 unfold nz
 cases h:l.findIdx? p with
 |none =>
  rw[List.findIdx?_eq_none_iff] at h
  have:l.any p=false:=by rw[List.any_eq_false];intro x hx;simp[h x hx]
  simp[this]
 |some i =>
  rw[List.findIdx?_eq_some_iff_getElem] at h
  obtain ⟨h1,h2,_⟩:=h
  have:l.any p=true:=by rw[List.any_eq_true];exact ⟨_,List.getElem_mem h1,h2⟩
  rw[this]
  exact decide_eq_true (Int.natCast_nonneg i)
theorem uJ(l:List Int)(f:FuncId)(caps:List I)(hcaps:I.eQ caps=true)(p:Int→Bool)(hf:∀ x∈l,aw Tryz.prog f (enc x::caps) (enc (p x))):aw Tryz.prog 125 [enc l,.func f caps] (enc (l.any p)):=by
 refine aw.bp Tryz.func125 Q2 SZ U9 (Nat.le_of_ble_eq_true rfl) (fun hwf W0 D0 E1 =>?_)
 simp only[AH,KY,a6,Nat.zero_add]
 have hcl:I.bY caps=true:=kH caps hcaps
 have hfc:∀ aC A,bZ aC A caps=some caps:=fun aC A=>kJ aC A caps hcaps
 refine .ao (by decide +kernel) fun K hK =>?_
 simp only[EI,U,simprocAttr]
 refine .done (hK _ ?_);clear hK K
 refine .ao (by decide +kernel) fun K hK =>?_
 simp only[EJ,U,simprocAttr]
 try simp only[ea,hfc,U,simprocAttr]
 refine .flat _ (OG l f caps hcaps p hf) rfl ?_
 try simp only[U,simprocAttr]
 refine .done (hK _ ?_);clear hK K
 refine J.ret ?_
 simp only[U,simprocAttr]
 rw[Jm]
theorem Dm{α:Type}[Enc α]{n sz:Nat}(x:bA n α)(hs:Enc.sz α=sz):kc sz 0 n (some (x.l.map enc))=some (enc x.l):=by
 have h:((x.l.map (enc (α:=α))).drop 0).take n=x.l.map enc:=by
  rw[List.drop_zero,List.take_of_length_le];simp[x.h]
 simp only[kc,h]
 rw[if_pos (jI x.l),ga,hs]
theorem NO{α:Type}[Enc α]{n sz:Nat}(x:bA n α)(hs:Enc.sz α=sz)(h1:n≤maxLen)(h0:n≠0)(y:I):oX n sz (x.l.map enc) y=some y:=by
 simp only[oX];rw[if_pos ⟨vP n sz x.l x.h hs,h1,h0⟩]
theorem zW(p:Int→Bool)(x:bA 6 Int):x.l.any (fun v => !p v) = !(List.range 6).all (fun i=>p (x.g i)):=by
 have h:(List.range 6).all (fun i=>p (x.g i))=x.l.all p:=by
  rw[Bool.eq_iff_iff]
  simp only[List.all_eq_true,List.mem_range]
  constructor
  ·intro h v hv
   obtain ⟨i,hi,rfl⟩:=List.getElem_of_mem hv
   have:=h i (by rw[x.h] at hi;exact hi)
   rwa [←x.sX (by rw[x.h] at hi;exact hi)] at this
  ·intro h i hi
   rw[←x.sX hi]
   exact h _ (List.getElem_mem _)
 rw[h,List.not_all_eq_any_not]
theorem Oa(m:bA 6 Int):aw Tryz.prog 123 [enc m] (enc (fv m)):=by
 refine aw.bp Tryz.func123 Q0 SX U7 (Nat.le_of_ble_eq_true rfl) (fun hwf W0 D0 E1 =>?_)
 simp only[AF,KW,a6]
 refine .ao (by decide +kernel) fun K hK =>?_
 simp only[EE,U,simprocAttr]
 refine .done (hK _ ?_);clear hK K
 refine .ao (by decide +kernel) fun K hK =>?_
 simp only[EF,U,simprocAttr]
 try simp only[bx,NO (sz:=1) m rfl (Nat.le_of_ble_eq_true rfl) (Nat.succ_ne_zero 5),Dm (sz:=1) m rfl,U,simprocAttr]
 refine .flat _ (uJ m.l 162 [] rfl (fun n => !b7 0 4 n) (fun x _=>OC x)) rfl ?_
 try simp only[U,simprocAttr]
 refine .done (hK _ ?_);clear hK K
 refine J.ret ?_
 simp only[U,simprocAttr]
 rw[zW (b7 0 4)];simp[fv]
theorem OU(m:bA 6 Int):aw Tryz.prog 193 [enc m] (enc (kj m)):=by
 refine aw.bp Tryz.func193 RM TL VU (Nat.le_of_ble_eq_true rfl) (fun hwf W0 D0 E1 =>?_)
 simp only[Bx,LK,a6]
 refine .ao (by decide +kernel) fun K hK =>?_
 simp only[GV,U,simprocAttr]
 refine .done (hK _ ?_);clear hK K
 refine .ao (by decide +kernel) fun K hK =>?_
 simp only[GW,U,simprocAttr]
 try simp only[bx,NO (sz:=1) m rfl (Nat.le_of_ble_eq_true rfl) (Nat.succ_ne_zero 5),Dm (sz:=1) m rfl,U,simprocAttr]
 refine .flat _ (uJ m.l 211 [] rfl (fun n => !b7 1 31 n) (fun x _=>O4 x)) rfl ?_
 try simp only[U,simprocAttr]
 refine .done (hK _ ?_);clear hK K
 refine J.ret ?_
 simp only[U,simprocAttr]
 rw[zW (b7 1 31)];simp[kj]
theorem N9(n:Int):aw Tryz.prog 122 [enc n] (enc (b7 1 99 n)):=by
 refine aw.bp Tryz.func122 QZ SW U6 (Nat.le_of_ble_eq_true rfl) (fun hwf W0 D0 E1 =>?_)
 simp only[AE,KV,a6]
 refine .ao (by decide +kernel) fun K hK =>?_
 simp only[EC,U,simprocAttr]
 refine .done (hK _ ?_);clear hK K
 refine .ao (by decide +kernel) fun K hK =>?_
 simp only[ED,U,simprocAttr]
 refine .flat _ (rP n 1 99) rfl ?_
 try simp only[U,simprocAttr]
 refine .done (hK _ ?_);clear hK K
 refine J.ret ?_
 simp only[U,simprocAttr]
theorem zx(m:bA 6 Int):aw Tryz.prog 157 [enc m] (enc (if kj m then (0:Int) else 12)):=by
 refine aw.bp Tryz.func157 Ro Tl Vv (Nat.le_of_ble_eq_true rfl) (fun hwf W0 D0 E1 =>?_)
 simp only[A7,Lk,a6]
 refine .ao (by decide +kernel) fun K hK =>?_
 simp only[FP,U,simprocAttr]
 refine .done (hK _ ?_);clear hK K
 refine J.seq (J.seq ?_)
 refine .bD (by decide +kernel) fun K hK =>?_
 simp only[FQ,U,simprocAttr]
 try simp only[c4,ea,U,simprocAttr]
 refine .flat _ (OU m) rfl ?_
 generalize hm:kj m=b
 cases b
 ·try simp only[U,simprocAttr]
  refine .done (hK _ ?_);clear hK K;try simp only[al]
  refine J.bI ?_
  simp only[aj,U,simprocAttr]
  refine ⟨fun h =>?_,fun h =>?_⟩
  ·refine .ao (by decide +kernel) fun K hK =>?_
   simp only[FR,U,simprocAttr]
   refine .done (hK _ ?_);clear hK K
   refine J.ret ?_
   simp only[al,U,simprocAttr]
   simp[hm]
  ·cases h
 ·try simp only[U,simprocAttr]
  refine .done (hK _ ?_);clear hK K
  refine J.bI ?_
  simp only[aj,U,simprocAttr]
  refine ⟨fun h =>?_,fun h =>?_⟩
  ·cases h
  ·refine J.skip ?_;try simp only[al,simprocAttr]
   refine .ao (by decide +kernel) fun K hK =>?_
   simp only[FT,U,simprocAttr]
   refine .done (hK _ ?_);clear hK K
   refine J.ret ?_
   simp only[U,simprocAttr]
   simp[hm]
def xA(s:Int)(k:Nat):Bool:=od (s.fdiv (2^min k IntKind.i64.bits)) 1==1
theorem OB(s:Int)(k:Nat):aw Tryz.prog 161 [enc s,enc (k:Int)] (enc (xA s k)):=by
 refine aw.bp Tryz.func161 Rt Tr VA (Nat.le_of_ble_eq_true rfl) (fun hwf W0 D0 E1 =>?_)
 simp only[Bc,Lp,a6,Nat.zero_add]
 refine .ao (by decide +kernel) fun K hK =>?_
 simp only[Gf,U,simprocAttr]
 refine .done (hK _ ?_);clear hK K
 refine .ao (by decide +kernel) fun K hK =>?_
 simp only[Gg,U,simprocAttr]
 refine .done (hK _ ?_);clear hK K
 refine J.ret ?_
 simp only[U,simprocAttr]
 rfl
theorem ahV(s:Int)(h0:0≤s)(h1:s≤31)(k:Nat)(hk:k<5):xA s k=kD s k:=by
 have key:∀ s:Fin 32,∀ k:Fin 5,xA (s.1:Int) k.1=kD (s.1:Int) k.1:=by decide +kernel
 have:=key ⟨s.toNat,by omega⟩ ⟨k,hk⟩
 simpa[Int.toNat_of_nonneg h0] using this
theorem N8(m:bA 5 Int):aw Tryz.prog 120 [enc m] (enc (nL m)):=by
 refine aw.bp Tryz.func120 QX SU U4 (Nat.le_of_ble_eq_true rfl) (fun hwf W0 D0 E1 =>?_)
 simp only[AB,KT,a6]
 refine .ao (by decide +kernel) fun K hK =>?_
 simp only[Er,U,simprocAttr]
 refine .done (hK _ ?_);clear hK K
 refine J.seq ?_
 refine J.seq (J.bD (by decide +kernel) fun K hK =>?_)
 try simp only[Es,c4,U,simprocAttr]
 refine .done (hK _ ?_);clear hK K
 refine J.block (J.loop (fun i:Nat=>ar [(2,.bool false),(6,enc m),(7,.int .i64 i)] []) (fun j=>j≤5∧∀ i,i<j→(b7 0 31 (m.g i)&&kD (m.g i) i)=true) (fun i=>5-i) 0 ⟨by omega,fun k h=>by omega⟩ ?_ (fun i hi =>?_))
 ·refine az.bR ?_ ?_ ?_ ?_ <;>simp[aT,bN,bM,bg,aU,I.only,br]
 ·refine .ao (by decide +kernel) fun K hK =>?_
  simp only[Et,U,simprocAttr]
  refine .done (hK _ ?_);clear hK K
  refine J.seq ?_
  refine J.bI ?_
  simp only[aj,U,simprocAttr]
  refine ⟨fun h =>?_,fun h =>?_⟩
  ·have hlt:i<5:=by simp at h;omega
   refine J.skip ?_;try simp only[al,simprocAttr]
   refine J.seq (J.block ?_)
   refine .ao (by decide +kernel) fun K hK =>?_
   simp only[Eu,U,simprocAttr]
   try simp only[qO,bx,kM 1 m hlt rfl,sZ m hlt,U,simprocAttr]
   refine .done (hK _ ?_);clear hK K
   refine .ao (by decide +kernel) fun K hK =>?_
   simp only[Ev,U,simprocAttr]
   refine .done (hK _ ?_);clear hK K
   refine .ao (by decide +kernel) fun K hK =>?_
   simp only[Ew,U,simprocAttr]
   refine .flat _ (zB _) rfl ?_
   generalize hb:b7 0 31 (m.g i)=b
   cases b
   ·try simp only[U,simprocAttr]
    refine .done (hK _ ?_);clear hK K
    refine J.bI ?_
    simp only[aj,U,simprocAttr]
    refine ⟨fun h =>?_,fun h =>?_⟩
    ·refine .ao (by decide +kernel) fun K hK =>?_
     simp only[wg,U,simprocAttr]
     refine .done (hK _ ?_);clear hK K
     refine J.ret ?_
     simp only[bP,al,U,simprocAttr]
     rw[nL,j6 i hlt]
     simp[hb]
    ·cases h
   ·have hr:0≤m.g i∧m.g i≤31:=by simpa[b7] using hb
    try simp only[U,simprocAttr]
    refine .flat _ (OB (m.g i) i) rfl ?_
    rw[ahV _ hr.1 hr.2 i hlt]
    try simp only[U,simprocAttr]
    refine .done (hK _ ?_);clear hK K
    refine J.bI ?_
    simp only[aj,U,simprocAttr]
    refine ⟨fun h =>?_,fun h =>?_⟩
    ·refine .ao (by decide +kernel) fun K hK =>?_
     simp only[wg,U,simprocAttr]
     refine .done (hK _ ?_);clear hK K
     refine J.ret ?_
     simp only[bP,al,U,simprocAttr]
     rw[nL,j6 i hlt]
     simp at h
     simp[h]
    ·refine J.skip ?_;try simp only[al,bP,simprocAttr]
     refine .bD (by decide +kernel) fun K hK =>?_
     simp only[Ey,U,simprocAttr]
     refine .done (hK _ ?_);clear hK K;try simp only[al]
     refine ⟨i+1,⟨by omega,fun k hk =>?_⟩,by omega,?_⟩
     ·by_cases hk':k=i
      ·subst hk'
       simp at h
       simp[hb,h]
      ·exact hi.2 k (by omega)
     ·rw[cG _ (by omega) (by omega)]
      refine az.bR ?_ ?_ ?_ ?_ <;>simp[aT,bN,bM,bg,aU,I.only,br]
  ·have hge:i=5:=by simp at h;omega
   subst hge
   refine J.exit ?_;try simp only[al,bP,simprocAttr]
   refine .ao (by decide +kernel) fun K hK =>?_
   simp only[Ez,U,simprocAttr]
   refine .done (hK _ ?_);clear hK K
   refine J.ret ?_
   simp only[U,simprocAttr]
   rw[nL,lq hi.2]
theorem zG(f:FuncId)(caps:List I)(hcaps:I.eQ caps=true)(p:Nat→Bool)(hf:∀ i:Nat,i<6→aw Tryz.prog f (enc (i:Int)::caps) (enc (p i))):aw Tryz.prog 197 [.func f caps] (enc (fF (fun i => !p i) 6:Int)):=by
 refine aw.bp Tryz.func197 RQ TP VY (Nat.le_of_ble_eq_true rfl) (fun hwf W0 D0 E1 =>?_)
 simp only[BB,LO,a6]
 have hcl:I.bY caps=true:=kH caps hcaps
 have hfc:∀ aC A,bZ aC A caps=some caps:=fun aC A=>kJ aC A caps hcaps
 have hon:∀ q,I.bV q caps=true:=fun q=>kl q caps hcl
 refine .ao (by decide +kernel) fun K hK =>?_
 simp only[G9,U,simprocAttr]
 refine .done (hK _ ?_);clear hK K
 refine .ao (by decide +kernel) fun K hK =>?_
 simp only[Ha,U,simprocAttr]
 refine .done (hK _ ?_);clear hK K
 refine J.seq ?_
 refine .ao (by decide +kernel) fun K hK =>?_
 simp only[Hb,U,simprocAttr]
 refine .done (hK _ ?_);clear hK K
 refine J.block (J.loop (fun i:Nat=>ar [(0,.func f caps),(3,.int .i64 (fF (fun i => !p i) i:Int)),(5,.int .i64 i)] []) (fun i=>i≤6∧fF (fun i => !p i) i≤i) (fun i=>6-i) 0 ⟨by omega,by simp[fF]⟩ ?_ (fun i hi =>?_))
 ·refine az.bR ?_ ?_ ?_ ?_ <;>simp[aT,bN,bM,bg,aU,I.only,hon,fF]
 ·refine .ao (by decide +kernel) fun K hK =>?_
  simp only[Hc,U,simprocAttr]
  refine .done (hK _ ?_);clear hK K
  refine J.seq ?_
  refine J.bI ?_
  simp only[aj,U,simprocAttr]
  refine ⟨fun h =>?_,fun h =>?_⟩
  ·have hlt:i<6:=by simp at h;omega
   refine J.skip ?_;try simp only[al,simprocAttr]
   refine J.seq (J.block ?_)
   refine .ao (by decide +kernel) fun K hK =>?_
   simp only[Hd,U,simprocAttr]
   refine .done (hK _ ?_);clear hK K
   refine .ao (by decide +kernel) fun K hK =>?_
   simp only[He,U,simprocAttr]
   try simp only[List.cons_append,hfc,U,simprocAttr]
   refine .flat _ (hf i hlt) rfl ?_
   try simp only[U,simprocAttr]
   refine .done (hK _ ?_);clear hK K
   refine J.bI ?_
   simp only[aj,U,simprocAttr]
   refine ⟨fun h =>?_,fun h =>?_⟩
   ·simp at h
    refine .bD (by decide +kernel) fun K hK =>?_
    simp only[Hf,U,simprocAttr]
    refine .done (hK _ ?_);clear hK K;try simp only[al,bP]
    refine .bD (by decide +kernel) fun K hK =>?_
    simp only[wQ,U,simprocAttr]
    refine .done (hK _ ?_);clear hK K;try simp only[al]
    refine ⟨i+1,⟨by omega,?_⟩,by omega,?_⟩
    ·simp only[fF];split <;>omega
    ·rw[cG _ (by omega) (by omega),cG _ (by omega) (by omega)]
     refine az.bR ?_ ?_ ?_ ?_ <;>simp[aT,bN,bM,bg,aU,I.only,hon,fF,h]
   ·simp at h
    refine J.skip ?_;try simp only[al,bP,simprocAttr]
    refine .bD (by decide +kernel) fun K hK =>?_
    simp only[wQ,U,simprocAttr]
    refine .done (hK _ ?_);clear hK K;try simp only[al]
    refine ⟨i+1,⟨by omega,?_⟩,by omega,?_⟩
    ·simp only[fF];split <;>omega
    ·rw[cG _ (by omega) (by omega)]
     refine az.bR ?_ ?_ ?_ ?_ <;>simp[aT,bN,bM,bg,aU,I.only,hon,fF,h]
  ·have hge:i=6:=by simp at h;omega
   subst hge
   refine J.exit ?_;try simp only[al,bP,simprocAttr]
   refine .ao (by decide +kernel) fun K hK =>?_
   simp only[Hg,U,simprocAttr]
   refine .done (hK _ ?_);clear hK K
   refine J.ret ?_
   simp only[U,simprocAttr]
theorem O5(w:bA 5 Int)(m r:bA 6 Int)(hm:fv m=true)(i:Nat)(hi:i<6):aw Tryz.prog 212 (enc (i:Int)::[.ref (.func 196 []),.ref (enc w),.ref (enc m),.ref (enc r)]) (enc (!nf w m r i)):=by
 obtain ⟨h0,h5⟩:=pY hm hi
 refine aw.bp Tryz.func212 RY TX V6 (Nat.le_of_ble_eq_true rfl) (fun hwf W0 D0 E1 =>?_)
 simp only[BJ,LX,a6,Nat.zero_add,Nat.reduceAdd]
 refine .ao (by decide +kernel) fun K hK =>?_
 simp only[H0,U,simprocAttr]
 refine .done (hK _ ?_);clear hK K
 refine .ao (by decide +kernel) fun K hK =>?_
 simp only[H2,U,simprocAttr]
 try simp only[c4,ea,U,simprocAttr]
 refine .flat _ (uM w m i hi h0 h5) rfl ?_
 try simp only[bx,kM 1 r hi rfl,qK,sZ r hi,List.append_nil,U,simprocAttr]
 refine .flat _ (zF _ _) rfl ?_
 try simp only[U,simprocAttr]
 refine .done (hK _ ?_);clear hK K
 refine J.ret ?_
 simp only[U,simprocAttr]
 simp[nf,bne]
theorem OV(w:bA 5 Int)(a b:bA 6 Int)(ha:fv a=true)(hb:fv b=true)(i:Nat)(hi:i<6):aw Tryz.prog 198 (enc (i:Int)::[.ref (.func 196 []),.ref (enc w),.ref (enc a),.ref (enc b)]) (enc (!lu w a b i)):=by
 obtain ⟨h0,h5⟩:=pY ha hi
 obtain ⟨k0,k5⟩:=pY hb hi
 refine aw.bp Tryz.func198 RR TQ VZ (Nat.le_of_ble_eq_true rfl) (fun hwf W0 D0 E1 =>?_)
 simp only[BC,LP,a6,Nat.zero_add,Nat.reduceAdd]
 refine .ao (by decide +kernel) fun K hK =>?_
 simp only[Hh,U,simprocAttr]
 refine .done (hK _ ?_);clear hK K
 refine .ao (by decide +kernel) fun K hK =>?_
 simp only[Hi,U,simprocAttr]
 try simp only[c4,ea,U,simprocAttr]
 refine .flat _ (uM w a i hi h0 h5) rfl ?_
 try simp only[c4,ea,U,simprocAttr]
 refine .flat _ (uM w b i hi k0 k5) rfl ?_
 try simp only[List.append_nil,U,simprocAttr]
 refine .flat _ (zF _ _) rfl ?_
 try simp only[U,simprocAttr]
 refine .done (hK _ ?_);clear hK K
 refine J.ret ?_
 simp only[U,simprocAttr]
 simp[lu,bne]
theorem Nu{A:ae}{n:Nat}{b:I}{f:FuncId}{caps:List I}{rest:List aB} : dm A none n [] b (.func f caps) rest (some .dj)=ay rest (A.aM n (.box (b.dF [] (.func f caps)))):=ej rfl rfl (by simp[I.aQ])
theorem OZ(w:bA 5 Int)(m r:bA 6 Int)(hm:fv m=true):aw Tryz.prog 202 [enc w,enc m,enc r] (enc (kF w m r)):=by
 refine aw.bp Tryz.func202 RV TU V3 (Nat.le_of_ble_eq_true rfl) (fun hwf W0 D0 E1 =>?_)
 simp only[BG,LU,a6,Nat.zero_add,Nat.reduceAdd]
 refine .ao (by decide +kernel) fun K hK =>?_
 simp only[Hv,U,simprocAttr]
 try simp only[dG,U,simprocAttr]
 refine .done (hK _ ?_);clear hK K
 refine .ao (by decide +kernel) fun K hK =>?_
 simp only[Hw,U,simprocAttr]
 try simp only[Nu,U,simprocAttr]
 refine .done (hK _ ?_);clear hK K
 refine .ao (by decide +kernel) fun K hK =>?_
 simp only[Hx,U,simprocAttr]
 try simp only[List.all_cons,List.all_nil,I.cq,Bool.and_self,dV,U,simprocAttr]
 refine .flat _ (zG 212 [.ref (.func 196 []),.ref (enc w),.ref (enc m),.ref (enc r)] ?_ (fun i => !nf w m r i) (fun i hi=>O5 w m r hm i hi)) rfl ?_
 ·simp only[I.eQ,I.done,I.bt,I.bY,dV,Bool.and_self]
 try simp only[U,simprocAttr]
 refine .done (hK _ ?_);clear hK K
 refine J.ret ?_
 simp only[U,simprocAttr]
 simp only[kF,Bool.not_not]
theorem OF(w:bA 5 Int)(a b:bA 6 Int)(ha:fv a=true)(hb:fv b=true):aw Tryz.prog 165 [enc w,enc a,enc b] (enc (fF (lu w a b) 6:Int)):=by
 refine aw.bp Tryz.func165 Rx Tv VE (Nat.le_of_ble_eq_true rfl) (fun hwf W0 D0 E1 =>?_)
 simp only[Bg,Lt,a6,Nat.zero_add,Nat.reduceAdd]
 refine .ao (by decide +kernel) fun K hK =>?_
 simp only[Gn,U,simprocAttr]
 try simp only[dG,U,simprocAttr]
 refine .done (hK _ ?_);clear hK K
 refine .ao (by decide +kernel) fun K hK =>?_
 simp only[Gp,U,simprocAttr]
 try simp only[Nu,U,simprocAttr]
 refine .done (hK _ ?_);clear hK K
 refine .ao (by decide +kernel) fun K hK =>?_
 simp only[Gq,U,simprocAttr]
 try simp only[List.all_cons,List.all_nil,I.cq,Bool.and_self,dV,U,simprocAttr]
 refine .flat _ (zG 198 [.ref (.func 196 []),.ref (enc w),.ref (enc a),.ref (enc b)] ?_ (fun i => !lu w a b i) (fun i hi=>OV w a b ha hb i hi)) rfl ?_
 ·simp only[I.eQ,I.done,I.bt,I.bY,dV,Bool.and_self]
 try simp only[U,simprocAttr]
 refine .done (hK _ ?_);clear hK K
 refine J.ret ?_
 simp only[U,simprocAttr]
 simp only[Bool.not_not]
theorem OE(m:cn)(g:cA)(k:bA 6 Int)(hg:fv g.mark=true)(hk:fv k=true):aw Tryz.prog 164 (enc g::[.ref (enc m),.ref (enc k)]) (enc (hJ m g.mark k)):=by
 refine aw.bp Tryz.func164 Rw Tu VD (Nat.le_of_ble_eq_true rfl) (fun hwf W0 D0 E1 =>?_)
 simp only[Bf,Ls,a6,Nat.zero_add,Nat.reduceAdd]
 refine .ao (by decide +kernel) fun K hK =>?_
 simp only[Gl,U,simprocAttr]
 try simp only[dG,U,simprocAttr]
 refine .done (hK _ ?_);clear hK K
 refine .ao (by decide +kernel) fun K hK =>?_
 simp only[Gm,U,simprocAttr]
 try simp only[c4,ea,U,simprocAttr]
 refine .flat _ (OF m.fA g.mark k hg hk) rfl ?_
 try simp only[c4,U,simprocAttr]
 refine .done (hK _ ?_);clear hK K
 refine J.ret ?_
 simp only[U,simprocAttr]
 rfl
theorem uL(l:List cA)(f:FuncId)(caps:List I)(hcaps:I.eQ caps=true)(p:cA→Bool)(hf:∀ x∈l,aw Tryz.prog f (enc x::caps) (enc (p x))):aw Tryz.prog 195 [enc l,.func f caps] (enc (match l.findIdx? p with | some i=>(i:Int) | none=>-1)):=by
 refine aw.bp Tryz.func195 RO TN VW (Nat.le_of_ble_eq_true rfl) (fun hwf W0 D0 E1 =>?_)
 simp only[Bz,LM,a6,Nat.zero_add]
 have hlen:l.length≤maxLen:=((ku l).1 hwf.1).1
 simp only[maxLen] at hlen
 have hcl:I.bY caps=true:=kH caps hcaps
 have hfc:∀ aC A,bZ aC A caps=some caps:=fun aC A=>kJ aC A caps hcaps
 have hon:∀ q,I.bV q caps=true:=fun q=>kl q caps hcl
 refine .ao (by decide +kernel) fun K hK =>?_
 simp only[GZ,U,simprocAttr]
 refine .done (hK _ ?_);clear hK K
 refine J.seq ?_
 refine J.seq (J.bD (by decide +kernel) fun K hK =>?_)
 try simp only[G0,bx,U,simprocAttr]
 refine .done (hK _ ?_);clear hK K
 refine J.block (J.loop (fun i:Nat=>ar [(0,enc l),(1,.func f caps),(7,.int .i64 l.length),(8,.int .i64 i)] []) (fun i=>i≤l.length∧∀ x∈l.take i,p x=false) (fun i=>l.length-i) 0 ⟨Nat.zero_le _,by simp⟩ ?_ (fun i hi =>?_))
 ·refine az.bR ?_ ?_ ?_ ?_ <;>simp[aT,bN,bM,bg,aU,I.only,br,hon]
 ·refine .ao (by decide +kernel) fun K hK =>?_
  simp only[G1,U,simprocAttr]
  refine .done (hK _ ?_);clear hK K
  refine J.seq ?_
  refine J.bI ?_
  simp only[aj,U,simprocAttr]
  refine ⟨fun h =>?_,fun h =>?_⟩
  ·have hlt:i<l.length:=by simpa using h
   refine J.skip ?_;try simp only[al,simprocAttr]
   refine J.seq (J.block ?_)
   refine .ao (by decide +kernel) fun K hK =>?_
   simp only[G2,U,simprocAttr]
   refine .done (hK _ ?_);clear hK K
   refine .ao (by decide +kernel) fun K hK =>?_
   simp only[G3,U,simprocAttr]
   try simp only[ew 7 hlt rfl,c4,List.cons_append,hfc,ea,U,simprocAttr]
   refine .flat _ (hf _ (List.getElem_mem hlt)) rfl ?_
   try simp only[U,simprocAttr]
   refine .done (hK _ ?_);clear hK K
   refine J.bI ?_
   simp only[aj,U,simprocAttr]
   refine ⟨fun h =>?_,fun h =>?_⟩
   ·refine .ao (by decide +kernel) fun K hK =>?_
    simp only[G4,U,simprocAttr]
    refine .done (hK _ ?_);clear hK K
    refine J.ret ?_
    simp only[bP,al,U,simprocAttr]
    simp[sJ hlt hi.2 h]
   ·refine J.skip ?_;try simp only[al,bP,simprocAttr]
    refine .bD (by decide +kernel) fun K hK =>?_
    simp only[G5,U,simprocAttr]
    refine .done (hK _ ?_);clear hK K;try simp only[al]
    refine ⟨i+1,⟨by omega,fun x hm =>?_⟩,by omega,?_⟩
    ·rw[List.take_succ_eq_append_getElem hlt] at hm
     rcases List.mem_append.1 hm with hm | hm
     ·exact hi.2 x hm
     ·simp at hm;rw[hm];exact h
    ·rw[cG _ (by omega) (by omega)]
     refine az.bR ?_ ?_ ?_ ?_ <;>simp[aT,bN,bM,bg,aU,I.only,br,hon]
  ·have hge:i=l.length:=by simp at h;omega
   refine J.exit ?_;try simp only[al,bP,simprocAttr]
   refine .ao (by decide +kernel) fun K hK =>?_
   simp only[G6,U,simprocAttr]
   refine .done (hK _ ?_);clear hK K
   refine J.ret ?_
   simp only[U,simprocAttr]
   simp[hge] at hi
   simp[sI hi]
theorem YR{α:Type}(p:α→Bool)(l:List α):decide (0≤(match l.findIdx? p with | some i=>(i:Int) | none=>-1))=l.any p:=by
 cases h:l.findIdx? p with
 |none =>
  rw[List.findIdx?_eq_none_iff] at h
  have:l.any p=false:=by rw[List.any_eq_false];intro x hx;simp[h x hx]
  simp[this]
 |some i =>
  rw[List.findIdx?_eq_some_iff_getElem] at h
  obtain ⟨h1,h2,_⟩:=h
  have:l.any p=true:=by rw[List.any_eq_true];exact ⟨_,List.getElem_mem h1,h2⟩
  rw[this]
  exact decide_eq_true (Int.natCast_nonneg i)
theorem OD(l:List cA)(f:FuncId)(caps:List I)(hcaps:I.eQ caps=true)(p:cA→Bool)(hf:∀ x∈l,aw Tryz.prog f (enc x::caps) (enc (p x))):aw Tryz.prog 163 [enc l,.func f caps] (enc (l.any p)):=by
 refine aw.bp Tryz.func163 Rv Tt VC (Nat.le_of_ble_eq_true rfl) (fun hwf W0 D0 E1 =>?_)
 simp only[Be,Lr,a6,Nat.zero_add]
 have hcl:I.bY caps=true:=kH caps hcaps
 have hfc:∀ aC A,bZ aC A caps=some caps:=fun aC A=>kJ aC A caps hcaps
 refine .ao (by decide +kernel) fun K hK =>?_
 simp only[Gj,U,simprocAttr]
 refine .done (hK _ ?_);clear hK K
 refine .ao (by decide +kernel) fun K hK =>?_
 simp only[Gk,U,simprocAttr]
 try simp only[ea,hfc,U,simprocAttr]
 refine .flat _ (uL l f caps hcaps p hf) rfl ?_
 try simp only[U,simprocAttr]
 refine .done (hK _ ?_);clear hK K
 refine J.ret ?_
 simp only[U,simprocAttr]
 rw[YR]
theorem zq(m:cn)(l:List cA)(k:bA 6 Int)(hl:∀ g∈l,fv g.mark=true)(hk:fv k=true):aw Tryz.prog 124 [enc m,enc l,enc k] (enc (!l.any fun g=>hJ m g.mark k)):=by
 refine aw.bp Tryz.func124 Q1 SY U8 (Nat.le_of_ble_eq_true rfl) (fun hwf W0 D0 E1 =>?_)
 simp only[AG,KX,a6,Nat.zero_add,Nat.reduceAdd]
 refine .ao (by decide +kernel) fun K hK =>?_
 simp only[EG,U,simprocAttr]
 try simp only[dG,U,simprocAttr]
 refine .done (hK _ ?_);clear hK K
 refine .ao (by decide +kernel) fun K hK =>?_
 simp only[EH,U,simprocAttr]
 try simp only[List.all_cons,List.all_nil,I.cq,Bool.and_self,dV,ea,U,simprocAttr]
 refine .flat _ (OD l 164 [.ref (enc m),.ref (enc k)] ?_ (fun g=>hJ m g.mark k) (fun g hg=>OE m g k (hl g hg) hk)) rfl ?_
 ·simp only[I.eQ,I.done,dV,Bool.and_self]
 try simp only[U,simprocAttr]
 refine .done (hK _ ?_);clear hK K
 refine J.ret ?_
 simp only[U,simprocAttr]
theorem yZ{α:Type}[Enc α]{A:ae}(esz:Nat){l:List α}{i:Nat}(h:i≤l.length)(hs:Enc.sz α=esz):mW A esz none (some (.int .i64 i)) none (enc l)=some (enc (l.take i)):=by
 simp only[mW,ga,hs,if_true,jC,ib,List.length_map]
 rw[if_pos ⟨by omega,by omega,by omega,by omega⟩]
 simp
theorem zY(m:cn)(k:bA 6 Int){i:Nat}(h:i≤m.given.length):(!(m.given.take i).any fun g=>hJ m g.mark k)=(List.range i).all (fun j => !hJ m (cd m j).mark k):=by
 rw[Bool.eq_iff_iff]
 simp only[Bool.not_eq_true',List.any_eq_false,List.all_eq_true,List.mem_range]
 constructor
 ·intro h1 j hj
  have hjl:j<m.given.length:=by omega
  have:=h1 m.given[j] (by rw[List.mem_take_iff_getElem];exact ⟨j,by omega,rfl⟩)
  rw[jN hjl] at this
  simpa using this
 ·intro h1 g hg
  rw[List.mem_take_iff_getElem] at hg
  obtain ⟨j,hj,rfl⟩:=hg
  have hjl:j<m.given.length:=by omega
  rw[jN hjl]
  simpa using h1 j (by omega)
theorem uO(m:cn):aw Tryz.prog 66 [enc m] (enc (if eI m then (0:Int) else 13)):=by
 refine aw.bp Tryz.func66 Sc Ud Wk (Nat.le_of_ble_eq_true rfl) (fun hwf W0 D0 E1 =>?_)
 simp only[BW,Ma,a6]
 refine .ao (by decide +kernel) fun K hK =>?_
 simp only[It,U,simprocAttr]
 try simp only[dG,U,simprocAttr]
 refine .done (hK _ ?_);clear hK K
 refine J.seq (J.seq ?_)
 refine .bD (by decide +kernel) fun K hK =>?_
 simp only[Iu,U,simprocAttr]
 try simp only[c4,ea,U,simprocAttr]
 refine .flat _ (N8 m.fA) rfl ?_
 generalize hw:nL m.fA=bw
 cases bw
 ·try simp only[U,simprocAttr]
  refine .done (hK _ ?_);clear hK K;try simp only[al]
  refine J.bI ?_
  simp only[aj,U,simprocAttr]
  refine ⟨fun h =>?_,fun h =>?_⟩
  ·refine .ao (by decide +kernel) fun K hK =>?_
   simp only[sR,U,simprocAttr]
   refine .done (hK _ ?_);clear hK K
   refine J.ret ?_
   simp only[al,U,simprocAttr]
   simp[eI,hw]
  ·cases h
 try simp only[c4,U,simprocAttr]
 refine .flat _ (rP m.gb 0 2) rfl ?_
 generalize hf:b7 0 2 m.gb=bf
 cases bf
 ·try simp only[U,simprocAttr]
  refine .done (hK _ ?_);clear hK K
  refine J.bI ?_
  simp only[aj,U,simprocAttr]
  refine ⟨fun h =>?_,fun h =>?_⟩
  ·refine .ao (by decide +kernel) fun K hK =>?_
   simp only[sR,U,simprocAttr]
   refine .done (hK _ ?_);clear hK K
   refine J.ret ?_
   simp only[al,U,simprocAttr]
   simp[eI,hw,hf]
  ·cases h
 try simp only[c4,bx,U,simprocAttr]
 refine .done (hK _ ?_);clear hK K
 refine J.bI ?_
 simp only[aj,U,simprocAttr]
 refine ⟨fun h =>?_,fun h =>?_⟩
 ·refine .ao (by decide +kernel) fun K hK =>?_
  simp only[sR,U,simprocAttr]
  refine .done (hK _ ?_);clear hK K
  refine J.ret ?_
  simp only[al,U,simprocAttr]
  have:¬ m.given.length≤40:=by simp at h;omega
  simp[eI,hw,hf,this]
 have hlen:m.given.length≤40:=by simp at h;omega
 refine J.skip ?_;try simp only[al,simprocAttr]
 refine J.seq (J.seq ?_)
 refine J.bD (by decide +kernel) fun K hK =>?_
 try simp only[Iv,c4,bx,U,simprocAttr]
 refine .done (hK _ ?_);clear hK K
 refine J.block (J.loop (fun i:Nat=>ar [(1,.ptr 1 []),(22,enc m.given),(23,.int .i64 m.given.length),(24,.int .i64 i)] [(1,.box (enc m))]) (fun i=>i≤m.given.length∧∀ j,j<i→fu m j=true) (fun i=>m.given.length-i) 0 ⟨by omega,fun k h=>by omega⟩ ?_ (fun i hi =>?_))
 ·refine az.bR ?_ ?_ ?_ ?_ <;>simp[aT,bN,bM,bg,aq,aU,cw,I.only,ah.only,br]
 refine .ao (by decide +kernel) fun K hK =>?_
 simp only[Iw,U,simprocAttr]
 refine .done (hK _ ?_);clear hK K
 refine J.seq ?_
 refine J.bI ?_
 simp only[aj,U,simprocAttr]
 refine ⟨fun h =>?_,fun h =>?_⟩
 case refine_2.refine_2 =>
  have hge:i=m.given.length:=by simp at h;omega
  subst hge
  refine J.exit ?_;try simp only[al,bP,simprocAttr]
  refine .ao (by decide +kernel) fun K hK =>?_
  simp only[IA,U,simprocAttr]
  refine .done (hK _ ?_);clear hK K
  refine J.ret ?_
  simp only[U,simprocAttr]
  have:(List.range m.given.length).all (fu m)=true:=lq hi.2
  simp[eI,hw,hf,this,hlen]
 have hlt:i<m.given.length:=by simpa using h
 refine J.skip ?_;try simp only[al,simprocAttr]
 refine J.seq (J.block ?_)
 refine .ao (by decide +kernel) fun K hK =>?_
 simp only[Iy,U,simprocAttr]
 try simp only[c4,nF hlt,U,simprocAttr]
 rw[ej (dG _) (by rw[fS];rfl) ((eD _).trans rfl)]
 try simp only[U,simprocAttr]
 refine .done (hK _ ?_);clear hK K
 have bad:∀ b,fu m i=b→b=false→(if eI m then (0:Int) else 13)=13:=fun b h1 h2=>by
  have:(List.range m.given.length).all (fu m)=false:=j6 i hlt (by rw[h1,h2])
  simp[eI,this]
 have htake:∀ g∈m.given.take i,fv g.mark=true:=fun g hg=>by
  rw[List.mem_take_iff_getElem] at hg
  obtain ⟨j,hj,rfl⟩:=hg
  have hjl:j<m.given.length:=by omega
  rw[jN hjl]
  exact tP (hi.2 j (by omega))
 refine .ao (by decide +kernel) fun K hK =>?_
 simp only[Iz,U,simprocAttr]
 try simp only[c4,U,simprocAttr]
 refine .flat _ (N9 (cd m i).bQ) rfl ?_
 generalize ho:b7 1 99 (cd m i).bQ=bo
 cases bo
 ·try simp only[U,simprocAttr]
  refine .done (hK _ ?_);clear hK K
  refine J.bI ?_
  simp only[aj,U,simprocAttr]
  refine ⟨fun h =>?_,fun h =>?_⟩
  ·refine .ao (by decide +kernel) fun K hK =>?_
   simp only[pD,U,simprocAttr]
   refine .done (hK _ ?_);clear hK K
   refine J.ret ?_
   simp only[bP,al,U,simprocAttr]
   rw[bad _ rfl (by simp[fu,ho])]
  ·cases h
 try simp only[c4,ea,U,simprocAttr]
 refine .flat _ (Oa (cd m i).mark) rfl ?_
 generalize hk:fv (cd m i).mark=bk
 cases bk
 ·try simp only[U,simprocAttr]
  refine .done (hK _ ?_);clear hK K
  refine J.bI ?_
  simp only[aj,U,simprocAttr]
  refine ⟨fun h =>?_,fun h =>?_⟩
  ·refine .ao (by decide +kernel) fun K hK =>?_
   simp only[pD,U,simprocAttr]
   refine .done (hK _ ?_);clear hK K
   refine J.ret ?_
   simp only[bP,al,U,simprocAttr]
   rw[bad _ rfl (by simp[fu,ho,hk])]
  ·cases h
 try simp only[U,simprocAttr]
 generalize hz:decide (0<(i:Int))=bz
 cases bz
 ·have hprev:(i==0||decide ((cd m (i-1)).bQ<(cd m i).bQ))=true:=by simp at hz;simp[hz]
  try simp only[c4,U,simprocAttr]
  try simp only[c4,ea,yZ 7 (Nat.le_of_lt hlt) rfl,Option.map_none,U,simprocAttr]
  refine .flat _ (zq m (m.given.take i) (cd m i).mark htake hk) rfl ?_
  rw[zY m (cd m i).mark (Nat.le_of_lt hlt)]
  generalize hap:(List.range i).all (fun j => !hJ m (cd m j).mark (cd m i).mark)=ba
  cases ba
  ·try simp only[U,simprocAttr]
   refine .done (hK _ ?_);clear hK K
   refine J.bI ?_
   simp only[aj,U,simprocAttr]
   refine ⟨fun h =>?_,fun h =>?_⟩
   ·refine .ao (by decide +kernel) fun K hK =>?_
    simp only[pD,U,simprocAttr]
    refine .done (hK _ ?_);clear hK K
    refine J.ret ?_
    simp only[bP,al,U,simprocAttr]
    rw[bad _ rfl (by simp only[fu,hap,Bool.and_false])]
   ·cases h
  ·try simp only[U,simprocAttr]
   refine .done (hK _ ?_);clear hK K
   refine J.bI ?_
   simp only[aj,U,simprocAttr]
   refine ⟨fun h =>?_,fun h =>?_⟩
   ·cases h
   refine J.skip ?_;try simp only[al,bP,simprocAttr]
   refine .bD (by decide +kernel) fun K hK =>?_
   simp only[wX,U,simprocAttr]
   refine .done (hK _ ?_);clear hK K;try simp only[al]
   refine ⟨i+1,⟨by omega,fun k hk' =>?_⟩,by omega,?_⟩
   ·by_cases hki:k=i
    ·rw[hki]
     simp only[fu,ho,hk,hprev,hap,Bool.and_self]
    ·exact hi.2 k (by omega)
   ·rw[cG _ (by omega) (by omega)]
    refine az.bR ?_ ?_ ?_ ?_ <;>simp[aT,bN,bM,bg,aq,aU,cw,I.only,ah.only,br]
 ·have hpos:0<i:=by simpa using hz
  have hpl:i-1<m.given.length:=by omega
  have hpred:IntKind.i64.wrap ((i:Int)-1)=((i-1:Nat):Int):=by rw[cG _ (by omega) (by omega)];omega
  try simp only[c4,hpred,nF hpl,U,simprocAttr]
  generalize hq:decide ((cd m i).bQ≤(cd m (i-1)).bQ)=bq
  cases bq
  ·have hprev:(i==0||decide ((cd m (i-1)).bQ<(cd m i).bQ))=true:=by simp at hq;simp;omega
   try simp only[c4,U,simprocAttr]
   try simp only[c4,ea,yZ 7 (Nat.le_of_lt hlt) rfl,Option.map_none,U,simprocAttr]
   refine .flat _ (zq m (m.given.take i) (cd m i).mark htake hk) rfl ?_
   rw[zY m (cd m i).mark (Nat.le_of_lt hlt)]
   generalize hap:(List.range i).all (fun j => !hJ m (cd m j).mark (cd m i).mark)=ba
   cases ba
   ·try simp only[U,simprocAttr]
    refine .done (hK _ ?_);clear hK K;try simp only[al,bP]
    refine J.bI ?_
    simp only[aj,U,simprocAttr]
    refine ⟨fun h =>?_,fun h =>?_⟩
    ·refine .ao (by decide +kernel) fun K hK =>?_
     simp only[pD,U,simprocAttr]
     refine .done (hK _ ?_);clear hK K
     refine J.ret ?_
     simp only[bP,al,U,simprocAttr]
     rw[bad _ rfl (by simp only[fu,hap,Bool.and_false])]
    ·cases h
   ·try simp only[U,simprocAttr]
    refine .done (hK _ ?_);clear hK K
    refine J.bI ?_
    simp only[aj,U,simprocAttr]
    refine ⟨fun h =>?_,fun h =>?_⟩
    ·cases h
    refine J.skip ?_;try simp only[al,bP,simprocAttr]
    refine .bD (by decide +kernel) fun K hK =>?_
    simp only[wX,U,simprocAttr]
    refine .done (hK _ ?_);clear hK K;try simp only[al]
    refine ⟨i+1,⟨by omega,fun k hk' =>?_⟩,by omega,?_⟩
    ·by_cases hki:k=i
     ·rw[hki]
      simp only[fu,ho,hk,hprev,hap,Bool.and_self]
     ·exact hi.2 k (by omega)
    ·rw[cG _ (by omega) (by omega)]
     refine az.bR ?_ ?_ ?_ ?_ <;>simp[aT,bN,bM,bg,aq,aU,cw,I.only,ah.only,br]
  ·try simp only[U,simprocAttr]
   refine .done (hK _ ?_);clear hK K;try simp only[al,bP]
   refine J.bI ?_
   simp only[aj,U,simprocAttr]
   refine ⟨fun h =>?_,fun h =>?_⟩
   ·refine .ao (by decide +kernel) fun K hK =>?_
    simp only[pD,U,simprocAttr]
    refine .done (hK _ ?_);clear hK K
    refine J.ret ?_
    simp only[bP,al,U,simprocAttr]
    have:(i==0||decide ((cd m (i-1)).bQ<(cd m i).bQ))=false:=by simp at hq;simp;omega
    rw[bad _ rfl (by simp only[fu,this,Bool.and_false,Bool.false_and])]
   ·cases h
theorem OX(f:FuncId)(caps:List I)(hcaps:I.eQ caps=true):aw Tryz.prog 200 [enc ([]:List cA),.func f caps] (enc ([]:List cA)):=by
 refine aw.bp Tryz.func200 Ct CA CO (Nat.le_of_ble_eq_true rfl) (fun hwf W0 D0 E1 =>?_)
 simp only[vj,yA,a6,Nat.zero_add]
 have hcl:I.bY caps=true:=kH caps hcaps
 have hfc:∀ aC A,bZ aC A caps=some caps:=fun aC A=>kJ aC A caps hcaps
 refine .ao (by decide +kernel) fun K hK =>?_
 simp only[wR,U,simprocAttr]
 refine .done (hK _ ?_);clear hK K
 refine .ao (by decide +kernel) fun K hK =>?_
 simp only[wS,U,simprocAttr]
 try simp only[ea,hfc,U,simprocAttr]
 refine .flat _ (uL [] f caps hcaps (fun _=>false) (fun x hx=>by cases hx)) rfl ?_
 try simp only[List.findIdx?_nil,U,simprocAttr]
 refine .done (hK _ ?_);clear hK K
 refine J.seq (J.seq ?_)
 refine .bD (by decide +kernel) fun K hK =>?_
 simp only[sP,U,simprocAttr]
 refine .done (hK _ ?_);clear hK K;try simp only[al]
 refine J.bI ?_
 simp only[aj,U,simprocAttr]
 refine ⟨fun h =>?_,fun h =>?_⟩
 ·refine .ao (by decide +kernel) fun K hK =>?_
  simp only[wU,U,simprocAttr]
  refine .done (hK _ ?_);clear hK K
  refine J.ret ?_
  simp only[al,U,simprocAttr]
  try simp only[ea,U,simprocAttr]
 ·cases h
def fM(p:cA→Bool)(l:List cA):List cA:=l.filter fun x => !p x
def CU(k:Nat)(l:List cA):cV:=fun r os'=>∃ m,r=.view k [] 7 0 l.length∧os'=iG k l m
theorem yi(p:Nat→Bool)(m:Nat)(x:cA):I.bV p (List.replicate m (enc x))=true:=by
 have:List.replicate m (enc x)=(List.replicate m x).map (enc (α:=cA)):=by simp
 rw[this];exact ec p _
theorem akh(p:Nat→Bool)(xs:List cA)(i:Nat)(v:cA):I.bV p ((xs.map enc).set i (enc v))=true:=by
 rw[←List.map_set];exact ec p _
theorem yK{xs:List cA}{m j:Nat}(h:j<xs.length):((xs++List.replicate m gf).map (enc (α:=cA)))[0+j]?=some (enc xs[j]):=by
 rw[Nat.zero_add,List.getElem?_map,List.getElem?_append_left h,List.getElem?_eq_getElem h];rfl
theorem ali{xs:List cA}{m i:Nat}(h:i<xs.length)(v:cA):((xs++List.replicate m gf).map (enc (α:=cA))).set (0+i) (enc v)=(xs.set i v++List.replicate m gf).map enc:=by
 rw[Nat.zero_add,←List.map_set,List.set_append_left _ _ h]
theorem zg(l:List cA)(m:Nat):(l++List.replicate m gf).take l.length=l:=List.take_left
theorem vS(p:cA→Bool)(l:List cA){j:Nat}(h:j<l.length):fM p (l.take (j+1))=fM p (l.take j)++(if p l[j] then [] else [l[j]]):=by
 rw[List.take_succ_eq_append_getElem h]
 simp only[fM,List.filter_append,List.filter_cons,List.filter_nil]
 cases p l[j] <;>simp
theorem OW(l:List cA)(f:FuncId)(caps:List I)(hcaps:I.eQ caps=true)(p:cA→Bool)(hf:∀ x∈l,aw Tryz.prog f (enc x::caps) (enc (p x)))(hlen:l.length≤1000)(m:Nat) :
  cH Tryz.prog 200 [.view 1000000 [] 7 0 l.length,.func f caps] (iG 1000000 l m) (CU 1000000 (fM p l)):=by
 refine cH.bp Tryz.func200 Ct CA CO (Nat.le_of_ble_eq_true rfl) (Nat.le_of_ble_eq_true rfl) (fun m hm=>by rw[dw.1 hm];exact Nat.le_refl _) (fun hwf W0 D0 E1 =>?_)
 simp only[vj,yA,a6,Nat.zero_add]
 have hcl:I.bY caps=true:=kH caps hcaps
 have hfc:∀ aC A,bZ aC A caps=some caps:=fun aC A=>kJ aC A caps hcaps
 have hon:∀ q,I.bV q caps=true:=fun q=>kl q caps hcl
 simp only[iG]
 refine .ao (by decide +kernel) fun K hK =>?_
 simp only[wR,U,simprocAttr]
 refine .done (hK _ ?_);clear hK K
 refine .ao (by decide +kernel) fun K hK =>?_
 simp only[wS,U,simprocAttr]
 try simp only[hfc,sH (α:=cA) (sz:=7) rfl,zg,U,simprocAttr]
 refine .flat _ (uL l f caps hcaps p hf) rfl ?_
 try simp only[U,simprocAttr]
 refine .done (hK _ ?_);clear hK K
 generalize hfi:l.findIdx? p=fi
 cases fi with
 |none =>
  rw[List.findIdx?_eq_none_iff] at hfi
  have hk:fM p l=l:=by
   simp only[fM,List.filter_eq_self];intro x hx;simp[hfi x hx]
  refine J.seq (J.seq ?_)
  refine .bD (by decide +kernel) fun K hK =>?_
  simp only[sP,U,simprocAttr]
  refine .done (hK _ ?_);clear hK K;try simp only[al]
  refine J.bI ?_
  simp only[aj,U,simprocAttr]
  refine ⟨fun h =>?_,fun h =>?_⟩
  ·refine .ao (by decide +kernel) fun K hK =>?_
   simp only[wU,U,simprocAttr]
   refine .done (hK _ ?_);clear hK K
   refine J.ret ?_
   simp only[al,fP]
   rw[hk]
   exact ⟨iG 1000000 l m,[.view 1000000 [] 7 0 l.length],nu rfl (fun p=>mA p _),⟨⟨_,rfl,.inl ⟨rfl,rfl,rfl⟩⟩,trivial⟩,m,rfl,rfl⟩
  ·cases h
 |some i0 =>
  obtain ⟨q1,q2,q3⟩:=List.findIdx?_eq_some_iff_getElem.1 hfi
  have hstart:l.take i0=fM p (l.take (i0+1)):=by
   rw[vS p l q1,q2]
   simp only[if_true,List.append_nil,fM]
   symm
   rw[List.filter_eq_self]
   intro x hx
   rw[List.mem_take_iff_getElem] at hx
   obtain ⟨j,hj,rfl⟩:=hx
   have:=q3 j (by omega)
   simpa using this
  refine J.seq (J.seq ?_)
  refine .bD (by decide +kernel) fun K hK =>?_
  simp only[sP,U,simprocAttr]
  refine .done (hK _ ?_);clear hK K;try simp only[al]
  refine J.bI ?_
  simp only[aj,U,simprocAttr]
  refine ⟨fun h =>?_,fun h =>?_⟩
  ·simp at h
  refine J.skip ?_;try simp only[al,simprocAttr]
  refine J.seq (J.seq ?_)
  refine .bD (by decide +kernel) fun K hK =>?_
  simp only[Hn,U,simprocAttr]
  refine .done (hK _ ?_);clear hK K;try simp only[al]
  refine J.block (J.loop (fun s:List cA×Nat×Nat=>ar [(0,.view 1000000 [] 7 0 l.length),(1,.func f caps),(5,.int .i64 s.2.1),(6,.int .i64 s.2.2)] [(1000000,.box (.agg ((s.1++List.replicate m gf).map enc)))])
   (fun s=>s.1.length=l.length∧s.2.1<s.2.2∧s.2.2≤l.length∧s.1.take s.2.1=fM p (l.take s.2.2)∧s.1.drop s.2.2=l.drop s.2.2) (fun s=>l.length-s.2.2) (l,i0,i0+1) ⟨rfl,by simp only;omega,by simp only;omega,hstart,rfl⟩ ?_ ?_)
  ·rw[cG _ (by omega) (by omega)]
   refine az.bR ?_ ?_ ?_ ?_ <;>simp[aT,bN,bM,bg,aq,aU,cw,I.only,ah.only,ec,iB,hon,yi]
  ·rintro ⟨xs,i,j⟩ ⟨c1,c2,c3,j8,lv⟩
   simp only at c1 c2 c3 j8 lv ⊢
   refine J.seq (J.seq ?_)
   refine .bD (by decide +kernel) fun K hK =>?_
   simp only[Ho,U,simprocAttr]
   try simp only[df,U,simprocAttr]
   refine .done (hK _ ?_);clear hK K;try simp only[al]
   refine J.bI ?_
   simp only[aj,U,simprocAttr]
   refine ⟨fun h =>?_,fun h =>?_⟩
   ·have hj:j<l.length:=by simpa using h
    have hjx:j<xs.length:=by omega
    have hix:i<xs.length:=by omega
    have hxj:xs[j]=l[j]:=by
     have h1:(xs.drop j)[0]?=(l.drop j)[0]?:=by rw[lv]
     simpa[hj,hjx] using h1
    refine J.skip ?_;try simp only[al,simprocAttr]
    refine J.seq (J.block ?_)
    refine .ao (by decide +kernel) fun K hK =>?_
    simp only[Hp,U,simprocAttr]
    try simp only[df,xL (sz:=7) hj,List.nil_append,U,simprocAttr]
    try simp only[yK hjx,hxj,c4,U,simprocAttr]
    rw[ej (dG _) (by rw[fS];rfl) ((eD _).trans rfl)]
    try simp only[U,simprocAttr]
    refine .done (hK _ ?_);clear hK K
    refine .ao (by decide +kernel) fun K hK =>?_
    simp only[Hq,U,simprocAttr]
    try simp only[c4,ea,hfc,List.cons_append,List.nil_append,U,simprocAttr]
    refine .flat _ (hf _ (List.getElem_mem hj)) rfl ?_
    try simp only[U,simprocAttr]
    refine .done (hK _ ?_);clear hK K
    refine J.bI ?_
    simp only[aj,U,simprocAttr]
    refine ⟨fun h =>?_,fun h =>?_⟩
    ·have hpj:p l[j]=false:=by simpa using h
     refine .ao (by decide +kernel) fun K hK =>?_
     simp only[Hr,U,simprocAttr]
     try simp only[c4,df,xL (sz:=7) (show i<l.length by omega),List.nil_append,U,simprocAttr]
     try simp only[yK hix,U,simprocAttr]
     rw[ej (dG _) (by rw[fS];rfl) ((eD _).trans (eD _).symm)]
     try simp only[yK hix,ali hix,U,simprocAttr]
     refine .done (hK _ ?_);clear hK K
     refine .bD (by decide +kernel) fun K hK =>?_
     simp only[Hs,U,simprocAttr]
     refine .done (hK _ ?_);clear hK K;try simp only[al,bP]
     refine .bD (by decide +kernel) fun K hK =>?_
     simp only[wT,U,simprocAttr]
     refine .done (hK _ ?_);clear hK K;try simp only[al]
     refine ⟨(xs.set i l[j],i+1,j+1),⟨by simp[c1],by simp only;omega,by simp only;omega,?_,?_⟩,by simp only;omega,?_⟩
     ·simp only
      rw[vS p l hj,hpj,←j8]
      simp only[Bool.false_eq_true,if_false]
      rw[List.take_succ_eq_append_getElem (by simpa using hix),List.take_set_of_le (Nat.le_refl _)]
      simp
     ·simp only
      rw[List.drop_set_of_lt (by omega)]
      have:(xs.drop j).drop 1=(l.drop j).drop 1:=by rw[lv]
      simpa[List.drop_drop] using this
     ·simp only
      rw[cG _ (by omega) (by omega),cG _ (by omega) (by omega)]
      refine az.bR ?_ ?_ ?_ ?_ <;>simp[aT,bN,bM,bg,aq,aU,cw,I.only,ah.only,iB,hon,yi,akh]
    ·have hpj:p l[j]=true:=by simpa using h
     refine J.skip ?_;try simp only[al,bP,simprocAttr]
     refine .bD (by decide +kernel) fun K hK =>?_
     simp only[wT,U,simprocAttr]
     refine .done (hK _ ?_);clear hK K;try simp only[al]
     refine ⟨(xs,i,j+1),⟨c1,by simp only;omega,by simp only;omega,?_,?_⟩,by simp only;omega,?_⟩
     ·simp only
      rw[vS p l hj,hpj,←j8]
      simp
     ·simp only
      have:(xs.drop j).drop 1=(l.drop j).drop 1:=by rw[lv]
      simpa[List.drop_drop] using this
     ·simp only
      rw[cG _ (by omega) (by omega)]
      refine az.bR ?_ ?_ ?_ ?_ <;>simp[aT,bN,bM,bg,aq,aU,cw,I.only,ah.only,ec,iB,hon,yi]
   ·have hj:j=l.length:=by simp at h;omega
    subst hj
    rw[List.take_length] at j8
    have hlk:(fM p l).length=i:=by rw[←j8,List.length_take];omega
    have htot:((xs++List.replicate m gf).map (enc (α:=cA))).length=l.length+m:=by simp[c1]
    refine J.exit ?_;try simp only[al,bP,simprocAttr]
    refine .ao (by decide +kernel) fun K hK =>?_
    simp only[Hl,U,simprocAttr]
    try simp only[df,htot,Option.map_none,y6 (show i≤l.length by omega) (show l.length≤l.length+m by omega) (show i<l.length+m by omega),vI,U,simprocAttr]
    rw[vx gf rfl (by simp[c1];omega)]
    have hcont:(xs++List.replicate m gf).take i++(List.replicate (l.length-i) gf++(xs++List.replicate m gf).drop (i+(l.length-i)))=fM p l++List.replicate (l.length-i+m) gf:=by
     rw[List.take_append_of_le_length (by omega),j8]
     have e1:i+(l.length-i)=xs.length:=by omega
     rw[e1,List.drop_left,List.replicate_append_replicate]
    rw[hcont]
    try simp only[U,simprocAttr]
    refine .done (hK _ ?_);clear hK K
    have htot2:((fM p l++List.replicate (l.length-i+m) gf).map (enc (α:=cA))).length=l.length+m:=by simp[hlk];omega
    refine .ao (by decide +kernel) fun K hK =>?_
    simp only[Hm,U,simprocAttr]
    try simp only[df,htot2,Option.map_none,y5 (show i≤l.length+m by omega) (show 0<l.length+m by omega),U,simprocAttr]
    refine .done (hK _ ?_);clear hK K
    refine J.ret ?_
    simp only[fP]
    exact ⟨iG 1000000 (fM p l) (l.length-i+m),[.view 1000000 [] 7 0 i],nu rfl (fun p=>mA p _),⟨⟨_,rfl,.inl ⟨rfl,rfl,rfl⟩⟩,trivial⟩,l.length-i+m,by rw[hlk];rfl,rfl⟩
def pO(a:Item)(k d kn b:Int):au:=⟨a,k,d,kn,b,0,0,0,il,⟨0,0⟩⟩
theorem C1:I.agg [.agg [.int .i64 0,.int .i64 0],.int .i64 0,.int .i64 0,.int .i64 0,.int .i64 0,.int .i64 0,.int .i64 0,.int .i64 0,.agg [.int .i64 0,.int .i64 0,.int .i64 0,.int .i64 0,.int .i64 0,.int .i64 0],.agg [.int .i64 0,.int .i64 0]]=enc (pO ⟨0,0⟩ 0 0 0 0):=rfl
theorem Al(a:Item)(k d kn b:Int):(eB [.agg [.int .i64 0,.int .i64 0],.int .i64 0,.int .i64 0,.int .i64 0,.int .i64 0,.int .i64 0,.int .i64 0,.int .i64 0,.agg [.int .i64 0,.int .i64 0,.int .i64 0,.int .i64 0,.int .i64 0,.int .i64 0],.agg [.int .i64 0,.int .i64 0]] [(0,enc a),(1,.int .i64 k),(2,.int .i64 d),(3,.int .i64 kn),(4,.int .i64 b)]).map .agg=some (enc (pO a k d kn b)):=by
 simp[eB,I.cq,I.size,I.sizes,iQ,sC];rfl
theorem Ak(a:Item)(k d kn:Int):(eB [.agg [.int .i64 0,.int .i64 0],.int .i64 0,.int .i64 0,.int .i64 0,.int .i64 0,.int .i64 0,.int .i64 0,.int .i64 0,.agg [.int .i64 0,.int .i64 0,.int .i64 0,.int .i64 0,.int .i64 0,.int .i64 0],.agg [.int .i64 0,.int .i64 0]] [(0,enc a),(1,.int .i64 k),(2,.int .i64 d),(3,.int .i64 kn)]).map .agg=some (enc (pO a k d kn 0)):=by
 simp[eB,I.cq,I.size,I.sizes,iQ,sC];rfl
theorem Nq(A:ae)(n:Nat)(b:I)(x y:au)(rest:List aB):dm A (some 17) n [] b (enc x) rest (some (enc y))=ay rest (A.aM n (.box (enc x))):=ej (dG _) (Kg x) ((eD x).trans (eD y).symm)
theorem oU(A:ae)(n:Nat)(p:List Nat)(b:I)(k:IntKind)(x y:Int)(rest:List aB):dm A none n p b (.int k x) rest (some (.int k y))=ay rest (A.aM n (.box (b.dF p (.int k x)))):=ej rfl rfl rfl
theorem alF(A:ae)(n:Nat)(p:List Nat)(b:I)(x y:bA 6 Int)(rest:List aB):dm A (some 6) n p b (enc x) rest (some (enc y))=ay rest (A.aM n (.box (b.dF p (enc x)))):=ej (dG _) (Kf x) ((eD x).trans (eD y).symm)
theorem Nx(A:ae)(n:Nat)(p:List Nat)(b:I)(x y:Item)(rest:List aB):dm A (some 2) n p b (enc x) rest (some (enc y))=ay rest (A.aM n (.box (b.dF p (enc x)))):=ej (dG _) (Kh x) ((eD x).trans (eD y).symm)
theorem Nb :
  (∀ (A:ae) (n:Nat) (rest:List aB) (e:au) v y,dm A (some 2) n [0] (enc e) (enc (v:Item)) rest (some (enc (y:Item)))=ay rest (A.aM n (.box (enc { e with da:=v })))) ∧
  (∀ (A:ae) (n:Nat) (rest:List aB) (e:au) v y,dm A none n [1] (enc e) (.int .i64 v) rest (some (.int .i64 y))=ay rest (A.aM n (.box (enc { e with kind:=v })))) ∧
  (∀ (A:ae) (n:Nat) (rest:List aB) (e:au) v y,dm A none n [2] (enc e) (.int .i64 v) rest (some (.int .i64 y))=ay rest (A.aM n (.box (enc { e with day:=v })))) ∧
  (∀ (A:ae) (n:Nat) (rest:List aB) (e:au) v y,dm A none n [3] (enc e) (.int .i64 v) rest (some (.int .i64 y))=ay rest (A.aM n (.box (enc { e with known:=v })))) ∧
  (∀ (A:ae) (n:Nat) (rest:List aB) (e:au) v y,dm A none n [4] (enc e) (.int .i64 v) rest (some (.int .i64 y))=ay rest (A.aM n (.box (enc { e with c5:=v })))) ∧
  (∀ (A:ae) (n:Nat) (rest:List aB) (e:au) v y,dm A none n [5] (enc e) (.int .i64 v) rest (some (.int .i64 y))=ay rest (A.aM n (.box (enc { e with dP:=v })))) ∧
  (∀ (A:ae) (n:Nat) (rest:List aB) (e:au) v y,dm A none n [6] (enc e) (.int .i64 v) rest (some (.int .i64 y))=ay rest (A.aM n (.box (enc { e with er:=v })))) ∧
  (∀ (A:ae) (n:Nat) (rest:List aB) (e:au) v y,dm A none n [7] (enc e) (.int .i64 v) rest (some (.int .i64 y))=ay rest (A.aM n (.box (enc { e with bQ:=v })))) ∧
  (∀ (A:ae) (n:Nat) (rest:List aB) (e:au) v y,dm A (some 6) n [8] (enc e) (enc (v:bA 6 Int)) rest (some (enc (y:bA 6 Int)))=ay rest (A.aM n (.box (enc { e with bu:=v })))) ∧
  (∀ (A:ae) (n:Nat) (rest:List aB) (e:au) v y,dm A (some 2) n [9] (enc e) (enc (v:Item)) rest (some (enc (y:Item)))=ay rest (A.aM n (.box (enc { e with gY:=v })))) :=
 ⟨fun _ _ _ _ _ _=>by rw[Nx];rfl,fun _ _ _ _ _ _=>by rw[oU];rfl,fun _ _ _ _ _ _=>by rw[oU];rfl,fun _ _ _ _ _ _=>by rw[oU];rfl,fun _ _ _ _ _ _=>by rw[oU];rfl,fun _ _ _ _ _ _=>by rw[oU];rfl,fun _ _ _ _ _ _=>by rw[oU];rfl,fun _ _ _ _ _ _=>by rw[oU];rfl,fun _ _ _ _ _ _=>by rw[alF];rfl,fun _ _ _ _ _ _=>by rw[Nx];rfl⟩
theorem NZ(x y:bA 6 Int):x=y↔x.l=y.l:=by cases x;cases y;simp
theorem ams(p q:Prop)[Decidable p][Decidable q]:ir (some (decide p)) (some (decide q))=some (decide (p∧q)):=by simp[ir]
theorem C7(a b:Int):ca (.i .i64) (.int .i64 a) (.int .i64 b)=some (decide (a=b)):=by simp[ca];rfl
theorem C6(x y:au):ca (.bl [(.bl [(.i .i64),(.i .i64)]),(.i .i64),(.i .i64),(.i .i64),(.i .i64),(.i .i64),(.i .i64),(.i .i64),(.j7 6 (.i .i64)),(.bl [(.i .i64),(.i .i64)])]) (enc x) (enc y)=some (decide (x=y)):=by
 obtain ⟨a1,k1,d1,n1,b1,m1,s1,o1,r1,f1⟩:=x
 obtain ⟨a2,k2,d2,n2,b2,m2,s2,o2,dT,f2⟩:=y
 show ca _ (.agg [enc a1,.int .i64 k1,.int .i64 d1,.int .i64 n1,.int .i64 b1,.int .i64 m1,.int .i64 s1,.int .i64 o1,enc r1,enc f1]) (.agg [enc a2,.int .i64 k2,.int .i64 d2,.int .i64 n2,.int .i64 b2,.int .i64 m2,.int .i64 s2,.int .i64 o2,enc dT,enc f2])=_
 have hr:ca (.j7 6 (.i .i64)) (enc r1) (enc dT)=some (decide (r1=dT)):=by
  rw[sD]
  congr 1
  exact decide_eq_decide.2 (NZ r1 dT).symm
 rw[ca]
 simp only[iR,qz,C7,hr,au.mk.injEq]
 simp[ir]
theorem aL:(type_of% @kZ)∧(type_of% @nJ)∧(type_of% @lR)∧(∀ {α:Type} [Enc α] (aC:Bool) (A:ae) (x:α),bd aC A (enc x)=some (enc x))∧(∀ {α:Type} [Enc α] (x:α),(enc x).cq=true)∧(type_of% @C1)∧(type_of% @Al)∧(type_of% @Ak)∧(type_of% @Nq) ∧
  (type_of% @Nb)∧(type_of% @C6)∧(type_of% @qz)∧(∀ (a:Nat) l m,(a::l)++m=a::(l++m))∧(∀ b:Bool,((if b=true then (0:Int) else 12)==0)=b)∧(∀ b:Bool,((if b=true then (0:Int) else 12) != 0) = !b) :=
 ⟨kZ,nJ,lR,@ea,@dG,C1,Al,Ak,Nq,Nb,C6,qz,fun _ _ _=>rfl,fun b=>by cases b <;>rfl,fun b=>by cases b <;>rfl⟩
theorem Po(x:au):aw Tryz.prog 84 [enc x] (enc (kC x)):=by
 refine aw.bp Tryz.func84 Su Ut WA (Nat.le_of_ble_eq_true rfl) (fun hwf W0 D0 E1 =>?_)
 simp only[Ce,Mq,a6]
 have R:=And.intro @aL @U
 repeat' ((first
  |(with_reducible refine .guard (fun hb =>?_) (fun hb =>?_) <;>try simp only[hb])
  |refine J.aI (by decide +kernel) rfl fun K hK =>?_
  |(refine .aD [0,1,2,3,15,24,25,36,41,47] hK ?_;clear hK K)
  |(with_reducible refine .done (hK _ ?_);clear hK K)
  |refine J.of rfl ?_
  |(with_reducible refine aj.aH (fun h =>?_) (fun h =>?_) <;>try simp only[h])) <;>try simp only[aJ,R,simprocAttr])
 all_goals clear R
 all_goals (congr 1;simp_all[kC,pO])
theorem uI(x:au):aw Tryz.prog 117 [enc x] (enc (gA x)):=by
 refine aw.bp Tryz.func117 QU SQ U1 (Nat.le_of_ble_eq_true rfl) (fun hwf W0 D0 E1 =>?_)
 simp only[Ay,KQ,a6]
 refine .ao (by decide +kernel) fun K hK =>?_
 simp only[Ej,U,simprocAttr]
 try simp only[aL,U,simprocAttr]
 refine .done (hK _ ?_);clear hK K
 refine .ao (by decide +kernel) fun K hK =>?_
 simp only[Ek,U,simprocAttr]
 try simp only[aL,U,simprocAttr]
 refine .done (hK _ ?_);clear hK K
 refine .ao (by decide +kernel) fun K hK =>?_
 simp only[El,U,simprocAttr]
 try simp only[aL,U,simprocAttr]
 refine .flat _ (Ox _) rfl ?_
 try simp only[U,simprocAttr]
 refine .done (hK _ ?_);clear hK K
 refine J.fM [1,2,3,4] ?_
 simp only[xN,reduceIte,Nat.reduceBEq]
 by_cases hk:0≤x.kind∧x.kind≤6
 ·refine J.seq (J.nX (ar [(1,.ptr 1 []),(3,.ptr 3 []),(4,.bool (jM x))] [(1,.box (enc x)),(3,.box (enc (kC x)))]) ?_ fun B hB=>J.sub hB ?_)
  ·clear hwf
   obtain hk | hk | hk | hk | hk | hk | hk:x.kind=0∨x.kind=1∨x.kind=2∨x.kind=3∨x.kind=4∨x.kind=5∨x.kind=6:=by omega
   all_goals
    have R:=And.intro @hk (And.intro @aL @U)
    repeat' ((first
     |(with_reducible refine .guard (fun hb =>?_) (fun hb =>?_) <;>try simp only[hb])
     |refine J.aI (by decide +kernel) rfl fun K hK =>?_
     |refine .flat _ (zm _) rfl ?_
     |refine .flat _ (Oy _) rfl ?_
     |refine .flat _ (Oz _) rfl ?_
     |refine .flat _ (l8 _ _ _) rfl ?_
     |refine .flat _ (zx _) rfl ?_
     |refine .flat _ (uK _) rfl ?_
     |(refine J.rq (gs:=wc) [] [(1,[1]),(3,[3]),(23,[1]),(25,[3]),(26,[3])] [0,1,2,3,4,5] (by decide +kernel) (en.of (by simp[nC,aU,tu,I.only])) fun K hK =>?_;simp only[lT,wc,List.getD_cons_zero,List.getD_cons_succ,R,simprocAttr])
     |(refine J.rq (gs:=we) [] [(1,[1]),(3,[3]),(55,[1]),(57,[1]),(59,[1]),(61,[3]),(62,[3]),(63,[3])] [0,1,2,3,4,5,6,7,8,9,10,11] (by decide +kernel) (en.of (by simp[nC,aU,tu,I.only])) fun K hK =>?_;simp only[lT,we,List.getD_cons_zero,List.getD_cons_succ,R,simprocAttr])
     |(refine .aD [0,1,2,3,4,20,21,53,87,98,110,122] hK ?_;clear hK K)
     |(with_reducible refine .done (hK _ ?_);clear hK K)
     |refine J.of rfl ?_
     |(with_reducible refine aj.aH (fun h =>?_) (fun h =>?_) <;>try simp only[h])) <;>try simp only[aJ,R,simprocAttr])
    all_goals clear R
   all_goals
    refine az.bR ?_ ?_ ?_ ?_ <;>simp[*,aT,bN,bM,bg,aq,aU,cw,I.only,ah.only,br,jM,kC,pO]
  ·have R:=And.intro @aL @U
   repeat' ((first
    |(with_reducible refine .guard (fun hb =>?_) (fun hb =>?_) <;>try simp only[hb])
    |refine J.aI (by decide +kernel) rfl fun K hK =>?_
    |refine .flat _ (zm _) rfl ?_
    |refine .flat _ (uK _) rfl ?_
    |(refine .aD [0,1,2,3,4,20,21,53,87,98,110,122] hK ?_;clear hK K)
    |(with_reducible refine .done (hK _ ?_);clear hK K)
    |refine J.of rfl ?_
    |(with_reducible refine aj.aH (fun h =>?_) (fun h =>?_) <;>try simp only[h])) <;>try simp only[aJ,R,simprocAttr])
   all_goals clear R
   all_goals simp[gA, *]
 ·have h0:(x.kind==0)=false:=by simp;omega
  have h1:(x.kind==1)=false:=by simp;omega
  have h2:(x.kind==2)=false:=by simp;omega
  have h3:(x.kind==3)=false:=by simp;omega
  have h4:(x.kind==4)=false:=by simp;omega
  have h5:(x.kind==5)=false:=by simp;omega
  have h6:(x.kind==6)=false:=by simp;omega
  have R:=And.intro @h0 (And.intro @h1 (And.intro @h2 (And.intro @h3 (And.intro @h4 (And.intro @h5 (And.intro @h6 (And.intro @aL @U)))))))
  repeat' ((first
   |(with_reducible refine .guard (fun hb =>?_) (fun hb =>?_) <;>try simp only[hb])
   |refine J.aI (by decide +kernel) rfl fun K hK =>?_
   |(refine .aD [0,1,2,3,4,20,21,53,87,98,110,122] hK ?_;clear hK K)
   |(with_reducible refine .done (hK _ ?_);clear hK K)
   |refine J.of rfl ?_
   |(with_reducible refine aj.aH (fun h =>?_) (fun h =>?_) <;>try simp only[h])) <;>try simp only[aJ,R,simprocAttr])
  all_goals clear R
  simp at h0 h1 h2 h3 h4 h5 h6
  simp[gA,jM, *]
def gV:au:=pO ⟨0,0⟩ 0 0 0 0
theorem sB:I.agg [.agg [.int .i64 0,.int .i64 0],.int .i64 0,.int .i64 0,.int .i64 0,.int .i64 0,.int .i64 0,.int .i64 0,.int .i64 0,.agg [.int .i64 0,.int .i64 0,.int .i64 0,.int .i64 0,.int .i64 0,.int .i64 0],.agg [.int .i64 0,.int .i64 0]]=enc gV:=rfl
theorem xX(p:Nat→Bool)(l:List au):(I.agg (l.map enc)).only p=true:=by simp only[I.only];exact ec p l
def kV(k:Nat)(l:List au)(m:Nat):List (Nat×ah):=[(k,.box (.agg ((l++List.replicate m gV).map enc)))]
def CH(l:List au):cV:=fun r os'=>(l=[]∧(r=.nils 17∨r=.c0 17)∧os'=[])∨(l≠[]∧∃ m,r=.view 7 [] 17 0 l.length∧os'=kV 7 l m)
theorem Oo(l:List au)(hl:l.length≤1000):cH Tryz.prog 136 [enc l] [] (CH l):=by
 refine cH.bp Tryz.func136 Rc S9 Vj (Nat.le_of_ble_eq_true rfl) (Nat.le_of_ble_eq_true rfl) (fun m hm=>by simp[aq,ak] at hm) (fun hwf W0 D0 E1 =>?_)
 simp only[AR,K8,a6]
 refine .ao (by decide +kernel) fun K hK =>?_
 simp only[Fu,U]
 refine .done (hK _ ?_);clear hK K
 refine J.seq (J.seq ?_)
 by_cases hn:l=[]
 ·subst hn
  refine .bD (by decide +kernel) fun K hK =>?_
  simp only[wF,U,Nat.reduceEqDiff,reduceIte]
  simp only[uz,List.isEmpty_nil,pT]
  refine .any rfl fun b _ =>?_
  try simp only[U]
  generalize (b==0)=t
  cases t
  ·refine .done (hK _ ?_);clear hK K;try simp only[al]
   refine J.bI ?_
   simp only[aj,U,Nat.reduceEqDiff,reduceIte]
   refine ⟨fun h =>?_,fun h =>?_⟩
   ·cases h
   refine J.skip ?_;try simp only[al]
   refine .ao (by decide +kernel) fun K hK =>?_
   simp only[wG,U]
   try simp only[df,sB,U,Nat.reduceEqDiff,reduceIte]
   refine .done (hK _ ?_);clear hK K
   refine J.ret ?_
   simp only[fP]
   exact ⟨[],[.c0 17],qG,⟨⟨.c0 17,rfl,.inl ⟨rfl,rfl,rfl⟩⟩,trivial⟩,.inl ⟨rfl,.inr rfl,rfl⟩⟩
  ·refine .done (hK _ ?_);clear hK K
   refine J.bI ?_
   simp only[aj,U,Nat.reduceEqDiff,reduceIte]
   refine ⟨fun h =>?_,fun h =>?_⟩
   ·refine .ao (by decide +kernel) fun K hK =>?_
    simp only[Fv,U]
    refine .done (hK _ ?_);clear hK K
    refine J.ret ?_
    simp only[al,fP]
    exact ⟨[],[.nils 17],qG,⟨⟨.nils 17,rfl,.inl ⟨rfl,rfl,rfl⟩⟩,trivial⟩,.inl ⟨rfl,.inl rfl,rfl⟩⟩
   ·cases h
 ·have hu:j4 (enc l)=false:=by rw[uz];simpa using hn
  refine .bD (by decide +kernel) fun K hK =>?_
  simp only[wF,U,Nat.reduceEqDiff,reduceIte]
  try simp only[hu,J1 _ l hn,U]
  refine .done (hK _ ?_);clear hK K;try simp only[al]
  refine J.bI ?_
  simp only[aj,U,Nat.reduceEqDiff,reduceIte]
  refine ⟨fun h =>?_,fun h =>?_⟩
  ·cases h
  refine J.skip ?_;try simp only[al]
  refine .ao (by decide +kernel) fun K hK =>?_
  simp only[wG,U]
  try simp only[df,sB,U,Nat.reduceEqDiff,reduceIte]
  refine bj.oa gV rfl hn rfl (by omega) (by simp only[maxLen];omega) fun m =>?_
  try simp only[U,Nat.reduceEqDiff,reduceIte]
  refine .done (hK _ ?_);clear hK K
  refine J.ret ?_
  simp only[fP]
  exact ⟨kV 7 l m,[.view 7 [] 17 0 l.length],nu rfl (fun p=>xX p _),⟨⟨_,rfl,.inl ⟨rfl,rfl,rfl⟩⟩,trivial⟩,.inr ⟨hn,m,rfl,rfl⟩⟩
def Jv(l:List au)(i:Nat)(g:au):List au:=l.take i++g::l.drop i
theorem amu(l:List au)(i k:Nat)(g:au)(h:i<l.length)(hk:1≤k)(xs:List au)(hx:xs=l++List.replicate k gV)(ys:List au)(hy:ys=xs.take (i+1)++(((xs.drop i).take (l.length+1-i)).take (l.length-i)++xs.drop (i+1+(l.length-i)))) :
  ys.take i++([g].take 1++ys.drop (i+1))=Jv l i g++List.replicate (k-1) gV:=by
 have e1:((xs.drop i).take (l.length+1-i)).take (l.length-i)=l.drop i:=by
  rw[List.take_take,Nat.min_eq_left (by omega),hx,List.drop_append_of_le_length (by omega),List.take_append_of_le_length (by rw[List.length_drop];omega),List.take_of_length_le (by rw[List.length_drop];omega)]
 have e2:xs.drop (i+1+(l.length-i))=List.replicate (k-1) gV:=by
  rw[hx,List.drop_append,List.drop_eq_nil_of_le (by omega),List.nil_append,List.drop_replicate]
  congr 1;omega
 have hl:(xs.take (i+1)).length=i+1:=by rw[List.length_take,hx,List.length_append];omega
 have e3:ys.take i=l.take i:=by
  rw[hy,List.take_append_of_le_length (by omega),List.take_take,Nat.min_eq_left (by omega),hx,List.take_append_of_le_length (by omega)]
 have e4:ys.drop (i+1)=l.drop i++List.replicate (k-1) gV:=by
  rw[hy,e1,e2]
  exact List.drop_left' hl
 rw[e3,e4]
 simp[Jv]
def dz(l:List au)(i:Nat):List au:=l.take i++l.drop (i+1)
theorem CW{l:List au}{i:Nat}(h:i<l.length):(dz l i).length=l.length-1:=by
 simp only[dz,List.length_append,List.length_take,List.length_drop];omega
def CT(l:List au)(i:Nat):cV:=fun r os'=>∃ q,r=.view 1000000 [] 17 0 (l.length-1)∧os'=kV 1000000 (dz l i) q
theorem aiC(l:List au)(i k:Nat)(h:i+1<l.length)(xs:List au)(hx:xs=l++List.replicate k gV)(a:List au)(ha:a=xs.take i++(l.drop (i+1)++xs.drop (i+(l.drop (i+1)).length))) :
  a.take (l.length-1)++(List.replicate 1 gV++a.drop (l.length-1+1))=dz l i++List.replicate (k+1) gV:=by
 have e1:xs.take i=l.take i:=by rw[hx,List.take_append_of_le_length (by omega)]
 have e0:i+(l.drop (i+1)).length=l.length-1:=by rw[List.length_drop];omega
 have e2:a=dz l i++xs.drop (l.length-1):=by rw[ha,e1,e0,dz,List.append_assoc]
 have hl:=CW (l:=l) (i:=i) (by omega)
 have e3:a.take (l.length-1)=dz l i:=by rw[e2,←hl,List.take_left]
 have e4:a.drop (l.length-1+1)=List.replicate k gV:=by
  rw[e2,List.drop_append,hl,List.drop_eq_nil_of_le (by omega),List.nil_append,List.drop_drop]
  have:l.length-1+(l.length-1+1-(l.length-1))=l.length:=by omega
  rw[this,hx,List.drop_left]
 rw[e3,e4,List.replicate_append_replicate,Nat.add_comm 1 k]
theorem aiD(l:List au)(k:Nat)(i:Nat)(h:i+1=l.length)(xs:List au)(hx:xs=l++List.replicate k gV):xs.take (l.length-1)++(List.replicate 1 gV++xs.drop (l.length-1+1))=dz l i++List.replicate (k+1) gV:=by
 have e1:l.length-1=i:=by omega
 have e2:xs.drop (l.length-1+1)=List.replicate k gV:=by rw[show l.length-1+1=l.length by omega,hx,List.drop_left]
 have e3:xs.take (l.length-1)=dz l i:=by
  rw[e1,hx,List.take_append_of_le_length (by omega),dz,List.drop_eq_nil_of_le (by omega),List.append_nil]
 rw[e2,e3,List.replicate_append_replicate,Nat.add_comm 1 k]
theorem On(l:List au)(i:Nat)(k:Nat)(hi:i<l.length)(hlen:l.length≤1000) :
  cH Tryz.prog 135 [.view 1000000 [] 17 0 l.length,enc (i:Int),enc ((i+1:Nat):Int)] (kV 1000000 l k) (CT l i):=by
 refine cH.bp Tryz.func135 Rb S8 Vi (Nat.le_of_ble_eq_true rfl) (Nat.le_of_ble_eq_true rfl) (fun m hm=>by rw[dw.1 hm];exact Nat.le_refl _) (fun hwf W0 D0 E1 =>?_)
 simp only[AQ,K7,a6,Nat.zero_add,Nat.reduceAdd]
 simp only[kV]
 obtain ⟨xs,hxs⟩:∃ xs,xs=l++List.replicate k gV:=⟨_,rfl⟩
 have hxl:xs.length=l.length+k:=by rw[hxs];simp
 have htot:(xs.map (enc (α:=au))).length=l.length+k:=by rw[List.length_map];exact hxl
 rw[←hxs]
 have hA:∀ ts,(ar ts [(1000000,.box (.agg (xs.map (enc (α:=au)))))]).o 1000000=some (.box (.agg (xs.map enc))):=fun _=>rfl
 refine .ao (by decide +kernel) fun K hK =>?_
 simp only[Fp,U]
 refine .done (hK _ ?_);clear hK K
 refine .ao (by decide +kernel) fun K hK =>?_
 simp only[Fq,U,Nat.reduceEqDiff,reduceIte]
 try simp only[df,htot,Option.map_some,alA (show i≤i+1 by omega) (show i+1≤l.length by omega) (show l.length≤l.length+k by omega),U,Nat.reduceEqDiff,reduceIte]
 refine .done (hK _ ?_);clear hK K
 refine J.seq (J.seq ?_)
 refine .bD (by decide +kernel) fun K hK =>?_
 simp only[Fs,U,Nat.reduceEqDiff,reduceIte]
 try simp only[c4,bx,lR,ea,U,Nat.reduceEqDiff,reduceIte,Int.reduceBNe,Int.reduceBEq]
 refine .done (hK _ ?_);clear hK K;try simp only[al]
 refine J.bI ?_
 simp only[aj,U,Nat.reduceEqDiff,reduceIte]
 refine ⟨fun h =>?_,fun h =>?_⟩
 ·exfalso
  have:(i:Int)=((i+1:Nat):Int):=by simpa using h
  omega
 refine J.skip ?_;try simp only[al]
 refine .ao (by decide +kernel) fun K hK =>?_
 simp only[Ft,U,Nat.reduceEqDiff,reduceIte]
 try simp only[df,U,Nat.reduceEqDiff,reduceIte]
 refine .done (hK _ ?_);clear hK K
 by_cases hl1:i+1<l.length
 ·have hd:(xs.drop (i+1)).take (l.length-(i+1))=l.drop (i+1):=by
   rw[hxs,List.drop_append_of_le_length (by omega),List.take_append_of_le_length (by rw[List.length_drop];omega),List.take_of_length_le (by rw[List.length_drop];omega)]
  have hdl:i+(l.drop (i+1)).length=l.length-1:=by rw[List.length_drop];omega
  obtain ⟨b,hb⟩:∃ b,b=xs.take i++(l.drop (i+1)++xs.drop (i+(l.drop (i+1)).length)):=⟨_,rfl⟩
  have hbl:b.length=l.length+k:=by rw[hb];simp;omega
  have hcont:=aiC l i k hl1 xs hxs b hb
  refine .ao (by decide +kernel) fun K hK =>?_
  simp only[wC,U,Nat.reduceEqDiff,reduceIte]
  try simp only[df,htot,Option.map_none,Option.map_some,y5 (show i≤l.length+k by omega) (show 0<l.length+k by omega),y6 (show i+1≤l.length by omega) (show l.length≤l.length+k by omega) (show i+1<l.length+k by omega),U,Nat.reduceEqDiff,reduceIte]
  rw[P1 (esz:=17) (xs:=xs) (ys:=l.drop (i+1)) _ _ (by rw[qc (xs:=xs) (hA _) (by omega),hd]) (by simp;omega) (hA _) (by rw[List.length_drop];omega)]
  rw[←hb,hdl]
  try simp only[U,Nat.reduceEqDiff,reduceIte]
  refine .done (hK _ ?_);clear hK K
  have htb:(b.map (enc (α:=au))).length=l.length+k:=by rw[List.length_map];exact hbl
  have hB:∀ ts os,(ar ts ((1000000,.box (.agg (b.map (enc (α:=au)))))::os)).o 1000000=some (.box (.agg (b.map enc))):=fun _ _=>rfl
  refine .ao (by decide +kernel) fun K hK =>?_
  simp only[wD,U,Nat.reduceEqDiff,reduceIte]
  try simp only[df,htb,Option.map_none,Option.map_some,sB,U,Nat.reduceEqDiff,reduceIte]
  rw[Ng (show l.length-1≤l.length by omega) (show l.length≤l.length+k by omega) (by omega)]
  try simp only[df,U,Nat.reduceEqDiff,reduceIte]
  rw[vx (xs:=b) gV (hB _ _) (by omega)]
  have hone:l.length-(l.length-1)=1:=by omega
  try simp only[hone,hcont,U]
  refine .done (hK _ ?_);clear hK K
  refine .ao (by decide +kernel) fun K hK =>?_
  simp only[wE,U,Nat.reduceEqDiff,reduceIte]
  refine .done (hK _ ?_);clear hK K
  refine J.ret ?_
  simp only[fP]
  exact ⟨kV 1000000 (dz l i) (k+1),[.view 1000000 [] 17 0 (l.length-1)],nu rfl (fun p=>xX p _),⟨⟨_,rfl,.inl ⟨rfl,rfl,rfl⟩⟩,trivial⟩,k+1,rfl,rfl⟩
 ·have hie:i+1=l.length:=by omega
  obtain ⟨b,hb⟩:∃ b,b=xs:=⟨_,rfl⟩
  have hbl:b.length=l.length+k:=by rw[hb];exact hxl
  have hcont:=aiD l k i hie xs hxs
  rw[←hb] at hcont
  have hi1:i=l.length-1:=by omega
  obtain ⟨y,hy⟩:=alz (n:=1000000) (p:=[]) (sz:=17) (show i+1≤l.length by omega) (show l.length≤l.length+k by omega)
  have hye:∀ ts,ev (ar ts [(1000000,.box (.agg (xs.map (enc (α:=au)))))]) 17 y=some []:=fun ts=>by
   by_cases hk:k=0
   ·have:hE 1000000 [] 17 0 l.length (l.length+k) (some (.int .i64 ((i+1:Nat):Int))) none none=some (.c0 17):=by
     simp only[hE,ib]
     rw[if_pos ⟨by omega,by omega,by omega⟩,if_pos (by omega)]
    rw[this] at hy;cases hy;rfl
   ·rw[y6 (show i+1≤l.length by omega) (show l.length≤l.length+k by omega) (by omega)] at hy
    cases hy
    rw[qc (xs:=xs) (hA _) (by omega),hie]
    simp
  refine .ao (by decide +kernel) fun K hK =>?_
  simp only[wC,U,Nat.reduceEqDiff,reduceIte]
  try simp only[df,htot,Option.map_none,Option.map_some,y5 (show i≤l.length+k by omega) (show 0<l.length+k by omega),hy,U,Nat.reduceEqDiff,reduceIte]
  rw[z7 (esz:=17) (xs:=xs) _ _ (hye _) (hA _) (by omega)]
  rw[hi1,←hb]
  try simp only[U,Nat.reduceEqDiff,reduceIte]
  refine .done (hK _ ?_);clear hK K
  have htb:(b.map (enc (α:=au))).length=l.length+k:=by rw[List.length_map];exact hbl
  have hB:∀ ts os,(ar ts ((1000000,.box (.agg (b.map (enc (α:=au)))))::os)).o 1000000=some (.box (.agg (b.map enc))):=fun _ _=>rfl
  refine .ao (by decide +kernel) fun K hK =>?_
  simp only[wD,U,Nat.reduceEqDiff,reduceIte]
  try simp only[df,htb,Option.map_none,Option.map_some,sB,U,Nat.reduceEqDiff,reduceIte]
  rw[Ng (show l.length-1≤l.length by omega) (show l.length≤l.length+k by omega) (by omega)]
  try simp only[df,U,Nat.reduceEqDiff,reduceIte]
  rw[vx (xs:=b) gV (hB _ _) (by omega)]
  have hone:l.length-(l.length-1)=1:=by omega
  try simp only[hone,hcont,U]
  refine .done (hK _ ?_);clear hK K
  refine .ao (by decide +kernel) fun K hK =>?_
  simp only[wE,U,Nat.reduceEqDiff,reduceIte]
  refine .done (hK _ ?_);clear hK K
  refine J.ret ?_
  simp only[fP]
  exact ⟨kV 1000000 (dz l i) (k+1),[.view 1000000 [] 17 0 (l.length-1)],nu rfl (fun p=>xX p _),⟨⟨_,rfl,.inl ⟨rfl,rfl,rfl⟩⟩,trivial⟩,k+1,rfl,rfl⟩
def ef(b:aA)(s:I):I:=.agg [.agg [.int .i64 b.no,.int .i64 b.er,.int .i64 b.dP,.int .i64 b.bQ,.int .i64 b.fg,.int .i64 b.born,.int .i64 b.dA,.bool b.found,s]]
structure eF where
 b:aA
instance:Enc eF where
 enc x:=.agg [enc x.b]
 sz:=9
 aQ:=.eg [.eg [.one,.one,.one,.one,.one,.one,.one,.one,.one]]
 fV:=true
 done e:=by simp only[I.done,I.eQ,Enc.done,Bool.and_self]
 size e:=by simp only[I.size,I.sizes,iQ,C4]
 jX e:=by simp only[I.aQ,I.cR,eD];rfl
 agg _:=rfl
def eT(B:Nat):Nat→List aA→List (Nat×ah)
 |_,[]=>[]
 |i,b::bs=>(B+2+2*i,.box (ef b (.own (B+3+2*i) b.bu.length)))::(B+3+2*i,.bW 66 6 (b.bu.map enc))::eT B (i+1) bs
def ed(B n:Nat):List I:=(List.range n).map fun i=>.ptr (B+2+2*i) []
def dp(bs:List aA):List I:=(bs.map (·.no)).map enc
def ct(B:Nat)(bs:List aA):List (Nat×ah):=(B,.box (.agg [.mref (B+1)]))::(B+1,.cu (dp bs) (ed B bs.length))::eT B 0 bs
theorem tn(B:Nat):∀ (bs:List aA) (i n:Nat),n<B+2+2*i→ak (eT B i bs) n=none
 | [],_,_,_=>rfl
 |b::bs,i,n,h=>by
  simp only[eT,ak]
  rw[if_neg (by omega),if_neg (by omega)]
  exact tn B bs (i+1) n (by omega)
theorem tl(B:Nat):∀ (bs:List aA) (i n:Nat),B+2+2*(i+bs.length)≤n→ak (eT B i bs) n=none
 | [],_,_,_=>rfl
 |b::bs,i,n,h=>by
  simp only[List.length_cons] at h
  simp only[eT,ak]
  rw[if_neg (by omega),if_neg (by omega)]
  exact tl B bs (i+1) n (by omega)
theorem tm(B:Nat):∀ (bs:List aA) (i k:Nat) (h:k<bs.length),ak (eT B i bs) (B+2+2*(i+k))=some (.box (ef bs[k] (.own (B+3+2*(i+k)) (bs[k]).bu.length)))
 | [],_,_,h=>by simp at h
 |b::bs,i,0,_=>by simp[eT,ak]
 |b::bs,i,k+1,h=>by
  simp only[eT,ak]
  rw[if_neg (by omega),if_neg (by omega)]
  have:=tm B bs (i+1) k (by simpa using h)
  rw[show i+1+k=i+(k+1) by omega] at this
  exact this
theorem tp(B:Nat):∀ (bs:List aA) (i k:Nat) (h:k<bs.length),ak (eT B i bs) (B+3+2*(i+k))=some (.bW 66 6 ((bs[k]).bu.map enc))
 | [],_,_,h=>by simp at h
 |b::bs,i,0,_=>by
  simp only[eT,ak]
  rw[if_neg (by omega),if_pos (by omega)];rfl
 |b::bs,i,k+1,h=>by
  simp only[eT,ak]
  rw[if_neg (by omega),if_neg (by omega)]
  have:=tp B bs (i+1) k (by simpa using h)
  rw[show i+1+k=i+(k+1) by omega] at this
  exact this
theorem tH(B n m:Nat):n<B∨n=B∨n=B+1∨(∃ k,k<m∧n=B+2+2*k)∨(∃ k,k<m∧n=B+3+2*k)∨B+2+2*m≤n:=by
 by_cases h1:n<B
 ·exact .inl h1
 by_cases h2:n=B
 ·exact .inr (.inl h2)
 by_cases h3:n=B+1
 ·exact .inr (.inr (.inl h3))
 by_cases h4:B+2+2*m≤n
 ·exact .inr (.inr (.inr (.inr (.inr h4))))
 rcases Nat.mod_two_eq_zero_or_one (n-B) with h5 | h5
 ·exact .inr (.inr (.inr (.inl ⟨(n-B-2) / 2,by omega,by omega⟩)))
 ·exact .inr (.inr (.inr (.inr (.inl ⟨(n-B-3) / 2,by omega,by omega⟩))))
section
variable {B:Nat} {bs:List aA}
theorem kh{n:Nat}(h:n<B):ak (ct B bs) n=none:=by
 simp only[ct,ak]
 rw[if_neg (by omega),if_neg (by omega)]
 exact tn B bs 0 n (by omega)
theorem td{n:Nat}(h:B+2+2*bs.length≤n):ak (ct B bs) n=none:=by
 simp only[ct,ak]
 rw[if_neg (by omega),if_neg (by omega)]
 exact tl B bs 0 n (by omega)
theorem kg:ak (ct B bs) B=some (.box (.agg [.mref (B+1)])):=by simp[ct,ak]
theorem kK:ak (ct B bs) (B+1)=some (.cu (dp bs) (ed B bs.length)):=by simp[ct,ak]
theorem mw{k:Nat}(h:k<bs.length):ak (ct B bs) (B+2+2*k)=some (.box (ef bs[k] (.own (B+3+2*k) (bs[k]).bu.length))):=by
 simp only[ct,ak]
 rw[if_neg (by omega),if_neg (by omega)]
 have:=tm B bs 0 k h
 rwa [Nat.zero_add] at this
theorem lJ{k:Nat}(h:k<bs.length):ak (ct B bs) (B+3+2*k)=some (.bW 66 6 ((bs[k]).bu.map enc)):=by
 simp only[ct,ak]
 rw[if_neg (by omega),if_neg (by omega)]
 have:=tp B bs 0 k h
 rwa [Nat.zero_add] at this
theorem ny{n:Nat} : aq (ct B bs) n=decide (B≤n∧n<B+2+2*bs.length):=by
 rcases tH B n bs.length with h | h | h | ⟨k,hk,h⟩ | ⟨k,hk,h⟩ | h
 ·simp only[aq,kh h];simp;omega
 ·subst h;simp only[aq,kg];simp;omega
 ·subst h;simp only[aq,kK];simp;omega
 ·subst h;simp only[aq,mw hk];simp;omega
 ·subst h;simp only[aq,lJ hk];simp;omega
 ·simp only[aq,td h];simp;omega
theorem yh(p:Nat→Bool){n:Nat}(h:∀ i,i<n→p (B+2+2*i)=true):I.bV p (ed B n)=true:=by
 unfold ed
 induction n with
 |zero=>rfl
 |succ n ih =>
  rw[List.range_succ,List.map_append,iB,ih fun i hi=>h i (by omega)]
  simp[I.bV,I.only,h n (by omega)]
theorem fr{n:Nat}{x:ah}(h:ak (ct B bs) n=some x):x.only (aq (ct B bs))=true∧x.eR=true:=by
 rcases tH B n bs.length with h2 | h2 | h2 | ⟨k,hk,h2⟩ | ⟨k,hk,h2⟩ | h2
 ·rw[kh h2] at h;cases h
 ·subst h2;rw[kg] at h;cases h
  simp[ah.only,I.only,I.bV,ny,ah.eR];omega
 ·subst h2;rw[kK] at h;cases h
  refine ⟨?_,rfl⟩
  simp only[ah.only,Bool.and_eq_true]
  exact ⟨ec _ _,yh _ fun i hi=>by rw[ny];simp;omega⟩
 ·subst h2;rw[mw hk] at h;cases h
  simp[ah.only,I.only,I.bV,ny,ah.eR,ef];omega
 ·subst h2;rw[lJ hk] at h;cases h
  exact ⟨ec _ _,rfl⟩
 ·rw[td h2] at h;cases h
theorem Jl{i:Nat}(hi:i<bs.length)(b:aA)(hno:b.no=(bs[i]).no)(n:Nat):ak (ct B (bs.set i b)) n =
  if n=B+2+2*i then some (.box (ef b (.own (B+3+2*i) b.bu.length))) else if n=B+3+2*i then some (.bW 66 6 (b.bu.map enc)) else ak (ct B bs) n:=by
 have hl:(bs.set i b).length=bs.length:=List.length_set
 have hnos:dp (bs.set i b)=dp bs:=by
  simp only[dp,List.map_set,hno]
  congr 1
  exact List.ext_getElem (by simp) fun j h1 h2=>by
   simp only[List.getElem_set,List.getElem_map]
   split
   ·rename_i e;subst e;rfl
   ·rfl
 rcases tH B n bs.length with h2 | h2 | h2 | ⟨k,hk,h2⟩ | ⟨k,hk,h2⟩ | h2
 ·rw[kh h2,kh h2,if_neg (by omega),if_neg (by omega)]
 ·subst h2;rw[kg,kg,if_neg (by omega),if_neg (by omega)]
 ·subst h2;rw[kK,kK,hl,hnos,if_neg (by omega),if_neg (by omega)]
 ·subst h2
  rw[mw (by omega),mw hk]
  by_cases e:k=i
  ·subst e;simp
  ·rw[if_neg (by omega),if_neg (by omega)]
   simp[Ne.symm e]
 ·subst h2
  rw[lJ (by omega),lJ hk]
  by_cases e:k=i
  ·subst e
   rw[if_neg (by omega),if_pos rfl]
   simp
  ·rw[if_neg (by omega),if_neg (by omega)]
   simp[Ne.symm e]
 ·rw[td (by omega),td h2,if_neg (by omega),if_neg (by omega)]
end
theorem KF{B n i:Nat}(h:i<n):(ed B n)[i]?=some (.ptr (B+2+2*i) []):=by simp[ed,h]
theorem vO(a b:Int):ca (.i .i64) (enc a) (enc b)=some (decide (a=b)):=C7 a b
theorem sY{bs:List aA}{no:Int} : match (bs.map (·.no)).findIdx? fun x=>decide (no=x) with
  |some i=>∃ h:i<bs.length,cC bs no=some bs[i]∧(bs[i]).no=no
  |none=>cC bs no=none:=by
 cases h:(bs.map (·.no)).findIdx? fun x=>decide (no=x) with
 |none =>
  rw[List.findIdx?_eq_none_iff] at h
  simp only
  rw[qF]
  intro hm
  have:=h no hm
  simp at this
 |some i =>
  obtain ⟨h1,h2,h3⟩:=List.findIdx?_eq_some_iff_getElem.1 h
  have hi:i<bs.length:=by simpa using h1
  have hno:(bs[i]).no=no:=by simpa using (of_decide_eq_true h2).symm
  refine ⟨hi,?_,hno⟩
  simp only[cC,List.find?_eq_some_iff_getElem]
  refine ⟨by simpa using hno,i,hi,rfl,fun j hj =>?_⟩
  have:=h3 j hj
  simp at this
  simpa using fun e=>this e.symm
theorem pK(B:Nat)(bs:List aA)(no:Int):(cC bs no=none∧gv (.i .i64) .nilp (.int .i64 no) (dp bs) (ed B bs.length)=some (.nilp,false)) ∨
  ∃ i,∃ h:i<bs.length,cC bs no=some bs[i]∧(bs[i]).no=no∧gv (.i .i64) .nilp (.int .i64 no) (dp bs) (ed B bs.length)=some (.ptr (B+2+2*i) [],true):=by
 have h1:=sY (bs:=bs) (no:=no)
 have h2:=xR vO .nilp no (bs.map (·.no)) (ed B bs.length)
 rw[iw] at h2
 unfold dp
 cases h:(bs.map (·.no)).findIdx? fun x=>decide (no=x) with
 |none=>rw[h] at h1 h2;exact .inl ⟨h1,h2⟩
 |some i =>
  rw[h] at h1 h2
  obtain ⟨hi,g1,g2⟩:=h1
  refine .inr ⟨i,hi,g1,g2,?_⟩
  rw[h2];simp only[KF hi,Option.map_some]
theorem M8{bs:List aA}(hd:(bs.map (·.no)).Nodup){i:Nat}(hi:i<bs.length){b:aA}(hno:b.no=(bs[i]).no):l4 bs b=bs.set i b:=by
 refine List.ext_getElem (by simp[l4]) fun j h1 h2 =>?_
 simp only[l4,List.getElem_map,List.getElem_set]
 have hj:j<bs.length:=by simpa using h2
 by_cases e:i=j
 ·subst e;rw[if_pos hno.symm,if_pos rfl]
 ·rw[if_neg e,if_neg]
  intro he
  have he:=he.trans hno
  have:=(List.getElem_inj (h₀:=by simpa using hj) (h₁:=by simpa using hi) hd).1 (by simpa using he)
  exact e this.symm
theorem Df(x:eF):(enc x).di=some [enc x.b]:=rfl
theorem Dg(b:aA)(s:I):(ef b s).di=some [.agg [.int .i64 b.no,.int .i64 b.er,.int .i64 b.dP,.int .i64 b.bQ,.int .i64 b.fg,.int .i64 b.born,.int .i64 b.dA,.bool b.found,s]]:=rfl
theorem CG(b:aA)(n k:Nat):(ef b (.own n k)).bt=false:=by simp[ef,I.bt,I.bY]
theorem mq{A:ae}{m n:Nat}{b:aA}(ho:A.o n=some (.bW 66 6 (b.bu.map enc))):dv A (m+3) (ef b (.own n b.bu.length))=some (enc (⟨b⟩:eF)):=by
 have h1:dv A (m+1) (.own n b.bu.length)=some (enc b.bu):=by
  simp only[dv,I.bt,Bool.false_eq_true,if_false,ho,List.length_map,jI,and_self,if_true];rfl
 have hi:∀ (k:IntKind) (v:Int),dv A (m+1) (.int k v)=some (.int k v):=fun _ _=>by simp[dv,I.bt]
 have hb:∀ v:Bool,dv A (m+1) (.bool v)=some (.bool v):=fun _=>by simp[dv,I.bt]
 have h2:dv A (m+2) (.agg [.int .i64 b.no,.int .i64 b.er,.int .i64 b.dP,.int .i64 b.bQ,.int .i64 b.fg,.int .i64 b.born,.int .i64 b.dA,.bool b.found,.own n b.bu.length])=some (enc b):=by
  rw[dv]
  simp only[I.bt,I.bY,Bool.and_false,Bool.and_true,Bool.false_eq_true,if_false,fH,hi,hb,h1,Option.map_some]
  rfl
 rw[ef,dv]
 simp only[I.bt,I.bY,Bool.and_false,Bool.and_true,Bool.false_eq_true,if_false,fH,h2,Option.map_some]
 rfl
theorem Ns :
  (∀ (A:ae) n b s (v u:Int) rest,dm A none n [0,3] (ef b s) (.int .i64 v) rest (some (.int .i64 u))=ay rest (A.aM n (.box (ef { b with bQ:=v } s)))) ∧
  (∀ (A:ae) n b s (v u:Int) rest,dm A none n [0,6] (ef b s) (.int .i64 v) rest (some (.int .i64 u))=ay rest (A.aM n (.box (ef { b with dA:=v } s)))) ∧
  (∀ (A:ae) n b s (v u:Bool) rest,dm A none n [0,7] (ef b s) (.bool v) rest (some (.bool u))=ay rest (A.aM n (.box (ef { b with found:=v } s)))) ∧
  (∀ (A:ae) n b s m k m' k' rest,dm A none n [0,8] (ef b s) (.own m k) rest (some (.own m' k'))=ay rest (A.aM n (.box (ef b (.own m k))))) :=
 ⟨fun _ _ _ _ v u _=>by rw[ej (s:=none) (v:=.int .i64 v) (old:=.int .i64 u) rfl rfl rfl];rfl,fun _ _ _ _ v u _=>by rw[ej (s:=none) (v:=.int .i64 v) (old:=.int .i64 u) rfl rfl rfl];rfl,
  fun _ _ _ _ v u _=>by rw[ej (s:=none) (v:=.bool v) (old:=.bool u) rfl rfl rfl];rfl,fun _ _ _ _ m k m' k' _=>by rw[ej (s:=none) (v:=.own m k) (old:=.own m' k') rfl rfl rfl];rfl⟩
theorem gQ:(type_of% @Df)∧(type_of% @Dg)∧(type_of% @CG)∧(type_of% @Ns)∧(type_of% @fO)∧(∀ n:Nat,(n=n)=True)∧(∀ rs post A,nP rs post .ret A=lh rs post A):=⟨Df,Dg,CG,Ns,fO,fun _=>eq_self _,fP⟩
theorem jn(b:aA):aw Tryz.prog 90 [.ref (enc (⟨b⟩:eF))] (enc (decide (0≤b.dA))):=by
 refine aw.bp Tryz.func90 Sx Uw WD (Nat.le_of_ble_eq_true rfl) (fun hwf W0 D0 E1 =>?_)
 simp only[Ch,Mt,a6]
 have R:=And.intro @gQ (And.intro @ez (And.intro @aL @U))
 repeat' ((first
  |(with_reducible refine .guard (fun hb =>?_) (fun hb =>?_) <;>try simp only[hb])
  |refine J.aI (by decide +kernel) rfl fun K hK =>?_
  |(refine .aD [0,2] hK ?_;clear hK K)
  |(with_reducible refine .done (hK _ ?_);clear hK K)
  |refine J.of rfl ?_
  |(with_reducible refine aj.aH (fun h =>?_) (fun h =>?_) <;>try simp only[h])) <;>try simp only[aJ,R,simprocAttr])
 all_goals clear R
def iT(B d:Nat)(bs:List aA)(x:au):cV:=fun r os'=>match c8 fo bs x with
 |none=>r=.bool false∧os'=ct B bs
 |some bs'=>r=.bool true∧os'=if x.kind=1∨x.kind=2 then (B+1,.cu (dp bs') (ed B bs.length++[.ptr d []]))::(d,.box (ef (fj x) (.nils 6)))::ct B bs else ct B bs'
theorem kL{bs:List aA} : ∀ m,aq (ct 1000000 bs) m=true→1000000≤m:=fun m hm=>by rw[ny] at hm;simp at hm;omega
theorem gl{ts:List (Nat×I)}{os os':List (Nat×ah)}{b:Bool}{post:cV}(ht:Abs.bO ts 4=.bool b)(ho:∀ n,aq os' n=true→ak os n=ak os' n)(hg:∀ n x,ak os' n=some x→x.only (aq os')=true∧x.eR=true)(hp:post (.bool b) os'):lh [.tmp 4] post (ar ts os):=by
 refine ⟨os',[.bool b],fun n x hx=>⟨?_,hg n x hx⟩,⟨⟨.bool b,?_,.inl ⟨rfl,rfl,rfl⟩⟩,trivial⟩,hp⟩
 ·show ak os n=some x
  rw[ho n (by simp[aq,hx])];exact hx
 ·show some (Abs.bO ts 4)=some _
  rw[ht]
theorem lK{bs:List aA}{z:ah} : ∀ n,aq (ct 1000000 bs) n=true→ak ((3,z)::ct 1000000 bs) n=ak (ct 1000000 bs) n:=fun n h=>by
 have:=kL n h
 simp only[ak];rw[if_neg (by omega)]
theorem xD{bs:List aA}{i:Nat}(hi:i<bs.length){b:aA}(hno:b.no=(bs[i]).no)(hs:b.bu=(bs[i]).bu){z:ah}{nl nr:Nat}(hnl:nl=1000000+2+2*i)(hnr:nr=1000000+3+2*i) :
  ∀ n,aq (ct 1000000 (bs.set i b)) n=true→ak ((nl,.box (ef b (.own nr (bs[i]).bu.length)))::(3,z)::ct 1000000 bs) n=ak (ct 1000000 (bs.set i b)) n:=fun n h=>by
 have:=kL n h
 rw[Jl hi b hno]
 simp only[ak,hs]
 subst hnl hnr
 rw[if_neg (show ¬ n=3 by omega)]
 split
 ·rfl
 ·split
  ·rename_i e;subst e;exact lJ hi
  ·rfl
theorem jO{B d:Nat}{bs:List aA}{x:au}(h:c8 fo bs x=none):iT B d bs x (.bool false) (ct B bs):=by simp[iT,h]
theorem tf{B d:Nat}{bs:List aA}{x:au}(hd:(bs.map (·.no)).Nodup)(hk:¬ (x.kind=1∨x.kind=2)){i:Nat}(hi:i<bs.length)(hg:cC bs x.c5=some bs[i]){b:aA}(ht:fy bs[i] x=some b)(hno:b.no=(bs[i]).no) :
  iT B d bs x (.bool true) (ct B (bs.set i b)):=by
 have:c8 fo bs x=some (bs.set i b):=by
  simp only[c8,if_neg hk,hg,ht,Option.map_some,M8 hd hi hno]
 simp only[iT,this,if_neg hk,and_self]
theorem sc{bs:List aA}{x:au}(hk:¬ (x.kind=1∨x.kind=2))(hg:cC bs x.c5=none):c8 fo bs x=none:=by
 simp only[c8,if_neg hk,hg]
theorem Ac{bs:List aA}{x:au}(hk:¬ (x.kind=1∨x.kind=2)){b:aA}(hg:cC bs x.c5=some b)(ht:fy b x=none):c8 fo bs x=none:=by
 simp only[c8,if_neg hk,hg,ht,Option.map_none]
theorem OO(bs:List aA)(x:au)(d:Nat)(hk:x.kind=3)(hd:(bs.map (·.no)).Nodup):cH Tryz.prog 174 [.ptr 1000000 [],enc x] (ct 1000000 bs) (iT 1000000 d bs x):=by
 refine cH.bp Tryz.func174 RG TE VN (Nat.le_of_ble_eq_true rfl) (Nat.le_of_ble_eq_true rfl) kL (fun hwf W0 D0 E1 =>?_)
 simp only[Bp,LC,a6,Nat.zero_add]
 clear hwf
 have hk12:¬ (x.kind=1∨x.kind=2):=by omega
 have n3:ak (ct 1000000 bs) 3=none:=kh (by omega)
 have h0:ak (ct 1000000 bs) 1000000=some (.box (.agg [.mref 1000001])):=kg
 have h1:ak (ct 1000000 bs) 1000001=some (.cu (dp bs) (ed 1000000 bs.length)):=kK
 rcases pK 1000000 bs x.c5 with ⟨hg,hlk⟩ | ⟨i,hi,hg,hno,hlk⟩
 ·have R:=And.intro @n3 (And.intro @h0 (And.intro @h1 (And.intro @hlk (And.intro @cD (And.intro @gQ (And.intro @ez (And.intro @aL @U)))))))
  repeat' ((first
   |(with_reducible refine .guard (fun hb =>?_) (fun hb =>?_) <;>try simp only[hb])
   |refine J.aI (by decide +kernel) rfl fun K hK =>?_
   |refine .flat _ (jn _) rfl ?_
   |(refine .aD [0,1,3,4,5,36] hK ?_;clear hK K)
   |(with_reducible refine .done (hK _ ?_);clear hK K)
   |refine J.of rfl ?_
   |(with_reducible refine aj.aH (fun h =>?_) (fun h =>?_) <;>try simp only[h])) <;>try simp only[aJ,R,simprocAttr])
  all_goals clear R
  exact gl rfl lK (fun n x h=>fr h) (jO (sc hk12 hg))
 ·have hl:=mw (B:=1000000) hi
  have hr:=lJ (B:=1000000) hi
  obtain ⟨nl,hnl⟩:∃ nl,nl=1000000+2+2*i:=⟨_,rfl⟩
  obtain ⟨nr,hnr⟩:∃ nr,nr=1000000+3+2*i:=⟨_,rfl⟩
  rw[←hnl] at hl hlk
  rw[←hnr] at hl hr
  have e1:(nl=3)=False:=by simp;omega
  have e2:(nr=3)=False:=by simp;omega
  have e3:(3=nl)=False:=by simp;omega
  have e4:(nr=nl)=False:=by simp;omega
  have e5:(nl=nr)=False:=by simp;omega
  have e6:(3=nr)=False:=by simp;omega
  have R:=And.intro @n3 (And.intro @h0 (And.intro @h1 (And.intro @hl (And.intro @hr (And.intro @e1 (And.intro @e2 (And.intro @e3 (And.intro @hlk (And.intro @mq (And.intro @cD (And.intro @gQ (And.intro @ez (And.intro @aL @U)))))))))))))
  repeat' ((first
   |(with_reducible refine .guard (fun hb =>?_) (fun hb =>?_) <;>try simp only[hb])
   |refine J.aI (by decide +kernel) rfl fun K hK =>?_
   |refine .flat _ (jn _) rfl ?_
   |(refine .aD [0,1,3,4,5,36] hK ?_;clear hK K)
   |(with_reducible refine .done (hK _ ?_);clear hK K)
   |refine J.of rfl ?_
   |(with_reducible refine aj.aH (fun h =>?_) (fun h =>?_) <;>try simp only[h])) <;>try simp only[aJ,R,simprocAttr])
  all_goals clear R
  all_goals first
   |exact gl rfl lK (fun n x h=>fr h) (jO (Ac hk12 hg (by simp_all[fy])))
   |exact gl rfl (xD hi (b := { bs[i] with bQ:=x.bQ }) rfl rfl hnl hnr) (fun n x h=>fr h) (tf hd hk12 hi hg (by simp_all[fy]) rfl)
theorem OQ(bs:List aA)(x:au)(d:Nat)(hk:x.kind=5)(hd:(bs.map (·.no)).Nodup):cH Tryz.prog 176 [.ptr 1000000 [],enc x] (ct 1000000 bs) (iT 1000000 d bs x):=by
 refine cH.bp Tryz.func176 RI TG VP (Nat.le_of_ble_eq_true rfl) (Nat.le_of_ble_eq_true rfl) kL (fun hwf W0 D0 E1 =>?_)
 simp only[Br,LF,a6,Nat.zero_add]
 clear hwf
 have hk12:¬ (x.kind=1∨x.kind=2):=by omega
 have n3:ak (ct 1000000 bs) 3=none:=kh (by omega)
 have h0:ak (ct 1000000 bs) 1000000=some (.box (.agg [.mref 1000001])):=kg
 have h1:ak (ct 1000000 bs) 1000001=some (.cu (dp bs) (ed 1000000 bs.length)):=kK
 rcases pK 1000000 bs x.c5 with ⟨hg,hlk⟩ | ⟨i,hi,hg,hno,hlk⟩
 ·have R:=And.intro @n3 (And.intro @h0 (And.intro @h1 (And.intro @hlk (And.intro @cD (And.intro @gQ (And.intro @ez (And.intro @aL @U)))))))
  repeat' ((first
   |(with_reducible refine .guard (fun hb =>?_) (fun hb =>?_) <;>try simp only[hb])
   |refine J.aI (by decide +kernel) rfl fun K hK =>?_
   |refine .flat _ (jn _) rfl ?_
   |(refine .aD [0,1,3,4,5,14] hK ?_;clear hK K)
   |(with_reducible refine .done (hK _ ?_);clear hK K)
   |refine J.of rfl ?_
   |(with_reducible refine aj.aH (fun h =>?_) (fun h =>?_) <;>try simp only[h])) <;>try simp only[aJ,R,simprocAttr])
  all_goals clear R
  exact gl rfl lK (fun n x h=>fr h) (jO (sc hk12 hg))
 ·have hl:=mw (B:=1000000) hi
  have hr:=lJ (B:=1000000) hi
  obtain ⟨nl,hnl⟩:∃ nl,nl=1000000+2+2*i:=⟨_,rfl⟩
  obtain ⟨nr,hnr⟩:∃ nr,nr=1000000+3+2*i:=⟨_,rfl⟩
  rw[←hnl] at hl hlk
  rw[←hnr] at hl hr
  have e1:(nl=3)=False:=by simp;omega
  have e2:(nr=3)=False:=by simp;omega
  have e3:(3=nl)=False:=by simp;omega
  have e4:(nr=nl)=False:=by simp;omega
  have e5:(nl=nr)=False:=by simp;omega
  have e6:(3=nr)=False:=by simp;omega
  have R:=And.intro @n3 (And.intro @h0 (And.intro @h1 (And.intro @hl (And.intro @hr (And.intro @e1 (And.intro @e2 (And.intro @e3 (And.intro @hlk (And.intro @mq (And.intro @cD (And.intro @gQ (And.intro @ez (And.intro @aL @U)))))))))))))
  repeat' ((first
   |(with_reducible refine .guard (fun hb =>?_) (fun hb =>?_) <;>try simp only[hb])
   |refine J.aI (by decide +kernel) rfl fun K hK =>?_
   |refine .flat _ (jn _) rfl ?_
   |(refine .aD [0,1,3,4,5,14] hK ?_;clear hK K)
   |(with_reducible refine .done (hK _ ?_);clear hK K)
   |refine J.of rfl ?_
   |(with_reducible refine aj.aH (fun h =>?_) (fun h =>?_) <;>try simp only[h])) <;>try simp only[aJ,R,simprocAttr])
  all_goals clear R
  refine gl rfl (fun n h =>?_) (fun n x h=>fr h) (tf hd hk12 hi hg (b := { bs[i] with bQ:=x.bQ,found:=true }) (by simp[fy,hk]) rfl)
  rw[←xD hi (b := { bs[i] with bQ:=x.bQ,found:=true }) rfl rfl (z:=.box (enc x)) hnl hnr n h]
  simp only[ak]
  split <;>rfl
theorem OR(bs:List aA)(x:au)(d:Nat)(hk:x.kind=6)(hd:(bs.map (·.no)).Nodup):cH Tryz.prog 177 [.ptr 1000000 [],enc x] (ct 1000000 bs) (iT 1000000 d bs x):=by
 refine cH.bp Tryz.func177 RJ TH VQ (Nat.le_of_ble_eq_true rfl) (Nat.le_of_ble_eq_true rfl) kL (fun hwf W0 D0 E1 =>?_)
 simp only[Bt,LG,a6,Nat.zero_add]
 clear hwf
 have hk12:¬ (x.kind=1∨x.kind=2):=by omega
 have n3:ak (ct 1000000 bs) 3=none:=kh (by omega)
 have h0:ak (ct 1000000 bs) 1000000=some (.box (.agg [.mref 1000001])):=kg
 have h1:ak (ct 1000000 bs) 1000001=some (.cu (dp bs) (ed 1000000 bs.length)):=kK
 rcases pK 1000000 bs x.c5 with ⟨hg,hlk⟩ | ⟨i,hi,hg,hno,hlk⟩
 ·have R:=And.intro @n3 (And.intro @h0 (And.intro @h1 (And.intro @hlk (And.intro @cD (And.intro @gQ (And.intro @ez (And.intro @aL @U)))))))
  repeat' ((first
   |(with_reducible refine .guard (fun hb =>?_) (fun hb =>?_) <;>try simp only[hb])
   |refine J.aI (by decide +kernel) rfl fun K hK =>?_
   |refine .flat _ (jn _) rfl ?_
   |(refine .aD [0,1,3,4,5,18] hK ?_;clear hK K)
   |(with_reducible refine .done (hK _ ?_);clear hK K)
   |refine J.of rfl ?_
   |(with_reducible refine aj.aH (fun h =>?_) (fun h =>?_) <;>try simp only[h])) <;>try simp only[aJ,R,simprocAttr])
  all_goals clear R
  exact gl rfl lK (fun n x h=>fr h) (jO (sc hk12 hg))
 ·have hl:=mw (B:=1000000) hi
  have hr:=lJ (B:=1000000) hi
  obtain ⟨nl,hnl⟩:∃ nl,nl=1000000+2+2*i:=⟨_,rfl⟩
  obtain ⟨nr,hnr⟩:∃ nr,nr=1000000+3+2*i:=⟨_,rfl⟩
  rw[←hnl] at hl hlk
  rw[←hnr] at hl hr
  have e1:(nl=3)=False:=by simp;omega
  have e2:(nr=3)=False:=by simp;omega
  have e3:(3=nl)=False:=by simp;omega
  have e4:(nr=nl)=False:=by simp;omega
  have e5:(nl=nr)=False:=by simp;omega
  have e6:(3=nr)=False:=by simp;omega
  have R:=And.intro @n3 (And.intro @h0 (And.intro @h1 (And.intro @hl (And.intro @hr (And.intro @e1 (And.intro @e2 (And.intro @e3 (And.intro @hlk (And.intro @mq (And.intro @cD (And.intro @gQ (And.intro @ez (And.intro @aL @U)))))))))))))
  repeat' ((first
   |(with_reducible refine .guard (fun hb =>?_) (fun hb =>?_) <;>try simp only[hb])
   |refine J.aI (by decide +kernel) rfl fun K hK =>?_
   |refine .flat _ (jn _) rfl ?_
   |(refine .aD [0,1,3,4,5,18] hK ?_;clear hK K)
   |(with_reducible refine .done (hK _ ?_);clear hK K)
   |refine J.of rfl ?_
   |(with_reducible refine aj.aH (fun h =>?_) (fun h =>?_) <;>try simp only[h])) <;>try simp only[aJ,R,simprocAttr])
  all_goals clear R
  all_goals first
   |exact gl rfl lK (fun n x h=>fr h) (jO (Ac hk12 hg (by simp_all[fy])))
   |exact gl rfl (xD hi (b := { bs[i] with dA:=x.day }) rfl rfl hnl hnr) (fun n x h=>fr h) (tf hd hk12 hi hg (by simp_all[fy]) rfl)
theorem ah1{bs:List aA}{i:Nat}(hi:i<bs.length){b:aA}(hno:b.no=(bs[i]).no){z:ah}{nl nr:Nat}(hnl:nl=1000000+2+2*i)(hnr:nr=1000000+3+2*i) :
  ∀ n,aq (ct 1000000 (bs.set i b)) n=true→ak ((nl,.box (ef b (.own nr b.bu.length)))::(nr,.bW 66 6 (b.bu.map enc))::(3,z)::ct 1000000 bs) n=ak (ct 1000000 (bs.set i b)) n:=fun n h=>by
 have:=kL n h
 rw[Jl hi b hno]
 simp only[ak]
 subst hnl hnr
 rw[if_neg (show ¬ n=3 by omega)]
theorem OP(bs:List aA)(x:au)(d:Nat)(hk:x.kind=4)(hd:(bs.map (·.no)).Nodup)(hlen:∀ b∈bs,b.bu.length≤1000):cH Tryz.prog 175 [.ptr 1000000 [],enc x] (ct 1000000 bs) (iT 1000000 d bs x):=by
 refine cH.bp Tryz.func175 RH TF VO (Nat.le_of_ble_eq_true rfl) (Nat.le_of_ble_eq_true rfl) kL (fun hwf W0 D0 E1 =>?_)
 simp only[Bq,LD,a6,Nat.zero_add]
 clear hwf
 have hk12:¬ (x.kind=1∨x.kind=2):=by omega
 have n3:ak (ct 1000000 bs) 3=none:=kh (by omega)
 have h0:ak (ct 1000000 bs) 1000000=some (.box (.agg [.mref 1000001])):=kg
 have h1:ak (ct 1000000 bs) 1000001=some (.cu (dp bs) (ed 1000000 bs.length)):=kK
 rcases pK 1000000 bs x.c5 with ⟨hg,hlk⟩ | ⟨i,hi,hg,hno,hlk⟩
 ·have R:=And.intro @n3 (And.intro @h0 (And.intro @h1 (And.intro @hlk (And.intro @cD (And.intro @gQ (And.intro @ez (And.intro @aL @U)))))))
  repeat' ((first
   |(with_reducible refine .guard (fun hb =>?_) (fun hb =>?_) <;>try simp only[hb])
   |refine J.aI (by decide +kernel) rfl fun K hK =>?_
   |refine .flat _ (jn _) rfl ?_
   |(refine .aD [0,1,3,4,5,14] hK ?_;clear hK K)
   |(with_reducible refine .done (hK _ ?_);clear hK K)
   |refine J.of rfl ?_
   |(with_reducible refine aj.aH (fun h =>?_) (fun h =>?_) <;>try simp only[h])) <;>try simp only[aJ,R,simprocAttr])
  all_goals clear R
  exact gl rfl lK (fun n x h=>fr h) (jO (sc hk12 hg))
 ·have hl:=mw (B:=1000000) hi
  have hr:=lJ (B:=1000000) hi
  obtain ⟨nl,hnl⟩:∃ nl,nl=1000000+2+2*i:=⟨_,rfl⟩
  obtain ⟨nr,hnr⟩:∃ nr,nr=1000000+3+2*i:=⟨_,rfl⟩
  rw[←hnl] at hl hlk
  rw[←hnr] at hl hr
  have e1:(nl=3)=False:=by simp;omega
  have e2:(nr=3)=False:=by simp;omega
  have e3:(3=nl)=False:=by simp;omega
  have e4:(nr=nl)=False:=by simp;omega
  have e5:(nl=nr)=False:=by simp;omega
  have e6:(3=nr)=False:=by simp;omega
  have hle:=hlen _ (List.getElem_mem hi)
  have happ:=fun (A:ae) d rest=>jF (α:=bA 6 Int) (A:=A) (d:=d) 66 6 48 nr (l:=(bs[i]).bu.length) (es:=(bs[i]).bu) (ys:=[x.bu]) (rest:=rest) rfl rfl (by simp) (by simp[maxLen];omega) (by simp;omega)
  have hbs:=m9 6 x.bu rfl
  have R:=And.intro @n3 (And.intro @h0 (And.intro @h1 (And.intro @hl (And.intro @hr (And.intro @e1 (And.intro @e2 (And.intro @e3 (And.intro @e4 (And.intro @e5 (And.intro @e6 (And.intro @hlk (And.intro @happ (And.intro @hbs (And.intro @mq (And.intro @cD (And.intro @gQ (And.intro @ez (And.intro @aL @U))))))))))))))))))
  repeat' ((first
   |(with_reducible refine .guard (fun hb =>?_) (fun hb =>?_) <;>try simp only[hb])
   |refine J.aI (by decide +kernel) rfl fun K hK =>?_
   |(refine J.rq (gs:=wP) [] [] [0,1,2,3,4,5,6,7,8,9,10,11,12,13] (by decide +kernel) (en.of (by simp[nC])) fun K hK =>?_;simp only[lT,wP,List.getD_cons_zero,List.getD_cons_succ,R,simprocAttr])
   |(refine .aD [0,1,3,4,5,14] hK ?_;clear hK K)
   |(with_reducible refine .done (hK _ ?_);clear hK K)
   |refine J.of rfl ?_
   |(with_reducible refine aj.aH (fun h =>?_) (fun h =>?_) <;>try simp only[h])) <;>try simp only[aJ,R,simprocAttr])
  all_goals clear R
  refine gl rfl (fun n h =>?_) (fun n x h=>fr h) (tf hd hk12 hi hg (b := { bs[i] with bu:=(bs[i]).bu++[x.bu] }) (by simp[fy,hk]) rfl)
  rw[←ah1 hi (b := { bs[i] with bu:=(bs[i]).bu++[x.bu] }) rfl (z:=.box (enc x)) hnl hnr n h]
  rfl
def gI(B d:Nat)(bs:List aA)(b:aA):List (Nat×ah):=(B+1,.cu (dp (bs++[b])) (ed B bs.length++[.ptr d []]))::(d,.box (ef b (.nils 6)))::ct B bs
theorem te{B d:Nat}{bs:List aA}{x:au}(hk:x.kind=1∨x.kind=2)(hg:cC bs x.c5=none)(hdam:fq bs x=true):iT B d bs x (.bool true) (gI B d bs (fj x)):=by
 have:c8 fo bs x=some (bs++[fj x]):=by simp only[c8,if_pos hk,hg,hdam,fo,and_self,if_true]
 simp only[iT,this,if_pos hk,gI,and_self]
def Jj(B d:Nat)(bs:List aA)(x:au):cV:=fun r os' =>
 (cC bs x.c5≠none∧r=.bool false∧os'=ct B bs)∨(cC bs x.c5=none∧r=.bool true∧os'=gI B d bs (fj x))
theorem QE(a b c d e f g:Int):(eB [.int .i64 0,.int .i64 0,.int .i64 0,.int .i64 0,.int .i64 0,.int .i64 0,.int .i64 0,.bool false,.nils 6] [(0,.int .i64 a),(1,.int .i64 b),(2,.int .i64 c),(3,.int .i64 d),(4,.int .i64 e),(5,.int .i64 f),(6,.int .i64 g)]).map I.agg=some (I.agg [.int .i64 a,.int .i64 b,.int .i64 c,.int .i64 d,.int .i64 e,.int .i64 f,.int .i64 g,.bool false,.nils 6]):=by
 simp[eB,I.cq,I.size]
theorem QF(a b c d e f g:Int):(eB [.agg [.int .i64 0,.int .i64 0,.int .i64 0,.int .i64 0,.int .i64 0,.int .i64 0,.int .i64 0,.bool false,.nils 6]] [(0,.agg [.int .i64 a,.int .i64 b,.int .i64 c,.int .i64 d,.int .i64 e,.int .i64 f,.int .i64 g,.bool false,.nils 6])]).map I.agg=some (ef ⟨a,b,c,d,e,f,g,false,[]⟩ (.nils 6)):=by
 simp[eB,I.cq,I.size,I.sizes];rfl
theorem aid(b:aA)(s:I):(ef b s).cq=true:=rfl
theorem ai1(B d:Nat)(bs:List aA)(x:au)(hg:cC bs x.c5=none):gj (.i .i64) (.int .i64 x.c5) (.ptr d []) (dp bs) (ed B bs.length)=some (dp (bs++[fj x]),ed B bs.length++[.ptr d []]):=by
 have h2:=J0 vO x.c5 (.ptr d []) rfl (bs.map (·.no)) (ed B bs.length)
 rw[iw] at h2
 unfold dp
 rw[h2]
 have h1:=sY (bs:=bs) (no:=x.c5)
 cases h:(bs.map (·.no)).findIdx? fun y=>decide (x.c5=y) with
 |none=>simp only[List.map_append,List.map_cons,List.map_nil];rfl
 |some i=>rw[h] at h1;obtain ⟨hi,g,_⟩:=h1;rw[hg] at g;cases g
theorem nw{B d:Nat}{bs:List aA}{b:aA}{n:Nat} : aq (gI B d bs b) n=(decide (n=d)||aq (ct B bs) n):=by
 by_cases h1:n=B+1
 ·subst h1
  have:aq (ct B bs) (B+1)=true:=by simp[aq,kK]
  rw[this];simp[gI,aq,ak]
 ·by_cases h2:n=d
  ·subst h2;simp[gI,aq,ak,h1]
  ·simp[gI,aq,ak,h1,h2]
theorem nx{B d:Nat}{bs:List aA}{b:aA}{n:Nat}{x:ah}(h:ak (gI B d bs b) n=some x):x.only (aq (gI B d bs b))=true∧x.eR=true:=by
 have cK:∀ m,aq (ct B bs) m=true→aq (gI B d bs b) m=true:=fun m hm=>by rw[nw,hm,Bool.or_true]
 simp only[gI,ak] at h
 split at h
 ·cases h
  refine ⟨?_,rfl⟩
  simp only[ah.only,Bool.and_eq_true,iB]
  refine ⟨ec _ _,yh _ fun i hi=>cK _ (by rw[ny];simp;omega),?_⟩
  simp[I.bV,I.only,nw]
 ·split at h
  ·cases h
   exact ⟨by simp[ah.only,I.only,I.bV,ef],rfl⟩
  ·obtain ⟨k1,k2⟩:=fr h
   exact ⟨ah.jc cK _ k1,k2⟩
theorem rT(bs:List aA)(x:au):cH Tryz.prog 173 [.ptr 1000000 [],enc x] (ct 1000000 bs) (Jj 1000000 33 bs x):=by
 refine cH.bp Tryz.func173 RF TD VM (Nat.le_of_ble_eq_true rfl) (Nat.le_of_ble_eq_true rfl) kL (fun hwf W0 D0 E1 =>?_)
 simp only[Bo,LB,a6,Nat.zero_add]
 clear hwf
 have n3:ak (ct 1000000 bs) 3=none:=kh (by omega)
 have n33:ak (ct 1000000 bs) 33=none:=kh (by omega)
 have h0:ak (ct 1000000 bs) 1000000=some (.box (.agg [.mref 1000001])):=kg
 have h1:ak (ct 1000000 bs) 1000001=some (.cu (dp bs) (ed 1000000 bs.length)):=kK
 rcases pK 1000000 bs x.c5 with ⟨hg,hlk⟩ | ⟨i,hi,hg,hno,hlk⟩
 ·have hup:=ai1 1000000 33 bs x hg
  have R:=And.intro @n3 (And.intro @n33 (And.intro @h0 (And.intro @h1 (And.intro @hlk (And.intro @hup (And.intro @QE (And.intro @QF (And.intro @aid (And.intro @cD (And.intro @gQ (And.intro @ez (And.intro @aL @U))))))))))))
  repeat' ((first
   |(with_reducible refine .guard (fun hb =>?_) (fun hb =>?_) <;>try simp only[hb])
   |refine J.aI (by decide +kernel) rfl fun K hK =>?_
   |(refine .aD [0,1,3,4,12] hK ?_;clear hK K)
   |(with_reducible refine .done (hK _ ?_);clear hK K)
   |refine J.of rfl ?_
   |(with_reducible refine aj.aH (fun h =>?_) (fun h =>?_) <;>try simp only[h])) <;>try simp only[aJ,R,simprocAttr])
  all_goals clear R
  refine gl (os':=gI 1000000 33 bs (fj x)) (b:=true) rfl (fun n h =>?_) (fun n x h=>nx h) (Or.inr ⟨hg,rfl,rfl⟩)
  rw[nw] at h
  simp only[gI,ak]
  by_cases e:n=33
  ·subst e;simp;rfl
  ·have:=kL n (by simpa[e] using h)
   rw[if_neg (show ¬ n=33 by omega),if_neg (show ¬ n=3 by omega),if_neg (show ¬ n=33 by omega)]
 ·have R:=And.intro @n3 (And.intro @h0 (And.intro @h1 (And.intro @hlk (And.intro @cD (And.intro @gQ (And.intro @ez (And.intro @aL @U)))))))
  repeat' ((first
   |(with_reducible refine .guard (fun hb =>?_) (fun hb =>?_) <;>try simp only[hb])
   |refine J.aI (by decide +kernel) rfl fun K hK =>?_
   |(refine .aD [0,1,3,4,12] hK ?_;clear hK K)
   |(with_reducible refine .done (hK _ ?_);clear hK K)
   |refine J.of rfl ?_
   |(with_reducible refine aj.aH (fun h =>?_) (fun h =>?_) <;>try simp only[h])) <;>try simp only[aJ,R,simprocAttr])
  all_goals clear R
  exact gl (b:=false) rfl lK (fun n x h=>fr h) (Or.inl ⟨by rw[hg];simp,rfl,rfl⟩)
theorem bj.xB{K:ae→Prop}{f:FuncId}{x:au}{avs:List I}{a1 a2:Option (List I)}{dst:Option Nat}{rest:List aB}{ts:List (Nat×I)}{z:ah}{bs:List aA}(hc:cH Tryz.prog f [.ptr 1000000 [],enc x] (ct 1000000 bs) (Jj 1000000 33 bs x))(hav:avs=[.ptr 1000000 [],enc x])
  (h1:cC bs x.c5≠none→bj Tryz.prog iA false K (ay rest ((ar ts (ct 1000000 bs++((3,z)::ct 1000000 bs))).aO dst (.bool false))))
  (h2:cC bs x.c5=none→bj Tryz.prog iA false K (ay rest ((ar ts (gI 1000000 33 bs (fj x)++((3,z)::ct 1000000 bs))).aO dst (.bool true)))) :
  bj Tryz.prog iA false K (.call f avs a1 a2 dst rest (ar ts ((3,z)::ct 1000000 bs))):=by
 subst hav
 refine .bX false [] (ct 1000000 bs) [.ptr 1000000 [],enc x] _ rfl hc ⟨fun m y hy =>?_,fun m m' _ _ h=>h⟩ ⟨.inl ⟨?_,?_,rfl⟩,.inl ⟨(kb _ _).symm,br _ _,dG _⟩,trivial⟩ ?_ ?_
 ·have hm:=kL (bs:=bs) m (by simp[aq,hy])
  rw[ah.lW (ρ:=bJ []) (fun n=>rfl)]
  refine ⟨?_,fr hy⟩
  show ak ((3,z)::ct 1000000 bs) m=some y
  have h3:¬ m=3:=by omega
  simp only[ak,if_neg h3];exact hy
 ·simp only[I.aR,bJ]
 ·simp only[I.only];simp[aq,kg]
 ·rintro r os' (⟨_,rfl,rfl⟩ | ⟨_,rfl,rfl⟩)
  ·exact ⟨fun m y hy=>⟨(fr hy).1,(fr hy).2,fun h=>by cases h⟩,fun m m' _ _ h=>h,fun m hm=>hm,(fun m a b=>by rw[a] at b;cases b),rfl,(fun h=>by cases h)⟩
  ·refine ⟨fun m y hy=>⟨(nx hy).1,(nx hy).2,fun h=>by cases h⟩,fun m m' _ _ h=>h,fun m hm=>by rw[nw,hm,Bool.or_true],fun m a b =>?_,rfl,fun h=>by cases h⟩
   rw[nw,b,Bool.or_false,decide_eq_true_eq] at a
   subst a
   have h3:¬ (33:Nat)=3:=by omega
   refine ⟨?_,by simp[bJ]⟩
   show ak ((3,z)::ct 1000000 bs) 33=none
   simp only[ak,if_neg h3];exact kh (by omega)
 ·rintro r os' (⟨hg,rfl,rfl⟩ | ⟨hg,rfl,rfl⟩)
  ·rw[uh];exact h1 hg
  ·rw[uh];exact h2 hg
theorem pc{os os0:List (Nat×ah)} : ∀ n,aq os n=true→ak (os++os0) n=ak os n:=fun n h=>by
 rw[ki]
 cases hx:ak os n with
 |none=>simp[aq,hx] at h
 |some y=>rfl
theorem ON(bs:List aA)(x:au)(hk:x.kind=1):cH Tryz.prog 172 [.ptr 1000000 [],enc x] (ct 1000000 bs) (iT 1000000 33 bs x):=by
 refine cH.bp Tryz.func172 RE TC VL (Nat.le_of_ble_eq_true rfl) (Nat.le_of_ble_eq_true rfl) kL (fun hwf W0 D0 E1 =>?_)
 simp only[Bn,LA,a6,Nat.zero_add]
 clear hwf
 have n3:ak (ct 1000000 bs) 3=none:=kh (by omega)
 have h0:ak (ct 1000000 bs) 1000000=some (.box (.agg [.mref 1000001])):=kg
 have h1:ak (ct 1000000 bs) 1000001=some (.cu (dp bs) (ed 1000000 bs.length)):=kK
 by_cases hd0:x.dP≤0
 ·have hc:decide (0<x.dP)=false:=by simp;omega
  have hdam:fq bs x=true:=by simp[fq,hd0]
  have R:=And.intro @n3 (And.intro @h0 (And.intro @h1 (And.intro @hc (And.intro @cD (And.intro @gQ (And.intro @ez (And.intro @aL @U)))))))
  repeat' ((first
   |(with_reducible refine .guard (fun hb =>?_) (fun hb =>?_) <;>try simp only[hb])
   |refine J.aI (by decide +kernel) rfl fun K hK =>?_
   |(refine .aD [0,1,3,4,5,8,41] hK ?_;clear hK K)
   |(with_reducible refine .done (hK _ ?_);clear hK K)
   |refine J.of rfl ?_
   |(with_reducible refine aj.aH (fun h =>?_) (fun h =>?_) <;>try simp only[h])) <;>try simp only[aJ,R,simprocAttr])
  all_goals clear R
  refine bj.xB (rT bs x) rfl (fun hg =>?_) (fun hg =>?_)
  ·try simp only[U,simprocAttr]
   refine .done (hK _ ?_);clear hK K
   refine J.ret ?_
   simp only[fP]
   exact gl (b:=false) rfl pc (fun n x h=>fr h) (jO (by simp[c8,hk,hg]))
  ·try simp only[U,simprocAttr]
   refine .done (hK _ ?_);clear hK K
   refine J.ret ?_
   simp only[fP]
   exact gl (b:=true) rfl pc (fun n x h=>nx h) (te (.inl hk) hg hdam)
 have hc:decide (0<x.dP)=true:=by simp;omega
 rcases pK 1000000 bs x.dP with ⟨hg,hlk⟩ | ⟨i,hi,hg,hno,hlk⟩
 ·have hdam:fq bs x=false:=by simp[fq,hg];omega
  have R:=And.intro @n3 (And.intro @h0 (And.intro @h1 (And.intro @hc (And.intro @hlk (And.intro @cD (And.intro @gQ (And.intro @ez (And.intro @aL @U))))))))
  repeat' ((first
   |(with_reducible refine .guard (fun hb =>?_) (fun hb =>?_) <;>try simp only[hb])
   |refine J.aI (by decide +kernel) rfl fun K hK =>?_
   |(refine .aD [0,1,3,4,5,8,41] hK ?_;clear hK K)
   |(with_reducible refine .done (hK _ ?_);clear hK K)
   |refine J.of rfl ?_
   |(with_reducible refine aj.aH (fun h =>?_) (fun h =>?_) <;>try simp only[h])) <;>try simp only[aJ,R,simprocAttr])
  all_goals clear R
  exact gl (b:=false) rfl lK (fun n x h=>fr h) (jO (by simp[c8,hk,hdam]))
 ·have hl:=mw (B:=1000000) hi
  have hr:=lJ (B:=1000000) hi
  obtain ⟨nl,hnl⟩:∃ nl,nl=1000000+2+2*i:=⟨_,rfl⟩
  obtain ⟨nr,hnr⟩:∃ nr,nr=1000000+3+2*i:=⟨_,rfl⟩
  rw[←hnl] at hl hlk
  rw[←hnr] at hl hr
  have e1:(nl=3)=False:=by simp;omega
  have e2:(nr=3)=False:=by simp;omega
  cases hs:(bs[i]).er != x.er with
  |true =>
   have hdam:fq bs x=false:=by simp at hs;simp[fq,hg,hs];omega
   have R:=And.intro @n3 (And.intro @h0 (And.intro @h1 (And.intro @hl (And.intro @hr (And.intro @e1 (And.intro @e2 (And.intro @hc (And.intro @hlk (And.intro @hs (And.intro @mq (And.intro @cD (And.intro @gQ (And.intro @ez (And.intro @aL @U))))))))))))))
   repeat' ((first
    |(with_reducible refine .guard (fun hb =>?_) (fun hb =>?_) <;>try simp only[hb])
    |refine J.aI (by decide +kernel) rfl fun K hK =>?_
    |refine .flat _ (jn _) rfl ?_
    |(refine .aD [0,1,3,4,5,8,41] hK ?_;clear hK K)
    |(with_reducible refine .done (hK _ ?_);clear hK K)
    |refine J.of rfl ?_
    |(with_reducible refine aj.aH (fun h =>?_) (fun h =>?_) <;>try simp only[h])) <;>try simp only[aJ,R,simprocAttr])
   all_goals clear R
   exact gl (b:=false) rfl lK (fun n x h=>fr h) (jO (by simp[c8,hk,hdam]))
  |false =>
   cases hdd:decide (0≤(bs[i]).dA) with
   |false =>
    have hdam:fq bs x=true:=by simp at hs hdd;simp[fq,hg,hs];omega
    have R:=And.intro @n3 (And.intro @h0 (And.intro @h1 (And.intro @hl (And.intro @hr (And.intro @e1 (And.intro @e2 (And.intro @hc (And.intro @hlk (And.intro @hs (And.intro @hdd (And.intro @mq (And.intro @cD (And.intro @gQ (And.intro @ez (And.intro @aL @U)))))))))))))))
    repeat' ((first
     |(with_reducible refine .guard (fun hb =>?_) (fun hb =>?_) <;>try simp only[hb])
     |refine J.aI (by decide +kernel) rfl fun K hK =>?_
     |refine .flat _ (jn _) rfl ?_
     |(refine .aD [0,1,3,4,5,8,41] hK ?_;clear hK K)
     |(with_reducible refine .done (hK _ ?_);clear hK K)
     |refine J.of rfl ?_
     |(with_reducible refine aj.aH (fun h =>?_) (fun h =>?_) <;>try simp only[h])) <;>try simp only[aJ,R,simprocAttr])
    all_goals clear R
    refine bj.xB (rT bs x) rfl (fun hg =>?_) (fun hg =>?_)
    ·try simp only[U,simprocAttr]
     refine .done (hK _ ?_);clear hK K
     refine J.ret ?_
     simp only[fP]
     exact gl (b:=false) rfl pc (fun n x h=>fr h) (jO (by simp[c8,hk,hg]))
    ·try simp only[U,simprocAttr]
     refine .done (hK _ ?_);clear hK K
     refine J.ret ?_
     simp only[fP]
     exact gl (b:=true) rfl pc (fun n x h=>nx h) (te (.inl hk) hg hdam)
   |true =>
    cases hdy:decide ((bs[i]).dA<x.day) with
    |true =>
     have hdam:fq bs x=false:=by simp at hs hdd hdy;simp[fq,hg,hs];omega
     have R:=And.intro @n3 (And.intro @h0 (And.intro @h1 (And.intro @hl (And.intro @hr (And.intro @e1 (And.intro @e2 (And.intro @hc (And.intro @hlk (And.intro @hs (And.intro @hdd (And.intro @hdy (And.intro @mq (And.intro @cD (And.intro @gQ (And.intro @ez (And.intro @aL @U))))))))))))))))
     repeat' ((first
      |(with_reducible refine .guard (fun hb =>?_) (fun hb =>?_) <;>try simp only[hb])
      |refine J.aI (by decide +kernel) rfl fun K hK =>?_
      |refine .flat _ (jn _) rfl ?_
      |(refine .aD [0,1,3,4,5,8,41] hK ?_;clear hK K)
      |(with_reducible refine .done (hK _ ?_);clear hK K)
      |refine J.of rfl ?_
      |(with_reducible refine aj.aH (fun h =>?_) (fun h =>?_) <;>try simp only[h])) <;>try simp only[aJ,R,simprocAttr])
     all_goals clear R
     exact gl (b:=false) rfl lK (fun n x h=>fr h) (jO (by simp[c8,hk,hdam]))
    |false =>
     have hdam:fq bs x=true:=by simp at hs hdd hdy;simp[fq,hg,hs];omega
     have R:=And.intro @n3 (And.intro @h0 (And.intro @h1 (And.intro @hl (And.intro @hr (And.intro @e1 (And.intro @e2 (And.intro @hc (And.intro @hlk (And.intro @hs (And.intro @hdd (And.intro @hdy (And.intro @mq (And.intro @cD (And.intro @gQ (And.intro @ez (And.intro @aL @U))))))))))))))))
     repeat' ((first
      |(with_reducible refine .guard (fun hb =>?_) (fun hb =>?_) <;>try simp only[hb])
      |refine J.aI (by decide +kernel) rfl fun K hK =>?_
      |refine .flat _ (jn _) rfl ?_
      |(refine .aD [0,1,3,4,5,8,41] hK ?_;clear hK K)
      |(with_reducible refine .done (hK _ ?_);clear hK K)
      |refine J.of rfl ?_
      |(with_reducible refine aj.aH (fun h =>?_) (fun h =>?_) <;>try simp only[h])) <;>try simp only[aJ,R,simprocAttr])
     all_goals clear R
     refine bj.xB (rT bs x) rfl (fun hg =>?_) (fun hg =>?_)
     ·try simp only[U,simprocAttr]
      refine .done (hK _ ?_);clear hK K
      refine J.ret ?_
      simp only[fP]
      exact gl (b:=false) rfl pc (fun n x h=>fr h) (jO (by simp[c8,hk,hg]))
     ·try simp only[U,simprocAttr]
      refine .done (hK _ ?_);clear hK K
      refine J.ret ?_
      simp only[fP]
      exact gl (b:=true) rfl pc (fun n x h=>nx h) (te (.inl hk) hg hdam)
def kG:I:=.cT [.int .i64 1,.int .i64 2,.int .i64 3,.int .i64 4,.int .i64 5,.int .i64 6] [.func 172 [],.func 173 [],.func 174 [],.func 175 [],.func 176 [],.func 177 []]
theorem aiU:gj (.i .i64) (.int .i64 1) (.func 172 []) [] []=some ([.int .i64 1],[.func 172 []]):=by simp[gj,eY,ca,I.cq]
theorem aiV:gj (.i .i64) (.int .i64 2) (.func 173 []) [.int .i64 1] [.func 172 []]=some ([.int .i64 1,.int .i64 2],[.func 172 [],.func 173 []]):=by simp[gj,eY,ca,I.cq]
theorem aiW:gj (.i .i64) (.int .i64 3) (.func 174 []) [.int .i64 1,.int .i64 2] [.func 172 [],.func 173 []]=some ([.int .i64 1,.int .i64 2,.int .i64 3],[.func 172 [],.func 173 [],.func 174 []]):=by simp[gj,eY,ca,I.cq]
theorem aiX:gj (.i .i64) (.int .i64 4) (.func 175 []) [.int .i64 1,.int .i64 2,.int .i64 3] [.func 172 [],.func 173 [],.func 174 []]=some ([.int .i64 1,.int .i64 2,.int .i64 3,.int .i64 4],[.func 172 [],.func 173 [],.func 174 [],.func 175 []]):=by simp[gj,eY,ca,I.cq]
theorem aiY:gj (.i .i64) (.int .i64 5) (.func 176 []) [.int .i64 1,.int .i64 2,.int .i64 3,.int .i64 4] [.func 172 [],.func 173 [],.func 174 [],.func 175 []]=some ([.int .i64 1,.int .i64 2,.int .i64 3,.int .i64 4,.int .i64 5],[.func 172 [],.func 173 [],.func 174 [],.func 175 [],.func 176 []]):=by simp[gj,eY,ca,I.cq]
theorem aiZ:gj (.i .i64) (.int .i64 6) (.func 177 []) [.int .i64 1,.int .i64 2,.int .i64 3,.int .i64 4,.int .i64 5] [.func 172 [],.func 173 [],.func 174 [],.func 175 [],.func 176 []]=some ([.int .i64 1,.int .i64 2,.int .i64 3,.int .i64 4,.int .i64 5,.int .i64 6],[.func 172 [],.func 173 [],.func 174 [],.func 175 [],.func 176 [],.func 177 []]):=by simp[gj,eY,ca,I.cq]
theorem zu:aw Tryz.prog 139 [] kG:=by
 refine aw.bp Tryz.func139 Rf Tb Vl (Nat.le_of_ble_eq_true rfl) (fun hwf W0 D0 E1 =>?_)
 simp only[AT,La,a6]
 refine .ao (by decide +kernel) fun K hK =>?_
 simp only[Fx,U,simprocAttr]
 refine .done (hK _ ?_);clear hK K
 refine .ao (by decide +kernel) fun K hK =>?_
 simp only[Fy,U,simprocAttr]
 try simp only[ez,aiU,aiV,aiW,aiX,aiY,aiZ,U,simprocAttr]
 refine .done (hK _ ?_);clear hK K
 refine J.ret ?_
 simp only[U,simprocAttr]
 simp[kG,bd,ar,cw,dv,fH,I.bY,I.bt,lz,nQ];rfl
def dS(bs:List aA):List (Nat×ah):=(43,.box (.agg [.mref 41]))::(41,.cu (dp bs) (ed 2000 bs.length))::eT 2000 0 bs
def nv(bs:List aA)(b:aA):List (Nat×ah):=(41,.cu (dp (bs++[b])) (ed 2000 bs.length++[.ptr (2002+2*bs.length) []]))::(2002+2*bs.length,.box (ef b (.nils 6)))::dS bs
def gB(n:Nat):List (Nat×Nat):=(33,2002+2*n)::(1000000,43)::(1000001,41)::(List.range' 0 200).map fun j=>(1000002+j,2002+j)
theorem MW(m:Nat):∀ k a,bJ ((List.range' a k).map fun j=>(1000002+j,2002+j)) m=if 1000002+a≤m∧m<1000002+a+k then m-998000 else m
 |0,a=>by
  rw[if_neg (by omega)];rfl
 |k+1,a=>by
  rw[List.range'_succ,List.map_cons,bJ,MW m k (a+1)]
  by_cases h:m=1000002+a
  ·rw[if_pos h,if_pos (by omega)];omega
  ·rw[if_neg h]
   by_cases h2:1000002+(a+1)≤m∧m<1000002+(a+1)+k
   ·rw[if_pos h2,if_pos (by omega)]
   ·rw[if_neg h2,if_neg (by omega)]
theorem lY(n m:Nat):bJ (gB n) m=if m=33 then 2002+2*n else if m=1000000 then 43 else if m=1000001 then 41 else if 1000002≤m∧m<1000202 then m-998000 else m:=by
 simp only[gB,bJ,MW]
theorem MV{n i:Nat}(h:i≤80):bJ (gB n) (1000000+2+2*i)=2000+2+2*i:=by
 rw[lY,if_neg (by omega),if_neg (by omega),if_neg (by omega),if_pos (by omega)];omega
theorem ale{n i:Nat}(h:i≤80):bJ (gB n) (1000000+3+2*i)=2000+3+2*i:=by
 rw[lY,if_neg (by omega),if_neg (by omega),if_neg (by omega),if_pos (by omega)];omega
theorem MS(n:Nat):bJ (gB n) 1000000=43:=by rw[lY];rfl
theorem MT(n:Nat):bJ (gB n) 1000001=41:=by rw[lY];rfl
theorem MU(n:Nat):bJ (gB n) 33=2002+2*n:=by rw[lY];rfl
theorem yF(ρ:List (Nat×Nat))(k:Nat)(v:ah)(os:List (Nat×ah)):dN ρ ((k,v)::os)=(bJ ρ k,v.aR (bJ ρ))::dN ρ os:=rfl
theorem MJ(n:Nat):∀ (bs:List aA) (i:Nat),i+bs.length≤80→dN (gB n) (eT 1000000 i bs)=eT 2000 i bs
 | [],_,_=>rfl
 |b::bs,i,h=>by
  simp only[List.length_cons] at h
  have ih:=MJ n bs (i+1) (by omega)
  simp only[eT,yF,ih,MV (n:=n) (i:=i) (by omega),ale (n:=n) (i:=i) (by omega),ah.aR,jg,ef,I.aR,I.cW]
theorem ML(n:Nat){k:Nat}(h:k≤80):I.cW (bJ (gB n)) (ed 1000000 k)=ed 2000 k:=by
 simp only[ed,oM,List.map_map]
 refine List.map_congr_left fun i hi =>?_
 have:=List.mem_range.1 hi
 simp only[Function.comp,I.aR,MV (n:=n) (i:=i) (by omega)]
theorem MK(ρ:Nat→Nat)(bs:List aA):I.cW ρ (dp bs)=dp bs:=by
 simp only[dp,jg]
theorem ui(n:Nat){bs:List aA}(h:bs.length≤80):dN (gB n) (ct 1000000 bs)=dS bs:=by
 have h1:=MJ n bs 0 (by omega)
 simp only[ct,dS,yF,h1,ah.aR,I.aR,I.cW,MK,ML n h,MS,MT,Nat.reduceAdd]
theorem ak4(ρ:Nat→Nat)(xs ys:List I):I.cW ρ (xs++ys)=I.cW ρ xs++I.cW ρ ys:=by simp only[oM,List.map_append]
theorem ak2{bs:List aA}{b:aA}(h:bs.length≤80):dN (gB bs.length) (gI 1000000 33 bs b)=nv bs b:=by
 have h1:=ui bs.length h
 simp only[gI,nv,yF,h1,ah.aR,I.aR,I.cW,MK,ak4,ML bs.length h,MT,MU,ef,Nat.reduceAdd]
def tJ(n m:Nat):Prop:=m=33∨(1000000≤m∧m<1000002+2*n)
theorem uk{n k m m':Nat}(hk:k≤80)(hm:1000000≤m∧m<1000002+2*k)(hm':1000000≤m'∧m'<1000002+2*k)(h:bJ (gB n) m=bJ (gB n) m'):m=m':=by
 rw[lY,lY] at h
 rw[if_neg (by omega),if_neg (show ¬ m'=33 by omega)] at h
 (repeat' split at h) <;>omega
theorem ald{n m m':Nat}(hk:n≤80)(hm:tJ n m)(hm':tJ n m')(h:bJ (gB n) m=bJ (gB n) m'):m=m':=by
 simp only[tJ] at hm hm'
 rw[lY,lY] at h
 (repeat' split at h) <;>omega
theorem aiH{ρ:List (Nat×Nat)}{os:List (Nat×ah)}{m:Nat}{y:ah}(inj:∀ m',aq os m'=true→bJ ρ m'=bJ ρ m→m'=m)(h:ak os m=some y):ak (dN ρ os) (bJ ρ m)=some (y.aR (bJ ρ)):=by
 have h1:=qT ρ os [] (bJ ρ m)
 rw[List.append_nil] at h1
 rw[h1]
 cases hp:pre ρ os (bJ ρ m) with
 |none=>exact absurd rfl (yq hp (by simp[aq,h]))
 |some m' =>
  obtain ⟨k1,k2⟩:=lV hp
  have:=inj m' k1 k2
  subst this
  simp only[h,Option.map_some]
theorem xC{bs:List aA}{n:Nat} : aq (dS bs) n=decide (n=43∨n=41∨(2002≤n∧n<2002+2*bs.length)):=by
 have h2:aq (eT 2000 0 bs) n=decide (2002≤n∧n<2002+2*bs.length):=by
  by_cases h1:n<2002
  ·simp only[aq,tn 2000 bs 0 n (by omega)];simp;omega
  by_cases h3:2002+2*bs.length≤n
  ·simp only[aq,tl 2000 bs 0 n (by omega)];simp;omega
  ·rcases tH 2000 n bs.length with h | h | h | ⟨k,hk,h⟩ | ⟨k,hk,h⟩ | h
   ·omega
   ·omega
   ·omega
   ·have:=tm 2000 bs 0 k hk
    rw[Nat.zero_add] at this
    rw[h];simp only[aq,this];simp;omega
   ·have:=tp 2000 bs 0 k hk
    rw[Nat.zero_add] at this
    rw[h];simp only[aq,this];simp;omega
   ·omega
 simp only[aq,dS,ak] at h2 ⊢
 by_cases h3:n=43
 ·simp[h3]
 by_cases h4:n=41
 ·simp[h4]
 simp only[h3,h4,if_false,h2,false_or]
theorem cH.post{P:Program}{f:FuncId}{args:List I}{os:List (Nat×ah)}{post post':cV}(h:cH P f args os post)(hp:∀ r os',post r os'→post' r os'):cH P f args os post' :=
 ⟨h.1,fun w D E vs hs hD ho hv=>(h.2 w D E vs hs hD ho hv).mono fun _ _ ⟨v,D',E',r,os',k1,k2,k⟩=>⟨v,D',E',r,os',k1,hp _ _ k2,k⟩⟩
def ng:List I:=[.int .i64 1,.int .i64 2,.int .i64 3,.int .i64 4,.int .i64 5,.int .i64 6]
def nh:List I:=[.func 172 [],.func 173 [],.func 174 [],.func 175 [],.func 176 [],.func 177 []]
theorem JE{x:au}(h:gA x=true):0≤x.kind∧x.kind≤6∧(x.kind=2→x.dP=0):=by
 simp only[gA,Bool.and_eq_true,decide_eq_true_eq] at h
 obtain ⟨h1,h2,_⟩:=h
 have h3:x.kind=2→x.dP=0:=fun hk=>by rw[h2];simp[kC,hk]
 simp only[jM] at h1
 refine ⟨?_,?_,h3⟩
 all_goals
  split at h1
  ·omega
  ·simp only[Bool.and_eq_true] at h1
   obtain ⟨-,h1⟩:=h1
   repeat' split at h1
   all_goals first | omega | (simp only[decide_eq_true_eq] at h1;omega)
theorem vD{bs:List aA}{x:au}(hok:gA x=true)(hk0:x.kind≠0)(hd:(bs.map (·.no)).Nodup)(hlen:∀ b∈bs,b.bu.length≤1000) :
  ∃ f,gv (.i .i64) .dj (.int .i64 x.kind) ng nh=some (.func f [],true)∧[172,173,174,175,176,177].contains f=true∧cH Tryz.prog f [.ptr 1000000 [],enc x] (ct 1000000 bs) (iT 1000000 33 bs x):=by
 obtain ⟨h1,h2,h3⟩:=JE hok
 have h4:x.kind=1∨x.kind=2∨x.kind=3∨x.kind=4∨x.kind=5∨x.kind=6:=by omega
 rcases h4 with h | h | h | h | h | h
 ·exact ⟨172,by rw[h];simp[gv,eY,ca,ng,nh],rfl,ON bs x h⟩
 ·refine ⟨173,by rw[h];simp[gv,eY,ca,ng,nh],rfl,cH.post (rT bs x) ?_⟩
  have hdam:fq bs x=true:=by simp[fq,h3 h]
  rintro r os' (⟨k1,rfl,rfl⟩ | ⟨k1,rfl,rfl⟩)
  ·exact jO (by simp[c8,h,k1])
  ·exact te (.inr h) k1 hdam
 ·exact ⟨174,by rw[h];simp[gv,eY,ca,ng,nh],rfl,OO bs x 33 h hd⟩
 ·exact ⟨175,by rw[h];simp[gv,eY,ca,ng,nh],rfl,OP bs x 33 h hd hlen⟩
 ·exact ⟨176,by rw[h];simp[gv,eY,ca,ng,nh],rfl,OQ bs x 33 h hd⟩
 ·exact ⟨177,by rw[h];simp[gv,eY,ca,ng,nh],rfl,OR bs x 33 h hd⟩
theorem u6{bs bs':List aA}{x:au}(hk:¬ (x.kind=1∨x.kind=2))(h:c8 fo bs x=some bs'):bs'.length=bs.length:=by
 simp only[c8,if_neg hk] at h
 split at h
 ·cases h
 ·simp only[Option.map_eq_some_iff] at h
  obtain ⟨b',_,rfl⟩:=h
  simp[l4]
theorem b9.vD{hs:List FuncId}{K:ae→Prop}{f:FuncId}{x:au}{avs:List I}{a1 a2:Option (List I)}{dst:Option Nat}{rest:List aB}{ts:List (Nat×I)}{z y:ah}{bs:List aA}(hlen:bs.length≤60)(hf:hs.contains f=true)
  (hc:cH Tryz.prog f [.ptr 1000000 [],enc x] (ct 1000000 bs) (iT 1000000 33 bs x)) (hav:avs=[.ptr 43 [],enc x])
  (h1:c8 fo bs x=none→b9 Tryz.prog hs K (ay rest ((ar ts (dS bs++((900,z)::(dS bs++[(3,y)])))).aO dst (.bool false))))
  (h2:∀ bs',c8 fo bs x=some bs'→¬ (x.kind=1∨x.kind=2)→b9 Tryz.prog hs K (ay rest ((ar ts (dS bs'++((900,z)::(dS bs++[(3,y)])))).aO dst (.bool true))))
  (h3:c8 fo bs x=some (bs++[fj x])→b9 Tryz.prog hs K (ay rest ((ar ts (nv bs (fj x)++((900,z)::(dS bs++[(3,y)])))).aO dst (.bool true)))) :
  b9 Tryz.prog hs K (.call f avs a1 a2 dst rest (ar ts ((900,z)::(dS bs++[(3,y)])))):=by
 subst hav
 have nm:∀ {bs:List aA} {m},aq (ct 1000000 bs) m=true→1000000≤m∧m<1000002+2*bs.length:=fun {bs m} h=>by
  rw[ny] at h;simpa using h
 have hlow:∀ {bs':List aA},bs'.length≤60→∀ {m y},ak (ct 1000000 bs') m=some y→ak (dS bs') (bJ (gB bs.length) m)=some (y.aR (bJ (gB bs.length))):=fun {bs'} hl {m y} hy=>by
  rw[←ui bs.length (bs:=bs') (by omega)]
  exact aiH (fun m' hm' he=>uk (by omega) (nm hm') (nm (by simp[aq,hy])) he) hy
 refine .x7 false (gB bs.length) (ct 1000000 bs) [.ptr 1000000 [],enc x] _ hf hc ⟨fun m y' hy =>?_,fun m m' h h' e=>uk (n:=bs.length) (by omega) (nm h) (nm h') e⟩ ⟨.inl ⟨?_,?_,rfl⟩,.inl ⟨(kb _ _).symm,br _ _,dG _⟩,trivial⟩ ?_ ?_
 ·have hm:=nm (bs:=bs) (m:=m) (by simp[aq,hy])
  refine ⟨?_,fr hy⟩
  have h9:bJ (gB bs.length) m≠900:=fun e=>by
   rw[lY] at e
   (repeat' split at e) <;>omega
  simp only[ak,if_neg h9,ki,hlow hlen hy]
 ·simp only[I.aR,MS]
 ·simp only[I.only];simp[aq,kg]
 ·intro r os' hp
  simp only[iT] at hp
  split at hp
  ·obtain ⟨rfl,rfl⟩:=hp
   exact ⟨fun m y hy=>⟨(fr hy).1,(fr hy).2,fun h=>by cases h⟩,fun m m' h h' e=>uk (n:=bs.length) (k:=bs.length) (by omega) (nm h) (nm h') e,fun m hm=>hm,(fun m a b=>by rw[a] at b;cases b),rfl,(fun h=>by cases h)⟩
  ·rename_i bs' hb
   obtain ⟨rfl,rfl⟩:=hp
   split
   ·rename_i hk
    have hbs:bs'=bs++[fj x]:=by
     simp only[c8,if_pos hk] at hb
     split at hb
     ·simpa[fo] using hb.symm
     ·cases hb
    subst hbs
    have hN:∀ {m},aq (gI 1000000 33 bs (fj x)) m=true→tJ bs.length m:=fun {m} h=>by
     rw[nw] at h
     simp only[Bool.or_eq_true,decide_eq_true_eq] at h
     rcases h with h | h
     ·exact .inl h
     ·exact .inr (nm h)
    refine ⟨fun m y hy=>⟨(nx hy).1,(nx hy).2,fun h=>by cases h⟩,fun m m' h h' e=>ald (by omega) (hN h) (hN h') e,fun m hm =>?_,fun m a b =>?_,rfl,fun h=>by cases h⟩
    ·show aq (gI 1000000 33 bs (fj x)) m=true
     rw[nw,hm,Bool.or_true]
    ·have a':aq (gI 1000000 33 bs (fj x)) m=true:=a
     rw[nw,b,Bool.or_false,decide_eq_true_eq] at a'
     subst a'
     rw[MU]
     refine ⟨?_,by omega⟩
     have h9:¬ 2002+2*bs.length=900:=by omega
     have h3:¬ 2002+2*bs.length=3:=by omega
     have hno:ak (dS bs) (2002+2*bs.length)=none:=by
      have:=xC (bs:=bs) (n:=2002+2*bs.length)
      rw[decide_eq_false (by omega)] at this
      simpa[aq] using this
     simp only[ak,if_neg h9,ki,hno,if_neg h3]
   ·rename_i hk
    have hl:=u6 hk hb
    refine ⟨fun m y hy=>⟨(fr hy).1,(fr hy).2,fun h=>by cases h⟩,fun m m' h h' e=>uk (n:=bs.length) (k:=bs'.length) (by omega) (nm h) (nm h') e,fun m hm =>?_,fun m a b =>?_,rfl,fun h=>by cases h⟩
    ·rw[ny] at hm ⊢;rw[hl];exact hm
    ·rw[ny] at a b;rw[hl] at a;rw[a] at b;cases b
 ·intro r os' hp
  simp only[iT] at hp
  split at hp
  ·rename_i hb
   obtain ⟨rfl,rfl⟩:=hp
   rw[ui bs.length (by omega)]
   exact h1 hb
  ·rename_i bs' hb
   obtain ⟨rfl,rfl⟩:=hp
   split
   ·rename_i hk
    have hbs:bs'=bs++[fj x]:=by
     simp only[c8,if_pos hk] at hb
     split at hb
     ·simpa[fo] using hb.symm
     ·cases hb
    subst hbs
    have e:dN (gB bs.length) ((1000000+1,ah.cu (dp (bs++[fj x])) (ed 1000000 bs.length++[.ptr 33 []]))::(33,.box (ef (fj x) (.nils 6)))::ct 1000000 bs)=nv bs (fj x):=ak2 (by omega)
    rw[e]
    exact h3 hb
   ·rename_i hk
    have hl:=u6 hk hb
    rw[ui bs.length (by omega)]
    exact h2 bs' hb hk
def uV(a b c d e f:Int):bA 6 Int:=⟨[a,b,c,d,e,f],rfl⟩
def a5(a b c d e:Int):bA 5 Int:=⟨[a,b,c,d,e],rfl⟩
theorem Ya(a b c d e:Int):I.agg [.int .i64 a,.int .i64 b,.int .i64 c,.int .i64 d,.int .i64 e]=enc (a5 a b c d e):=rfl
theorem Yb(a b c d e f:Int):I.agg [.int .i64 a,.int .i64 b,.int .i64 c,.int .i64 d,.int .i64 e,.int .i64 f]=enc (uV a b c d e f):=rfl
theorem yY{zs:List I}{i:Nat}{v z:I}{rest:List (Nat×I)}(h:zs[i]?=some z)(h1:v.cq=true)(h2:v.size=z.size):eB zs ((i,v)::rest)=eB (zs.set i v) rest:=by
 simp only[eB,h];rw[if_pos ⟨h1,h2⟩]
theorem X9(w:bA 5 Int)(n:Int)(l:List cA):I.agg [enc w,.int .i64 n,enc l]=enc (⟨w,n,l⟩:cn):=rfl
theorem amr(x:au):aw Tryz.prog 62 [enc x] (enc (if gA x then (0:Int) else 40)):=by
 refine aw.bp Tryz.func62 R8 T9 Wg (Nat.le_of_ble_eq_true rfl) (fun hwf W0 D0 E1 =>?_)
 simp only[BS,L6,a6]
 have R:=And.intro @aL @U
 repeat' ((first
  |(with_reducible refine .guard (fun hb =>?_) (fun hb =>?_) <;>try simp only[hb])
  |refine J.aI (by decide +kernel) rfl fun K hK =>?_
  |refine .flat _ (uI _) rfl ?_
  |(refine .aD [0,1,2,5] hK ?_;clear hK K)
  |(with_reducible refine .done (hK _ ?_);clear hK K)
  |refine J.of rfl ?_
  |(with_reducible refine aj.aH (fun h =>?_) (fun h =>?_) <;>try simp only[h])) <;>try simp only[aJ,R,simprocAttr])
 all_goals clear R
 all_goals simp_all
theorem aii{x:au}(h:jM x=true):b7 0 6 x.kind=true:=by
 simp only[jM] at h
 simp only[b7,Bool.and_eq_true,decide_eq_true_eq]
 repeat' split at h
 all_goals first | omega | (simp at h;omega)
def sv(x:au):Bool:=b7 0 100000 x.known&&b7 0 100000 x.day
def p6(x:au):Bool:=my x.da&&(sv x&&(b7 0 6 x.kind&&decide (x=kC x)))
theorem J8(x:au):gA x=(p6 x&&jM x):=by
 simp only[gA,p6,sv]
 cases h:jM x
 ·simp
 ·simp[aii h,Bool.and_comm,Bool.and_left_comm,Bool.and_assoc]
theorem zK(x:au):aw Tryz.prog 63 [enc x] (enc (if gA x then (0:Int) else 40)):=by
 refine aw.bp Tryz.func63 R9 Ua Wh (Nat.le_of_ble_eq_true rfl) (fun hwf W0 D0 E1 =>?_)
 simp only[BT,L7,a6]
 clear hwf
 refine .ao (by decide +kernel) fun K hK =>?_
 simp only[Il,U,simprocAttr]
 try simp only[aL,U,simprocAttr]
 refine .done (hK _ ?_);clear hK K
 refine J.seq (J.nX (ar [(1,.ptr 1 []),(3,.bool (sv x))] [(1,.box (enc x))]) ?_ fun B hB=>J.sub hB ?_)
 ·have R:=And.intro @aL @U
  repeat' ((first
   |(with_reducible refine .guard (fun hb =>?_) (fun hb =>?_) <;>try simp only[hb])
   |refine J.aI (by decide +kernel) rfl fun K hK =>?_
   |refine .flat _ (nY _ _ _) rfl ?_
   |(refine .aD [0,1,2,3,4,5,6,34,37,64,68,76,77,98,102,107,113] hK ?_;clear hK K)
   |(with_reducible refine .done (hK _ ?_);clear hK K)
   |refine J.of rfl ?_
   |(with_reducible refine aj.aH (fun h =>?_) (fun h =>?_) <;>try simp only[h])) <;>try simp only[aJ,R,simprocAttr])
  all_goals clear R
  all_goals
   refine az.bR ?_ ?_ ?_ ?_ <;>simp[*,aT,bN,bM,bg,aq,aU,cw,I.only,ah.only,br,sv]
 refine J.seq (J.seq (J.nX (ar [(1,.ptr 1 []),(34,.bool !(p6 x))] [(1,.box (enc x))]) ?_ fun B hB=>J.sub hB ?_))
 ·have R:=And.intro @aL @U
  repeat' ((first
   |(with_reducible refine .guard (fun hb =>?_) (fun hb =>?_) <;>try simp only[hb])
   |refine J.aI (by decide +kernel) rfl fun K hK =>?_
   |refine .flat _ (nY _ _ _) rfl ?_
   |refine .flat _ (zn _) rfl ?_
   |refine .lead _ (Po _) ?_
   |(refine .aD [0,1,2,3,4,5,6,34,37,64,68,76,77,98,102,107,113] hK ?_;clear hK K)
   |(with_reducible refine .done (hK _ ?_);clear hK K)
   |refine J.of rfl ?_
   |(with_reducible refine aj.aH (fun h =>?_) (fun h =>?_) <;>try simp only[h])) <;>try simp only[aJ,R,simprocAttr])
  all_goals clear R
  all_goals
   refine az.bR ?_ ?_ ?_ ?_ <;>simp[*,aT,bN,bM,bg,aq,aU,cw,I.only,ah.only,br,p6]
 refine J.bI ?_
 simp only[aj,U,simprocAttr]
 refine ⟨fun h =>?_,fun h =>?_⟩
 ·have R:=And.intro @aL @U
  repeat' ((first
   |(with_reducible refine .guard (fun hb =>?_) (fun hb =>?_) <;>try simp only[hb])
   |refine J.aI (by decide +kernel) rfl fun K hK =>?_
   |(refine .aD [0,1,2,3,4,5,6,34,37,64,68,76,77,98,102,107,113] hK ?_;clear hK K)
   |(with_reducible refine .done (hK _ ?_);clear hK K)
   |refine J.of rfl ?_
   |(with_reducible refine aj.aH (fun h =>?_) (fun h =>?_) <;>try simp only[h])) <;>try simp only[aJ,R,simprocAttr])
  all_goals clear R
  simp at h
  simp[J8,h]
 refine J.skip ?_;try simp only[al,simprocAttr]
 have hp:p6 x=true:=by simpa using h
 have hr:0≤x.kind∧x.kind≤6:=by simp[p6,b7] at hp;omega
 have ho:gA x=jM x:=by rw[J8,hp];rfl
 rw[ho]
 obtain hk | hk | hk | hk | hk | hk | hk:x.kind=0∨x.kind=1∨x.kind=2∨x.kind=3∨x.kind=4∨x.kind=5∨x.kind=6:=by omega
 all_goals
  have R:=And.intro @hk (And.intro @aL @U)
  repeat' ((first
   |(with_reducible refine .guard (fun hb =>?_) (fun hb =>?_) <;>try simp only[hb])
   |refine J.aI (by decide +kernel) rfl fun K hK =>?_
   |refine .flat _ (nY _ _ _) rfl ?_
   |refine .flat _ (zn _) rfl ?_
   |refine .flat _ (zl _) rfl ?_
   |(refine .aD [0,1,2,3,4,5,6,34,37,64,68,76,77,98,102,107,113] hK ?_;clear hK K)
   |(with_reducible refine .done (hK _ ?_);clear hK K)
   |refine J.of rfl ?_
   |(with_reducible refine aj.aH (fun h =>?_) (fun h =>?_) <;>try simp only[h])) <;>try simp only[aJ,R,simprocAttr])
  all_goals clear R
 all_goals (clear hp hr;simp_all[jM];try omega)
end Go.Proofs.YtcldiigclhgafaaGreat
