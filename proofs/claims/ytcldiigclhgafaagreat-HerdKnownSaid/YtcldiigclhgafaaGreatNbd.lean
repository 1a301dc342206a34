/-
  A part of the proof that the law HerdKnown returns true for every input; conditions: none beyond the statement's own. (part 4 of 7)
-/
import Derived.Test.YtcldiigclhgafaaGreatChecked
import Derived.KernelRfl
import Derived.Test.YtcldiigclhgafaaGreatNbc
set_option linter.unusedSimpArgs false
set_option linter.unusedVariables false
set_option maxHeartbeats 16000000
set_option maxRecDepth 100000
namespace Go.Proofs.YtcldiigclhgafaaGreat
open Go Go.Abs Go.Abs.C
def Yo:=[o 2 (.mv (.c (.nils 1)))]
def Yp:=[m 6 0,o 7 (.len (.t 6)),o 8 (.bin .lss (.t 7) (aj 2))]
def Yv:=[m 9 0,m 2 9]
def Yw:=[aV 3 1]
def Yx:=[m 10 3,m 11 0,o 12 (.len (.t 11)),lt 13 10 12]
def Yy:=[m 16 0,m 17 3,o 18 (.is 1 (.t 16) (.t 17)),l 19 18,m 20 0,m 21 3,o 22 (.bin .sub (.t 21) (aj 1)),o 23 (.is 1 (.t 20) (.t 22)),l 24 23,o 25 (.bin .eql (.t 19) (.t 24))]
def V6:=some [[],[],[0,1],[2],[],[],[5],[4,6],[7],[3,8]]
def Yz:=[m 26 0,m 27 3,o 28 (.sl 1 (.t 26) (some (.t 27)) none none),m 4 28]
def YA:=[aV 5 1]
def Ee:=[m 29 5,m 30 4,o 31 (.len (.t 30)),lt 32 29 31]
def YB:=[m 35 4,m 36 5,o 37 (.is 1 (.t 35) (.t 36)),l 38 37,m 39 4,m 40 5,o 41 (.bin .sub (.t 40) (aj 1)),o 42 (.is 1 (.t 39) (.t 41)),l 43 42,o 44 (.bin .neq (.t 38) (.t 43))]
def V7:=some [[],[],[0,1],[2],[],[],[5],[4,6],[7],[3,8]]
def Yq:=[m 45 0,m 46 3,m 47 4,m 48 5,o 49 (.is 1 (.t 47) (.t 48)),l 50 49,o 51 (.is 1 (.t 45) (.t 46)),p (.bg none (.t 51) (.t 50))]
def Yr:=[m 52 3,ad 53 52 1,m 3 53]
def Ys:=[m 33 5,ad 34 33 1,m 5 34]
def Ec:=[m 54 0,m 55 3,o 56 (.sl 1 (.t 54) (some (.t 55)) none none),p (.iR 1 (.int .i64 0) (.t 56))]
def Ed:=[m 57 0,m 58 3,o 59 (.sl 1 (.t 57) none (some (.t 58)) none),m 2 59]
def Yt:=[m 14 3,ad 15 14 1,m 3 15]
def Yu:=[m 60 0,m 2 60]
def vf:aO:=(s (r Yo) (s (s (r Yp) (.cond (.t 8) (s (r Yv) .ret) .skip)) (s (s (r Yw) (.block 0 (.loop (s (s (r Yx) (.cond (.t 13) .skip (.exit 0))) (s (.block 1 (s (.bS V6 Yy) (.cond (.t 25) (s (r Yz) (s (s (r YA) (.block 2 (.loop (s (s (r Ee) (.cond (.t 32) .skip (.exit 2))) (s (.block 3 (s (.bS V7 YB) (.cond (.t 44) (s (r Yq) (r Yr)) .skip))) (r Ys)))))) (s (r Ec) (s (r Ed) .ret)))) .skip))) (r Yt)))))) (s (r Yu) .ret))))
def yl:List aZ:=[.tmp 2]
theorem Cw:bE Tryz.prog Tryz.f108 vf:=e (by kernel_rfl)
theorem CP:bF Tryz.prog Tryz.f108 yl:=e (by kernel_rfl)
theorem Cn:bC Tryz.prog 108:=e (by kernel_rfl)
def Ef:=[o 6 (.mv bl)]
def Eg:=[m 7 1,m 8 0,o 9 (.bin .leq (.t 7) (.t 8)),m 10 9,cq 11 0 10,cq 12 2 10,bD 13 (.bin .leq (.t 11) (.t 12)) 10,and 14 10 13,m 6 14]
def As:aO:=(s (r Ef) (s (r Eg) .ret))
def Kg:List aZ:=[.tmp 6]
theorem R4:bE Tryz.prog Tryz.f114 As:=e (by kernel_rfl)
theorem Uh:bF Tryz.prog Tryz.f114 Kg:=e (by kernel_rfl)
theorem Qa:bC Tryz.prog 114:=e (by kernel_rfl)
def Ei:=[b 1 0,o 2 (.mv bl)]
def Ej:=[f 3 0 0 1,l 4 3,o 5 (.call 114 [.t 4,(aj 0),(aj 5)]),m 6 5,cX 7 1 1 1 6,dB 8 7 6,bD 9 (.call 114 [.t 8,(aj 0),(aj 9999)]) 6,and 10 6 9,m 2 10]
def Au:aO:=(s (r Ei) (s (r Ej) .ret))
def Kh:List aZ:=[.tmp 2]
theorem R5:bE Tryz.prog Tryz.f115 Au:=e (by kernel_rfl)
theorem Ui:bF Tryz.prog Tryz.f115 Kh:=e (by kernel_rfl)
theorem Qb:bC Tryz.prog 115:=e (by kernel_rfl)
def Ek:=[b 1 0,o 2 (.mv bl)]
def El:=[f 3 0 0 1,l 4 3,o 5 (.call 94 [.t 4,(aj 0),(aj 5)]),m 6 5,cX 7 1 1 1 6,dB 8 7 6,bD 9 (.call 94 [.t 8,(aj 0),(aj 9999)]) 6,and 10 6 9,m 2 10]
def Av:aO:=(s (r Ek) (s (r El) .ret))
def Ki:List aZ:=[.tmp 2]
theorem R6:bE Tryz.prog Tryz.f116 Av:=e (by kernel_rfl)
theorem Uj:bF Tryz.prog Tryz.f116 Ki:=e (by kernel_rfl)
theorem Qc:bC Tryz.prog 116:=e (by kernel_rfl)
def Em:=[b 1 0,o 2 (.mv bl)]
def En:=[f 5 0 0 1,L 6 2 5,f 7 1 2 1,l 8 7,f 9 2 3 1,l 10 9,f 11 3 4 1,l 12 11,f 13 4 5 1,l 14 13,o 15 (.bld [.agg [.int .i64 0,.int .i64 0],.int .i64 0,.int .i64 0,.int .i64 0,.int .i64 0,.int .i64 0,.int .i64 0,.int .i64 0,.agg [.int .i64 0,.int .i64 0,.int .i64 0,.int .i64 0,.int .i64 0,.int .i64 0],.agg [.int .i64 0,.int .i64 0]] [(0,(.t 6)),(1,(.t 8)),(2,(.t 10)),(3,(.t 12)),(4,(.t 14))]),o 3 (.alloc (.agg [.agg [.int .i64 0,.int .i64 0],.int .i64 0,.int .i64 0,.int .i64 0,.int .i64 0,.int .i64 0,.int .i64 0,.int .i64 0,.agg [.int .i64 0,.int .i64 0,.int .i64 0,.int .i64 0,.int .i64 0,.int .i64 0],.agg [.int .i64 0,.int .i64 0]])),p (.bg (some 17) (.t 3) (.t 15))]
def Eo:=[f 16 4 5 1,l 17 16,o 18 (.call 154 [.t 17]),m 4 18]
def YP:=[f 19 1 2 1,l 20 19]
def YQ:=[o 22 (.bin .eql (.t 20) (aj 0)),m 21 22]
def wa:=[f 23 9 15 1,L 24 2 23,f 25 4 5 3,p (.bg none (.t 25) (aj 0)),f 26 9 15 3,p (.bg (some 2) (.t 26) (.t 24))]
def V8:=some [[],[0],[],[2],[0,1,2,3],[4,1,3,0,1,2,3]] -- DRAW BAD
def YR:=[f 27 2 3 1,l 28 27,o 29 (.bin .eql (.t 28) (aj 0)),m 30 29,cX 31 9 15 1 30,bD 32 (.ld (some 2) (.t 31)) 30,bD 33 (.call 115 [.t 32]) 30,and 34 30 33,m 35 34,cX 36 9 15 1 35,cX 37 0 0 36 35,dB 38 37 35,cX 39 0 0 1 35,cX 40 0 0 39 35,dB 41 40 35,bD 42 (.bin .eql (.t 38) (.t 41)) 35,and 43 35 42,m 44 43,cX 45 9 15 1 44,cX 46 1 1 45 44,dB 47 46 44,cX 48 0 0 1 44,cX 49 1 1 48 44,dB 50 49 44,bD 51 (.bin .lss (.t 47) (.t 50)) 44,and 52 44 51,m 4 52]
def YS:=[o 54 (.bin .eql (.t 20) (aj 1)),m 53 54]
def wb:=[f 55 6 7 1,l 56 55,f 57 7 8 1,l 58 57,f 59 5 6 1,l 60 59,f 61 6 7 3,p (.bg none (.t 61) (.t 56)),f 62 7 8 3,p (.bg none (.t 62) (.t 58)),f 63 5 6 3,p (.bg none (.t 63) (.t 60))]
def V9:=some [[],[0],[],[2],[],[4],[0,1],[6,1,0,1],[0,1,2,3,6,7],[8,3,7,0,1,2,3,6,7],[0,1,2,3,4,5,6,7,8,9],[10,5,9,0,1,2,3,4,5,6,7,8,9]] -- DRAW BAD
def YT:=[m 64 4,m 65 64,cX 66 6 7 1 65,dB 67 66 65,bD 68 (.call 155 [.t 67]) 65,and 69 65 68,m 70 69,cX 71 7 8 1 70,dB 72 71 70,bD 73 (.call 156 [.t 72]) 70,and 74 70 73,m 75 74,cX 76 5 6 1 75,dB 77 76 75,bD 78 (.call 114 [.t 77,(aj 0),(aj 9999)]) 75,and 79 75 78,m 80 79,cX 81 5 6 1 80,dB 82 81 80,cX 83 4 5 1 80,dB 84 83 80,bD 85 (.bin .neq (.t 82) (.t 84)) 80,and 86 80 85,m 4 86]
def YC:=[o 88 (.bin .eql (.t 20) (aj 2)),m 87 88]
def YD:=[f 89 6 7 1,l 90 89,f 91 6 7 3,p (.bg none (.t 91) (.t 90))]
def YE:=[m 92 4,m 93 92,cX 94 6 7 1 93,dB 95 94 93,bD 96 (.call 155 [.t 95]) 93,and 97 93 96,m 4 97]
def YF:=[o 99 (.bin .eql (.t 20) (aj 3)),m 98 99]
def YG:=[o 100 (.bin .eql (.t 20) (aj 5)),m 98 100]
def YH:=[f 101 7 8 1,l 102 101,f 103 7 8 3,p (.bg none (.t 103) (.t 102))]
def YI:=[m 104 4,m 105 104,cX 106 7 8 1 105,dB 107 106 105,bD 108 (.call 156 [.t 107]) 105,and 109 105 108,m 4 109]
def YJ:=[o 111 (.bin .eql (.t 20) (aj 4)),m 110 111]
def YK:=[f 112 8 9 1,L 113 6 112,f 114 8 9 3,p (.bg (some 6) (.t 114) (.t 113))]
def YL:=[m 115 4,m 116 115,cX 117 8 9 1 116,bD 118 (.ld (some 6) (.t 117)) 116,bD 119 (.call 157 [.t 118]) 116,bD 120 (.bin .eql (.t 119) (aj 0)) 116,and 121 116 120,m 4 121]
def YM:=[o 123 (.bin .eql (.t 20) (aj 6)),m 122 123]
def YN:=[o 2 (.mv bl)]
def YO:=[m 124 4,m 125 124,bD 126 (.ld (some 17) (.t 1)) 125,bD 127 (.ld (some 17) (.t 3)) 125,bD 128 (.eqv (.bg [(.bg [(.i .i64),(.i .i64)]),(.i .i64),(.i .i64),(.i .i64),(.i .i64),(.i .i64),(.i .i64),(.i .i64),(.jG 6 (.i .i64)),(.bg [(.i .i64),(.i .i64)])]) false (.t 126) (.t 127)) 125,and 129 125 128,m 130 129,cX 131 0 0 1 130,bD 132 (.ld (some 2) (.t 131)) 130,bD 133 (.call 115 [.t 132]) 130,and 134 130 133,m 135 134,cX 136 2 3 1 135,dB 137 136 135,bD 138 (.call 127 [.t 137]) 135,and 139 135 138,m 140 139,cX 141 3 4 1 140,dB 142 141 140,bD 143 (.call 127 [.t 142]) 140,and 144 140 143,m 2 144]
def Aw:aO:=(s (r Em) (s (r En) (s (r Eo) (s (s (r YP) (.block 0 (s (r YQ) (.cond (.t 21) (s (.bS V8 wa) (r YR)) (s (r YS) (.cond (.t 53) (s (.bS V9 wb) (r YT)) (s (r YC) (.cond (.t 87) (s (r YD) (r YE)) (s (s (r YF) (.cond (.t 98) .skip (r YG))) (.cond (.t 98) (s (r YH) (r YI)) (s (r YJ) (.cond (.t 110) (s (r YK) (r YL)) (s (r YM) (.cond (.t 122) .skip (s (r YN) .ret))))))))))))))) (s (r YO) .ret)))))
def Kj:List aZ:=[.tmp 2]
theorem R7:bE Tryz.prog Tryz.f117 Aw:=e (by kernel_rfl)
theorem Uk:bF Tryz.prog Tryz.f117 Kj:=e (by kernel_rfl)
theorem Qd:bC Tryz.prog 117:=e (by kernel_rfl)
def Ep:=[b 2 0,b 3 1,aV 4 0]
def Er:=[f 5 0 0 2,l 6 5,f 7 0 0 3,l 8 7,o 9 (.call 159 [.t 6,.t 8]),f 10 1 1 2,l 11 10,f 12 1 1 3,l 13 12,o 14 (.call 159 [.t 11,.t 13]),o 15 (.bs 1 [.t 9,.t 14]),o 16 (.call 158 [.t 15]),m 4 16]
def Wa:=some [[],[0],[],[2],[1,3],[],[5],[],[7],[6,8,4],[4,9],[10,9],[11,11,0,1,2,3,4,5,6,7,8,9,10,11]]
def Ax:aO:=(s (r Ep) (s (.bS Wa Er) .ret))
def Kk:List aZ:=[.tmp 4]
theorem R8:bE Tryz.prog Tryz.f118 Ax:=e (by kernel_rfl)
theorem Ul:bF Tryz.prog Tryz.f118 Kk:=e (by kernel_rfl)
theorem Qe:bC Tryz.prog 118:=e (by kernel_rfl)
def Es:=[b 2 0,b 3 1,o 4 (.mv bl)]
def Et:=[f 5 0 0 2,l 6 5,f 7 0 0 3,l 8 7,lt 9 6 8,m 10 9,fn 11 0 0 2 10,dA 12 11 10,fn 13 0 0 3 10,dA 14 13 10,on 15 (.bin .eql (.t 12) (.t 14)) 10,eF 16 15 10,cX 17 1 1 2 16,dB 18 17 16,cX 19 1 1 3 16,dB 20 19 16,bD 21 (.bin .lss (.t 18) (.t 20)) 16,on 22 (.pick (.t 16) (.t 21) bl) 10,or 23 10 22,m 4 23]
def Ay:aO:=(s (r Es) (s (r Et) .ret))
def Kl:List aZ:=[.tmp 4]
theorem R9:bE Tryz.prog Tryz.f119 Ay:=e (by kernel_rfl)
theorem Um:bF Tryz.prog Tryz.f119 Kl:=e (by kernel_rfl)
theorem Qf:bC Tryz.prog 119:=e (by kernel_rfl)
def Eu:=[b 1 0,o 2 (.mv bl)]
def Ev:=[L 6 5 1,aV 7 0]
def Ew:=[o 8 (.bin .lss (.t 7) (aj 5))]
def Ey:=[m 9 7,o 10 (.ix 5 1 none (.t 6) (.t 7)),m 3 9,m 4 10]
def Ez:=[m 11 4,m 5 11]
def EA:=[m 12 5,o 13 (.call 160 [.t 12]),no 14 13,m 15 14,eF 16 5 15,eF 17 3 15,on 18 (.call 161 [.t 16,.t 17]) 15,on 19 (.un .not (.t 18)) 15,or 20 15 19]
def wc:=[o 2 (.mv bl)]
def EB:=[ad 21 7 1,m 7 21]
def EC:=[o 2 (.mv T)]
def Az:aO:=(s (r Eu) (s (s (r Ev) (.block 0 (.loop (s (r Ew) (s (.cond (.t 8) .skip (.exit 0)) (s (.block 1 (s (r Ey) (s (r Ez) (s (r EA) (.cond (.t 20) (s (r wc) .ret) .skip))))) (r EB))))))) (s (r EC) .ret)))
def Km:List aZ:=[.tmp 2]
theorem Sa:bE Tryz.prog Tryz.f120 Az:=e (by kernel_rfl)
theorem Un:bF Tryz.prog Tryz.f120 Km:=e (by kernel_rfl)
theorem Qg:bC Tryz.prog 120:=e (by kernel_rfl)
def ED:=[o 6 (.mv bl)]
def EE:=[m 7 1,m 8 0,o 9 (.bin .leq (.t 7) (.t 8)),m 10 9,cq 11 0 10,cq 12 2 10,bD 13 (.bin .leq (.t 11) (.t 12)) 10,and 14 10 13,m 6 14]
def AA:aO:=(s (r ED) (s (r EE) .ret))
def Kn:List aZ:=[.tmp 6]
theorem Sb:bE Tryz.prog Tryz.f121 AA:=e (by kernel_rfl)
theorem Uo:bF Tryz.prog Tryz.f121 Kn:=e (by kernel_rfl)
theorem Qh:bC Tryz.prog 121:=e (by kernel_rfl)
def EF:=[o 2 (.mv bl)]
def EG:=[m 3 0,o 4 (.call 121 [.t 3,(aj 1),(aj 99)]),m 2 4]
def AB:aO:=(s (r EF) (s (r EG) .ret))
def Ko:List aZ:=[.tmp 2]
theorem Sc:bE Tryz.prog Tryz.f122 AB:=e (by kernel_rfl)
theorem Up:bF Tryz.prog Tryz.f122 Ko:=e (by kernel_rfl)
theorem Qi:bC Tryz.prog 122:=e (by kernel_rfl)
def EH:=[b 1 0,o 2 (.mv bl)]
def EI:=[o 3 (.va 6 1 (.t 1)),o 4 (.call 125 [.t 3,(.c (.func 162 []))]),no 5 4,m 2 5]
def AD:aO:=(s (r EH) (s (r EI) .ret))
def Kp:List aZ:=[.tmp 2]
theorem Sd:bE Tryz.prog Tryz.f123 AD:=e (by kernel_rfl)
theorem Uq:bF Tryz.prog Tryz.f123 Kp:=e (by kernel_rfl)
theorem Qj:bC Tryz.prog 123:=e (by kernel_rfl)
def EJ:=[b 3 0,b 5 2,o 6 (.mv bl)]
def EK:=[m 7 1,o 8 (.mk 164 [.t 3,.t 5]),o 9 (.call 163 [.t 7,.t 8]),no 10 9,m 6 10]
def AE:aO:=(s (r EJ) (s (r EK) .ret))
def Kq:List aZ:=[.tmp 6]
theorem Se:bE Tryz.prog Tryz.f124 AE:=e (by kernel_rfl)
theorem Ur:bF Tryz.prog Tryz.f124 Kq:=e (by kernel_rfl)
theorem Qk:bC Tryz.prog 124:=e (by kernel_rfl)
def EL:=[o 4 (.mv bl)]
def EM:=[m 5 0,m 6 1,o 7 (.call 166 [.t 5,.t 6]),o 8 (.bin .geq (.t 7) (aj 0)),m 4 8]
def AF:aO:=(s (r EL) (s (r EM) .ret))
def Kr:List aZ:=[.tmp 4]
theorem Sf:bE Tryz.prog Tryz.f125 AF:=e (by kernel_rfl)
theorem Us:bF Tryz.prog Tryz.f125 Kr:=e (by kernel_rfl)
theorem Ql:bC Tryz.prog 125:=e (by kernel_rfl)
def YU:=[o 2 (.mv bl)]
def YV:=[m 3 0,o 4 (.call 127 [.t 3]),no 5 4,m 2 5]
def AG:aO:=(s (r YU) (s (r YV) .ret))
def Ks:List aZ:=[.tmp 2]
theorem Sg:bE Tryz.prog Tryz.f126 AG:=e (by kernel_rfl)
theorem Ut:bF Tryz.prog Tryz.f126 Ks:=e (by kernel_rfl)
theorem Qm:bC Tryz.prog 126:=e (by kernel_rfl)
def EN:=[o 2 (.mv bl)]
def EO:=[m 3 0,o 4 (.call 114 [.t 3,(aj 0),(aj 100000)]),m 2 4]
def AH:aO:=(s (r EN) (s (r EO) .ret))
def Kt:List aZ:=[.tmp 2]
theorem Sh:bE Tryz.prog Tryz.f127 AH:=e (by kernel_rfl)
theorem Uu:bF Tryz.prog Tryz.f127 Kt:=e (by kernel_rfl)
theorem Qn:bC Tryz.prog 127:=e (by kernel_rfl)
def EP:=[b 2 0,o 4 (.mv (.c (.nils 1))),aV 5 0]
def ER:=[L 11 7 2,o 12 (.call 66 [.t 11]),m 6 12]
def wj:=[m 13 6,o 14 (.bin .neq (.t 13) (aj 0))]
def ES:=[m 15 6,o 4 (.mv (.c (.nils 1))),m 5 15]
def ET:=[m 16 1,o 17 (.len (.t 16)),o 18 (.bin .gtr (.t 17) (aj 60))]
def EU:=[o 4 (.mv (.c (.nils 1))),aV 5 2]
def EV:=[f 19 2 6 2,l 20 19,o 21 (.call 167 [.t 20]),m 7 21]
def wm:=[m 22 1,o 23 (.len (.t 22)),aV 24 0]
def wo:=[lt 25 24 23]
def wq:=[o 26 (.is 6 (.t 22) (.t 24)),L 27 6 26,o 9 (.alloc (.agg [.int .i64 0,.int .i64 0,.int .i64 0,.int .i64 0,.int .i64 0,.int .i64 0])),p (.bg (some 6) (.t 9) (.t 27))]
def we:=[L 28 6 9,o 29 (.call 157 [.t 28]),m 10 29]
def sM:=[m 30 10,o 31 (.bin .neq (.t 30) (aj 0))]
def wg:=[m 32 10,o 4 (.mv (.c (.nils 1))),m 5 32]
def wh:=[f 33 0 0 2,L 34 5 33,f 35 1 5 2,l 36 35,m 37 7,o 38 (.bld [.agg [.int .i64 0,.int .i64 0,.int .i64 0,.int .i64 0,.int .i64 0],.int .i64 0,.nils 7] [(0,(.t 34)),(1,(.t 36)),(2,(.t 37))]),L 39 6 9,o 40 (.call 168 [.t 38,.t 39]),m 7 40]
def sN:=[ad 41 24 1,m 24 41]
def wi:=[m 42 7,o 43 (.call 169 [.t 42]),m 4 43,aV 5 0]
def AI:aO:=(s (r EP) (s (s (r ER) (s (r wj) (.cond (.t 14) (s (r ES) .ret) .skip))) (s (s (r ET) (.cond (.t 18) (s (r EU) .ret) .skip)) (s (r EV) (s (s (r wm) (.block 0 (.loop (s (r wo) (s (.cond (.t 25) .skip (.exit 0)) (s (.block 1 (s (r wq) (s (s (r we) (s (r sM) (.cond (.t 31) (s (r wg) .ret) .skip))) (r wh)))) (r sN))))))) (s (r wi) .ret))))))
def Ku:List aZ:=[.tmp 4,.tmp 5]
theorem Si:bE Tryz.prog Tryz.f128 AI:=e (by kernel_rfl)
theorem Uv:bF Tryz.prog Tryz.f128 Ku:=e (by kernel_rfl)
theorem Qo:bC Tryz.prog 128:=e (by kernel_rfl)
def YW:=[aV 4 0]
def YX:=[m 6 0,o 7 (.len (.t 6)),aV 8 0]
def YY:=[lt 9 8 7]
def YZ:=[m 10 8,m 5 10]
def Y0:=[m 11 1,m 12 0,m 13 5,o 14 (.is 1 (.t 12) (.t 13)),l 15 14,o 16 (.bin .eql (.t 11) (.t 15))]
def Y1:=[m 17 5,m 4 17]
def Y2:=[ad 18 8 1,m 8 18]
def Y3:=[aV 4 (-1)]
def AJ:aO:=(s (r YW) (s (s (r YX) (.block 0 (.loop (s (r YY) (s (.cond (.t 9) .skip (.exit 0)) (s (.block 1 (s (r YZ) (s (r Y0) (.cond (.t 16) (s (r Y1) .ret) .skip)))) (r Y2))))))) (s (r Y3) .ret)))
def Kv:List aZ:=[.tmp 4]
theorem Sj:bE Tryz.prog Tryz.f131 AJ:=e (by kernel_rfl)
theorem Uw:bF Tryz.prog Tryz.f131 Kv:=e (by kernel_rfl)
theorem Qp:bC Tryz.prog 131:=e (by kernel_rfl)
def Y4:=[b 3 1,o 4 (.mv (.c (.nils 9))),o 5 (.mv bl)]
def Y5:=[m 11 0,f 12 4 5 3,l 13 12,o 14 (.call 93 [.t 11,.t 13]),m 6 14]
def Zg:=[f 15 1 2 3,l 16 15,o 17 (.bin .eql (.t 16) (aj 1)),m 18 17,fn 19 1 2 3 18,dA 20 19 18,on 21 (.bin .eql (.t 20) (aj 2)) 18,or 22 18 21]
def Zq:=[m 23 6,o 24 (.bin .geq (.t 23) (aj 0))]
def Zs:=[m 25 0,m 4 25,o 5 (.mv bl)]
def Zt:=[f 26 5 6 3,l 27 26,o 28 (.bin .neq (.t 27) (aj 0))]
def Zu:=[m 29 0,f 30 5 6 3,l 31 30,o 32 (.call 93 [.t 29,.t 31]),m 7 32]
def Zv:=[m 33 7,o 34 (.bin .lss (.t 33) (aj 0)),m 35 34,eF 36 0 35,eF 37 7 35,on 38 (.is 9 (.t 36) (.t 37)) 35,fn 39 1 1 38 35,dA 40 39 35,fn 41 6 7 3 35,dA 42 41 35,on 43 (.bin .neq (.t 40) (.t 42)) 35,or 44 35 43,m 45 44,eF 46 0 45,eF 47 7 45,on 48 (.is 9 (.t 46) (.t 47)) 45,fn 49 6 6 48 45,dA 50 49 45,on 51 (.bin .geq (.t 50) (aj 0)) 45,eF 52 51 45,cq 53 0 52,cq 54 7 52,bD 55 (.is 9 (.t 53) (.t 54)) 52,cX 56 6 6 55 52,dB 57 56 52,cX 58 2 3 3 52,dB 59 58 52,bD 60 (.bin .lss (.t 57) (.t 59)) 52,on 61 (.pick (.t 52) (.t 60) bl) 45,or 62 45 61]
def Wc:=some [[],[0],[1],[2],[2],[3,4,2],[5,2],[6,2],[2],[8,2],[7,9,2],[2,10],[11,2],[12],[12],[13,14,12],[15,12],[16,12],[17,12],[18,12,12],[19],[19],[20,21,19],[22,19],[23,19],[19],[25,19],[24,26,19],[19,27,12],[12,28]]
def Zw:=[m 63 0,m 4 63,o 5 (.mv bl)]
def Zx:=[m 64 0,f 65 4 5 3,l 66 65,f 67 6 7 3,l 68 67,f 69 5 6 3,l 70 69,f 71 7 8 3,l 72 71,f 73 7 8 3,l 74 73,f 75 2 3 3,l 76 75,o 77 (.bld [.int .i64 0,.int .i64 0,.int .i64 0,.int .i64 0,.int .i64 0,.int .i64 0,.int .i64 0,.bool false,.nils 6] [(0,(.t 66)),(1,(.t 68)),(2,(.t 70)),(3,(.t 72)),(4,(.t 74)),(5,(.t 76)),(6,(.c (.int .i64 (-1))))]),o 78 (.call 170 [.t 64,.t 77]),m 8 78]
def Y6:=[m 79 8,m 4 79,o 5 (.mv T)]
def Y7:=[m 80 6,o 81 (.bin .lss (.t 80) (aj 0))]
def Y8:=[m 82 0,m 4 82,o 5 (.mv bl)]
def Y9:=[m 83 0,m 84 6,o 85 (.is 9 (.t 83) (.t 84)),L 86 9 85,o 9 (.alloc (.agg [.int .i64 0,.int .i64 0,.int .i64 0,.int .i64 0,.int .i64 0,.int .i64 0,.int .i64 0,.bool false,.nils 6])),p (.bg (some 9) (.t 9) (.t 86))]
def Za:=[f 87 1 2 3,l 88 87]
def Zb:=[o 90 (.bin .eql (.t 88) (aj 3)),m 89 90]
def Zc:=[f 91 6 6 9,l 92 91,o 93 (.bin .geq (.t 92) (aj 0)),m 94 93,fn 95 3 3 9 94,dA 96 95 94,on 97 (.bin .eql (.t 96) (aj 0)) 94,or 98 94 97,m 99 98,fn 100 3 3 9 99,dA 101 100 99,fn 102 7 8 3 99,dA 103 102 99,on 104 (.bin .eql (.t 101) (.t 103)) 99,or 105 99 104]
def Zd:=[m 106 0,m 4 106,o 5 (.mv bl)]
def Ze:=[f 107 7 8 3,l 108 107,f 109 3 3 9,p (.bg none (.t 109) (.t 108))]
def Zf:=[o 111 (.bin .eql (.t 88) (aj 4)),m 110 111]
def wu:=[o 112 (.bs0 6),f 113 8 8 9,l 114 113,o 115 (.cL 66 6 48 (.agg [.int .i64 0,.int .i64 0,.int .i64 0,.int .i64 0,.int .i64 0,.int .i64 0]) (.t 112) (.t 114)),f 116 8 9 3,L 117 6 116,o 118 (.bs 6 [.t 117]),o 119 (.cL 66 6 48 (.agg [.int .i64 0,.int .i64 0,.int .i64 0,.int .i64 0,.int .i64 0,.int .i64 0]) (.t 115) (.t 118)),f 120 8 8 9,p (.bg none (.t 120) (.t 119))]
def Wb:=some [[],[],[1],[0,2],[],[4],[5],[3,6,3],[0,1,2,3,4,5,6,7],[8,7,7,0,1,2,3,4,5,6,7]] -- DRAW BAD
def Zh:=[o 122 (.bin .eql (.t 88) (aj 5)),m 121 122]
def Zi:=[f 123 7 8 3,l 124 123,f 125 3 3 9,p (.bg none (.t 125) (.t 124))]
def Zj:=[f 126 7 7 9,p (.bg none (.t 126) T)]
def Zk:=[o 128 (.bin .eql (.t 88) (aj 6)),m 127 128]
def Zl:=[f 129 6 6 9,l 130 129,o 131 (.bin .geq (.t 130) (aj 0))]
def Zm:=[m 132 0,m 4 132,o 5 (.mv bl)]
def Zn:=[f 133 2 3 3,l 134 133,f 135 6 6 9,p (.bg none (.t 135) (.t 134))]
def Zo:=[o 136 (.bs0 9),m 137 0,o 138 (.cL 78 9 88 (.agg [.int .i64 0,.int .i64 0,.int .i64 0,.int .i64 0,.int .i64 0,.int .i64 0,.int .i64 0,.bool false,.nils 6]) (.t 136) (.t 137)),m 10 138]
def Zp:=[m 139 10,m 140 6,L 141 9 9,o 142 (.is 9 (.t 139) (.t 140)),p (.bg (some 9) (.t 142) (.t 141))]
def Zr:=[m 143 10,m 4 143,o 5 (.mv T)]
def nY:aO:=(s (r Y4) (s (r Y5) (s (s (r Zg) (.cond (.t 22) (s (s (r Zq) (.cond (.t 24) (s (r Zs) .ret) .skip)) (s (s (r Zt) (.cond (.t 28) (s (r Zu) (s (.bS Wc Zv) (.cond (.t 62) (s (r Zw) .ret) .skip))) .skip)) (s (r Zx) (s (r Y6) .ret)))) .skip)) (s (s (r Y7) (.cond (.t 81) (s (r Y8) .ret) .skip)) (s (r Y9) (s (s (r Za) (.block 0 (s (r Zb) (.cond (.t 89) (s (s (r Zc) (.cond (.t 105) (s (r Zd) .ret) .skip)) (r Ze)) (s (r Zf) (.cond (.t 110) (.bS Wb wu) (s (r Zh) (.cond (.t 121) (s (r Zi) (r Zj)) (s (r Zk) (.cond (.t 127) (s (s (r Zl) (.cond (.t 131) (s (r Zm) .ret) .skip)) (r Zn)) .skip)))))))))) (s (r Zo) (s (r Zp) (s (r Zr) .ret)))))))))
def oC:List aZ:=[.tmp 4,.tmp 5]
theorem pk:bE Tryz.prog Tryz.f132 nY:=e (by kernel_rfl)
theorem pq:bF Tryz.prog Tryz.f132 oC:=e (by kernel_rfl)
theorem ph:bC Tryz.prog 132:=e (by kernel_rfl)
def Zy:=[o 2 (.alloc (.agg [.int .i64 0,.int .i64 0,.int .i64 0,.int .i64 0,.int .i64 0,.int .i64 0,.int .i64 0,.int .i64 0]))]
def Zz:=[aV 3 0]
def ZA:=[m 4 0,o 5 (.nilC (.t 4)),f 6 0 0 5,f 7 7 7 6,l 8 7]
def ZB:=[aV 3 1]
def ZC:=[m 9 0,o 10 (.nilC (.t 9)),f 11 0 0 10,f 12 0 0 11,l 13 12,m 14 0,o 15 (.nilC (.t 14)),f 16 0 0 15,f 17 1 1 16,l 18 17,m 19 0,o 20 (.nilC (.t 19)),f 21 0 0 20,f 22 2 2 21,l 23 22,m 24 0,o 25 (.nilC (.t 24)),f 26 0 0 25,f 27 3 3 26,l 28 27,m 29 0,o 30 (.nilC (.t 29)),f 31 0 0 30,f 32 4 4 31,l 33 32,m 34 0,o 35 (.nilC (.t 34)),f 36 0 0 35,f 37 5 5 36,l 38 37,m 39 0,o 40 (.nilC (.t 39)),f 41 0 0 40,f 42 6 6 41,l 43 42,m 44 3,o 45 (.bld [.int .i64 0,.int .i64 0,.int .i64 0,.int .i64 0,.int .i64 0,.int .i64 0,.int .i64 0,.int .i64 0] [(0,(.t 13)),(1,(.t 18)),(2,(.t 23)),(3,(.t 28)),(4,(.t 33)),(5,(.t 38)),(6,(.t 43)),(7,(.t 44))]),p (.bg (some 8) (.t 2) (.t 45))]
def Wd:=some [[],[0],[1],[2],[3],[],[5],[6],[7],[8],[],[10],[11],[12],[13],[],[15],[16],[17],[18],[],[20],[21],[22],[23],[],[25],[26],[27],[28],[],[30],[31],[32],[33],[],[4,9,14,19,24,29,34,35],[36,0,1,2,3,4,5,6,7,8,9,10,11,12,13,14,15,16,17,18,19,20,21,22,23,24,25,26,27,28,29,30,31,32,33,34,35,36]]
def AK:aO:=(s (r Zy) (s (r Zz) (s (s (r ZA) (.cond (.t 8) (r ZB) .skip)) (s (.bS Wd ZC) .ret))))
def Kx:List aZ:=[.cell 2 (some 8)]
theorem Sk:bE Tryz.prog Tryz.f133 AK:=e (by kernel_rfl)
theorem Ux:bF Tryz.prog Tryz.f133 Kx:=e (by kernel_rfl)
theorem Qq:bC Tryz.prog 133:=e (by kernel_rfl)
def ZD:=[o 4 (.mv bl)]
def ZE:=[m 6 0,o 7 (.len (.t 6)),m 8 1,o 9 (.len (.t 8)),o 10 (.bin .neq (.t 7) (.t 9))]
def ZF:=[o 4 (.mv bl)]
def ZG:=[m 11 0,o 12 (.len (.t 11)),aV 13 0]
def ZH:=[lt 14 13 12]
def ZI:=[m 15 13,m 5 15]
def ZJ:=[m 16 0,m 17 5,o 18 (.is 1 (.t 16) (.t 17)),l 19 18,m 20 1,m 21 5,o 22 (.is 1 (.t 20) (.t 21)),l 23 22,o 24 (.bin .neq (.t 19) (.t 23))]
def We:=some [[],[],[0,1],[2],[],[],[4,5],[6],[3,7]]
def ZK:=[o 4 (.mv bl)]
def ZL:=[ad 25 13 1,m 13 25]
def ZM:=[o 4 (.mv T)]
def AL:aO:=(s (r ZD) (s (s (r ZE) (.cond (.t 10) (s (r ZF) .ret) .skip)) (s (s (r ZG) (.block 0 (.loop (s (r ZH) (s (.cond (.t 14) .skip (.exit 0)) (s (.block 1 (s (r ZI) (s (.bS We ZJ) (.cond (.t 24) (s (r ZK) .ret) .skip)))) (r ZL))))))) (s (r ZM) .ret))))
def Ky:List aZ:=[.tmp 4]
theorem Sl:bE Tryz.prog Tryz.f134 AL:=e (by kernel_rfl)
theorem Uy:bF Tryz.prog Tryz.f134 Ky:=e (by kernel_rfl)
theorem Qr:bC Tryz.prog 134:=e (by kernel_rfl)
def EW:=[o 6 (.mv (.c (.nils 17)))]
def EX:=[m 8 0,m 9 1,m 10 2,m 11 0,o 12 (.len (.t 11)),o 13 (.sl 17 (.t 8) (some (.t 9)) (some (.t 10)) (some (.t 12)))]
def EY:=[m 14 1,m 15 2,o 16 (.bin .eql (.t 14) (.t 15))]
def ZN:=[m 17 0,m 6 17]
def EZ:=[m 18 0,o 19 (.len (.t 18)),m 7 19]
def wv:=[m 20 0,m 21 1,o 22 (.sl 17 (.t 20) none (some (.t 21)) none),m 23 0,m 24 2,o 25 (.sl 17 (.t 23) (some (.t 24)) none none),o 26 (.cL 68 17 136 (.agg [.agg [.int .i64 0,.int .i64 0],.int .i64 0,.int .i64 0,.int .i64 0,.int .i64 0,.int .i64 0,.int .i64 0,.int .i64 0,.agg [.int .i64 0,.int .i64 0,.int .i64 0,.int .i64 0,.int .i64 0,.int .i64 0],.agg [.int .i64 0,.int .i64 0]]) (.t 22) (.t 25)),m 0 26]
def Wf:=some [[],[],[0,1],[],[],[3,4],[2,5],[6,6,0,1,2,3,4,5,6]]
def wy:=[m 27 0,m 28 0,o 29 (.len (.t 28)),m 30 7,o 31 (.sl 17 (.t 27) (some (.t 29)) (some (.t 30)) none),p (.iR 17 (.agg [.agg [.int .i64 0,.int .i64 0],.int .i64 0,.int .i64 0,.int .i64 0,.int .i64 0,.int .i64 0,.int .i64 0,.int .i64 0,.agg [.int .i64 0,.int .i64 0,.int .i64 0,.int .i64 0,.int .i64 0,.int .i64 0],.agg [.int .i64 0,.int .i64 0]]) (.t 31))]
def wz:=[m 32 0,m 6 32]
def AM:aO:=(s (r EW) (s (r EX) (s (s (r EY) (.cond (.t 16) (s (r ZN) .ret) .skip)) (s (r EZ) (s (.bS Wf wv) (s (r wy) (s (r wz) .ret)))))))
def Kz:List aZ:=[.tmp 6]
theorem Sm:bE Tryz.prog Tryz.f135 AM:=e (by kernel_rfl)
theorem Uz:bF Tryz.prog Tryz.f135 Kz:=e (by kernel_rfl)
theorem Qs:bC Tryz.prog 135:=e (by kernel_rfl)
def E0:=[o 2 (.mv (.c (.nils 17)))]
def wA:=[m 3 0,o 4 (.nilS false (.t 3))]
def E4:=[o 2 (.mv (.c (.nils 17)))]
def wB:=[o 5 (.bs0 17),m 6 0,o 7 (.cL 68 17 136 (.agg [.agg [.int .i64 0,.int .i64 0],.int .i64 0,.int .i64 0,.int .i64 0,.int .i64 0,.int .i64 0,.int .i64 0,.int .i64 0,.agg [.int .i64 0,.int .i64 0,.int .i64 0,.int .i64 0,.int .i64 0,.int .i64 0],.agg [.int .i64 0,.int .i64 0]]) (.t 5) (.t 6)),m 2 7]
def AN:aO:=(s (r E0) (s (s (r wA) (.cond (.t 4) (s (r E4) .ret) .skip)) (s (r wB) .ret)))
def KA:List aZ:=[.tmp 2]
theorem Sn:bE Tryz.prog Tryz.f136 AN:=e (by kernel_rfl)
theorem UA:bF Tryz.prog Tryz.f136 KA:=e (by kernel_rfl)
theorem Qt:bC Tryz.prog 136:=e (by kernel_rfl)
def E5:=[m 4 0,m 5 0,o 6 (.len (.t 5)),m 7 1,o 8 (.call 171 [.t 4,.t 6,.t 7])]
def vg:aO:=(r E5)
def ym:List aZ:=[]
theorem Cx:bE Tryz.prog Tryz.f137 vg:=e (by kernel_rfl)
theorem CQ:bF Tryz.prog Tryz.f137 ym:=e (by kernel_rfl)
theorem Co:bC Tryz.prog 137:=e (by kernel_rfl)
def ZO:=[aV 5 0]
def ZP:=[l 6 2,m 7 0,o 8 (.is 17 (.t 6) (.t 7)),f 9 2 3 8,l 10 9,l 11 2,m 12 1,o 13 (.is 17 (.t 11) (.t 12)),f 14 2 3 13,l 15 14,o 16 (.bin .sub (.t 10) (.t 15)),m 5 16]
def Wg:=some [[],[],[0,1],[2],[3],[],[],[5,6],[7],[8],[4,9],[10,0,1,2,3,4,5,6,7,8,9,10]]
def AO:aO:=(s (r ZO) (s (.bS Wg ZP) .ret))
def KB:List aZ:=[.tmp 5]
theorem Sp:bE Tryz.prog Tryz.f138 AO:=e (by kernel_rfl)
theorem UB:bF Tryz.prog Tryz.f138 KB:=e (by kernel_rfl)
theorem Qu:bC Tryz.prog 138:=e (by kernel_rfl)
def E6:=[o 0 (.mv (.c (.raw (.map none))))]
def E7:=[o 1 (.jO),p (.gK (.i .i64) (.t 1) (aj 1) (.c (.func 172 []))),p (.gK (.i .i64) (.t 1) (aj 2) (.c (.func 173 []))),p (.gK (.i .i64) (.t 1) (aj 3) (.c (.func 174 []))),p (.gK (.i .i64) (.t 1) (aj 4) (.c (.func 175 []))),p (.gK (.i .i64) (.t 1) (aj 5) (.c (.func 176 []))),p (.gK (.i .i64) (.t 1) (aj 6) (.c (.func 177 []))),m 2 1,m 0 2]
def AP:aO:=(s (r E6) (s (r E7) .ret))
def KC:List aZ:=[.tmp 0]
theorem Sq:bE Tryz.prog Tryz.f139 AP:=e (by kernel_rfl)
theorem UC:bF Tryz.prog Tryz.f139 KC:=e (by kernel_rfl)
theorem Qv:bC Tryz.prog 139:=e (by kernel_rfl)
def ZQ:=[o 4 (.mv (.c (.nils 1)))]
def ZR:=[o 5 (.mv (.c (.nils 1)))]
def ZX:=[o 6 (.mv bl)]
def ZY:=[aV 7 0]
def ZZ:=[m 8 7,m 9 0,o 10 (.len (.t 9)),lt 11 8 10]
def Z0:=[m 14 0,m 15 7,o 16 (.is 1 (.t 14) (.t 15)),l 17 16,m 18 1,o 19 (.bin .eql (.t 17) (.t 18))]
def Z1:=[m 20 0,m 4 20]
def Z2:=[m 21 6,no 22 21,m 23 22,cq 24 0 23,cq 25 7 23,bD 26 (.is 1 (.t 24) (.t 25)) 23,dB 27 26 23,cq 28 1 23,bD 29 (.bin .gtr (.t 27) (.t 28)) 23,and 30 23 29]
def Z3:=[m 31 5,m 32 1,o 33 (.bs 1 [.t 32]),o 34 (.cL 3 1 8 (.int .i64 0) (.t 31) (.t 33)),m 5 34]
def Z4:=[o 6 (.mv T)]
def ZS:=[m 35 5,m 36 0,m 37 7,o 38 (.is 1 (.t 36) (.t 37)),l 39 38,o 40 (.bs 1 [.t 39]),o 41 (.cL 3 1 8 (.int .i64 0) (.t 35) (.t 40)),m 5 41]
def ZT:=[m 12 7,ad 13 12 1,m 7 13]
def ZU:=[m 42 6,no 43 42]
def ZV:=[m 44 5,m 45 1,o 46 (.bs 1 [.t 45]),o 47 (.cL 3 1 8 (.int .i64 0) (.t 44) (.t 46)),m 5 47]
def ZW:=[m 48 5,m 4 48]
def AR:aO:=(s (r ZQ) (s (r ZR) (s (r ZX) (s (s (r ZY) (.block 0 (.loop (s (s (r ZZ) (.cond (.t 11) .skip (.exit 0))) (s (.block 1 (s (s (r Z0) (.cond (.t 19) (s (r Z1) .ret) .skip)) (s (s (r Z2) (.cond (.t 30) (s (r Z3) (r Z4)) .skip)) (r ZS)))) (r ZT)))))) (s (s (r ZU) (.cond (.t 43) (r ZV) .skip)) (s (r ZW) .ret))))))
def KE:List aZ:=[.tmp 4]
theorem St:bE Tryz.prog Tryz.f140 AR:=e (by kernel_rfl)
theorem UE:bF Tryz.prog Tryz.f140 KE:=e (by kernel_rfl)
theorem Qx:bC Tryz.prog 140:=e (by kernel_rfl)
def E8:=[o 2 (.mv (.c (.nils 1)))]
def E9:=[o 3 (.mv (.c (.nils 1)))]
def Fa:=[aV 4 0]
def Fb:=[m 5 4,o 6 (.bin .lss (.t 5) (aj 5))]
def Fc:=[m 9 0,m 10 4,o 11 (.bin .shl (aj 1) (.t 10)),o 12 (.bin .and (.t 9) (.t 11)),o 13 (.bin .neq (.t 12) (aj 0))]
def Fe:=[m 14 3,m 15 4,o 16 (.bs 1 [.t 15]),o 17 (.cL 3 1 8 (.int .i64 0) (.t 14) (.t 16)),m 3 17]
def wC:=[m 7 4,ad 8 7 1,m 4 8]
def Ff:=[m 18 3,m 2 18]
def AS:aO:=(s (r E8) (s (r E9) (s (s (r Fa) (.block 0 (.loop (s (s (r Fb) (.cond (.t 6) .skip (.exit 0))) (s (.block 1 (s (r Fc) (.cond (.t 13) (r Fe) .skip))) (r wC)))))) (s (r Ff) .ret))))
def KF:List aZ:=[.tmp 2]
theorem Su:bE Tryz.prog Tryz.f141 AS:=e (by kernel_rfl)
theorem UF:bF Tryz.prog Tryz.f141 KF:=e (by kernel_rfl)
theorem Qy:bC Tryz.prog 141:=e (by kernel_rfl)
def Fg:=[b 2 0,o 4 (.mv (.c (.nils 1)))]
def Fh:=[m 6 1]
def Z5:=[m 5 7]
def Z6:=[l 8 2,m 9 5,o 10 (.bs 1 [.t 9]),o 11 (.cL 3 1 8 (.int .i64 0) (.t 8) (.t 10)),p (.bg none (.t 2) (.t 11))]
def Z7:=[l 12 2,m 4 12]
def AT:aO:=(s (r Fg) (s (s (r Fh) (.block 0 (.jU (.t 6) [7] (r Z5) (.block 1 (r Z6))))) (s (r Z7) .ret)))
def KG:List aZ:=[.tmp 4]
theorem Sv:bE Tryz.prog Tryz.f144 AT:=e (by kernel_rfl)
theorem UG:bF Tryz.prog Tryz.f144 KG:=e (by kernel_rfl)
theorem Qz:bC Tryz.prog 144:=e (by kernel_rfl)
def Z8:=[b 1 0,o 2 (.mv (.c (.de)))]
def Z9:=[o 3 (.mk 178 [.t 1]),m 2 3]
def AU:aO:=(s (r Z8) (s (r Z9) .ret))
def KH:List aZ:=[.tmp 2]
theorem Sw:bE Tryz.prog Tryz.f145 AU:=e (by kernel_rfl)
theorem UH:bF Tryz.prog Tryz.f145 KH:=e (by kernel_rfl)
theorem QA:bC Tryz.prog 145:=e (by kernel_rfl)
def Fi:=[l 5 1,o 6 (.len (.t 5)),aV 7 0]
def Fj:=[lt 8 7 6]
def Fk:=[m 9 7,m 4 9]
def wD:=[l 10 2,m 11 4,o 12 (.is 1 (.t 10) (.t 11)),l 13 12,m 14 13,cq 15 0 14,cq 16 4 14,bD 17 (.eL (.t 15) [.t 16]) 14,bD 18 (.un .not (.t 17)) 14,and 19 14 18]
def wE:=[ad 20 7 1,m 7 20]
def AV:aO:=(s (r Fi) (.block 0 (.loop (s (r Fj) (s (.cond (.t 8) .skip (.exit 0)) (s (.block 1 (s (r Fk) (s (r wD) (.cond (.t 19) .ret .skip)))) (r wE)))))))
def KI:List aZ:=[]
theorem Sx:bE Tryz.prog Tryz.f146 AV:=e (by kernel_rfl)
theorem UI:bF Tryz.prog Tryz.f146 KI:=e (by kernel_rfl)
theorem vm:bC Tryz.prog 146:=e (by kernel_rfl)
def Fl:=[o 2 (.mv bl)]
def Fm:=[m 3 0,o 4 (.call 114 [.t 3,(aj 1),(aj 9999)]),m 2 4]
def AW:aO:=(s (r Fl) (s (r Fm) .ret))
def KJ:List aZ:=[.tmp 2]
theorem Sy:bE Tryz.prog Tryz.f154 AW:=e (by kernel_rfl)
theorem UJ:bF Tryz.prog Tryz.f154 KJ:=e (by kernel_rfl)
theorem QB:bC Tryz.prog 154:=e (by kernel_rfl)
def Fo:=[o 2 (.mv bl)]
def Fp:=[m 3 0,o 4 (.call 114 [.t 3,(aj 1),(aj 9)]),m 2 4]
def AX:aO:=(s (r Fo) (s (r Fp) .ret))
def KK:List aZ:=[.tmp 2]
theorem Sz:bE Tryz.prog Tryz.f155 AX:=e (by kernel_rfl)
theorem UK:bF Tryz.prog Tryz.f155 KK:=e (by kernel_rfl)
theorem QC:bC Tryz.prog 155:=e (by kernel_rfl)
def Fq:=[o 2 (.mv bl)]
def Fs:=[m 3 0,o 4 (.call 114 [.t 3,(aj 1),(aj 99)]),m 2 4]
def AY:aO:=(s (r Fq) (s (r Fs) .ret))
def KL:List aZ:=[.tmp 2]
theorem SA:bE Tryz.prog Tryz.f156 AY:=e (by kernel_rfl)
theorem UL:bF Tryz.prog Tryz.f156 KL:=e (by kernel_rfl)
theorem QD:bC Tryz.prog 156:=e (by kernel_rfl)
def Ft:=[b 1 0,aV 2 0]
def Fu:=[L 3 6 1,o 4 (.call 193 [.t 3]),no 5 4]
def Fv:=[aV 2 12]
def Fw:=[aV 2 0]
def AZ:aO:=(s (r Ft) (s (s (r Fu) (.cond (.t 5) (s (r Fv) .ret) .skip)) (s (r Fw) .ret)))
def KM:List aZ:=[.tmp 2]
theorem SB:bE Tryz.prog Tryz.f157 AZ:=e (by kernel_rfl)
theorem UM:bF Tryz.prog Tryz.f157 KM:=e (by kernel_rfl)
theorem QE:bC Tryz.prog 157:=e (by kernel_rfl)
def Fx:=[aV 2 0]
def Fy:=[aV 3 0]
def Fz:=[m 6 0,o 7 (.len (.t 6)),aV 8 0]
def FA:=[lt 9 8 7]
def FB:=[o 10 (.is 1 (.t 6) (.t 8)),l 11 10,m 5 11]
def FC:=[m 12 5,m 13 3,o 14 (.bin .neq (.t 12) (.t 13))]
def FD:=[m 15 5,m 2 15]
def FE:=[ad 16 8 1,m 8 16]
def FF:=[m 17 3,m 2 17]
def A4:aO:=(s (r Fx) (s (r Fy) (s (s (r Fz) (.block 0 (.loop (s (r FA) (s (.cond (.t 9) .skip (.exit 0)) (s (.block 1 (s (r FB) (s (r FC) (.cond (.t 14) (s (r FD) .ret) .skip)))) (r FE))))))) (s (r FF) .ret))))
def KN:List aZ:=[.tmp 2]
theorem SC:bE Tryz.prog Tryz.f158 A4:=e (by kernel_rfl)
theorem UN:bF Tryz.prog Tryz.f158 KN:=e (by kernel_rfl)
theorem QF:bC Tryz.prog 158:=e (by kernel_rfl)
def FG:=[aV 4 0]
def FH:=[m 7 0,o 8 (.call 194 [.t 7]),m 5 8]
def FM:=[m 9 1,o 10 (.call 194 [.t 9]),m 6 10]
def FN:=[m 11 5]
def aal:=[m 12 6]
def aam:=[aV 4 0]
def aan:=[aV 4 (-1)]
def FO:=[m 13 6]
def aao:=[aV 4 1]
def FP:=[m 14 0,m 15 1,lt 16 14 15]
def FI:=[aV 4 (-1)]
def FJ:=[m 17 0,m 18 1,o 19 (.bin .gtr (.t 17) (.t 18))]
def FK:=[aV 4 1]
def FL:=[aV 4 0]
def A5:aO:=(s (r FG) (s (r FH) (s (r FM) (s (s (r FN) (.cond (.t 11) (s (s (r aal) (.cond (.t 12) (s (r aam) .ret) .skip)) (s (r aan) .ret)) .skip)) (s (s (r FO) (.cond (.t 13) (s (r aao) .ret) .skip)) (s (s (r FP) (.cond (.t 16) (s (r FI) .ret) .skip)) (s (s (r FJ) (.cond (.t 19) (s (r FK) .ret) .skip)) (s (r FL) .ret))))))))
def KO:List aZ:=[.tmp 4]
theorem SD:bE Tryz.prog Tryz.f159 A5:=e (by kernel_rfl)
theorem UO:bF Tryz.prog Tryz.f159 KO:=e (by kernel_rfl)
theorem QG:bC Tryz.prog 159:=e (by kernel_rfl)
def FQ:=[o 2 (.mv bl)]
def FR:=[m 3 0,o 4 (.call 121 [.t 3,(aj 0),(aj 31)]),m 2 4]
def A7:aO:=(s (r FQ) (s (r FR) .ret))
def KQ:List aZ:=[.tmp 2]
theorem SF:bE Tryz.prog Tryz.f160 A7:=e (by kernel_rfl)
theorem UQ:bF Tryz.prog Tryz.f160 KQ:=e (by kernel_rfl)
theorem QI:bC Tryz.prog 160:=e (by kernel_rfl)
def FT:=[o 4 (.mv bl)]
def FU:=[m 5 0,m 6 1,o 7 (.bin .shr (.t 5) (.t 6)),o 8 (.bin .and (.t 7) (aj 1)),o 9 (.bin .eql (.t 8) (aj 1)),m 4 9]
def A8:aO:=(s (r FT) (s (r FU) .ret))
def KR:List aZ:=[.tmp 4]
theorem SG:bE Tryz.prog Tryz.f161 A8:=e (by kernel_rfl)
theorem UR:bF Tryz.prog Tryz.f161 KR:=e (by kernel_rfl)
theorem QJ:bC Tryz.prog 161:=e (by kernel_rfl)
def FV:=[o 2 (.mv bl)]
def FW:=[m 3 0,o 4 (.call 121 [.t 3,(aj 0),(aj 4)]),no 5 4,m 2 5]
def A9:aO:=(s (r FV) (s (r FW) .ret))
def KS:List aZ:=[.tmp 2]
theorem SH:bE Tryz.prog Tryz.f162 A9:=e (by kernel_rfl)
theorem US:bF Tryz.prog Tryz.f162 KS:=e (by kernel_rfl)
theorem QK:bC Tryz.prog 162:=e (by kernel_rfl)
def FX:=[o 4 (.mv bl)]
def FY:=[m 5 0,m 6 1,o 7 (.call 195 [.t 5,.t 6]),o 8 (.bin .geq (.t 7) (aj 0)),m 4 8]
def Ba:aO:=(s (r FX) (s (r FY) .ret))
def KT:List aZ:=[.tmp 4]
theorem SI:bE Tryz.prog Tryz.f163 Ba:=e (by kernel_rfl)
theorem UT:bF Tryz.prog Tryz.f163 KT:=e (by kernel_rfl)
theorem QL:bC Tryz.prog 163:=e (by kernel_rfl)
def FZ:=[b 3 0,o 4 (.mv bl)]
def F0:=[f 5 0 0 1,L 6 5 5,f 7 1 1 3,L 8 6 7,L 9 6 2,o 10 (.call 165 [.t 6,.t 8,.t 9]),f 11 1 5 1,l 12 11,o 13 (.bin .mul (aj 2) (.t 12)),o 14 (.bin .leq (.t 10) (.t 13)),m 4 14]
def Wh:=some [[],[0],[],[2],[],[1,3,4],[],[6],[7],[5,8],[9,5,0,1,2,3,4,5,6,7,8,9]]
def Bb:aO:=(s (r FZ) (s (.bS Wh F0) .ret))
def KU:List aZ:=[.tmp 4]
theorem SJ:bE Tryz.prog Tryz.f164 Bb:=e (by kernel_rfl)
theorem UU:bF Tryz.prog Tryz.f164 KU:=e (by kernel_rfl)
theorem QM:bC Tryz.prog 164:=e (by kernel_rfl)
def F1:=[b 3 0,b 4 1,b 5 2,aV 6 0]
def F2:=[o 7 (.alloc (.de)),p (.bg none (.t 7) (.c (.func 196 [])))]
def F3:=[o 8 (.mk 198 [.t 7,.t 3,.t 4,.t 5]),o 9 (.call 197 [.t 8]),m 6 9]
def Bc:aO:=(s (r F1) (s (r F2) (s (r F3) .ret)))
def KV:List aZ:=[.tmp 6]
theorem SK:bE Tryz.prog Tryz.f165 Bc:=e (by kernel_rfl)
theorem UW:bF Tryz.prog Tryz.f165 KV:=e (by kernel_rfl)
theorem QN:bC Tryz.prog 165:=e (by kernel_rfl)
def F4:=[aV 4 0]
def F5:=[m 6 0,o 7 (.len (.t 6)),aV 8 0]
def F6:=[lt 9 8 7]
def F7:=[m 10 8,m 5 10]
def F8:=[m 11 1,m 12 0,m 13 5,o 14 (.is 1 (.t 12) (.t 13)),l 15 14,o 16 (.eL (.t 11) [.t 15])]
def F9:=[m 17 5,m 4 17]
def Ga:=[ad 18 8 1,m 8 18]
def Gb:=[aV 4 (-1)]
def Bd:aO:=(s (r F4) (s (s (r F5) (.block 0 (.loop (s (r F6) (s (.cond (.t 9) .skip (.exit 0)) (s (.block 1 (s (r F7) (s (r F8) (.cond (.t 16) (s (r F9) .ret) .skip)))) (r Ga))))))) (s (r Gb) .ret)))
def KW:List aZ:=[.tmp 4]
theorem SL:bE Tryz.prog Tryz.f166 Bd:=e (by kernel_rfl)
theorem UX:bF Tryz.prog Tryz.f166 KW:=e (by kernel_rfl)
theorem QO:bC Tryz.prog 166:=e (by kernel_rfl)
def Gc:=[o 2 (.mv (.c (.nils 7)))]
def wF:=[m 3 0,o 4 (.nilS false (.t 3))]
def Gd:=[o 2 (.mv (.c (.nils 7)))]
def wG:=[o 5 (.bs0 7),m 6 0,o 7 (.cL 63 7 56 (.agg [.int .i64 0,.agg [.int .i64 0,.int .i64 0,.int .i64 0,.int .i64 0,.int .i64 0,.int .i64 0]]) (.t 5) (.t 6)),m 2 7]
def Be:aO:=(s (r Gc) (s (s (r wF) (.cond (.t 4) (s (r Gd) .ret) .skip)) (s (r wG) .ret)))
def KX:List aZ:=[.tmp 2]
theorem SM:bE Tryz.prog Tryz.f167 Be:=e (by kernel_rfl)
theorem UY:bF Tryz.prog Tryz.f167 KX:=e (by kernel_rfl)
theorem QP:bC Tryz.prog 167:=e (by kernel_rfl)
def Ge:=[b 2 0,b 3 1,o 4 (.mv (.c (.nils 7)))]
def Gf:=[f 5 2 6 2,l 6 5,o 7 (.call 167 [.t 6]),o 8 (.mk 201 [.t 2,.t 3]),o 9 (.call 200 [.t 7,.t 8]),m 4 9]
def Bf:aO:=(s (r Ge) (s (r Gf) .ret))
def KY:List aZ:=[.tmp 4]
theorem SN:bE Tryz.prog Tryz.f168 Bf:=e (by kernel_rfl)
theorem UZ:bF Tryz.prog Tryz.f168 KY:=e (by kernel_rfl)
theorem QR:bC Tryz.prog 168:=e (by kernel_rfl)
def Gg:=[o 2 (.mv (.c (.nils 1)))]
def Gh:=[o 3 (.mv (.c (.nils 1)))]
def Gi:=[m 6 0,o 7 (.len (.t 6)),aV 8 0]
def Gj:=[lt 9 8 7]
def Gk:=[o 10 (.is 7 (.t 6) (.t 8)),L 11 7 10,o 5 (.alloc (.agg [.int .i64 0,.agg [.int .i64 0,.int .i64 0,.int .i64 0,.int .i64 0,.int .i64 0,.int .i64 0]])),p (.bg (some 7) (.t 5) (.t 11))]
def Gl:=[m 12 3,f 13 0 0 5,l 14 13,o 15 (.bs 1 [.t 14]),o 16 (.cL 3 1 8 (.int .i64 0) (.t 12) (.t 15)),m 3 16]
def Gm:=[ad 17 8 1,m 8 17]
def Gn:=[m 18 3,m 2 18]
def Bg:aO:=(s (r Gg) (s (r Gh) (s (s (r Gi) (.block 0 (.loop (s (r Gj) (s (.cond (.t 9) .skip (.exit 0)) (s (.block 1 (s (r Gk) (r Gl))) (r Gm))))))) (s (r Gn) .ret))))
def KZ:List aZ:=[.tmp 2]
theorem SO:bE Tryz.prog Tryz.f169 Bg:=e (by kernel_rfl)
theorem U0:bF Tryz.prog Tryz.f169 KZ:=e (by kernel_rfl)
theorem QS:bC Tryz.prog 169:=e (by kernel_rfl)
def aax:=[b 3 1,o 4 (.mv (.c (.nils 9)))]
def aay:=[o 5 (.mv (.c (.nils 9)))]
def aaC:=[o 6 (.mv bl)]
def aaD:=[aV 7 0]
def aaE:=[m 8 7,m 9 0,o 10 (.len (.t 9)),lt 11 8 10]
def aaF:=[m 14 6,no 15 14,m 16 15,cq 17 0 16,cq 18 7 16,bD 19 (.is 9 (.t 17) (.t 18)) 16,cX 20 0 0 19 16,dB 21 20 16,cX 22 0 0 3 16,dB 23 22 16,bD 24 (.bin .gtr (.t 21) (.t 23)) 16,and 25 16 24]
def Wi:=some [[],[0],[1],[2],[2],[3,4,2],[5,2],[6,2],[2],[8,2],[7,9,2],[2,10]]
def aaG:=[m 26 5,L 27 9 3,o 28 (.bs 9 [.t 27]),o 29 (.cL 78 9 88 (.agg [.int .i64 0,.int .i64 0,.int .i64 0,.int .i64 0,.int .i64 0,.int .i64 0,.int .i64 0,.bool false,.nils 6]) (.t 26) (.t 28)),m 5 29]
def aaH:=[o 6 (.mv T)]
def aaI:=[m 30 5,m 31 0,m 32 7,o 33 (.is 9 (.t 31) (.t 32)),L 34 9 33,o 35 (.bs 9 [.t 34]),o 36 (.cL 78 9 88 (.agg [.int .i64 0,.int .i64 0,.int .i64 0,.int .i64 0,.int .i64 0,.int .i64 0,.int .i64 0,.bool false,.nils 6]) (.t 30) (.t 35)),m 5 36]
def aaJ:=[m 12 7,ad 13 12 1,m 7 13]
def aaz:=[m 37 6,no 38 37]
def aaA:=[m 39 5,L 40 9 3,o 41 (.bs 9 [.t 40]),o 42 (.cL 78 9 88 (.agg [.int .i64 0,.int .i64 0,.int .i64 0,.int .i64 0,.int .i64 0,.int .i64 0,.int .i64 0,.bool false,.nils 6]) (.t 39) (.t 41)),m 5 42]
def aaB:=[m 43 5,m 4 43]
def Bh:aO:=(s (r aax) (s (r aay) (s (r aaC) (s (s (r aaD) (.block 0 (.loop (s (s (r aaE) (.cond (.t 11) .skip (.exit 0))) (s (.block 1 (s (s (.bS Wi aaF) (.cond (.t 25) (s (r aaG) (r aaH)) .skip)) (r aaI))) (r aaJ)))))) (s (s (r aaz) (.cond (.t 38) (r aaA) .skip)) (s (r aaB) .ret))))))
def K0:List aZ:=[.tmp 4]
theorem SP:bE Tryz.prog Tryz.f170 Bh:=e (by kernel_rfl)
theorem U1:bF Tryz.prog Tryz.f170 K0:=e (by kernel_rfl)
theorem QT:bC Tryz.prog 170:=e (by kernel_rfl)
def wH:=[aV 6 20]
def wI:=[m 10 6,aV 7 0,m 8 10]
def Gp:=[m 11 8,m 12 1,o 13 (.bin .leq (.t 11) (.t 12))]
def aaR:=[m 14 0,m 15 7,m 16 8,m 17 2,o 18 (.call 203 [.t 14,.t 15,.t 16,.t 17])]
def aaS:=[m 19 8,m 7 19]
def aaT:=[m 20 8,m 21 6,o 22 (.bin .add (.t 20) (.t 21)),m 8 22]
def Gq:=[m 23 0,m 24 7,m 25 1,m 26 2,o 27 (.call 203 [.t 23,.t 24,.t 25,.t 26])]
def wJ:=[m 28 6,m 29 1,lt 30 28 29]
def Gr:=[m 31 6,o 32 (.bin .mul (aj 2) (.t 31)),aV 7 0,m 8 32]
def Gs:=[m 33 8,m 34 1,o 35 (.bin .leq (.t 33) (.t 34))]
def aaK:=[m 36 0,m 37 7,m 38 7,m 39 6,o 40 (.bin .add (.t 38) (.t 39)),m 41 8,m 42 2,o 43 (.call 204 [.t 36,.t 37,.t 40,.t 41,.t 42])]
def aaL:=[m 44 8,m 7 44]
def aaM:=[m 45 8,m 46 6,o 47 (.bin .mul (aj 2) (.t 46)),o 48 (.bin .add (.t 45) (.t 47)),m 8 48]
def aaN:=[m 49 7,m 50 6,o 51 (.bin .add (.t 49) (.t 50)),m 9 51]
def aaO:=[m 52 9,m 53 1,lt 54 52 53]
def aaP:=[m 55 0,m 56 7,m 57 9,m 58 1,m 59 2,o 60 (.call 204 [.t 55,.t 56,.t 57,.t 58,.t 59])]
def aaQ:=[m 61 6,o 62 (.bin .mul (.t 61) (aj 2)),m 6 62]
def vh:aO:=(s (r wH) (s (r wI) (s (.block 0 (.loop (s (s (r Gp) (.cond (.t 13) .skip (.exit 0))) (.block 1 (s (r aaR) (s (r aaS) (r aaT))))))) (s (r Gq) (.block 2 (.loop (s (s (r wJ) (.cond (.t 30) .skip (.exit 2))) (.block 3 (s (r Gr) (s (.block 4 (.loop (s (s (r Gs) (.cond (.t 35) .skip (.exit 4))) (.block 5 (s (r aaK) (s (r aaL) (r aaM))))))) (s (s (r aaN) (s (r aaO) (.cond (.t 54) (r aaP) .skip))) (r aaQ))))))))))))
def yn:List aZ:=[]
theorem Cy:bE Tryz.prog Tryz.f171 vh:=e (by kernel_rfl)
theorem CR:bF Tryz.prog Tryz.f171 yn:=e (by kernel_rfl)
theorem Cp:bC Tryz.prog 171:=e (by kernel_rfl)
def aaU:=[b 3 1,o 4 (.mv bl)]
def aaV:=[f 6 5 6 3,l 7 6,o 8 (.bin .gtr (.t 7) (aj 0))]
def aaW:=[m 9 0,o 10 (.nilC (.t 9)),f 11 0 0 10,l 12 11,f 13 5 6 3,l 14 13,o 15 (.lk (.i .i64) (.nilp) false (.t 12) (.t 14)),m 5 15]
def Wj:=some [[],[0],[1],[2],[],[4],[3,5],[6,0,1,2,3,4,5,6]]
def aaX:=[m 16 5,o 17 (.ptrE false (.t 16) (.c (.nilp))),m 18 17,eF 19 5 18,on 20 (.nilC (.t 19)) 18,fn 21 0 0 20 18,fn 22 1 1 21 18,dA 23 22 18,fn 24 6 7 3 18,dA 25 24 18,on 26 (.bin .neq (.t 23) (.t 25)) 18,or 27 18 26,m 28 27,eF 29 5 28,on 30 (.call 90 [.t 29]) 28,eF 31 30 28,cq 32 5 31,bD 33 (.nilC (.t 32)) 31,cX 34 0 0 33 31,cX 35 6 6 34 31,dB 36 35 31,cX 37 2 3 3 31,dB 38 37 31,bD 39 (.bin .lss (.t 36) (.t 38)) 31,on 40 (.pick (.t 31) (.t 39) bl) 28,or 41 28 40]
def Wk:=some [[],[0],[1],[2],[3,2],[4,2],[5,2],[6,2],[2],[8,2],[7,9,2],[2,10],[11,2],[12],[13,12,12],[14,14,12],[15],[16,15],[17,15],[18,15],[19,15],[15],[21,15],[20,22,15],[15,23,12],[12,24]]
def aaY:=[o 4 (.mv bl)]
def aaZ:=[m 42 0,L 43 17 3,o 44 (.call 173 [.t 42,.t 43]),m 4 44]
def Bi:aO:=(s (r aaU) (s (s (r aaV) (.cond (.t 8) (s (.bS Wj aaW) (s (.bS Wk aaX) (.cond (.t 41) (s (r aaY) .ret) .skip))) .skip)) (s (r aaZ) .ret)))
def K1:List aZ:=[.tmp 4]
theorem SQ:bE Tryz.prog Tryz.f172 Bi:=e (by kernel_rfl)
theorem U2:bF Tryz.prog Tryz.f172 K1:=e (by kernel_rfl)
theorem QU:bC Tryz.prog 172:=e (by kernel_rfl)
def aa0:=[b 3 1,o 4 (.mv bl)]
def aa1:=[m 5 0,o 6 (.nilC (.t 5)),f 7 0 0 6,l 8 7,f 9 4 5 3,l 10 9,o 11 (.lk (.i .i64) (.nilp) false (.t 8) (.t 10)),o 12 (.ptrE true (.t 11) (.c (.nilp)))]
def Wl:=some [[],[0],[1],[2],[],[4],[3,5],[6]]
def aa2:=[o 4 (.mv bl)]
def aa3:=[m 13 0,o 14 (.nilC (.t 13)),f 15 0 0 14,l 16 15,f 17 4 5 3,l 18 17,f 19 4 5 3,l 20 19,f 21 6 7 3,l 22 21,f 23 5 6 3,l 24 23,f 25 7 8 3,l 26 25,f 27 7 8 3,l 28 27,f 29 2 3 3,l 30 29,o 31 (.bld [.int .i64 0,.int .i64 0,.int .i64 0,.int .i64 0,.int .i64 0,.int .i64 0,.int .i64 0,.bool false,.nils 6] [(0,(.t 20)),(1,(.t 22)),(2,(.t 24)),(3,(.t 26)),(4,(.t 28)),(5,(.t 30)),(6,(.c (.int .i64 (-1))))]),o 32 (.bld [.agg [.int .i64 0,.int .i64 0,.int .i64 0,.int .i64 0,.int .i64 0,.int .i64 0,.int .i64 0,.bool false,.nils 6]] [(0,(.t 31))]),b 33 32,p (.gK (.i .i64) (.t 16) (.t 18) (.t 33))]
def Wm:=some [[],[0],[1],[2],[],[4],[],[6],[],[8],[],[10],[],[12],[],[14],[],[16],[7,9,11,13,15,17],[18],[19],[3,5,20,0,1,2,3,4,5,6,7,8,9,10,11,12,13,14,15,16,17,18,19,20]]
def aa4:=[o 4 (.mv T)]
def Bj:aO:=(s (r aa0) (s (s (.bS Wl aa1) (.cond (.t 12) (s (r aa2) .ret) .skip)) (s (.bS Wm aa3) (s (r aa4) .ret))))
def K2:List aZ:=[.tmp 4]
theorem SR:bE Tryz.prog Tryz.f173 Bj:=e (by kernel_rfl)
theorem U3:bF Tryz.prog Tryz.f173 K2:=e (by kernel_rfl)
theorem QV:bC Tryz.prog 173:=e (by kernel_rfl)
def aa5:=[b 3 1,o 4 (.mv bl)]
def aa6:=[m 6 0,o 7 (.nilC (.t 6)),f 8 0 0 7,l 9 8,f 10 4 5 3,l 11 10,o 12 (.lk (.i .i64) (.nilp) false (.t 9) (.t 11)),m 5 12]
def Wn:=some [[],[0],[1],[2],[],[4],[3,5],[6,0,1,2,3,4,5,6]]
def aa7:=[m 13 5,o 14 (.ptrE false (.t 13) (.c (.nilp))),m 15 14,eF 16 5 15,on 17 (.call 90 [.t 16]) 15,or 18 15 17,m 19 18,eF 20 5 19,on 21 (.nilC (.t 20)) 19,fn 22 0 0 21 19,fn 23 3 3 22 19,dA 24 23 19,on 25 (.bin .eql (.t 24) (aj 0)) 19,or 26 19 25,m 27 26,eF 28 5 27,on 29 (.nilC (.t 28)) 27,fn 30 0 0 29 27,fn 31 3 3 30 27,dA 32 31 27,fn 33 7 8 3 27,dA 34 33 27,on 35 (.bin .eql (.t 32) (.t 34)) 27,or 36 27 35]
def Wo:=some [[],[0],[1],[2],[3,2,2],[2,4],[5,4],[6],[7,6],[8,6],[9,6],[10,6],[11,6],[6,12],[13,6],[14],[15,14],[16,14],[17,14],[18,14],[14],[20,14],[19,21,14],[14,22]]
def aa8:=[o 4 (.mv bl)]
def aa9:=[m 37 5,f 38 7 8 3,l 39 38,o 40 (.nilC (.t 37)),f 41 0 0 40,f 42 3 3 41,p (.bg none (.t 42) (.t 39))]
def aba:=[o 4 (.mv T)]
def Bk:aO:=(s (r aa5) (s (.bS Wn aa6) (s (s (.bS Wo aa7) (.cond (.t 36) (s (r aa8) .ret) .skip)) (s (r aa9) (s (r aba) .ret)))))
def K3:List aZ:=[.tmp 4]
theorem SS:bE Tryz.prog Tryz.f174 Bk:=e (by kernel_rfl)
theorem U4:bF Tryz.prog Tryz.f174 K3:=e (by kernel_rfl)
theorem QW:bC Tryz.prog 174:=e (by kernel_rfl)
def abb:=[b 3 1,o 4 (.mv bl)]
def abc:=[m 6 0,o 7 (.nilC (.t 6)),f 8 0 0 7,l 9 8,f 10 4 5 3,l 11 10,o 12 (.lk (.i .i64) (.nilp) false (.t 9) (.t 11)),m 5 12]
def Wp:=some [[],[0],[1],[2],[],[4],[3,5],[6,0,1,2,3,4,5,6]]
def abd:=[m 13 5,o 14 (.ptrE false (.t 13) (.c (.nilp)))]
def abe:=[o 4 (.mv bl)]
def wK:=[m 15 5,m 16 5,o 17 (.nilC (.t 16)),f 18 0 0 17,f 19 8 8 18,l 20 19,f 21 8 9 3,L 22 6 21,o 23 (.bs 6 [.t 22]),o 24 (.cL 66 6 48 (.agg [.int .i64 0,.int .i64 0,.int .i64 0,.int .i64 0,.int .i64 0,.int .i64 0]) (.t 20) (.t 23)),o 25 (.nilC (.t 15)),f 26 0 0 25,f 27 8 8 26,p (.bg none (.t 27) (.t 24))]
def Wq:=some [[],[],[1],[2],[3],[4],[],[6],[7],[5,8],[0,0,1,2,3,4,5,6,7,8,9],[10,0,1,2,3,4,5,6,7,8,9],[11,0,1,2,3,4,5,6,7,8,9],[12,9,9,0,1,2,3,4,5,6,7,8,9]] -- DRAW BAD
def abf:=[o 4 (.mv T)]
def Bl:aO:=(s (r abb) (s (.bS Wp abc) (s (s (r abd) (.cond (.t 14) (s (r abe) .ret) .skip)) (s (.bS Wq wK) (s (r abf) .ret)))))
def K4:List aZ:=[.tmp 4]
theorem SU:bE Tryz.prog Tryz.f175 Bl:=e (by kernel_rfl)
theorem U5:bF Tryz.prog Tryz.f175 K4:=e (by kernel_rfl)
theorem QX:bC Tryz.prog 175:=e (by kernel_rfl)
def abg:=[b 3 1,o 4 (.mv bl)]
def abh:=[m 6 0,o 7 (.nilC (.t 6)),f 8 0 0 7,l 9 8,f 10 4 5 3,l 11 10,o 12 (.lk (.i .i64) (.nilp) false (.t 9) (.t 11)),m 5 12]
def Wr:=some [[],[0],[1],[2],[],[4],[3,5],[6,0,1,2,3,4,5,6]]
def abi:=[m 13 5,o 14 (.ptrE false (.t 13) (.c (.nilp)))]
def abj:=[o 4 (.mv bl)]
def abk:=[m 15 5,m 16 5,f 17 7 8 3,l 18 17,o 19 (.nilC (.t 15)),f 20 0 0 19,f 21 3 3 20,p (.bg none (.t 21) (.t 18)),o 22 (.nilC (.t 16)),f 23 0 0 22,f 24 7 7 23,p (.bg none (.t 24) T)]
def abl:=[o 4 (.mv T)]
def Bm:aO:=(s (r abg) (s (.bS Wr abh) (s (s (r abi) (.cond (.t 14) (s (r abj) .ret) .skip)) (s (r abk) (s (r abl) .ret)))))
def K5:List aZ:=[.tmp 4]
theorem SV:bE Tryz.prog Tryz.f176 Bm:=e (by kernel_rfl)
theorem U6:bF Tryz.prog Tryz.f176 K5:=e (by kernel_rfl)
theorem QY:bC Tryz.prog 176:=e (by kernel_rfl)
def abm:=[b 3 1,o 4 (.mv bl)]
def abn:=[m 6 0,o 7 (.nilC (.t 6)),f 8 0 0 7,l 9 8,f 10 4 5 3,l 11 10,o 12 (.lk (.i .i64) (.nilp) false (.t 9) (.t 11)),m 5 12]
def Ws:=some [[],[0],[1],[2],[],[4],[3,5],[6,0,1,2,3,4,5,6]]
def abo:=[m 13 5,o 14 (.ptrE false (.t 13) (.c (.nilp))),m 15 14,eF 16 5 15,on 17 (.call 90 [.t 16]) 15,or 18 15 17]
def abp:=[o 4 (.mv bl)]
def abq:=[m 19 5,f 20 2 3 3,l 21 20,o 22 (.nilC (.t 19)),f 23 0 0 22,f 24 6 6 23,p (.bg none (.t 24) (.t 21))]
def abr:=[o 4 (.mv T)]
def Bn:aO:=(s (r abm) (s (.bS Ws abn) (s (s (r abo) (.cond (.t 18) (s (r abp) .ret) .skip)) (s (r abq) (s (r abr) .ret)))))
def K6:List aZ:=[.tmp 4]
theorem SW:bE Tryz.prog Tryz.f177 Bn:=e (by kernel_rfl)
theorem U7:bF Tryz.prog Tryz.f177 K6:=e (by kernel_rfl)
theorem QZ:bC Tryz.prog 177:=e (by kernel_rfl)
def Gt:=[l 4 1,o 5 (.len (.t 4)),o 6 (.bin .sub (.t 5) (aj 1)),m 3 6]
def Gu:=[m 7 3,o 8 (.bin .geq (.t 7) (aj 0))]
def Gv:=[m 11 0,m 12 3,l 13 1,m 14 3,o 15 (.is 17 (.t 13) (.t 14)),L 16 17 15,o 17 (.eL (.t 11) [.t 12,.t 16]),no 18 17]
def Gw:=[m 9 3,o 10 (.bin .sub (.t 9) (aj 1)),m 3 10]
def Bo:aO:=(s (r Gt) (.block 0 (.loop (s (s (r Gu) (.cond (.t 8) .skip (.exit 0))) (s (.block 1 (s (r Gv) (.cond (.t 18) .ret .skip))) (r Gw))))))
def K7:List aZ:=[]
theorem SX:bE Tryz.prog Tryz.f178 Bo:=e (by kernel_rfl)
theorem U8:bF Tryz.prog Tryz.f178 K7:=e (by kernel_rfl)
theorem Cq:bC Tryz.prog 178:=e (by kernel_rfl)
def Gx:=[b 1 0,o 2 (.mv bl)]
def Gy:=[o 3 (.va 6 1 (.t 1)),o 4 (.call 125 [.t 3,(.c (.func 211 []))]),no 5 4,m 2 5]
def Bq:aO:=(s (r Gx) (s (r Gy) .ret))
def K9:List aZ:=[.tmp 2]
theorem SZ:bE Tryz.prog Tryz.f193 Bq:=e (by kernel_rfl)
theorem Va:bF Tryz.prog Tryz.f193 K9:=e (by kernel_rfl)
theorem Q1:bC Tryz.prog 193:=e (by kernel_rfl)
def Gz:=[o 2 (.mv bl)]
def GA:=[m 3 0,m 4 0,o 5 (.bin .neq (.t 3) (.t 4)),m 2 5]
def Br:aO:=(s (r Gz) (s (r GA) .ret))
def La:List aZ:=[.tmp 2]
theorem S0:bE Tryz.prog Tryz.f194 Br:=e (by kernel_rfl)
theorem Vb:bF Tryz.prog Tryz.f194 La:=e (by kernel_rfl)
theorem Q2:bC Tryz.prog 194:=e (by kernel_rfl)
def GB:=[aV 4 0]
def GC:=[m 6 0,o 7 (.len (.t 6)),aV 8 0]
def GD:=[lt 9 8 7]
def GF:=[m 10 8,m 5 10]
def GG:=[m 11 1,m 12 0,m 13 5,o 14 (.is 7 (.t 12) (.t 13)),L 15 7 14,o 16 (.eL (.t 11) [.t 15])]
def GH:=[m 17 5,m 4 17]
def GI:=[ad 18 8 1,m 8 18]
def GJ:=[aV 4 (-1)]
def Bt:aO:=(s (r GB) (s (s (r GC) (.block 0 (.loop (s (r GD) (s (.cond (.t 9) .skip (.exit 0)) (s (.block 1 (s (r GF) (s (r GG) (.cond (.t 16) (s (r GH) .ret) .skip)))) (r GI))))))) (s (r GJ) .ret)))
def Lb:List aZ:=[.tmp 4]
theorem S1:bE Tryz.prog Tryz.f195 Bt:=e (by kernel_rfl)
theorem Vc:bF Tryz.prog Tryz.f195 Lb:=e (by kernel_rfl)
theorem Q3:bC Tryz.prog 195:=e (by kernel_rfl)
def GK:=[o 4 (.mv bl)]
def GL:=[m 5 0,m 6 1,o 7 (.bin .and (.t 5) (.t 6)),o 8 (.bin .neq (.t 7) (aj 0)),m 4 8]
def Bu:aO:=(s (r GK) (s (r GL) .ret))
def Lc:List aZ:=[.tmp 4]
theorem S2:bE Tryz.prog Tryz.f196 Bu:=e (by kernel_rfl)
theorem Vd:bF Tryz.prog Tryz.f196 Lc:=e (by kernel_rfl)
theorem Q4:bC Tryz.prog 196:=e (by kernel_rfl)
def GM:=[aV 2 0]
def GN:=[aV 3 0]
def GO:=[aV 5 0]
def GP:=[o 6 (.bin .lss (.t 5) (aj 6))]
def GQ:=[m 7 5,m 4 7]
def GR:=[m 8 0,m 9 4,o 10 (.eL (.t 8) [.t 9]),no 11 10]
def GS:=[m 12 3,ad 13 12 1,m 3 13]
def wL:=[ad 14 5 1,m 5 14]
def GU:=[m 15 3,m 2 15]
def Bv:aO:=(s (r GM) (s (r GN) (s (s (r GO) (.block 0 (.loop (s (r GP) (s (.cond (.t 6) .skip (.exit 0)) (s (.block 1 (s (r GQ) (s (r GR) (.cond (.t 11) (r GS) .skip)))) (r wL))))))) (s (r GU) .ret))))
def Ld:List aZ:=[.tmp 2]
theorem S3:bE Tryz.prog Tryz.f197 Bv:=e (by kernel_rfl)
theorem Ve:bF Tryz.prog Tryz.f197 Ld:=e (by kernel_rfl)
theorem Q5:bC Tryz.prog 197:=e (by kernel_rfl)
def GV:=[o 6 (.mv bl)]
def GW:=[l 7 1,L 8 5 2,L 9 6 3,m 10 0,o 11 (.call 199 [.t 8,.t 9,.t 10]),L 12 5 2,L 13 6 4,m 14 0,o 15 (.call 199 [.t 12,.t 13,.t 14]),o 16 (.eL (.t 7) [.t 11,.t 15]),m 6 16]
def Wu:=some [[],[],[],[],[1,2,3],[],[],[],[5,6,7,4],[0,4,8,8],[9,9,0,1,2,3,4,5,6,7,8,9]]
def Bw:aO:=(s (r GV) (s (.bS Wu GW) .ret))
def Le:List aZ:=[.tmp 6]
theorem S4:bE Tryz.prog Tryz.f198 Bw:=e (by kernel_rfl)
theorem Vf:bF Tryz.prog Tryz.f198 Le:=e (by kernel_rfl)
theorem Q6:bC Tryz.prog 198:=e (by kernel_rfl)
def GX:=[b 3 0,b 4 1,aV 6 0]
def GY:=[m 7 2,o 8 (.ia 6 1 (.t 4) (.t 7)),l 9 8,o 10 (.ia 5 1 (.t 3) (.t 9)),l 11 10,m 6 11]
def Bx:aO:=(s (r GX) (s (r GY) .ret))
def Lf:List aZ:=[.tmp 6]
theorem S5:bE Tryz.prog Tryz.f199 Bx:=e (by kernel_rfl)
theorem Vg:bF Tryz.prog Tryz.f199 Lf:=e (by kernel_rfl)
theorem Q7:bC Tryz.prog 199:=e (by kernel_rfl)
def wM:=[o 4 (.mv (.c (.nils 7)))]
def wN:=[m 8 0,m 9 1,o 10 (.call 195 [.t 8,.t 9]),m 5 10]
def sO:=[m 11 5,o 12 (.bin .eql (.t 11) (.c (.int .i64 (-1))))]
def wP:=[m 13 0,m 4 13]
def G1:=[m 14 5,ad 15 14 1,m 6 15]
def G2:=[m 16 6,m 17 0,o 18 (.len (.t 17)),lt 19 16 18]
def G3:=[m 22 0,m 23 6,o 24 (.is 7 (.t 22) (.t 23)),L 25 7 24,o 7 (.alloc (.agg [.int .i64 0,.agg [.int .i64 0,.int .i64 0,.int .i64 0,.int .i64 0,.int .i64 0,.int .i64 0]])),p (.bg (some 7) (.t 7) (.t 25))]
def G4:=[m 26 1,L 27 7 7,o 28 (.eL (.t 26) [.t 27]),no 29 28]
def G5:=[m 30 0,m 31 5,L 32 7 7,o 33 (.is 7 (.t 30) (.t 31)),p (.bg (some 7) (.t 33) (.t 32))]
def G6:=[m 34 5,ad 35 34 1,m 5 35]
def wO:=[m 20 6,ad 21 20 1,m 6 21]
def GZ:=[m 36 0,m 37 5,o 38 (.sl 7 (.t 36) (some (.t 37)) none none),p (.iR 7 (.agg [.int .i64 0,.agg [.int .i64 0,.int .i64 0,.int .i64 0,.int .i64 0,.int .i64 0,.int .i64 0]]) (.t 38))]
def G0:=[m 39 0,m 40 5,o 41 (.sl 7 (.t 39) none (some (.t 40)) none),m 4 41]
def vi:aO:=(s (r wM) (s (r wN) (s (s (r sO) (.cond (.t 12) (s (r wP) .ret) .skip)) (s (s (r G1) (.block 0 (.loop (s (s (r G2) (.cond (.t 19) .skip (.exit 0))) (s (.block 1 (s (r G3) (s (r G4) (.cond (.t 29) (s (r G5) (r G6)) .skip)))) (r wO)))))) (s (r GZ) (s (r G0) .ret))))))
def yp:List aZ:=[.tmp 4]
theorem Cz:bE Tryz.prog Tryz.f200 vi:=e (by kernel_rfl)
theorem CS:bF Tryz.prog Tryz.f200 yp:=e (by kernel_rfl)
theorem Cr:bC Tryz.prog 200:=e (by kernel_rfl)
def G7:=[b 3 0,o 4 (.mv bl)]
def G8:=[f 5 0 0 1,L 6 5 5,f 7 1 1 3,L 8 6 7,L 9 6 2,o 10 (.call 202 [.t 6,.t 8,.t 9]),f 11 1 5 1,l 12 11,o 13 (.bin .gtr (.t 10) (.t 12)),m 4 13]
def Wv:=some [[],[0],[],[2],[],[1,3,4],[],[6],[5,7],[8,5,0,1,2,3,4,5,6,7,8]]
def Bz:aO:=(s (r G7) (s (.bS Wv G8) .ret))
def Lh:List aZ:=[.tmp 4]
theorem S7:bE Tryz.prog Tryz.f201 Bz:=e (by kernel_rfl)
theorem Vi:bF Tryz.prog Tryz.f201 Lh:=e (by kernel_rfl)
theorem Q9:bC Tryz.prog 201:=e (by kernel_rfl)
def G9:=[b 3 0,b 4 1,b 5 2,aV 6 0]
def Ha:=[o 7 (.alloc (.de)),p (.bg none (.t 7) (.c (.func 196 [])))]
def Hb:=[o 8 (.mk 212 [.t 7,.t 3,.t 4,.t 5]),o 9 (.call 197 [.t 8]),m 6 9]
def BA:aO:=(s (r G9) (s (r Ha) (s (r Hb) .ret)))
def Li:List aZ:=[.tmp 6]
theorem S8:bE Tryz.prog Tryz.f202 BA:=e (by kernel_rfl)
theorem Vj:bF Tryz.prog Tryz.f202 Li:=e (by kernel_rfl)
theorem Ra:bC Tryz.prog 202:=e (by kernel_rfl)
def wQ:=[m 10 1,ad 11 10 1,m 8 11]
def Hc:=[m 12 8,m 13 2,lt 14 12 13]
def Hd:=[m 17 8,m 9 17]
def abG:=[m 18 9,m 19 1,o 20 (.bin .gtr (.t 18) (.t 19)),m 21 20,cq 22 3 21,cq 23 0 21,cq 24 9 21,bD 25 (.is 1 (.t 23) (.t 24)) 21,dB 26 25 21,cq 27 0 21,cq 28 9 21,bD 29 (.bin .sub (.t 28) (aj 1)) 21,bD 30 (.is 1 (.t 27) (.t 29)) 21,dB 31 30 21,bD 32 (.eL (.t 22) [.t 26,.t 31]) 21,bD 33 (.bin .lss (.t 32) (aj 0)) 21,and 34 21 33]
def Ww:=some [[],[],[0,1],[2],[3],[3],[3],[5,6,3],[7,3],[3],[3],[10,3],[9,11,3],[12,3],[4,8,13,3,3],[14,3],[3,15]]
def abH:=[m 37 0,m 38 9,m 39 0,m 40 9,o 41 (.bin .sub (.t 40) (aj 1)),m 42 0,m 43 9,o 44 (.bin .sub (.t 43) (aj 1)),o 45 (.is 1 (.t 42) (.t 44)),l 46 45,m 47 0,m 48 9,o 49 (.is 1 (.t 47) (.t 48)),l 50 49,o 51 (.is 1 (.t 37) (.t 38)),p (.bg none (.t 51) (.t 46)),o 52 (.is 1 (.t 39) (.t 41)),p (.bg none (.t 52) (.t 50))]
def Wx:=some [[],[],[],[],[3],[],[],[6],[5,7],[8],[],[],[10,11],[12],[0,1,0,1,5,6,7,8,9,13],[14,9,0,1,5,6,7,8,9,13],[2,4,0,1,2,3,4,5,6,7,8,9,10,11,12,13,14,15],[16,13,15,0,1,2,3,4,5,6,7,8,9,10,11,12,13,14,15]]
def abI:=[m 35 9,o 36 (.bin .sub (.t 35) (aj 1)),m 9 36]
def abJ:=[m 15 8,ad 16 15 1,m 8 16]
def vj:aO:=(s (r wQ) (.block 0 (.loop (s (s (r Hc) (.cond (.t 14) .skip (.exit 0))) (s (.block 1 (s (r Hd) (.block 2 (.loop (s (s (.bS Ww abG) (.cond (.t 34) .skip (.exit 2))) (s (.block 3 (.bS Wx abH)) (r abI))))))) (r abJ))))))
def yq:List aZ:=[]
theorem CA:bE Tryz.prog Tryz.f203 vj:=e (by kernel_rfl)
theorem CT:bF Tryz.prog Tryz.f203 yq:=e (by kernel_rfl)
theorem Cs:bC Tryz.prog 203:=e (by kernel_rfl)
def sP:=[m 25 2,m 26 1,o 27 (.bin .sub (.t 25) (.t 26)),o 28 (.bin .eql (.t 27) (aj 1))]
def He:=[m 29 2,m 10 29]
def Hi:=[m 30 3,m 11 30]
def Hn:=[m 31 10,m 32 11,lt 33 31 32]
def ab3:=[m 34 10,m 35 11,o 36 (.bin .add (.t 34) (.t 35)),o 37 (.conv .u64 (.t 36)),o 38 (.bin .shr (.t 37) (.c (.int .u64 1))),o 39 (.conv .i64 (.t 38)),m 12 39]
def ab9:=[m 40 4,m 41 0,m 42 12,o 43 (.is 1 (.t 41) (.t 42)),l 44 43,m 45 0,m 46 1,o 47 (.is 1 (.t 45) (.t 46)),l 48 47,o 49 (.eL (.t 40) [.t 44,.t 48]),o 50 (.bin .lss (.t 49) (aj 0))]
def WC:=some [[],[],[],[1,2],[3],[],[],[5,6],[7],[0,4,8],[9]]
def aca:=[m 51 12,ad 52 51 1,m 10 52]
def acb:=[m 53 12,m 11 53]
def Hr:=[m 54 1,m 13 54]
def acd:=[m 55 13,m 56 10,o 57 (.bin .sub (.t 56) (aj 1)),lt 58 55 57]
def abK:=[m 61 0,m 62 13,m 63 0,m 64 13,ad 65 64 1,m 66 0,m 67 13,ad 68 67 1,o 69 (.is 1 (.t 66) (.t 68)),l 70 69,m 71 0,m 72 13,o 73 (.is 1 (.t 71) (.t 72)),l 74 73,o 75 (.is 1 (.t 61) (.t 62)),p (.bg none (.t 75) (.t 70)),o 76 (.is 1 (.t 63) (.t 65)),p (.bg none (.t 76) (.t 74))]
def Wy:=some [[],[],[],[],[3],[],[],[6],[5,7],[8],[],[],[10,11],[12],[0,1,0,1,5,6,7,8,9,13],[14,9,0,1,5,6,7,8,9,13],[2,4,0,1,2,3,4,5,6,7,8,9,10,11,12,13,14,15],[16,13,15,0,1,2,3,4,5,6,7,8,9,10,11,12,13,14,15]]
def abL:=[m 59 13,ad 60 59 1,m 13 60]
def wR:=[m 77 3,m 78 2,o 79 (.bin .sub (.t 77) (.t 78)),o 80 (.bin .eql (.t 79) (aj 1))]
def Hf:=[m 81 1,m 14 81]
def Hg:=[m 82 2,m 15 82]
def Hh:=[m 83 14,m 84 15,lt 85 83 84]
def abM:=[m 86 14,m 87 15,o 88 (.bin .add (.t 86) (.t 87)),o 89 (.conv .u64 (.t 88)),o 90 (.bin .shr (.t 89) (.c (.int .u64 1))),o 91 (.conv .i64 (.t 90)),m 16 91]
def abN:=[m 92 4,m 93 0,m 94 2,o 95 (.is 1 (.t 93) (.t 94)),l 96 95,m 97 0,m 98 16,o 99 (.is 1 (.t 97) (.t 98)),l 100 99,o 101 (.eL (.t 92) [.t 96,.t 100]),o 102 (.bin .lss (.t 101) (aj 0)),no 103 102]
def Wz:=some [[],[],[],[1,2],[3],[],[],[5,6],[7],[0,4,8],[9],[10]]
def abO:=[m 104 16,ad 105 104 1,m 14 105]
def abP:=[m 106 16,m 15 106]
def Hj:=[m 107 2,m 17 107]
def abQ:=[m 108 17,m 109 14,o 110 (.bin .gtr (.t 108) (.t 109))]
def abR:=[m 113 0,m 114 17,m 115 0,m 116 17,o 117 (.bin .sub (.t 116) (aj 1)),m 118 0,m 119 17,o 120 (.bin .sub (.t 119) (aj 1)),o 121 (.is 1 (.t 118) (.t 120)),l 122 121,m 123 0,m 124 17,o 125 (.is 1 (.t 123) (.t 124)),l 126 125,o 127 (.is 1 (.t 113) (.t 114)),p (.bg none (.t 127) (.t 122)),o 128 (.is 1 (.t 115) (.t 117)),p (.bg none (.t 128) (.t 126))]
def WA:=some [[],[],[],[],[3],[],[],[6],[5,7],[8],[],[],[10,11],[12],[0,1,0,1,5,6,7,8,9,13],[14,9,0,1,5,6,7,8,9,13],[2,4,0,1,2,3,4,5,6,7,8,9,10,11,12,13,14,15],[16,13,15,0,1,2,3,4,5,6,7,8,9,10,11,12,13,14,15]]
def abS:=[m 111 17,o 112 (.bin .sub (.t 111) (aj 1)),m 17 112]
def Hk:=[m 129 1,m 130 3,o 131 (.bin .add (.t 129) (.t 130)),o 132 (.conv .u64 (.t 131)),o 133 (.bin .shr (.t 132) (.c (.int .u64 1))),o 134 (.conv .i64 (.t 133)),m 18 134]
def Hl:=[m 135 18,m 136 2,o 137 (.bin .add (.t 135) (.t 136)),m 19 137]
def Hm:=[aV 20 0,aV 21 0]
def abT:=[m 138 2,m 139 18,o 140 (.bin .gtr (.t 138) (.t 139))]
def abU:=[m 141 19,m 142 3,o 143 (.bin .sub (.t 141) (.t 142)),m 20 143]
def abV:=[m 144 18,m 21 144]
def abW:=[m 145 1,m 20 145]
def abX:=[m 146 2,m 21 146]
def Ho:=[m 147 19,o 148 (.bin .sub (.t 147) (aj 1)),m 22 148]
def Hp:=[m 149 20,m 150 21,lt 151 149 150]
def abY:=[m 152 20,m 153 21,o 154 (.bin .add (.t 152) (.t 153)),o 155 (.conv .u64 (.t 154)),o 156 (.bin .shr (.t 155) (.c (.int .u64 1))),o 157 (.conv .i64 (.t 156)),m 23 157]
def abZ:=[m 158 4,m 159 0,m 160 22,m 161 23,o 162 (.bin .sub (.t 160) (.t 161)),o 163 (.is 1 (.t 159) (.t 162)),l 164 163,m 165 0,m 166 23,o 167 (.is 1 (.t 165) (.t 166)),l 168 167,o 169 (.eL (.t 158) [.t 164,.t 168]),o 170 (.bin .lss (.t 169) (aj 0)),no 171 170]
def WB:=some [[],[],[],[],[2,3],[1,4],[5],[],[],[7,8],[9],[0,6,10],[11],[12]]
def ab0:=[m 172 23,ad 173 172 1,m 20 173]
def ab1:=[m 174 23,m 21 174]
def Hq:=[m 175 19,m 176 20,o 177 (.bin .sub (.t 175) (.t 176)),m 24 177]
def ab2:=[m 178 20,m 179 2,lt 180 178 179,m 181 180,cq 182 2 181,cq 183 24 181,bD 184 (.bin .lss (.t 182) (.t 183)) 181,and 185 181 184]
def ab4:=[m 186 0,m 187 20,m 188 2,m 189 24,m 190 4,o 191 (.call 213 [.t 186,.t 187,.t 188,.t 189,.t 190])]
def ab5:=[m 192 1,m 193 20,lt 194 192 193,m 195 194,cq 196 20 195,cq 197 18 195,bD 198 (.bin .lss (.t 196) (.t 197)) 195,and 199 195 198]
def ab6:=[m 200 0,m 201 1,m 202 20,m 203 18,m 204 4,o 205 (.call 204 [.t 200,.t 201,.t 202,.t 203,.t 204])]
def ab7:=[m 206 18,m 207 24,lt 208 206 207,m 209 208,cq 210 24 209,cq 211 3 209,bD 212 (.bin .lss (.t 210) (.t 211)) 209,and 213 209 212]
def ab8:=[m 214 0,m 215 18,m 216 24,m 217 3,m 218 4,o 219 (.call 204 [.t 214,.t 215,.t 216,.t 217,.t 218])]
def sq:aO:=(s (s (r sP) (.cond (.t 28) (s (r He) (s (r Hi) (s (.block 0 (.loop (s (s (r Hn) (.cond (.t 33) .skip (.exit 0))) (.block 1 (s (r ab3) (s (.bS WC ab9) (.cond (.t 50) (r aca) (r acb)))))))) (s (s (r Hr) (.block 2 (.loop (s (s (r acd) (.cond (.t 58) .skip (.exit 2))) (s (.block 3 (.bS Wy abK)) (r abL)))))) .ret)))) .skip)) (s (s (r wR) (.cond (.t 80) (s (r Hf) (s (r Hg) (s (.block 4 (.loop (s (s (r Hh) (.cond (.t 85) .skip (.exit 4))) (.block 5 (s (r abM) (s (.bS Wz abN) (.cond (.t 103) (r abO) (r abP)))))))) (s (s (r Hj) (.block 6 (.loop (s (s (r abQ) (.cond (.t 110) .skip (.exit 6))) (s (.block 7 (.bS WA abR)) (r abS)))))) .ret)))) .skip)) (s (r Hk) (s (r Hl) (s (r Hm) (s (s (r abT) (.cond (.t 140) (s (r abU) (r abV)) (s (r abW) (r abX)))) (s (r Ho) (s (.block 8 (.loop (s (s (r Hp) (.cond (.t 151) .skip (.exit 8))) (.block 9 (s (r abY) (s (.bS WB abZ) (.cond (.t 171) (r ab0) (r ab1)))))))) (s (r Hq) (s (s (r ab2) (.cond (.t 185) (r ab4) .skip)) (s (s (r ab5) (.cond (.t 199) (r ab6) .skip)) (s (r ab7) (.cond (.t 213) (r ab8) .skip)))))))))))))
def tS:List aZ:=[]
theorem vq:bE Tryz.prog Tryz.f204 sq:=e (by kernel_rfl)
theorem vz:bF Tryz.prog Tryz.f204 tS:=e (by kernel_rfl)
theorem vn:bC Tryz.prog 204:=e (by kernel_rfl)
def HB:=[o 2 (.mv bl)]
def HC:=[m 3 0,o 4 (.bin .eql (.t 3) (aj 0)),m 5 4,eF 6 0 5,on 7 (.call 160 [.t 6]) 5,on 8 (.un .not (.t 7)) 5,or 9 5 8,m 2 9]
def BC:aO:=(s (r HB) (s (r HC) .ret))
def Lk:List aZ:=[.tmp 2]
theorem Ta:bE Tryz.prog Tryz.f211 BC:=e (by kernel_rfl)
theorem Vl:bF Tryz.prog Tryz.f211 Lk:=e (by kernel_rfl)
theorem Rc:bC Tryz.prog 211:=e (by kernel_rfl)
def HD:=[o 6 (.mv bl)]
def HE:=[l 7 1,L 8 5 2,L 9 6 3,m 10 0,o 11 (.call 199 [.t 8,.t 9,.t 10]),m 12 0,o 13 (.ia 6 1 (.t 4) (.t 12)),l 14 13,o 15 (.eL (.t 7) [.t 11,.t 14]),m 6 15]
def WE:=some [[],[],[],[],[1,2,3],[],[5],[6],[0,4,7,4],[8,8,0,1,2,3,4,5,6,7,8]]
def BD:aO:=(s (r HD) (s (.bS WE HE) .ret))
def Ll:List aZ:=[.tmp 6]
theorem Tb:bE Tryz.prog Tryz.f212 BD:=e (by kernel_rfl)
theorem Vm:bF Tryz.prog Tryz.f212 Ll:=e (by kernel_rfl)
theorem Re:bC Tryz.prog 212:=e (by kernel_rfl)
def HF:=[m 12 2,m 13 1,o 14 (.bin .sub (.t 12) (.t 13)),m 10 14]
def HG:=[m 15 3,m 16 2,o 17 (.bin .sub (.t 15) (.t 16)),m 11 17]
def HI:=[m 18 10,m 19 11,o 20 (.bin .neq (.t 18) (.t 19))]
def HJ:=[m 21 10,m 22 11,o 23 (.bin .gtr (.t 21) (.t 22))]
def HK:=[m 24 0,m 25 2,m 26 10,o 27 (.bin .sub (.t 25) (.t 26)),m 28 2,m 29 11,m 30 4,o 31 (.call 216 [.t 24,.t 27,.t 28,.t 29,.t 30])]
def HL:=[m 32 10,m 33 11,o 34 (.bin .sub (.t 32) (.t 33)),m 10 34]
def HM:=[m 35 0,m 36 2,m 37 10,o 38 (.bin .sub (.t 36) (.t 37)),m 39 2,m 40 11,o 41 (.bin .add (.t 39) (.t 40)),m 42 10,o 43 (.bin .sub (.t 41) (.t 42)),m 44 10,m 45 4,o 46 (.call 216 [.t 35,.t 38,.t 43,.t 44,.t 45])]
def HN:=[m 47 11,m 48 10,o 49 (.bin .sub (.t 47) (.t 48)),m 11 49]
def HO:=[m 50 0,m 51 2,m 52 10,o 53 (.bin .sub (.t 51) (.t 52)),m 54 2,m 55 10,m 56 4,o 57 (.call 216 [.t 50,.t 53,.t 54,.t 55,.t 56])]
def BE:aO:=(s (r HF) (s (r HG) (s (.block 0 (.loop (s (s (r HI) (.cond (.t 20) .skip (.exit 0))) (.block 1 (s (r HJ) (.cond (.t 23) (s (r HK) (r HL)) (s (r HM) (r HN)))))))) (r HO))))
def Lm:List aZ:=[]
theorem Tc:bE Tryz.prog Tryz.f213 BE:=e (by kernel_rfl)
theorem Vn:bF Tryz.prog Tryz.f213 Lm:=e (by kernel_rfl)
theorem Rf:bC Tryz.prog 213:=e (by kernel_rfl)
def HP:=[aV 10 0]
def ace:=[m 11 10,m 12 3,lt 13 11 12]
def acf:=[m 16 0,m 17 1,m 18 10,o 19 (.bin .add (.t 17) (.t 18)),m 20 0,m 21 2,m 22 10,o 23 (.bin .add (.t 21) (.t 22)),m 24 0,m 25 2,m 26 10,o 27 (.bin .add (.t 25) (.t 26)),o 28 (.is 1 (.t 24) (.t 27)),l 29 28,m 30 0,m 31 1,m 32 10,o 33 (.bin .add (.t 31) (.t 32)),o 34 (.is 1 (.t 30) (.t 33)),l 35 34,o 36 (.is 1 (.t 16) (.t 19)),p (.bg none (.t 36) (.t 29)),o 37 (.is 1 (.t 20) (.t 23)),p (.bg none (.t 37) (.t 35))]
def WG:=some [[],[],[],[1,2],[],[],[],[5,6],[],[],[],[9,10],[8,11],[12],[],[],[],[15,16],[14,17],[18],[0,3,0,1,2,3,8,9,10,11,12,13,19],[20,13,0,1,2,3,8,9,10,11,12,13,19],[4,7,0,1,2,3,4,5,6,7,8,9,10,11,12,13,14,15,16,17,18,19,20,21],[22,19,21,0,1,2,3,4,5,6,7,8,9,10,11,12,13,14,15,16,17,18,19,20,21]]
def acg:=[m 14 10,ad 15 14 1,m 10 15]
def BF:aO:=(s (r HP) (.block 0 (.loop (s (s (r ace) (.cond (.t 13) .skip (.exit 0))) (s (.block 1 (.bS WG acf)) (r acg))))))
def Ln:List aZ:=[]
theorem Td:bE Tryz.prog Tryz.f216 BF:=e (by kernel_rfl)
theorem Vo:bF Tryz.prog Tryz.f216 Ln:=e (by kernel_rfl)
theorem Rg:bC Tryz.prog 216:=e (by kernel_rfl)
end Go.Proofs.YtcldiigclhgafaaGreat
namespace Go.Proofs.YtcldiigclhgafaaGreat
open Go Go.Abs
open Go.Abs.Enc (enc)
theorem rZ(n lo hi:Int):av Tryz.prog 94 [enc n,enc lo,enc hi] (enc (decide (lo≤n)&&decide (n≤hi))):=by
 refine av.bn Tryz.func94 RS TQ V0 (Nat.le_of_ble_eq_true rfl) (fun hwf W0 D0 E1 =>?_)
 simp only[Cj,L1,a6,Nat.zero_add,Nat.reduceAdd]
 refine .au (by decide +kernel) fun K hK =>?_
 simp only[It,U,simprocAttr]
 refine .done (hK _ ?_);clear hK K
 refine .au (by decide +kernel) fun K hK =>?_
 simp only[Iu,U,simprocAttr]
 refine .guard (fun h =>?_) (fun h =>?_)
 ·simp only[U,simprocAttr,h]
  refine .done (hK _ ?_);clear hK K
  refine J.ret ?_
  simp only[U,simprocAttr]
  simp_all
 ·simp only[U,simprocAttr,h]
  refine .done (hK _ ?_);clear hK K
  refine J.ret ?_
  simp only[U,simprocAttr]
  simp at h
  simp;omega
def ca(lo hi n:Int):Bool:=decide (lo≤n)&&decide (n≤hi)
def nV(a b:Int):Int:=IntKind.i64.wrap ((BitVec.ofInt IntKind.i64.bits a &&& BitVec.ofInt IntKind.i64.bits b).toNat:Int)
def shl(a:Int)(k:Nat):Int:=IntKind.i64.wrap (a*2^min k IntKind.i64.bits)
theorem ami(m:bI 6 Int):av Tryz.prog 100 [enc m] (enc (if (List.range 6).all (fun i=>ca 0 4 (m.g i)) then (0:Int) else 10)):=by
 refine av.bn Tryz.func100 P5 RZ Uc (Nat.le_of_ble_eq_true rfl) (fun hwf W0 D0 E1 =>?_)
 simp only[An,Kb,a6]
 refine .au (by decide +kernel) fun K hK =>?_
 simp only[DL,U,simprocAttr]
 refine .done (hK _ ?_);clear hK K
 refine J.seq ?_
 refine .au (by decide +kernel) fun K hK =>?_
 simp only[DM,U,simprocAttr]
 refine .done (hK _ ?_);clear hK K
 refine J.block (J.loop (fun i:Nat=>aq [(1,.ptr 1 []),(2,.int .i64 0),(3,.int .i64 i)] [(1,.box (enc m))]) (fun j=>j≤6∧∀ i,i<j→ca 0 4 (m.g i)=true) (fun i=>6-i) 0 ⟨by omega,fun k h=>by omega⟩ ?_ (fun i hi =>?_))
 ·refine aC.bZ ?_ ?_ ?_ ?_ <;>simp[aX,bO,bM,bt,ao,aW,cA,I.only,ah.only,bB]
 ·refine J.seq (J.seq ?_)
  refine .bV (by decide +kernel) fun K hK =>?_
  simp only[DN,U,simprocAttr]
  refine .done (hK _ ?_);clear hK K;try simp only[aF]
  refine J.bW ?_
  simp only[ak,U,simprocAttr]
  refine ⟨fun h =>?_,fun h =>?_⟩
  ·have hlt:i<6:=by simp at h;omega
   refine J.skip ?_;try simp only[aF,simprocAttr]
   refine J.seq (J.block ?_)
   refine .au (by decide +kernel) fun K hK =>?_
   simp only[DO,U,simprocAttr]
   try simp only[bh,oj 1 m hlt rfl,pc m hlt,U,simprocAttr]
   refine .flat _ (rZ _ 0 4) rfl ?_
   try simp only[U,simprocAttr]
   refine .done (hK _ ?_);clear hK K
   refine J.bW ?_
   simp only[ak,U,simprocAttr]
   refine ⟨fun h =>?_,fun h =>?_⟩
   ·refine .au (by decide +kernel) fun K hK =>?_
    simp only[DP,U,simprocAttr]
    refine .done (hK _ ?_);clear hK K
    refine J.ret ?_
    simp only[b8,aF,U,simprocAttr]
    rw[m6 i hlt]
    ·simp
    ·simp at h;simp[ca];omega
   ·refine J.skip ?_;try simp only[aF,b8,simprocAttr]
    refine .bV (by decide +kernel) fun K hK =>?_
    simp only[DQ,U,simprocAttr]
    refine .done (hK _ ?_);clear hK K;try simp only[aF]
    refine ⟨i+1,⟨by omega,fun k hk =>?_⟩,by omega,?_⟩
    ·by_cases hk':k=i
     ·subst hk'
      simpa[ca] using h
     ·exact hi.2 k (by omega)
    ·rw[dz _ (by omega) (by omega)]
     refine aC.bZ ?_ ?_ ?_ ?_ <;>simp[aX,bO,bM,bt,ao,aW,cA,I.only,ah.only,bB]
  ·have hge:i=6:=by simp at h;omega
   subst hge
   refine J.exit ?_;try simp only[aF,b8,simprocAttr]
   refine .au (by decide +kernel) fun K hK =>?_
   simp only[DR,U,simprocAttr]
   refine .done (hK _ ?_);clear hK K
   refine J.ret ?_
   simp only[U,simprocAttr]
   rw[o7 hi.2]
   simp
theorem Nn(m:bI 6 Int):av Tryz.prog 101 [enc m] (enc (if (List.range 6).all (fun i=>ca 1 31 (m.g i)) then (0:Int) else 12)):=by
 refine av.bn Tryz.func101 P6 R0 Ud (Nat.le_of_ble_eq_true rfl) (fun hwf W0 D0 E1 =>?_)
 simp only[Ao,Kc,a6]
 refine .au (by decide +kernel) fun K hK =>?_
 simp only[DS,U,simprocAttr]
 refine .done (hK _ ?_);clear hK K
 refine J.seq ?_
 refine .au (by decide +kernel) fun K hK =>?_
 simp only[DT,U,simprocAttr]
 refine .done (hK _ ?_);clear hK K
 refine J.block (J.loop (fun i:Nat=>aq [(1,.ptr 1 []),(2,.int .i64 0),(3,.int .i64 i)] [(1,.box (enc m))]) (fun j=>j≤6∧∀ i,i<j→ca 1 31 (m.g i)=true) (fun i=>6-i) 0 ⟨by omega,fun k h=>by omega⟩ ?_ (fun i hi =>?_))
 ·refine aC.bZ ?_ ?_ ?_ ?_ <;>simp[aX,bO,bM,bt,ao,aW,cA,I.only,ah.only,bB]
 ·refine J.seq (J.seq ?_)
  refine .bV (by decide +kernel) fun K hK =>?_
  simp only[DU,U,simprocAttr]
  refine .done (hK _ ?_);clear hK K;try simp only[aF]
  refine J.bW ?_
  simp only[ak,U,simprocAttr]
  refine ⟨fun h =>?_,fun h =>?_⟩
  ·have hlt:i<6:=by simp at h;omega
   refine J.skip ?_;try simp only[aF,simprocAttr]
   refine J.seq (J.block ?_)
   refine .au (by decide +kernel) fun K hK =>?_
   simp only[DV,U,simprocAttr]
   try simp only[bh,oj 1 m hlt rfl,pc m hlt,U,simprocAttr]
   refine .flat _ (rZ _ 1 31) rfl ?_
   try simp only[U,simprocAttr]
   refine .done (hK _ ?_);clear hK K
   refine J.bW ?_
   simp only[ak,U,simprocAttr]
   refine ⟨fun h =>?_,fun h =>?_⟩
   ·refine .au (by decide +kernel) fun K hK =>?_
    simp only[DW,U,simprocAttr]
    refine .done (hK _ ?_);clear hK K
    refine J.ret ?_
    simp only[b8,aF,U,simprocAttr]
    rw[m6 i hlt]
    ·simp
    ·simp at h;simp[ca];omega
   ·refine J.skip ?_;try simp only[aF,b8,simprocAttr]
    refine .bV (by decide +kernel) fun K hK =>?_
    simp only[DX,U,simprocAttr]
    refine .done (hK _ ?_);clear hK K;try simp only[aF]
    refine ⟨i+1,⟨by omega,fun k hk =>?_⟩,by omega,?_⟩
    ·by_cases hk':k=i
     ·subst hk'
      simpa[ca] using h
     ·exact hi.2 k (by omega)
    ·rw[dz _ (by omega) (by omega)]
     refine aC.bZ ?_ ?_ ?_ ?_ <;>simp[aX,bO,bM,bt,ao,aW,cA,I.only,ah.only,bB]
  ·have hge:i=6:=by simp at h;omega
   subst hge
   refine J.exit ?_;try simp only[aF,b8,simprocAttr]
   refine .au (by decide +kernel) fun K hK =>?_
   simp only[DY,U,simprocAttr]
   refine .done (hK _ ?_);clear hK K
   refine J.ret ?_
   simp only[U,simprocAttr]
   rw[o7 hi.2]
   simp
structure cv where
 b5:Int
 mark:bI 6 Int
instance:Enc cv where
 enc g:=.agg [.int .i64 g.b5,enc g.mark]
 sz:=7
 aR:=.eh [.one,.eh (List.replicate 6 .one)]
 ga:=true
 done g:=by simp only[I.done,I.eS,Enc.done,Bool.and_self]
 size g:=by simp only[I.size,I.sizes,iT,mn,mq]
 jV g:=by simp only[I.aR,I.cT,eM,vI,vJ]
 agg _:=rfl
structure cH where
 gC:bI 5 Int
 gT:Int
 given:List cv
instance:Enc cH where
 enc m:=.agg [enc m.gC,.int .i64 m.gT,enc m.given]
 sz:=7
 aR:=.eh [.eh (List.replicate 5 .one),.one,.one]
 ga:=true
 done m:=by simp only[I.done,I.eS,Enc.done,Bool.and_self]
 size m:=by simp only[I.size,I.sizes,iT,mn,mq,qD]
 jV m:=by simp only[I.aR,I.cT,eM,vI,vJ,C7]
 agg _:=rfl
theorem mG{fs:List I}{f off:Nat}{v:I}(h1:f<fs.length)(h:I.sizes (fs.take f)=off):dK fs f off v=some v:=by simp[dK,h,h1]
theorem er :
  (∀ m:cH,(enc m).dn=some [enc m.gC,.int .i64 m.gT,enc m.given])∧(∀ g:cv,(enc g).dn=some [.int .i64 g.b5,enc g.mark]) ∧
  (∀ (w:bI 5 Int) (n:Int) (g:List cv) v,dK [enc w,.int .i64 n,enc g] 0 0 v=some v)∧(∀ (w:bI 5 Int) (n:Int) (g:List cv) v,dK [enc w,.int .i64 n,enc g] 1 5 v=some v)∧(∀ (w:bI 5 Int) (n:Int) (g:List cv) v,dK [enc w,.int .i64 n,enc g] 2 6 v=some v) ∧
  (∀ (n:Int) (m:bI 6 Int) v,dK [.int .i64 n,enc m] 0 0 v=some v)∧(∀ (n:Int) (m:bI 6 Int) v,dK [.int .i64 n,enc m] 1 1 v=some v) ∧
  (∀ (g:List cv),b6 none (enc g)=true)∧(∀ (g:List Int),b6 none (enc g)=true)∧(∀ (g:bI 5 Int),b6 (some 5) (enc g)=true)∧(∀ (g:bI 6 Int),b6 (some 6) (enc g)=true)∧(∀ (g:cv),b6 (some 7) (enc g)=true)∧(∀ (g:cH),b6 (some 7) (enc g)=true) ∧
  (∀ (fs:List I) x,(x::fs)[0]?=some x)∧(∀ (fs:List I) x n,(x::fs)[n+1]?=fs[n]?)∧(∀ (fs:List I) x,(x::fs)[1]?=fs[0]?)∧(∀ (fs:List I) x,(x::fs)[2]?=fs[1]?) :=
 ⟨fun _=>rfl,fun _=>rfl,fun _ _ _ _=>mG (Nat.le_of_ble_eq_true rfl) rfl,fun w n g v=>mG (Nat.le_of_ble_eq_true rfl) (by simp[I.sizes,iT,mn,mq]),fun w n g v=>mG (Nat.le_of_ble_eq_true rfl) (by simp[I.sizes,I.size,iT,mn,mq]),fun _ _ _=>mG (Nat.le_of_ble_eq_true rfl) rfl,fun _ _ _=>mG (Nat.le_of_ble_eq_true rfl) (by simp[I.sizes,I.size]),
  fun _=>by simp[kH,nh],fun _=>by simp[kH,nh],fun _=>by simp[fX,vH,mn,mq],fun _=>by simp[fX,vH,mn,mq],fun _=>by rw[fX];rfl,fun _=>by rw[fX];rfl,
  fun _ _=>rfl,fun _ _ _=>rfl,fun _ _=>rfl,fun _ _=>rfl⟩
theorem rT(n lo hi:Int):av Tryz.prog 121 [enc n,enc lo,enc hi] (enc (ca lo hi n)):=by
 refine av.bn Tryz.func121 Qh Sb Uo (Nat.le_of_ble_eq_true rfl) (fun hwf W0 D0 E1 =>?_)
 simp only[AA,Kn,a6,Nat.zero_add,Nat.reduceAdd]
 refine .au (by decide +kernel) fun K hK =>?_
 simp only[ED,U,simprocAttr]
 refine .done (hK _ ?_);clear hK K
 refine .au (by decide +kernel) fun K hK =>?_
 simp only[EE,U,simprocAttr]
 refine .guard (fun h =>?_) (fun h =>?_)
 ·simp only[U,simprocAttr,h]
  refine .done (hK _ ?_);clear hK K
  refine J.ret ?_
  simp only[U,simprocAttr]
  simp_all[ca]
 ·simp only[U,simprocAttr,h]
  refine .done (hK _ ?_);clear hK K
  refine J.ret ?_
  simp only[U,simprocAttr]
  simp at h
  simp[ca];omega
theorem zy(n:Int):av Tryz.prog 160 [enc n] (enc (ca 0 31 n)):=by
 refine av.bn Tryz.func160 QI SF UQ (Nat.le_of_ble_eq_true rfl) (fun hwf W0 D0 E1 =>?_)
 simp only[A7,KQ,a6]
 refine .au (by decide +kernel) fun K hK =>?_
 simp only[FQ,U,simprocAttr]
 refine .done (hK _ ?_);clear hK K
 refine .au (by decide +kernel) fun K hK =>?_
 simp only[FR,U,simprocAttr]
 refine .flat _ (rT n 0 31) rfl ?_
 try simp only[U,simprocAttr]
 refine .done (hK _ ?_);clear hK K
 refine J.ret ?_
 simp only[U,simprocAttr]
theorem zC(a b:Int):av Tryz.prog 196 [enc a,enc b] (enc (nV a b != 0)):=by
 refine av.bn Tryz.func196 Q4 S2 Vd (Nat.le_of_ble_eq_true rfl) (fun hwf W0 D0 E1 =>?_)
 simp only[Bu,Lc,a6,Nat.zero_add]
 refine .au (by decide +kernel) fun K hK =>?_
 simp only[GK,U,simprocAttr]
 refine .done (hK _ ?_);clear hK K
 refine .au (by decide +kernel) fun K hK =>?_
 simp only[GL,U,simprocAttr]
 refine .done (hK _ ?_);clear hK K
 refine J.ret ?_
 simp only[U,simprocAttr]
 rfl
theorem uK(w:bI 5 Int)(m:bI 6 Int)(i:Nat)(hi:i<6)(h0:0≤m.g i)(h5:m.g i<5):av Tryz.prog 199 [enc w,enc m,enc (i:Int)] (enc (w.g (m.g i).toNat)):=by
 refine av.bn Tryz.func199 Q7 S5 Vg (Nat.le_of_ble_eq_true rfl) (fun hwf W0 D0 E1 =>?_)
 simp only[Bx,Lf,a6,Nat.zero_add,Nat.reduceAdd]
 refine .au (by decide +kernel) fun K hK =>?_
 simp only[GX,U,simprocAttr]
 refine .done (hK _ ?_);clear hK K
 refine .au (by decide +kernel) fun K hK =>?_
 simp only[GY,U,simprocAttr]
 have hk:(m.g i).toNat<5:=by omega
 try simp only[bh,oj 1 m hi rfl,pc m hi,U,simprocAttr]
 try simp only[bh,xq 1 w ⟨h0,h5⟩ rfl,pc w hk,U,simprocAttr]
 refine .done (hK _ ?_);clear hK K
 refine J.ret ?_
 simp only[U,simprocAttr]
def jK(p:Nat→Bool):Nat→Nat
 |0=>0
 |n+1=>jK p n+if p n then 1 else 0
def qv(w:bI 5 Int)(a b:bI 6 Int)(i:Nat):Bool:=nV (w.g (a.g i).toNat) (w.g (b.g i).toNat)==0
def gf(m:bI 6 Int):Bool:=(List.range 6).all fun i=>ca 0 4 (m.g i)
theorem x5{m:bI 6 Int}(h:gf m=true){i:Nat}(hi:i<6):0≤m.g i∧m.g i<5:=by
 simp only[gf,List.all_eq_true,List.mem_range] at h
 have:=h i hi
 simp[ca] at this
 omega
def kC(w:Int)(k:Nat):Bool:=nV w (shl 1 k) != 0
def mC(w:Int):Nat→List Int
 |0=>[]
 |k+1=>mC w k++if kC w k then [(k:Int)] else []
theorem Ju(w:Int):∀ k,(mC w k).length≤k
 |0=>Nat.le_refl _
 |k+1=>by
  have:=Ju w k
  simp only[mC,List.length_append]
  split <;>simp <;>omega
theorem amj(w:Int):av Tryz.prog 141 [enc w] (enc (mC w 5)):=by
 refine av.bn Tryz.func141 Qy Su UF (Nat.le_of_ble_eq_true rfl) (fun hwf W0 D0 E1 =>?_)
 simp only[AS,KF,a6]
 refine .au (by decide +kernel) fun K hK =>?_
 simp only[E8,U,simprocAttr]
 refine .done (hK _ ?_);clear hK K
 refine .au (by decide +kernel) fun K hK =>?_
 simp only[E9,U,simprocAttr]
 refine .done (hK _ ?_);clear hK K
 refine J.seq (J.seq ?_)
 refine .bV (by decide +kernel) fun K hK =>?_
 simp only[Fa,U,simprocAttr]
 refine .done (hK _ ?_);clear hK K;try simp only[aF]
 refine J.block (J.loop (fun i:Nat=>aq [(0,.int .i64 w),(2,.nils 1),(3,.own 3 (mC w i).length),(4,.int .i64 i)] [(3,.bT 3 1 ((mC w i).map enc))]) (fun i=>i≤5) (fun i=>5-i) 0 (by omega) ?_ (fun i hi =>?_))
 ·refine aC.ln 3 3 3 1 1 ?_ ?_ ?_
  ·simp only[o5,Nat.reduceEqDiff,reduceIte]
  ·simp only[o5]
  ·simp only[mC,List.map_nil,List.length_nil]
   refine aC.bZ ?_ ?_ ?_ ?_ <;>simp[aX,bO,bM,bt,ao,aW,cA,I.only,I.bP,ah.only]
 ·refine J.seq (J.seq ?_)
  refine .bV (by decide +kernel) fun K hK =>?_
  simp only[Fb,U,simprocAttr]
  refine .done (hK _ ?_);clear hK K;try simp only[aF]
  refine J.bW ?_
  simp only[ak,U,simprocAttr]
  refine ⟨fun h =>?_,fun h =>?_⟩
  ·have hlt:i<5:=by simp at h;omega
   have hml:=Ju w i
   refine J.skip ?_;try simp only[aF,simprocAttr]
   refine J.seq (J.block ?_)
   refine .au (by decide +kernel) fun K hK =>?_
   simp only[Fc,U,simprocAttr]
   refine .done (hK _ ?_);clear hK K
   refine J.bW ?_
   simp only[ak,U,simprocAttr]
   refine ⟨fun h =>?_,fun h =>?_⟩
   ·have hb:kC w i=true:=h
    refine .bV (by decide +kernel) fun K hK =>?_
    simp only[Fe,U,simprocAttr]
    rw[jr 3 1 8 3 rfl rfl (by simp) (by simp[maxLen];omega) (by simp;omega)]
    try simp only[U,simprocAttr]
    refine .done (hK _ ?_);clear hK K;try simp only[aF,b8]
    refine .bV (by decide +kernel) fun K hK =>?_
    simp only[wC,U,simprocAttr]
    refine .done (hK _ ?_);clear hK K;try simp only[aF]
    refine ⟨i+1,by omega,by omega,?_⟩
    rw[dz _ (by omega) (by omega)]
    simp only[mC,hb,reduceIte]
    refine aC.bZ ?_ ?_ ?_ ?_ <;>simp[aX,bO,bM,bt,ao,aW,cA,I.only,I.bP,ah.only,dU,gv,ij]
   ·have hb:kC w i=false:=h
    refine J.skip ?_;try simp only[aF,b8,simprocAttr]
    refine .bV (by decide +kernel) fun K hK =>?_
    simp only[wC,U,simprocAttr]
    refine .done (hK _ ?_);clear hK K;try simp only[aF]
    refine ⟨i+1,by omega,by omega,?_⟩
    rw[dz _ (by omega) (by omega)]
    simp only[mC,hb,reduceIte,Bool.false_eq_true,List.append_nil]
    refine aC.bZ ?_ ?_ ?_ ?_ <;>simp[aX,bO,bM,bt,ao,aW,cA,I.only,ah.only,dU]
  ·have hge:i=5:=by simp at h;omega
   subst hge
   refine J.exit ?_;try simp only[aF,b8,simprocAttr]
   refine .au (by decide +kernel) fun K hK =>?_
   simp only[Ff,U,simprocAttr]
   refine .done (hK _ ?_);clear hK K
   refine J.ret ?_
   try simp only[U,simprocAttr]
theorem aml(m:bI 5 Int):av Tryz.prog 99 [enc m] (enc (if (List.range 5).all (fun i=>ca 0 31 (m.g i)&&kC (m.g i) i) then (0:Int) else 11)):=by
 refine av.bn Tryz.func99 RU TS V2 (Nat.le_of_ble_eq_true rfl) (fun hwf W0 D0 E1 =>?_)
 simp only[Cl,L3,a6]
 refine .au (by decide +kernel) fun K hK =>?_
 simp only[Iv,U,simprocAttr]
 refine .done (hK _ ?_);clear hK K
 refine J.seq ?_
 refine .au (by decide +kernel) fun K hK =>?_
 simp only[Iw,U,simprocAttr]
 refine .done (hK _ ?_);clear hK K
 refine J.block (J.loop (fun i:Nat=>aq [(1,.ptr 1 []),(2,.int .i64 0),(3,.int .i64 i)] [(1,.box (enc m))]) (fun j=>j≤5∧∀ i,i<j→(ca 0 31 (m.g i)&&kC (m.g i) i)=true) (fun i=>5-i) 0 ⟨by omega,fun k h=>by omega⟩ ?_ (fun i hi =>?_))
 ·refine aC.bZ ?_ ?_ ?_ ?_ <;>simp[aX,bO,bM,bt,ao,aW,cA,I.only,ah.only,bB]
 ·refine J.seq (J.seq ?_)
  refine .bV (by decide +kernel) fun K hK =>?_
  simp only[Iy,U,simprocAttr]
  refine .done (hK _ ?_);clear hK K;try simp only[aF]
  refine J.bW ?_
  simp only[ak,U,simprocAttr]
  refine ⟨fun h =>?_,fun h =>?_⟩
  ·have hlt:i<5:=by simp at h;omega
   refine J.skip ?_;try simp only[aF,simprocAttr]
   refine J.seq (J.block ?_)
   refine .au (by decide +kernel) fun K hK =>?_
   simp only[Iz,U,simprocAttr]
   try simp only[bh,oj 1 m hlt rfl,pc m hlt,U,simprocAttr]
   refine .flat _ (rZ _ 0 31) rfl ?_
   generalize hb:(decide (0≤m.g i)&&decide (m.g i≤31))=b
   cases b
   ·try simp only[U,simprocAttr]
    refine .done (hK _ ?_);clear hK K
    refine J.bW ?_
    simp only[ak,U,simprocAttr]
    refine ⟨fun h =>?_,fun h =>?_⟩
    ·refine .au (by decide +kernel) fun K hK =>?_
     simp only[wZ,U,simprocAttr]
     refine .done (hK _ ?_);clear hK K
     refine J.ret ?_
     simp only[b8,aF,U,simprocAttr]
     rw[m6 i hlt]
     ·simp
     ·simp only[ca,hb,Bool.false_and]
    ·cases h
   ·try simp only[bh,oj 1 m hlt rfl,pc m hlt,U,simprocAttr]
    refine .done (hK _ ?_);clear hK K
    refine J.bW ?_
    simp only[ak,U,simprocAttr]
    refine ⟨fun h =>?_,fun h =>?_⟩
    ·refine .au (by decide +kernel) fun K hK =>?_
     simp only[wZ,U,simprocAttr]
     refine .done (hK _ ?_);clear hK K
     refine J.ret ?_
     simp only[b8,aF,U,simprocAttr]
     rw[m6 i hlt]
     ·simp
     ·simp only[ca,hb,Bool.true_and,kC,nV,shl]
      simpa using h
    ·refine J.skip ?_;try simp only[aF,b8,simprocAttr]
     refine .bV (by decide +kernel) fun K hK =>?_
     simp only[IA,U,simprocAttr]
     refine .done (hK _ ?_);clear hK K;try simp only[aF]
     refine ⟨i+1,⟨by omega,fun k hk =>?_⟩,by omega,?_⟩
     ·by_cases hk':k=i
      ·subst hk'
       simp only[ca,hb,Bool.true_and,kC,nV,shl]
       simpa using h
      ·exact hi.2 k (by omega)
     ·rw[dz _ (by omega) (by omega)]
      refine aC.bZ ?_ ?_ ?_ ?_ <;>simp[aX,bO,bM,bt,ao,aW,cA,I.only,ah.only,bB]
  ·have hge:i=5:=by simp at h;omega
   subst hge
   refine J.exit ?_;try simp only[aF,b8,simprocAttr]
   refine .au (by decide +kernel) fun K hK =>?_
   simp only[IB,U,simprocAttr]
   refine .done (hK _ ?_);clear hK K
   refine J.ret ?_
   simp only[U,simprocAttr]
   rw[o7 hi.2]
   simp
theorem uL(a b:List Int):av Tryz.prog 20 [enc a,enc b] (enc (decide (a=b))):=by
 refine av.bn Tryz.func20 Q8 S6 Vh (Nat.le_of_ble_eq_true rfl) (fun hwf W0 D0 E1 =>?_)
 simp only[By,Lg,a6,Nat.zero_add]
 have hlen:a.length≤maxLen:=((jZ a).1 hwf.1).1
 simp only[maxLen] at hlen
 refine .au (by decide +kernel) fun K hK =>?_
 simp only[Hs,U,simprocAttr]
 refine .done (hK _ ?_);clear hK K
 refine J.seq (J.seq ?_)
 refine .bV (by decide +kernel) fun K hK =>?_
 simp only[Ht,U,simprocAttr]
 try simp only[bh,U,simprocAttr]
 refine .done (hK _ ?_);clear hK K;try simp only[aF]
 refine J.bW ?_
 simp only[ak,U,simprocAttr]
 refine ⟨fun h =>?_,fun h =>?_⟩
 ·refine .au (by decide +kernel) fun K hK =>?_
  simp only[Hu,U,simprocAttr]
  refine .done (hK _ ?_);clear hK K
  refine J.ret ?_
  simp only[aF,U,simprocAttr]
  simp at h
  have:a≠b:=fun e=>h (by rw[e])
  simp[this]
 ·have hab:a.length=b.length:=by simp at h;omega
  refine J.skip ?_;try simp only[aF,simprocAttr]
  refine J.seq ?_
  refine .au (by decide +kernel) fun K hK =>?_
  simp only[Hv,U,simprocAttr]
  refine .done (hK _ ?_);clear hK K
  refine J.block (J.loop (fun i:Nat=>aq [(0,enc a),(1,enc b),(5,.int .i64 i)] []) (fun i=>i≤a.length∧a.take i=b.take i) (fun i=>a.length-i) 0 ⟨Nat.zero_le _,by simp⟩ ?_ (fun i hi =>?_))
  ·refine aC.bZ ?_ ?_ ?_ ?_ <;>simp[aX,bO,bM,bt,aW,I.only,bB]
  ·refine J.seq (J.seq ?_)
   refine .bV (by decide +kernel) fun K hK =>?_
   simp only[Hw,U,simprocAttr]
   try simp only[bh,U,simprocAttr]
   refine .done (hK _ ?_);clear hK K;try simp only[aF]
   refine J.bW ?_
   simp only[ak,U,simprocAttr]
   refine ⟨fun h =>?_,fun h =>?_⟩
   ·have hlt:i<a.length:=by simpa using h
    have hlb:i<b.length:=by omega
    refine J.skip ?_;try simp only[aF,simprocAttr]
    refine J.seq (J.block ?_)
    refine .au (by decide +kernel) fun K hK =>?_
    simp only[Hx,U,simprocAttr]
    try simp only[eA 1 hlt rfl,eA 1 hlb rfl,U,simprocAttr]
    refine .done (hK _ ?_);clear hK K
    refine J.bW ?_
    simp only[ak,U,simprocAttr]
    refine ⟨fun h =>?_,fun h =>?_⟩
    ·refine .au (by decide +kernel) fun K hK =>?_
     simp only[Hy,U,simprocAttr]
     refine .done (hK _ ?_);clear hK K
     refine J.ret ?_
     simp only[b8,aF,U,simprocAttr]
     have hne:a≠b:=fun e=>by subst e;simp at h
     simp[hne]
    ·refine J.skip ?_;try simp only[aF,b8,simprocAttr]
     refine .bV (by decide +kernel) fun K hK =>?_
     simp only[Hz,U,simprocAttr]
     refine .done (hK _ ?_);clear hK K;try simp only[aF]
     refine ⟨i+1,⟨by omega,?_⟩,by omega,?_⟩
     ·rw[List.take_succ_eq_append_getElem hlt,List.take_succ_eq_append_getElem hlb,hi.2]
      simp at h
      rw[h]
     ·rw[dz _ (by omega) (by omega)]
      refine aC.bZ ?_ ?_ ?_ ?_ <;>simp[aX,bO,bM,bt,aW,I.only,bB]
   ·have hge:i=a.length:=by simp at h;omega
    refine J.exit ?_;try simp only[aF,b8,simprocAttr]
    refine .au (by decide +kernel) fun K hK =>?_
    simp only[HA,U,simprocAttr]
    refine .done (hK _ ?_);clear hK K
    refine J.ret ?_
    simp only[U,simprocAttr]
    have:a=b:=by
     have:=hi.2
     rw[hge,List.take_length] at this
     rw[hab,List.take_length] at this
     exact this
    simp[this]
def eE(m:cH)(i:Nat):cv:=m.given.getD i ⟨0,⟨List.replicate 6 0,rfl⟩⟩
theorem kK{m:cH}{i:Nat}(h:i<m.given.length):m.given[i]=eE m i:=by simp[eE,List.getD_eq_getElem?_getD,h]
theorem I3{A:ab}{m:cH}{i:Nat}(h:i<m.given.length):gX A 7 (i:Int) (enc m.given)=some (.ref (enc (eE m i))):=by
 rw[eA 7 h rfl,kK h]
def pV(w:bI 5 Int):Bool:=(List.range 5).all (fun i=>ca 0 31 (w.g i)&&kC (w.g i) i)
def nM(m:cH)(a b:bI 6 Int):Bool:=decide ((jK (qv m.gC a b) 6:Int)≤IntKind.i64.wrap (2*m.gT))
def je(m:cH)(i:Nat):Bool:=ca 1 99 (eE m i).b5&&(gf (eE m i).mark&&((i==0||decide ((eE m (i-1)).b5<(eE m i).b5))&&(List.range i).all (fun j => !nM m (eE m j).mark (eE m i).mark)))
def gN(m:cH):Bool:=pV m.gC&&(ca 0 2 m.gT&&(decide (m.given.length≤40)&&(List.range m.given.length).all (je m)))
theorem JG{m:cH}{i:Nat}(h:je m i=true):gf (eE m i).mark=true:=by
 simp only[je,Bool.and_eq_true] at h
 exact h.2.1
def sw(w:bI 5 Int)(a:bI 6 Int)(r:bI 6 Int)(i:Nat):Bool:=nV (w.g (a.g i).toNat) (r.g i)==0
def mh(w:bI 5 Int)(a r:bI 6 Int):Int:=(jK (sw w a r) 6:Int)
def lS(r:bI 6 Int):Bool:=(List.range 6).all fun i=>ca 1 31 (r.g i)
theorem Np(m:bI 6 Int):av Tryz.prog 101 [enc m] (enc (if lS m then (0:Int) else 12)):=Nn m
theorem xT:I.slice 1 []=enc ([]:List Int):=rfl
def Nk:bI 6 Int:=⟨List.replicate 6 0,rfl⟩
instance:nR cv:=⟨fun g=>by
 show (I.agg [.int .i64 g.b5,enc g.mark]).cY=true
 simp only[I.cY,I.jc,C6,Bool.and_self]⟩
def fY:cv:=⟨0,Nk⟩
theorem vG:I.agg [.int .i64 0,.agg [.int .i64 0,.int .i64 0,.int .i64 0,.int .i64 0,.int .i64 0,.int .i64 0]]=enc fY:=rfl
theorem mB(p:Nat→Bool)(l:List cv):(I.agg (l.map enc)).only p=true:=by simp only[I.only];exact dU p l
theorem aiJ(l:List cv):(I.agg (l.map enc)).cY=true:=by simp only[I.cY];exact xF l
def iH(k:Nat)(l:List cv)(m:Nat):List (Nat×ah):=[(k,.box (.agg ((l++List.replicate m fY).map enc)))]
def vw(l:List cv):cN:=fun r os'=>(l=[]∧(r=.nils 7∨r=.c0 7)∧os'=[])∨(l≠[]∧∃ m,r=.view 7 [] 7 0 l.length∧os'=iH 7 l m)
theorem zA(l:List cv)(hl:l.length≤1000):cz Tryz.prog 167 [enc l] [] (vw l):=by
 refine cz.bn Tryz.func167 QP SM UY (Nat.le_of_ble_eq_true rfl) (Nat.le_of_ble_eq_true rfl) (fun m hm=>by simp[ao,ai] at hm) (fun hwf W0 D0 E1 =>?_)
 simp only[Be,KX,a6]
 refine .au (by decide +kernel) fun K hK =>?_
 simp only[Gc,U,simprocAttr]
 refine .done (hK _ ?_);clear hK K
 refine J.seq (J.seq ?_)
 by_cases hn:l=[]
 ·subst hn
  refine .bV (by decide +kernel) fun K hK =>?_
  simp only[wF,U,simprocAttr]
  simp only[ux,List.isEmpty_nil,pQ]
  refine .any rfl fun b _ =>?_
  try simp only[U,simprocAttr]
  generalize (b==0)=t
  cases t
  ·refine .done (hK _ ?_);clear hK K;try simp only[aF]
   refine J.bW ?_
   simp only[ak,U,simprocAttr]
   refine ⟨fun h =>?_,fun h =>?_⟩
   ·cases h
   refine J.skip ?_;try simp only[aF,simprocAttr]
   refine .au (by decide +kernel) fun K hK =>?_
   simp only[wG,U,simprocAttr]
   try simp only[cG,vG,U,simprocAttr]
   refine .done (hK _ ?_);clear hK K
   refine J.ret ?_
   simp only[fq]
   exact ⟨[],[.c0 7],pF,⟨⟨.c0 7,rfl,.inl ⟨rfl,rfl,rfl⟩⟩,trivial⟩,.inl ⟨rfl,.inr rfl,rfl⟩⟩
  ·refine .done (hK _ ?_);clear hK K
   refine J.bW ?_
   simp only[ak,U,simprocAttr]
   refine ⟨fun h =>?_,fun h =>?_⟩
   ·refine .au (by decide +kernel) fun K hK =>?_
    simp only[Gd,U,simprocAttr]
    refine .done (hK _ ?_);clear hK K
    refine J.ret ?_
    simp only[aF,fq]
    exact ⟨[],[.nils 7],pF,⟨⟨.nils 7,rfl,.inl ⟨rfl,rfl,rfl⟩⟩,trivial⟩,.inl ⟨rfl,.inl rfl,rfl⟩⟩
   ·cases h
 ·have hu:jY (enc l)=false:=by rw[ux];simpa using hn
  refine .bV (by decide +kernel) fun K hK =>?_
  simp only[wF,U,simprocAttr]
  try simp only[hu,Jz _ l hn,U,simprocAttr]
  refine .done (hK _ ?_);clear hK K;try simp only[aF]
  refine J.bW ?_
  simp only[ak,U,simprocAttr]
  refine ⟨fun h =>?_,fun h =>?_⟩
  ·cases h
  refine J.skip ?_;try simp only[aF,simprocAttr]
  refine .au (by decide +kernel) fun K hK =>?_
  simp only[wG,U,simprocAttr]
  try simp only[cG,vG,U,simprocAttr]
  refine bj.nT fY rfl hn rfl (by omega) (by simp only[maxLen];omega) fun m =>?_
  try simp only[U,simprocAttr]
  refine .done (hK _ ?_);clear hK K
  refine J.ret ?_
  simp only[fq]
  exact ⟨iH 7 l m,[.view 7 [] 7 0 l.length],kL rfl (fun p=>mB p _),⟨⟨_,rfl,.inl ⟨rfl,rfl,rfl⟩⟩,trivial⟩,.inr ⟨hn,m,rfl,rfl⟩⟩
structure Item where
 eI:Int
 no:Int
 deriving DecidableEq
instance:Enc Item where
 enc x:=.agg [.int .i64 x.eI,.int .i64 x.no]
 sz:=2
 aR:=.eh [.one,.one]
 ga:=true
 done _:=rfl
 size _:=by simp[I.size,I.sizes]
 jV _:=by simp[I.aR,I.cT]
 agg _:=rfl
structure al where
 cW:Item
 kind:Int
 day:Int
 known:Int
 c4:Int
 dI:Int
 ec:Int
 b5:Int
 aY:bI 6 Int
 gZ:Item
instance:Enc al where
 enc e:=.agg [enc e.cW,.int .i64 e.kind,.int .i64 e.day,.int .i64 e.known,.int .i64 e.c4,.int .i64 e.dI,.int .i64 e.ec,.int .i64 e.b5,enc e.aY,enc e.gZ]
 sz:=17
 aR:=.eh [.eh [.one,.one],.one,.one,.one,.one,.one,.one,.one,.eh (List.replicate 6 .one),.eh [.one,.one]]
 ga:=true
 done e:=by simp only[I.done,I.eS,Enc.done,Bool.and_self]
 size e:=by simp only[I.size,I.sizes,iT,mn,mq];rfl
 jV e:=by simp only[I.aR,I.cT,eM,vI,vJ];rfl
 agg _:=rfl
structure aA where
 no:Int
 ec:Int
 dI:Int
 b5:Int
 iz:Int
 born:Int
 dm:Int
 found:Bool
 aY:List (bI 6 Int)
instance:Enc aA where
 enc b:=.agg [.int .i64 b.no,.int .i64 b.ec,.int .i64 b.dI,.int .i64 b.b5,.int .i64 b.iz,.int .i64 b.born,.int .i64 b.dm,.bool b.found,enc b.aY]
 sz:=9
 aR:=.eh [.one,.one,.one,.one,.one,.one,.one,.one,.one]
 ga:=true
 done e:=by simp only[I.done,I.eS,Enc.done,Bool.and_self]
 size e:=by simp only[I.size,I.sizes,iT,qD]
 jV e:=by simp only[I.aR,I.cT,eM,C7]
 agg _:=rfl
theorem sE:Enc.sz Item=2:=rfl
theorem Xu:Enc.sz al=17:=rfl
theorem C8:Enc.sz aA=9:=rfl
theorem Xt:Enc.ga Item=true:=rfl
theorem Xs:Enc.ga al=true:=rfl
theorem Xr:Enc.ga aA=true:=rfl
theorem aie(fs:List I)(x:I):(x::fs)[0]?=some x:=rfl
theorem aip(fs:List I)(x:I)(n:Nat):(x::fs)[n+1]?=fs[n]?:=rfl
theorem aif(fs:List I)(x:I):(x::fs)[1]?=fs[0]?:=rfl
theorem aih(fs:List I)(x:I):(x::fs)[2]?=fs[1]?:=rfl
theorem aii(fs:List I)(x:I):(x::fs)[3]?=fs[2]?:=rfl
theorem aij(fs:List I)(x:I):(x::fs)[4]?=fs[3]?:=rfl
theorem aik(fs:List I)(x:I):(x::fs)[5]?=fs[4]?:=rfl
theorem ail(fs:List I)(x:I):(x::fs)[6]?=fs[5]?:=rfl
theorem aim(fs:List I)(x:I):(x::fs)[7]?=fs[6]?:=rfl
theorem ain(fs:List I)(x:I):(x::fs)[8]?=fs[7]?:=rfl
theorem aio(fs:List I)(x:I):(x::fs)[9]?=fs[8]?:=rfl
theorem ajM(x:I)(fs:List I)(v:I):dK (x::fs) 0 0 v=some v:=mG (by simp) (by simp[I.sizes])
theorem nE(a b:Item)(n1 n2 n3 n4 n5 n6 n7:Int)(s:bI 6 Int)(v:I) :
  (dK [enc a,.int .i64 n1,.int .i64 n2,.int .i64 n3,.int .i64 n4,.int .i64 n5,.int .i64 n6,.int .i64 n7,enc s,enc b] 1 2 v=some v) ∧
  (dK [enc a,.int .i64 n1,.int .i64 n2,.int .i64 n3,.int .i64 n4,.int .i64 n5,.int .i64 n6,.int .i64 n7,enc s,enc b] 2 3 v=some v) ∧
  (dK [enc a,.int .i64 n1,.int .i64 n2,.int .i64 n3,.int .i64 n4,.int .i64 n5,.int .i64 n6,.int .i64 n7,enc s,enc b] 3 4 v=some v) ∧
  (dK [enc a,.int .i64 n1,.int .i64 n2,.int .i64 n3,.int .i64 n4,.int .i64 n5,.int .i64 n6,.int .i64 n7,enc s,enc b] 4 5 v=some v) ∧
  (dK [enc a,.int .i64 n1,.int .i64 n2,.int .i64 n3,.int .i64 n4,.int .i64 n5,.int .i64 n6,.int .i64 n7,enc s,enc b] 5 6 v=some v) ∧
  (dK [enc a,.int .i64 n1,.int .i64 n2,.int .i64 n3,.int .i64 n4,.int .i64 n5,.int .i64 n6,.int .i64 n7,enc s,enc b] 6 7 v=some v) ∧
  (dK [enc a,.int .i64 n1,.int .i64 n2,.int .i64 n3,.int .i64 n4,.int .i64 n5,.int .i64 n6,.int .i64 n7,enc s,enc b] 7 8 v=some v) ∧
  (dK [enc a,.int .i64 n1,.int .i64 n2,.int .i64 n3,.int .i64 n4,.int .i64 n5,.int .i64 n6,.int .i64 n7,enc s,enc b] 8 9 v=some v) ∧
  (dK [enc a,.int .i64 n1,.int .i64 n2,.int .i64 n3,.int .i64 n4,.int .i64 n5,.int .i64 n6,.int .i64 n7,enc s,enc b] 9 15 v=some v):=by
 refine ⟨?_,?_,?_,?_,?_,?_,?_,?_,?_⟩ <;>refine mG (Nat.le_of_ble_eq_true rfl) ?_ <;>simp[I.sizes,I.size,iT,sE,mn,mq]
theorem ajL(n1 n2:Int)(v:I):dK [.int .i64 n1,.int .i64 n2] 1 1 v=some v:=mG (Nat.le_of_ble_eq_true rfl) (by simp[I.sizes,I.size])
theorem fI(n0 n1 n2 n3 n4 n5 n6:Int)(f:Bool)(x:I)(v:I) :
  (dK [.int .i64 n0,.int .i64 n1,.int .i64 n2,.int .i64 n3,.int .i64 n4,.int .i64 n5,.int .i64 n6,.bool f,x] 1 1 v=some v) ∧
  (dK [.int .i64 n0,.int .i64 n1,.int .i64 n2,.int .i64 n3,.int .i64 n4,.int .i64 n5,.int .i64 n6,.bool f,x] 2 2 v=some v) ∧
  (dK [.int .i64 n0,.int .i64 n1,.int .i64 n2,.int .i64 n3,.int .i64 n4,.int .i64 n5,.int .i64 n6,.bool f,x] 3 3 v=some v) ∧
  (dK [.int .i64 n0,.int .i64 n1,.int .i64 n2,.int .i64 n3,.int .i64 n4,.int .i64 n5,.int .i64 n6,.bool f,x] 4 4 v=some v) ∧
  (dK [.int .i64 n0,.int .i64 n1,.int .i64 n2,.int .i64 n3,.int .i64 n4,.int .i64 n5,.int .i64 n6,.bool f,x] 5 5 v=some v) ∧
  (dK [.int .i64 n0,.int .i64 n1,.int .i64 n2,.int .i64 n3,.int .i64 n4,.int .i64 n5,.int .i64 n6,.bool f,x] 6 6 v=some v) ∧
  (dK [.int .i64 n0,.int .i64 n1,.int .i64 n2,.int .i64 n3,.int .i64 n4,.int .i64 n5,.int .i64 n6,.bool f,x] 7 7 v=some v) ∧
  (dK [.int .i64 n0,.int .i64 n1,.int .i64 n2,.int .i64 n3,.int .i64 n4,.int .i64 n5,.int .i64 n6,.bool f,x] 8 8 v=some v):=by
 refine ⟨?_,?_,?_,?_,?_,?_,?_,?_⟩ <;>refine mG (Nat.le_of_ble_eq_true rfl) ?_ <;>simp[I.sizes,I.size]
theorem XM(x:Item):(enc x).dn=some [.int .i64 x.eI,.int .i64 x.no]:=rfl
theorem XL(e:al):(enc e).dn=some [enc e.cW,.int .i64 e.kind,.int .i64 e.day,.int .i64 e.known,.int .i64 e.c4,.int .i64 e.dI,.int .i64 e.ec,.int .i64 e.b5,enc e.aY,enc e.gZ]:=rfl
theorem XK(b:aA):(enc b).dn=some [.int .i64 b.no,.int .i64 b.ec,.int .i64 b.dI,.int .i64 b.b5,.int .i64 b.iz,.int .i64 b.born,.int .i64 b.dm,.bool b.found,enc b.aY]:=rfl
theorem JN(x:Item):b6 (some 2) (enc x)=true:=by simp[fX,Xt,sE]
theorem JM(x:al):b6 (some 17) (enc x)=true:=by simp[fX,Xs,Xu]
theorem ajX(x:aA):b6 (some 9) (enc x)=true:=by simp[fX,Xr,C8]
theorem JL(x:bI 6 Int):b6 (some 6) (enc x)=true:=by simp[fX,vH,mn,mq]
theorem ajY(x:List al):b6 none (enc x)=true:=by simp[kH,nh]
theorem ajZ(x:List Int):b6 none (enc x)=true:=by simp[kH,nh]
theorem aj1(x:List (bI 6 Int)):b6 none (enc x)=true:=by simp[kH,nh]
theorem aj0(x:List Item):b6 none (enc x)=true:=by simp[kH,nh]
theorem lb :
  (∀ x:Item,(enc x).dn=some [.int .i64 x.eI,.int .i64 x.no])∧(∀ e:al,(enc e).dn=some [enc e.cW,.int .i64 e.kind,.int .i64 e.day,.int .i64 e.known,.int .i64 e.c4,.int .i64 e.dI,.int .i64 e.ec,.int .i64 e.b5,enc e.aY,enc e.gZ]) ∧
  (∀ b:aA,(enc b).dn=some [.int .i64 b.no,.int .i64 b.ec,.int .i64 b.dI,.int .i64 b.b5,.int .i64 b.iz,.int .i64 b.born,.int .i64 b.dm,.bool b.found,enc b.aY]) ∧
  (∀ (x:I) fs v,dK (x::fs) 0 0 v=some v)∧(∀ n1 n2 v,dK [.int .i64 n1,.int .i64 n2] 1 1 v=some v) ∧
  (∀ x:Item,b6 (some 2) (enc x)=true)∧(∀ x:al,b6 (some 17) (enc x)=true)∧(∀ x:aA,b6 (some 9) (enc x)=true)∧(∀ x:bI 6 Int,b6 (some 6) (enc x)=true)∧(∀ x:List al,b6 none (enc x)=true)∧(∀ x:List Int,b6 none (enc x)=true) ∧
  (∀ x:List (bI 6 Int),b6 none (enc x)=true)∧(∀ x:List Item,b6 none (enc x)=true) ∧
  (∀ (fs:List I) x,(x::fs)[0]?=some x)∧(∀ (fs:List I) x n,(x::fs)[n+1]?=fs[n]?)∧(∀ (fs:List I) x,(x::fs)[1]?=fs[0]?)∧(∀ (fs:List I) x,(x::fs)[2]?=fs[1]?)∧(∀ (fs:List I) x,(x::fs)[3]?=fs[2]?)∧(∀ (fs:List I) x,(x::fs)[4]?=fs[3]?) ∧
  (∀ (fs:List I) x,(x::fs)[5]?=fs[4]?)∧(∀ (fs:List I) x,(x::fs)[6]?=fs[5]?)∧(∀ (fs:List I) x,(x::fs)[7]?=fs[6]?)∧(∀ (fs:List I) x,(x::fs)[8]?=fs[7]?)∧(∀ (fs:List I) x,(x::fs)[9]?=fs[8]?) :=
 ⟨XM,XL,XK,fun x fs v=>ajM x fs v,ajL,JN,JM,ajX,JL,ajY,ajZ,aj1,aj0,aie,aip,aif,aih,aii,aij,aik,ail,aim,ain,aio⟩
theorem Item.XJ(a b:Item):a=b↔a.eI=b.eI∧a.no=b.no:=by cases a;cases b;simp
theorem qE(x y:Item):cg (.bg [.i .i64,.i .i64]) (enc x) (enc y)=some (decide (x=y)):=by
 show cg (.bg [.i .i64,.i .i64]) (.agg [.int .i64 x.eI,.int .i64 x.no]) (.agg [.int .i64 y.eI,.int .i64 y.no])=_
 simp[cg,iU,iy,Item.XJ];rfl
theorem zB(x:Int):av Tryz.prog 194 [enc x] (enc false):=by
 refine av.bn Tryz.func194 Q2 S0 Vb (Nat.le_of_ble_eq_true rfl) (fun hwf W0 D0 E1 =>?_)
 simp only[Br,La,a6]
 refine .au (by decide +kernel) fun K hK =>?_
 simp only[Gz,U,simprocAttr]
 refine .done (hK _ ?_);clear hK K
 refine .au (by decide +kernel) fun K hK =>?_
 simp only[GA,U,simprocAttr]
 refine .done (hK _ ?_);clear hK K
 refine J.ret ?_
 simp only[U,simprocAttr]
 simp
def jJ(x y:Int):Int:=if x<y then -1 else if y<x then 1 else 0
theorem zx(x y:Int):av Tryz.prog 159 [enc x,enc y] (enc (jJ x y)):=by
 refine av.bn Tryz.func159 QG SD UO (Nat.le_of_ble_eq_true rfl) (fun hwf W0 D0 E1 =>?_)
 simp only[A5,KO,a6,Nat.zero_add]
 refine .au (by decide +kernel) fun K hK =>?_
 simp only[FG,U,simprocAttr]
 refine .done (hK _ ?_);clear hK K
 refine .au (by decide +kernel) fun K hK =>?_
 simp only[FH,U,simprocAttr]
 refine .flat _ (zB x) rfl ?_
 try simp only[U,simprocAttr]
 refine .done (hK _ ?_);clear hK K
 refine .au (by decide +kernel) fun K hK =>?_
 simp only[FM,U,simprocAttr]
 refine .flat _ (zB y) rfl ?_
 try simp only[U,simprocAttr]
 refine .done (hK _ ?_);clear hK K
 refine J.seq ?_
 refine .au (by decide +kernel) fun K hK =>?_
 simp only[FN,U,simprocAttr]
 refine .done (hK _ ?_);clear hK K
 refine J.bW ?_
 simp only[ak,U,simprocAttr]
 refine ⟨fun h =>?_,fun h =>?_⟩
 ·cases h
 refine J.skip ?_;try simp only[aF,simprocAttr]
 refine J.seq ?_
 refine .au (by decide +kernel) fun K hK =>?_
 simp only[FO,U,simprocAttr]
 refine .done (hK _ ?_);clear hK K
 refine J.bW ?_
 simp only[ak,U,simprocAttr]
 refine ⟨fun h =>?_,fun h =>?_⟩
 ·cases h
 refine J.skip ?_;try simp only[aF,simprocAttr]
 refine J.seq ?_
 refine .au (by decide +kernel) fun K hK =>?_
 simp only[FP,U,simprocAttr]
 refine .done (hK _ ?_);clear hK K
 refine J.bW ?_
 simp only[ak,U,simprocAttr]
 refine ⟨fun h =>?_,fun h =>?_⟩
 ·refine .au (by decide +kernel) fun K hK =>?_
  simp only[FI,U,simprocAttr]
  refine .done (hK _ ?_);clear hK K
  refine J.ret ?_
  simp only[aF,U,simprocAttr]
  have:x<y:=by simpa using h
  simp[jJ,this]
 have h1:¬ x<y:=by simpa using h
 refine J.skip ?_;try simp only[aF,simprocAttr]
 refine J.seq ?_
 refine .au (by decide +kernel) fun K hK =>?_
 simp only[FJ,U,simprocAttr]
 refine .done (hK _ ?_);clear hK K
 refine J.bW ?_
 simp only[ak,U,simprocAttr]
 refine ⟨fun h =>?_,fun h =>?_⟩
 ·refine .au (by decide +kernel) fun K hK =>?_
  simp only[FK,U,simprocAttr]
  refine .done (hK _ ?_);clear hK K
  refine J.ret ?_
  simp only[aF,U,simprocAttr]
  have:y<x:=by simpa using h
  simp[jJ,this,h1]
 have h2:¬ y<x:=by simpa using h
 refine J.skip ?_;try simp only[aF,simprocAttr]
 refine .au (by decide +kernel) fun K hK =>?_
 simp only[FL,U,simprocAttr]
 refine .done (hK _ ?_);clear hK K
 refine J.ret ?_
 simp only[U,simprocAttr]
 simp[jJ,h1,h2]
theorem Aj(a b:Int):eG [.int .i64 0,.int .i64 0] [(0,.int .i64 a),(1,.int .i64 b)]=some [.int .i64 a,.int .i64 b]:=by simp[eG,I.cm,I.size]
theorem ma(n lo hi:Int):av Tryz.prog 114 [enc n,enc lo,enc hi] (enc (ca lo hi n)):=by
 refine av.bn Tryz.func114 Qa R4 Uh (Nat.le_of_ble_eq_true rfl) (fun hwf W0 D0 E1 =>?_)
 simp only[As,Kg,a6,Nat.zero_add,Nat.reduceAdd]
 refine .au (by decide +kernel) fun K hK =>?_
 simp only[Ef,U,simprocAttr]
 refine .done (hK _ ?_);clear hK K
 refine .au (by decide +kernel) fun K hK =>?_
 simp only[Eg,U,simprocAttr]
 refine .guard (fun h =>?_) (fun h =>?_)
 ·simp only[U,simprocAttr,h]
  refine .done (hK _ ?_);clear hK K
  refine J.ret ?_
  simp only[U,simprocAttr]
  simp_all[ca]
 ·simp only[U,simprocAttr,h]
  refine .done (hK _ ?_);clear hK K
  refine J.ret ?_
  simp only[U,simprocAttr]
  simp at h
  simp[ca];omega
theorem nP(n lo hi:Int):av Tryz.prog 94 [enc n,enc lo,enc hi] (enc (ca lo hi n)):=rZ n lo hi
def mA(x:Item):Bool:=ca 0 5 x.eI&&ca 0 9999 x.no
theorem uH(n:Int):av Tryz.prog 127 [enc n] (enc (ca 0 100000 n)):=by
 refine av.bn Tryz.func127 Qn Sh Uu (Nat.le_of_ble_eq_true rfl) (fun hwf W0 D0 E1 =>?_)
 simp only[AH,Kt,a6]
 refine .au (by decide +kernel) fun K hK =>?_
 simp only[EN,U,simprocAttr]
 refine .done (hK _ ?_);clear hK K
 refine .au (by decide +kernel) fun K hK =>?_
 simp only[EO,U,simprocAttr]
 refine .flat _ (ma n 0 100000) rfl ?_
 try simp only[U,simprocAttr]
 refine .done (hK _ ?_);clear hK K
 refine J.ret ?_
 simp only[U,simprocAttr]
theorem NP(n:Int):av Tryz.prog 154 [enc n] (enc (ca 1 9999 n)):=by
 refine av.bn Tryz.func154 QB Sy UJ (Nat.le_of_ble_eq_true rfl) (fun hwf W0 D0 E1 =>?_)
 simp only[AW,KJ,a6]
 refine .au (by decide +kernel) fun K hK =>?_
 simp only[Fl,U,simprocAttr]
 refine .done (hK _ ?_);clear hK K
 refine .au (by decide +kernel) fun K hK =>?_
 simp only[Fm,U,simprocAttr]
 refine .flat _ (ma n 1 9999) rfl ?_
 try simp only[U,simprocAttr]
 refine .done (hK _ ?_);clear hK K
 refine J.ret ?_
 simp only[U,simprocAttr]
theorem NQ(n:Int):av Tryz.prog 155 [enc n] (enc (ca 1 9 n)):=by
 refine av.bn Tryz.func155 QC Sz UK (Nat.le_of_ble_eq_true rfl) (fun hwf W0 D0 E1 =>?_)
 simp only[AX,KK,a6]
 refine .au (by decide +kernel) fun K hK =>?_
 simp only[Fo,U,simprocAttr]
 refine .done (hK _ ?_);clear hK K
 refine .au (by decide +kernel) fun K hK =>?_
 simp only[Fp,U,simprocAttr]
 refine .flat _ (ma n 1 9) rfl ?_
 try simp only[U,simprocAttr]
 refine .done (hK _ ?_);clear hK K
 refine J.ret ?_
 simp only[U,simprocAttr]
theorem NR(n:Int):av Tryz.prog 156 [enc n] (enc (ca 1 99 n)):=by
 refine av.bn Tryz.func156 QD SA UL (Nat.le_of_ble_eq_true rfl) (fun hwf W0 D0 E1 =>?_)
 simp only[AY,KL,a6]
 refine .au (by decide +kernel) fun K hK =>?_
 simp only[Fq,U,simprocAttr]
 refine .done (hK _ ?_);clear hK K
 refine .au (by decide +kernel) fun K hK =>?_
 simp only[Fs,U,simprocAttr]
 refine .flat _ (ma n 1 99) rfl ?_
 try simp only[U,simprocAttr]
 refine .done (hK _ ?_);clear hK K
 refine J.ret ?_
 simp only[U,simprocAttr]
theorem qm(n:Int):av Tryz.prog 75 [enc n] (enc (ca 0 100000 n)):=by
 refine av.bn Tryz.func75 RF TD VN (Nat.le_of_ble_eq_true rfl) (fun hwf W0 D0 E1 =>?_)
 simp only[B6,LN,a6]
 refine .au (by decide +kernel) fun K hK =>?_
 simp only[Ic,U,simprocAttr]
 refine .done (hK _ ?_);clear hK K
 refine .au (by decide +kernel) fun K hK =>?_
 simp only[Ie,U,simprocAttr]
 refine .flat _ (nP n 0 100000) rfl ?_
 try simp only[U,simprocAttr]
 refine .done (hK _ ?_);clear hK K
 refine J.ret ?_
 simp only[U,simprocAttr]
theorem zm(x:Item):av Tryz.prog 115 [enc x] (enc (mA x)):=by
 refine av.bn Tryz.func115 Qb R5 Ui (Nat.le_of_ble_eq_true rfl) (fun hwf W0 D0 E1 =>?_)
 simp only[Au,Kh,a6]
 refine .au (by decide +kernel) fun K hK =>?_
 simp only[Ei,U,simprocAttr]
 try simp only[dQ,U,simprocAttr]
 refine .done (hK _ ?_);clear hK K
 refine .au (by decide +kernel) fun K hK =>?_
 simp only[Ej,U,simprocAttr]
 try simp only[lb,U,simprocAttr]
 refine .flat _ (ma x.eI 0 5) rfl ?_
 try simp only[U,simprocAttr]
 cases h1:ca 0 5 x.eI with
 |false =>
  try simp only[U,simprocAttr]
  refine .done (hK _ ?_);clear hK K
  refine J.ret ?_
  simp only[U,simprocAttr]
  simp[mA,h1]
 |true =>
  try simp only[lb,U,simprocAttr]
  refine .flat _ (ma x.no 0 9999) rfl ?_
  try simp only[U,simprocAttr]
  refine .done (hK _ ?_);clear hK K
  refine J.ret ?_
  simp only[U,simprocAttr]
  simp[mA,h1]
theorem zn(x:Item):av Tryz.prog 116 [enc x] (enc (mA x)):=by
 refine av.bn Tryz.func116 Qc R6 Uj (Nat.le_of_ble_eq_true rfl) (fun hwf W0 D0 E1 =>?_)
 simp only[Av,Ki,a6]
 refine .au (by decide +kernel) fun K hK =>?_
 simp only[Ek,U,simprocAttr]
 try simp only[dQ,U,simprocAttr]
 refine .done (hK _ ?_);clear hK K
 refine .au (by decide +kernel) fun K hK =>?_
 simp only[El,U,simprocAttr]
 try simp only[lb,U,simprocAttr]
 refine .flat _ (nP x.eI 0 5) rfl ?_
 try simp only[U,simprocAttr]
 cases h1:ca 0 5 x.eI with
 |false =>
  try simp only[U,simprocAttr]
  refine .done (hK _ ?_);clear hK K
  refine J.ret ?_
  simp only[U,simprocAttr]
  simp[mA,h1]
 |true =>
  try simp only[lb,U,simprocAttr]
  refine .flat _ (nP x.no 0 9999) rfl ?_
  try simp only[U,simprocAttr]
  refine .done (hK _ ?_);clear hK K
  refine J.ret ?_
  simp only[U,simprocAttr]
  simp[mA,h1]
def before(a b:Item):Bool:=decide (a.eI<b.eI)||(decide (a.eI=b.eI)&&decide (a.no<b.no))
theorem zp(a b:Item):av Tryz.prog 119 [enc a,enc b] (enc (before a b)):=by
 refine av.bn Tryz.func119 Qf R9 Um (Nat.le_of_ble_eq_true rfl) (fun hwf W0 D0 E1 =>?_)
 simp only[Ay,Kl,a6,Nat.zero_add]
 refine .au (by decide +kernel) fun K hK =>?_
 simp only[Es,U,simprocAttr]
 try simp only[dQ,U,simprocAttr]
 refine .done (hK _ ?_);clear hK K
 refine .au (by decide +kernel) fun K hK =>?_
 simp only[Et,U,simprocAttr]
 try simp only[lb,U,simprocAttr]
 cases h1:decide (a.eI<b.eI) with
 |true =>
  try simp only[U,simprocAttr]
  refine .done (hK _ ?_);clear hK K
  refine J.ret ?_
  simp only[U,simprocAttr]
  simp[before,h1]
 |false =>
  try simp only[lb,U,simprocAttr]
  cases h2:(a.eI==b.eI) with
  |false =>
   try simp only[U,simprocAttr]
   refine .done (hK _ ?_);clear hK K
   refine J.ret ?_
   simp only[U,simprocAttr]
   simp at h1 h2
   simp[before];omega
  |true =>
   try simp only[lb,U,simprocAttr]
   refine .done (hK _ ?_);clear hK K
   refine J.ret ?_
   simp only[U,simprocAttr]
   simp at h1 h2
   simp[before,h2]
def mI:List Int→Int
 | []=>0
 |x::l=>if x≠0 then x else mI l
theorem JX{l:List Int}{i:Nat}(hi:i≤l.length)(h:∀ k,k<i→l.getD k 0=0):mI (l.drop i)=mI l:=by
 induction i with
 |zero=>simp
 |succ i ih =>
  have hlt:i<l.length:=by omega
  rw[←ih (by omega) (fun k hk=>h k (by omega)),List.drop_eq_getElem_cons hlt]
  have:=h i (by omega)
  rw[List.getD_eq_getElem?_getD,List.getElem?_eq_getElem hlt] at this
  simp at this
  simp[mI,this]
theorem NS(l:List Int):av Tryz.prog 158 [enc l] (enc (mI l)):=by
 refine av.bn Tryz.func158 QF SC UN (Nat.le_of_ble_eq_true rfl) (fun hwf W0 D0 E1 =>?_)
 simp only[A4,KN,a6]
 have hlen:l.length≤maxLen:=((jZ l).1 hwf.1).1
 simp only[maxLen] at hlen
 refine .au (by decide +kernel) fun K hK =>?_
 simp only[Fx,U,simprocAttr]
 refine .done (hK _ ?_);clear hK K
 refine .au (by decide +kernel) fun K hK =>?_
 simp only[Fy,U,simprocAttr]
 refine .done (hK _ ?_);clear hK K
 refine J.seq (J.seq ?_)
 refine .bV (by decide +kernel) fun K hK =>?_
 simp only[Fz,U,simprocAttr]
 try simp only[bh,U,simprocAttr]
 refine .done (hK _ ?_);clear hK K;try simp only[aF]
 refine J.block (J.loop (fun i:Nat=>aq [(3,.int .i64 0),(6,enc l),(7,.int .i64 l.length),(8,.int .i64 i)] []) (fun i=>i≤l.length∧∀ k,k<i→l.getD k 0=0) (fun i=>l.length-i) 0 ⟨Nat.zero_le _,by intro k hk;omega⟩ ?_ (fun i hi =>?_))
 ·refine aC.bZ ?_ ?_ ?_ ?_ <;>simp[aX,bO,bM,bt,aW,I.only,bB]
 refine .au (by decide +kernel) fun K hK =>?_
 simp only[FA,U,simprocAttr]
 refine .done (hK _ ?_);clear hK K
 refine J.seq ?_
 refine J.bW ?_
 simp only[ak,U,simprocAttr]
 refine ⟨fun h =>?_,fun h =>?_⟩
 ·have hlt:i<l.length:=by simpa using h
  refine J.skip ?_;try simp only[aF,simprocAttr]
  refine J.seq (J.block ?_)
  refine .au (by decide +kernel) fun K hK =>?_
  simp only[FB,U,simprocAttr]
  try simp only[eA 1 hlt rfl,U,simprocAttr]
  refine .done (hK _ ?_);clear hK K
  refine J.seq ?_
  refine .bV (by decide +kernel) fun K hK =>?_
  simp only[FC,U,simprocAttr]
  refine .done (hK _ ?_);clear hK K;try simp only[aF]
  refine J.bW ?_
  simp only[ak,U,simprocAttr]
  refine ⟨fun h =>?_,fun h =>?_⟩
  ·refine .au (by decide +kernel) fun K hK =>?_
   simp only[FD,U,simprocAttr]
   refine .done (hK _ ?_);clear hK K
   refine J.ret ?_
   simp only[b8,aF,U,simprocAttr]
   rw[←JX hi.1 hi.2,List.drop_eq_getElem_cons hlt]
   simp at h
   simp[mI,h]
  ·refine J.skip ?_;try simp only[aF,b8,simprocAttr]
   refine .bV (by decide +kernel) fun K hK =>?_
   simp only[FE,U,simprocAttr]
   refine .done (hK _ ?_);clear hK K;try simp only[aF]
   refine ⟨i+1,⟨by omega,fun k hk =>?_⟩,by omega,?_⟩
   ·by_cases e:k=i
    ·subst e
     simp at h
     simp[List.getD_eq_getElem?_getD,hlt,h]
    ·exact hi.2 k (by omega)
   ·rw[dz _ (by omega) (by omega)]
    refine aC.bZ ?_ ?_ ?_ ?_ <;>simp[aX,bO,bM,bt,aW,I.only,bB]
 have hie:i=l.length:=by simp at h;omega
 refine J.exit ?_;try simp only[aF,b8,simprocAttr]
 refine .au (by decide +kernel) fun K hK =>?_
 simp only[FF,U,simprocAttr]
 refine .done (hK _ ?_);clear hK K
 refine J.ret ?_
 simp only[U,simprocAttr]
 rw[←JX hi.1 hi.2,hie]
 simp[mI]
def nZ(a b:Item):Int:=mI [jJ a.eI b.eI,jJ a.no b.no]
theorem zo(a b:Item):av Tryz.prog 118 [enc a,enc b] (enc (nZ a b)):=by
 refine av.bn Tryz.func118 Qe R8 Ul (Nat.le_of_ble_eq_true rfl) (fun hwf W0 D0 E1 =>?_)
 simp only[Ax,Kk,a6,Nat.zero_add]
 refine .au (by decide +kernel) fun K hK =>?_
 simp only[Ep,U,simprocAttr]
 try simp only[dQ,U,simprocAttr]
 refine .done (hK _ ?_);clear hK K
 refine .au (by decide +kernel) fun K hK =>?_
 simp only[Er,U,simprocAttr]
 try simp only[lb,U,simprocAttr]
 refine .flat _ (zx a.eI b.eI) rfl ?_
 try simp only[lb,U,simprocAttr]
 refine .flat _ (zx a.no b.no) rfl ?_
 try simp only[U,simprocAttr]
 have hb:ig 1 (some [.int .i64 (jJ a.eI b.eI),.int .i64 (jJ a.no b.no)])=some (enc [jJ a.eI b.eI,jJ a.no b.no]):=na (ys:=[jJ a.eI b.eI,jJ a.no b.no]) 1 rfl
 try simp only[hb,fb,U,simprocAttr]
 refine .flat _ (NS _) rfl ?_
 try simp only[U,simprocAttr]
 refine .done (hK _ ?_);clear hK K
 refine J.ret ?_
 simp only[U,simprocAttr]
 rfl
deriving instance DecidableEq for bI
deriving instance DecidableEq for al
deriving instance DecidableEq for aA
def iu:bI 6 Int:=⟨List.replicate 6 0,rfl⟩
instance:Inhabited al:=⟨⟨⟨0,0⟩,0,0,0,0,0,0,0,iu,⟨0,0⟩⟩⟩
instance:Inhabited aA:=⟨⟨0,0,0,0,0,0,0,false,[]⟩⟩
def mf(x:al):al where
 cW:=x.cW
 kind:=x.kind
 day:=x.day
 known:=x.known
 c4:=if x.kind=0 then 0 else x.c4
 dI:=if x.kind=1 then x.dI else 0
 ec:=if x.kind=1∨x.kind=2 then x.ec else 0
 b5:=if x.kind=1∨x.kind=3∨x.kind=5 then x.b5 else 0
 aY:=if x.kind=4 then x.aY else iu
 gZ:=if x.kind=0 then x.gZ else ⟨0,0⟩
def j7(x:al):Bool :=
 if x.kind=0 then (x.day==0)&&(mA x.gZ&&((x.gZ.eI==x.cW.eI)&&decide (x.gZ.no<x.cW.no)))
 else ca 1 9999 x.c4&&(
  if x.kind=1 then ca 1 9 x.ec&&(ca 1 99 x.b5&&(ca 0 9999 x.dI&&(x.dI != x.c4)))
  else if x.kind=2 then ca 1 9 x.ec
  else if x.kind=3∨x.kind=5 then ca 1 99 x.b5
  else if x.kind=4 then lS x.aY
  else decide (x.kind=6))
def hE(x:al):Bool:=j7 x&&(decide (x=mf x)&&(mA x.cW&&(ca 0 100000 x.day&&ca 0 100000 x.known)))
def ae(l:List al)(i:Nat):al:=l.getD i default
def il(l:List al)(i:Nat):Bool:=hE (ae l i)&&(decide (i=0)||before (ae l (i-1)).cW (ae l i).cW)
def df(l:List al):Bool:=decide (l.length≤60)&&(List.range l.length).all (il l)
def eP(known:Int):List al→List Bool×List Item
 | []=>([],[])
 |x::l =>
  let b:=decide (x.known≤known) && !(eP known l).2.contains x.cW
  (b::(eP known l).1,if b&&decide (x.kind=0) then x.gZ::(eP known l).2 else (eP known l).2)
def ep(l:List al)(known:Int):List Bool:=(eP known l).1
def ed(l:List al)(known:Int):List Nat:=(List.range l.length).filter fun i=>(ep l known).getD i false
def fZ(key:Nat→Int)(i:Nat)(l:List Nat):List Nat:=(l.takeWhile fun k=>decide (key k≤key i))++i::l.dropWhile fun k=>decide (key k≤key i)
def rp(key:Nat→Int)(l:List Nat):List Nat:=l.foldl (fun o i=>fZ key i o) []
def iS(l:List al)(day known:Int):List Nat:=(ed l known).filter fun i=>decide ((ae l i).kind≠0)&&decide ((ae l i).day≤day)
def fe(l:List al)(day known:Int):List Nat:=rp (fun i=>(ae l i).day) (iS l day known)
def cB(bs:List aA)(no:Int):Option aA:=bs.find? fun b=>decide (b.no=no)
def mT(bs:List aA)(x:aA):List aA:=bs.map fun b=>if b.no=x.no then x else b
def fp(x:al):aA:=⟨x.c4,x.ec,x.dI,x.b5,x.b5,x.day,-1,false,[]⟩
def fw(bs:List aA)(x:al):Bool:=decide (x.dI≤0)||match cB bs x.dI with
 |some d=>decide (d.ec=x.ec) && !(decide (0≤d.dm)&&decide (d.dm<x.day))
 |none=>false
def fF(b:aA)(x:al):Option aA :=
 if x.kind=3 then (if b.dm≥0∨b.b5=0∨b.b5=x.b5 then none else some { b with b5:=x.b5 })
 else if x.kind=4 then some { b with aY:=b.aY++[x.aY] }
 else if x.kind=5 then some { b with b5:=x.b5,found:=true }
 else (if b.dm≥0 then none else some { b with dm:=x.day })
def di(add:List aA→aA→List aA)(bs:List aA)(x:al):Option (List aA) :=
 if x.kind=1∨x.kind=2 then (if cB bs x.c4=none∧fw bs x=true then some (add bs (fp x)) else none)
 else match cB bs x.c4 with
  |none=>none
  |some b=>(fF b x).map (mT bs)
def fk(bs:List aA)(b:aA):List aA:=bs++[b]
def fu(bs:List aA)(b:aA):List aA:=(bs.takeWhile fun a=>decide (a.no≤b.no))++b::bs.dropWhile fun a=>decide (a.no≤b.no)
def hX(add:List aA→aA→List aA)(l:List al)(s:List aA×List Nat)(i:Nat):List aA×List Nat:=match di add s.1 (ae l i) with
 |some bs=>(bs,s.2)
 |none=>(s.1,s.2++[i])
def hJ(add:List aA→aA→List aA)(l:List al)(order:List Nat):List aA×List Nat:=order.foldl (hX add l) ([],[])
theorem alf(bs:List aA)(x:aA):(mT bs x).map (·.no)=bs.map (·.no):=by
 simp only[mT,List.map_map]
 refine List.map_congr_left fun b _ =>?_
 simp only[Function.comp]
 split
 ·rename_i h;exact h.symm
 ·rfl
theorem ID{bs:List aA}{no:Int}{b:aA}(h:cB bs no=some b):b∈bs∧b.no=no:=⟨List.mem_of_find?_eq_some h,by simpa using List.find?_some h⟩
theorem sW{bs:List aA}{no:Int} : cB bs no=none↔no∉bs.map (·.no):=by
 simp[cB]
theorem ahl{bs:List aA}(hd:(bs.map (·.no)).Nodup){b:aA}(h:b∈bs):cB bs b.no=some b:=by
 induction bs with
 |nil=>cases h
 |cons a bs ih =>
  simp only[cB,List.find?_cons]
  simp only[List.map_cons,List.nodup_cons] at hd
  by_cases e:a.no=b.no
  ·rcases List.mem_cons.1 h with rfl | h
   ·simp
   ·exact absurd (List.mem_map.2 ⟨b,h,e.symm⟩) hd.1
  ·rcases List.mem_cons.1 h with rfl | h
   ·exact absurd rfl e
   ·simp only[decide_eq_false e];exact ih hd.2 h
theorem xc{bs cs:List aA}(hp:bs.Perm cs)(hd:(bs.map (·.no)).Nodup)(no:Int):cB bs no=cB cs no:=by
 have hd2:(cs.map (·.no)).Nodup:=(hp.map _).nodup_iff.1 hd
 cases h:cB bs no with
 |none =>
  refine (sW.2 fun h2=>sW.1 h ?_).symm
  exact (hp.map _).mem_iff.2 h2
 |some b =>
  obtain ⟨h1,rfl⟩:=ID h
  exact (ahl hd2 (hp.mem_iff.1 h1)).symm
theorem WX{bs cs:List aA}(hp:bs.Perm cs)(hd:(bs.map (·.no)).Nodup)(x:al):fw bs x=fw cs x:=by
 simp only[fw,xc hp hd]
def kv(add:List aA→aA→List aA):Prop:=∀ bs b,(add bs b).Perm (b::bs)
theorem r6:kv fk:=fun bs b=>List.perm_append_comm
theorem r7:kv fu:=fun bs b=>by
 have h:(bs.takeWhile fun a=>decide (a.no≤b.no))++(bs.dropWhile fun a=>decide (a.no≤b.no))=bs:=List.takeWhile_append_dropWhile
 have:=(List.perm_middle (a:=b) (l₁:=bs.takeWhile fun a=>decide (a.no≤b.no)) (l₂:=bs.dropWhile fun a=>decide (a.no≤b.no)))
 rw[h] at this
 exact this
def oY(s t:List aA×List Nat):Prop:=s.1.Perm t.1∧(s.1.map (·.no)).Nodup∧s.2=t.2
theorem z7{add:List aA→aA→List aA}(ha:kv add){bs bs':List aA}{x:al}(hd:(bs.map (·.no)).Nodup)(h:di add bs x=some bs'):(bs'.map (·.no)).Nodup:=by
 simp only[di] at h
 split at h
 ·split at h
  ·rename_i h2
   simp only[Option.some.injEq] at h
   subst h
   rw[((ha bs (fp x)).map _).nodup_iff]
   simp only[List.map_cons,List.nodup_cons]
   exact ⟨sW.1 h2.1,hd⟩
  ·cases h
 ·split at h
  ·cases h
  ·simp only[Option.map_eq_some_iff] at h
   obtain ⟨b',_,rfl⟩:=h
   rw[alf];exact hd
theorem Pp{add add':List aA→aA→List aA}(ha:kv add)(ha':kv add'){bs cs:List aA}(hp:bs.Perm cs)(hd:(bs.map (·.no)).Nodup)(x:al) :
  match di add bs x,di add' cs x with
  |some b,some c=>b.Perm c
  |none,none=>True
  |_,_=>False:=by
 simp only[di,xc hp hd,WX hp hd]
 by_cases hk:x.kind=1∨x.kind=2
 ·rw[if_pos hk,if_pos hk]
  by_cases hc:cB cs x.c4=none∧fw cs x=true
  ·rw[if_pos hc,if_pos hc]
   exact (ha bs _).trans ((hp.cons _).trans (ha' cs _).symm)
  ·rw[if_neg hc,if_neg hc];trivial
 ·rw[if_neg hk,if_neg hk]
  cases h:cB cs x.c4 with
  |none=>trivial
  |some b =>
   simp only
   cases fF b x with
   |none=>trivial
   |some b'=>exact hp.map _
theorem alQ{add add':List aA→aA→List aA}(ha:kv add)(ha':kv add')(l:List al){s t:List aA×List Nat}(h:oY s t)(i:Nat):oY (hX add l s i) (hX add' l t i):=by
 obtain ⟨h1,h2,h3⟩:=h
 have h4:=Pp ha ha' h1 h2 (ae l i)
 have h5:=fun bs'=>z7 (bs':=bs') (x:=ae l i) ha h2
 simp only[hX]
 generalize di add s.1 (ae l i)=u at h4 h5 ⊢
 generalize di add' t.1 (ae l i)=v at h4 ⊢
 cases u <;>cases v <;>simp only at h4 ⊢
 ·exact ⟨h1,h2,by rw[h3]⟩
 ·exact ⟨h4,h5 _ rfl,h3⟩
theorem vX{add add':List aA→aA→List aA}(ha:kv add)(ha':kv add')(l:List al):∀ (o:List Nat) {s t:List aA×List Nat},oY s t→oY (o.foldl (hX add l) s) (o.foldl (hX add' l) t)
 | [],_,_,h=>h
 |i::o,_,_,h=>vX ha ha' l o (alQ ha ha' l h i)
theorem J5{add add':List aA→aA→List aA}(ha:kv add)(ha':kv add')(l:List al)(o:List Nat):oY (hJ add l o) (hJ add' l o):=vX ha ha' l o ⟨.nil,.nil,rfl⟩
def fV(l:List Int):Prop:=l.Pairwise (· < ·)
theorem amm{bs:List aA}{b:aA}(h:fV (bs.map (·.no)))(hn:b.no∉bs.map (·.no)):fV ((fu bs b).map (·.no)):=by
 induction bs with
 |nil=>simp[fu,fV]
 |cons a bs ih =>
  simp only[List.map_cons,fV,List.pairwise_cons,List.mem_cons,not_or] at h hn
  by_cases e:a.no≤b.no
  ·have hlt:a.no<b.no:=by omega
   have:fu (a::bs) b=a::fu bs b:=by simp[fu,e]
   rw[this]
   simp only[List.map_cons,fV,List.pairwise_cons]
   refine ⟨fun n hm =>?_,ih h.2 hn.2⟩
   obtain ⟨c,hc,rfl⟩:=List.mem_map.1 hm
   rcases List.mem_cons.1 ((r7 bs b).mem_iff.1 hc) with rfl | hc
   ·exact hlt
   ·exact h.1 _ (List.mem_map.2 ⟨c,hc,rfl⟩)
  ·have:fu (a::bs) b=b::a::bs:=by simp[fu,e]
   rw[this]
   simp only[List.map_cons,fV,List.pairwise_cons,List.mem_cons]
   refine ⟨fun n hm =>?_,h.1,h.2⟩
   rcases hm with rfl | hm
   ·omega
   ·have:=h.1 n hm;omega
theorem yC:∀ {l m:List Int},fV l→fV m→(∀ x,x∈l↔x∈m)→l=m
 | [],[],_,_,_=>rfl
 | [],b::m,_,_,h=>by have:=(h b).2 (by simp);cases this
 |a::l,[],_,_,h=>by have:=(h a).1 (by simp);cases this
 |a::l,b::m,h1,h2,h=>by
  simp only[fV,List.pairwise_cons] at h1 h2
  have e:a=b:=by
   rcases List.mem_cons.1 ((h a).1 (by simp)) with e | e
   ·exact e
   ·rcases List.mem_cons.1 ((h b).2 (by simp)) with e2 | e2
    ·exact e2.symm
    ·have:=h1.1 b e2;have:=h2.1 a e;omega
  subst e
  congr 1
  refine yC h1.2 h2.2 fun x=>⟨fun hx =>?_,fun hx =>?_⟩
  ·rcases List.mem_cons.1 ((h x).1 (by simp[hx])) with e | e
   ·have:=h1.1 x hx;omega
   ·exact e
  ·rcases List.mem_cons.1 ((h x).2 (by simp[hx])) with e | e
   ·have:=h2.1 x hx;omega
   ·exact e
theorem alo{n:Nat}{p:List Nat}{sz k total i j:Nat}(h:i≤j)(hj:j≤k)(hk:k≤total):hU n p sz 0 k total (some (.int .i64 i)) (some (.int .i64 j)) (some (.int .i64 k))=some .c7:=by
 simp only[hU,ic]
 rw[if_pos ⟨by omega,by omega,by omega,by omega⟩]
theorem ME{n:Nat}{p:List Nat}{sz k total i j:Nat}(h:i≤j)(hk:j≤total)(h0:i<total):hU n p sz 0 k total (some (.int .i64 i)) (some (.int .i64 j)) none=some (.view n p sz i (j-i)):=by
 simp only[hU,ic]
 rw[if_pos ⟨by omega,by omega,by omega⟩,if_neg (by omega)]
 simp
theorem Pm{α:Type}[Enc α]{A:ab}{rest:List az}{esz bytes:Nat}{d:Option Nat}{e:Nat}(z x:I){n l:Nat}{xs ys:List α}(hx:eC A esz x=some (ys.map enc))(hy:ys≠[])(ho:A.o n=some (.box (.agg (xs.map enc))))(hr:l+ys.length≤xs.length) :
  gl A d e esz bytes z x rest (.view n [] esz 0 l)=ay rest ((A.aN n (.box (.agg ((xs.take l++(ys++xs.drop (l+ys.length))).map enc)))).aP d (.view n [] esz 0 (l+ys.length))):=by
 have h1:=qc (A:=A) (esz:=esz) (lo:=0) (k:=l) ho (by omega)
 have h2:(I.agg (xs.map (enc (α:=α)))).at []=some (.agg (xs.map enc)):=rfl
 have h3:I.cT (ys.map (enc (α:=α)))=I.cT (((xs.map (enc (α:=α))).drop l).take ys.length):=by
  rw[←List.map_drop,←List.map_take]
  exact MC (by rw[List.length_take,List.length_drop];omega)
 simp only[gl,h1,hx,fm]
 rw[if_neg (by simpa using hy)]
 simp only[ho,h2,List.length_map,Nat.zero_add]
 rw[if_pos hr,if_pos ⟨rfl,by rw[List.length_map,Nat.zero_add];exact h3⟩]
 simp only[iI,gP,List.length_map,List.map_append,List.map_take,List.map_drop]
theorem z1{α:Type}[Enc α]{A:ab}{rest:List az}{esz bytes:Nat}{d:Option Nat}{e:Nat}(z x:I){n l:Nat}{xs:List α}(hx:eC A esz x=some [])(ho:A.o n=some (.box (.agg (xs.map enc))))(hr:l≤xs.length) :
  gl A d e esz bytes z x rest (.view n [] esz 0 l)=ay rest (A.aP d (.view n [] esz 0 l)):=by
 have h1:=qc (A:=A) (esz:=esz) (lo:=0) (k:=l) ho (by omega)
 simp only[gl,h1,hx,fm,if_true]
theorem Xw(a b:Int):cg (.i .i64) (enc a) (enc b)=some (a==b):=by simp[ij,cg]
theorem DH:∀ (x y:List Int),x.length=y.length→((x.map (enc (α:=Int))).zip (y.map (enc (α:=Int)))).foldr (fun p acc=>iy (cg (.i .i64) p.1 p.2) acc) (some true)=some (decide (x=y))
 | [],[],_=>by simp
 |a::x,b::y,h=>by
  have ih:=DH x y (by simpa using h)
  rw[List.map_cons,List.map_cons,List.zip_cons_cons,List.foldr_cons,ih,Xw]
  by_cases hab:a=b <;>by_cases hxy:x=y <;>simp[iy,hab,hxy]
theorem px{n:Nat}(x y:bI n Int):cg (.jG n (.i .i64)) (enc x) (enc y)=some (decide (x.l=y.l)):=by
 change cg (.jG n (.i .i64)) (.agg (x.l.map enc)) (.agg (y.l.map enc))=_
 rw[cg,if_pos ⟨by simp[x.h],by simp[y.h]⟩]
 exact DH x.l y.l (by rw[x.h,y.h])
theorem NV(n:Int):av Tryz.prog 162 [enc n] (enc (!ca 0 4 n)):=by
 refine av.bn Tryz.func162 QK SH US (Nat.le_of_ble_eq_true rfl) (fun hwf W0 D0 E1 =>?_)
 simp only[A9,KS,a6]
 refine .au (by decide +kernel) fun K hK =>?_
 simp only[FV,U,simprocAttr]
 refine .done (hK _ ?_);clear hK K
 refine .au (by decide +kernel) fun K hK =>?_
 simp only[FW,U,simprocAttr]
 refine .flat _ (rT n 0 4) rfl ?_
 try simp only[U,simprocAttr]
 refine .done (hK _ ?_);clear hK K
 refine J.ret ?_
 simp only[U,simprocAttr]
theorem On(n:Int):av Tryz.prog 211 [enc n] (enc (!ca 1 31 n)):=by
 refine av.bn Tryz.func211 Rc Ta Vl (Nat.le_of_ble_eq_true rfl) (fun hwf W0 D0 E1 =>?_)
 simp only[BC,Lk,a6]
 refine .au (by decide +kernel) fun K hK =>?_
 simp only[HB,U,simprocAttr]
 refine .done (hK _ ?_);clear hK K
 refine .au (by decide +kernel) fun K hK =>?_
 simp only[HC,U,simprocAttr]
 generalize hz:(n==0)=z
 cases z
 ·try simp only[U,simprocAttr]
  refine .flat _ (zy n) rfl ?_
  try simp only[U,simprocAttr]
  refine .done (hK _ ?_);clear hK K
  refine J.ret ?_
  simp only[U,simprocAttr]
  simp at hz
  have e:(0≤n)↔(1≤n):=by omega
  simp[ca,e]
 ·try simp only[U,simprocAttr]
  refine .done (hK _ ?_);clear hK K
  refine J.ret ?_
  simp only[U,simprocAttr]
  simp at hz
  simp[ca,hz]
def nu(p:Int→Bool)(l:List Int):Int:=match l.findIdx? p with
 |some i=>i
 |none=>-1
theorem sI{α:Type}{p:α→Bool}{l:List α}(h:∀ x∈l,p x=false):l.findIdx? p=none:=by
 rw[List.findIdx?_eq_none_iff];exact h
theorem sJ{α:Type}{p:α→Bool}{l:List α}{i:Nat}(hi:i<l.length)(h:∀ x∈l.take i,p x=false)(hp:p l[i]=true):l.findIdx? p=some i:=by
 rw[List.findIdx?_eq_some_iff_getElem]
 refine ⟨hi,hp,fun j hj =>?_⟩
 have:l[j]∈l.take i:=by
  rw[List.mem_take_iff_getElem]
  exact ⟨j,by omega,rfl⟩
 simp[h _ this]
theorem NZ(l:List Int)(f:FuncId)(caps:List I)(hcaps:I.eS caps=true)(p:Int→Bool)(hf:∀ x∈l,av Tryz.prog f (enc x::caps) (enc (p x))):av Tryz.prog 166 [enc l,.func f caps] (enc (nu p l)):=by
 refine av.bn Tryz.func166 QO SL UX (Nat.le_of_ble_eq_true rfl) (fun hwf W0 D0 E1 =>?_)
 simp only[Bd,KW,a6,Nat.zero_add]
 have hlen:l.length≤maxLen:=((jZ l).1 hwf.1).1
 simp only[maxLen] at hlen
 have hcl:I.bU caps=true:=kG caps hcaps
 have hfc:∀ aB A,bY aB A caps=some caps:=fun aB A=>kJ aB A caps hcaps
 have hon:∀ q,I.bP q caps=true:=fun q=>kg q caps hcl
 refine .au (by decide +kernel) fun K hK =>?_
 simp only[F4,U,simprocAttr]
 refine .done (hK _ ?_);clear hK K
 refine J.seq ?_
 refine J.seq (J.bV (by decide +kernel) fun K hK =>?_)
 try simp only[F5,bh,U,simprocAttr]
 refine .done (hK _ ?_);clear hK K
 refine J.block (J.loop (fun i:Nat=>aq [(0,enc l),(1,.func f caps),(7,.int .i64 l.length),(8,.int .i64 i)] []) (fun i=>i≤l.length∧∀ x∈l.take i,p x=false) (fun i=>l.length-i) 0 ⟨Nat.zero_le _,by simp⟩ ?_ (fun i hi =>?_))
 ·refine aC.bZ ?_ ?_ ?_ ?_ <;>simp[aX,bO,bM,bt,aW,I.only,bB,hon]
 ·refine .au (by decide +kernel) fun K hK =>?_
  simp only[F6,U,simprocAttr]
  refine .done (hK _ ?_);clear hK K
  refine J.seq ?_
  refine J.bW ?_
  simp only[ak,U,simprocAttr]
  refine ⟨fun h =>?_,fun h =>?_⟩
  ·have hlt:i<l.length:=by simpa using h
   refine J.skip ?_;try simp only[aF,simprocAttr]
   refine J.seq (J.block ?_)
   refine .au (by decide +kernel) fun K hK =>?_
   simp only[F7,U,simprocAttr]
   refine .done (hK _ ?_);clear hK K
   refine .au (by decide +kernel) fun K hK =>?_
   simp only[F8,U,simprocAttr]
   try simp only[eA 1 hlt rfl,List.cons_append,hfc,U,simprocAttr]
   refine .flat _ (hf _ (List.getElem_mem hlt)) rfl ?_
   try simp only[U,simprocAttr]
   refine .done (hK _ ?_);clear hK K
   refine J.bW ?_
   simp only[ak,U,simprocAttr]
   refine ⟨fun h =>?_,fun h =>?_⟩
   ·refine .au (by decide +kernel) fun K hK =>?_
    simp only[F9,U,simprocAttr]
    refine .done (hK _ ?_);clear hK K
    refine J.ret ?_
    simp only[b8,aF,U,simprocAttr]
    simp[nu,sJ hlt hi.2 h]
   ·refine J.skip ?_;try simp only[aF,b8,simprocAttr]
    refine .bV (by decide +kernel) fun K hK =>?_
    simp only[Ga,U,simprocAttr]
    refine .done (hK _ ?_);clear hK K;try simp only[aF]
    refine ⟨i+1,⟨by omega,fun x hm =>?_⟩,by omega,?_⟩
    ·rw[List.take_succ_eq_append_getElem hlt] at hm
     rcases List.mem_append.1 hm with hm | hm
     ·exact hi.2 x hm
     ·simp at hm;rw[hm];exact h
    ·rw[dz _ (by omega) (by omega)]
     refine aC.bZ ?_ ?_ ?_ ?_ <;>simp[aX,bO,bM,bt,aW,I.only,bB,hon]
  ·have hge:i=l.length:=by simp at h;omega
   refine J.exit ?_;try simp only[aF,b8,simprocAttr]
   refine .au (by decide +kernel) fun K hK =>?_
   simp only[Gb,U,simprocAttr]
   refine .done (hK _ ?_);clear hK K
   refine J.ret ?_
   simp only[U,simprocAttr]
   simp[hge] at hi
   simp[nu,sI hi]
theorem IN(p:Int→Bool)(l:List Int):decide (0≤nu p l)=l.any p:=by
 unfold nu
 cases h:l.findIdx? p with
 |none =>
  rw[List.findIdx?_eq_none_iff] at h
  have:l.any p=false:=by rw[List.any_eq_false];intro x hx;simp[h x hx]
  simp[this]
 |some i =>
  rw[List.findIdx?_eq_some_iff_getElem] at h
  obtain ⟨h1,h2,_⟩:=h
  have:l.any p=true:=by rw[List.any_eq_true];exact ⟨_,List.getElem_mem h1,h2⟩
  rw[this]
  exact decide_eq_true (Int.natCast_nonneg i)
theorem uG(l:List Int)(f:FuncId)(caps:List I)(hcaps:I.eS caps=true)(p:Int→Bool)(hf:∀ x∈l,av Tryz.prog f (enc x::caps) (enc (p x))):av Tryz.prog 125 [enc l,.func f caps] (enc (l.any p)):=by
 refine av.bn Tryz.func125 Ql Sf Us (Nat.le_of_ble_eq_true rfl) (fun hwf W0 D0 E1 =>?_)
 simp only[AF,Kr,a6,Nat.zero_add]
 have hcl:I.bU caps=true:=kG caps hcaps
 have hfc:∀ aB A,bY aB A caps=some caps:=fun aB A=>kJ aB A caps hcaps
 refine .au (by decide +kernel) fun K hK =>?_
 simp only[EL,U,simprocAttr]
 refine .done (hK _ ?_);clear hK K
 refine .au (by decide +kernel) fun K hK =>?_
 simp only[EM,U,simprocAttr]
 try simp only[fb,hfc,U,simprocAttr]
 refine .flat _ (NZ l f caps hcaps p hf) rfl ?_
 try simp only[U,simprocAttr]
 refine .done (hK _ ?_);clear hK K
 refine J.ret ?_
 simp only[U,simprocAttr]
 rw[IN]
theorem Dr{α:Type}[Enc α]{n sz:Nat}(x:bI n α)(hs:Enc.sz α=sz):j6 sz 0 n (some (x.l.map enc))=some (enc x.l):=by
 have h:((x.l.map (enc (α:=α))).drop 0).take n=x.l.map enc:=by
  rw[List.drop_zero,List.take_of_length_le];simp[x.h]
 simp only[j6,h]
 rw[if_pos (jI x.l),fW,hs]
theorem M7{α:Type}[Enc α]{n sz:Nat}(x:bI n α)(hs:Enc.sz α=sz)(h1:n≤maxLen)(h0:n≠0)(y:I):oT n sz (x.l.map enc) y=some y:=by
 simp only[oT];rw[if_pos ⟨vN n sz x.l x.h hs,h1,h0⟩]
theorem zU(p:Int→Bool)(x:bI 6 Int):x.l.any (fun v => !p v) = !(List.range 6).all (fun i=>p (x.g i)):=by
 have h:(List.range 6).all (fun i=>p (x.g i))=x.l.all p:=by
  rw[Bool.eq_iff_iff]
  simp only[List.all_eq_true,List.mem_range]
  constructor
  ·intro h v hv
   obtain ⟨i,hi,rfl⟩:=List.getElem_of_mem hv
   have:=h i (by rw[x.h] at hi;exact hi)
   rwa [←x.sU (by rw[x.h] at hi;exact hi)] at this
  ·intro h i hi
   rw[←x.sU hi]
   exact h _ (List.getElem_mem _)
 rw[h,List.not_all_eq_any_not]
theorem Nw(m:bI 6 Int):av Tryz.prog 123 [enc m] (enc (gf m)):=by
 refine av.bn Tryz.func123 Qj Sd Uq (Nat.le_of_ble_eq_true rfl) (fun hwf W0 D0 E1 =>?_)
 simp only[AD,Kp,a6]
 refine .au (by decide +kernel) fun K hK =>?_
 simp only[EH,U,simprocAttr]
 refine .done (hK _ ?_);clear hK K
 refine .au (by decide +kernel) fun K hK =>?_
 simp only[EI,U,simprocAttr]
 try simp only[bh,M7 (sz:=1) m rfl (Nat.le_of_ble_eq_true rfl) (Nat.succ_ne_zero 5),Dr (sz:=1) m rfl,U,simprocAttr]
 refine .flat _ (uG m.l 162 [] rfl (fun n => !ca 0 4 n) (fun x _=>NV x)) rfl ?_
 try simp only[U,simprocAttr]
 refine .done (hK _ ?_);clear hK K
 refine J.ret ?_
 simp only[U,simprocAttr]
 rw[zU (ca 0 4)];simp[gf]
theorem Oc(m:bI 6 Int):av Tryz.prog 193 [enc m] (enc (lS m)):=by
 refine av.bn Tryz.func193 Q1 SZ Va (Nat.le_of_ble_eq_true rfl) (fun hwf W0 D0 E1 =>?_)
 simp only[Bq,K9,a6]
 refine .au (by decide +kernel) fun K hK =>?_
 simp only[Gx,U,simprocAttr]
 refine .done (hK _ ?_);clear hK K
 refine .au (by decide +kernel) fun K hK =>?_
 simp only[Gy,U,simprocAttr]
 try simp only[bh,M7 (sz:=1) m rfl (Nat.le_of_ble_eq_true rfl) (Nat.succ_ne_zero 5),Dr (sz:=1) m rfl,U,simprocAttr]
 refine .flat _ (uG m.l 211 [] rfl (fun n => !ca 1 31 n) (fun x _=>On x)) rfl ?_
 try simp only[U,simprocAttr]
 refine .done (hK _ ?_);clear hK K
 refine J.ret ?_
 simp only[U,simprocAttr]
 rw[zU (ca 1 31)];simp[lS]
theorem Nv(n:Int):av Tryz.prog 122 [enc n] (enc (ca 1 99 n)):=by
 refine av.bn Tryz.func122 Qi Sc Up (Nat.le_of_ble_eq_true rfl) (fun hwf W0 D0 E1 =>?_)
 simp only[AB,Ko,a6]
 refine .au (by decide +kernel) fun K hK =>?_
 simp only[EF,U,simprocAttr]
 refine .done (hK _ ?_);clear hK K
 refine .au (by decide +kernel) fun K hK =>?_
 simp only[EG,U,simprocAttr]
 refine .flat _ (rT n 1 99) rfl ?_
 try simp only[U,simprocAttr]
 refine .done (hK _ ?_);clear hK K
 refine J.ret ?_
 simp only[U,simprocAttr]
theorem zw(m:bI 6 Int):av Tryz.prog 157 [enc m] (enc (if lS m then (0:Int) else 12)):=by
 refine av.bn Tryz.func157 QE SB UM (Nat.le_of_ble_eq_true rfl) (fun hwf W0 D0 E1 =>?_)
 simp only[AZ,KM,a6]
 refine .au (by decide +kernel) fun K hK =>?_
 simp only[Ft,U,simprocAttr]
 refine .done (hK _ ?_);clear hK K
 refine J.seq (J.seq ?_)
 refine .bV (by decide +kernel) fun K hK =>?_
 simp only[Fu,U,simprocAttr]
 try simp only[er,fb,U,simprocAttr]
 refine .flat _ (Oc m) rfl ?_
 generalize hm:lS m=b
 cases b
 ·try simp only[U,simprocAttr]
  refine .done (hK _ ?_);clear hK K;try simp only[aF]
  refine J.bW ?_
  simp only[ak,U,simprocAttr]
  refine ⟨fun h =>?_,fun h =>?_⟩
  ·refine .au (by decide +kernel) fun K hK =>?_
   simp only[Fv,U,simprocAttr]
   refine .done (hK _ ?_);clear hK K
   refine J.ret ?_
   simp only[aF,U,simprocAttr]
   simp[hm]
  ·cases h
 ·try simp only[U,simprocAttr]
  refine .done (hK _ ?_);clear hK K
  refine J.bW ?_
  simp only[ak,U,simprocAttr]
  refine ⟨fun h =>?_,fun h =>?_⟩
  ·cases h
  ·refine J.skip ?_;try simp only[aF,simprocAttr]
   refine .au (by decide +kernel) fun K hK =>?_
   simp only[Fw,U,simprocAttr]
   refine .done (hK _ ?_);clear hK K
   refine J.ret ?_
   simp only[U,simprocAttr]
   simp[hm]
def xk(s:Int)(k:Nat):Bool:=nV (s.fdiv (2^min k IntKind.i64.bits)) 1==1
theorem NU(s:Int)(k:Nat):av Tryz.prog 161 [enc s,enc (k:Int)] (enc (xk s k)):=by
 refine av.bn Tryz.func161 QJ SG UR (Nat.le_of_ble_eq_true rfl) (fun hwf W0 D0 E1 =>?_)
 simp only[A8,KR,a6,Nat.zero_add]
 refine .au (by decide +kernel) fun K hK =>?_
 simp only[FT,U,simprocAttr]
 refine .done (hK _ ?_);clear hK K
 refine .au (by decide +kernel) fun K hK =>?_
 simp only[FU,U,simprocAttr]
 refine .done (hK _ ?_);clear hK K
 refine J.ret ?_
 simp only[U,simprocAttr]
 rfl
theorem ahP(s:Int)(h0:0≤s)(h1:s≤31)(k:Nat)(hk:k<5):xk s k=kC s k:=by
 have key:∀ s:Fin 32,∀ k:Fin 5,xk (s.1:Int) k.1=kC (s.1:Int) k.1:=by decide +kernel
 have:=key ⟨s.toNat,by omega⟩ ⟨k,hk⟩
 simpa[Int.toNat_of_nonneg h0] using this
theorem Nu(m:bI 5 Int):av Tryz.prog 120 [enc m] (enc (pV m)):=by
 refine av.bn Tryz.func120 Qg Sa Un (Nat.le_of_ble_eq_true rfl) (fun hwf W0 D0 E1 =>?_)
 simp only[Az,Km,a6]
 refine .au (by decide +kernel) fun K hK =>?_
 simp only[Eu,U,simprocAttr]
 refine .done (hK _ ?_);clear hK K
 refine J.seq ?_
 refine J.seq (J.bV (by decide +kernel) fun K hK =>?_)
 try simp only[Ev,er,U,simprocAttr]
 refine .done (hK _ ?_);clear hK K
 refine J.block (J.loop (fun i:Nat=>aq [(2,.bool false),(6,enc m),(7,.int .i64 i)] []) (fun j=>j≤5∧∀ i,i<j→(ca 0 31 (m.g i)&&kC (m.g i) i)=true) (fun i=>5-i) 0 ⟨by omega,fun k h=>by omega⟩ ?_ (fun i hi =>?_))
 ·refine aC.bZ ?_ ?_ ?_ ?_ <;>simp[aX,bO,bM,bt,aW,I.only,bB]
 ·refine .au (by decide +kernel) fun K hK =>?_
  simp only[Ew,U,simprocAttr]
  refine .done (hK _ ?_);clear hK K
  refine J.seq ?_
  refine J.bW ?_
  simp only[ak,U,simprocAttr]
  refine ⟨fun h =>?_,fun h =>?_⟩
  ·have hlt:i<5:=by simp at h;omega
   refine J.skip ?_;try simp only[aF,simprocAttr]
   refine J.seq (J.block ?_)
   refine .au (by decide +kernel) fun K hK =>?_
   simp only[Ey,U,simprocAttr]
   try simp only[qT,bh,oj 1 m hlt rfl,sY m hlt,U,simprocAttr]
   refine .done (hK _ ?_);clear hK K
   refine .au (by decide +kernel) fun K hK =>?_
   simp only[Ez,U,simprocAttr]
   refine .done (hK _ ?_);clear hK K
   refine .au (by decide +kernel) fun K hK =>?_
   simp only[EA,U,simprocAttr]
   refine .flat _ (zy _) rfl ?_
   generalize hb:ca 0 31 (m.g i)=b
   cases b
   ·try simp only[U,simprocAttr]
    refine .done (hK _ ?_);clear hK K
    refine J.bW ?_
    simp only[ak,U,simprocAttr]
    refine ⟨fun h =>?_,fun h =>?_⟩
    ·refine .au (by decide +kernel) fun K hK =>?_
     simp only[wc,U,simprocAttr]
     refine .done (hK _ ?_);clear hK K
     refine J.ret ?_
     simp only[b8,aF,U,simprocAttr]
     rw[pV,m6 i hlt]
     simp[hb]
    ·cases h
   ·have hr:0≤m.g i∧m.g i≤31:=by simpa[ca] using hb
    try simp only[U,simprocAttr]
    refine .flat _ (NU (m.g i) i) rfl ?_
    rw[ahP _ hr.1 hr.2 i hlt]
    try simp only[U,simprocAttr]
    refine .done (hK _ ?_);clear hK K
    refine J.bW ?_
    simp only[ak,U,simprocAttr]
    refine ⟨fun h =>?_,fun h =>?_⟩
    ·refine .au (by decide +kernel) fun K hK =>?_
     simp only[wc,U,simprocAttr]
     refine .done (hK _ ?_);clear hK K
     refine J.ret ?_
     simp only[b8,aF,U,simprocAttr]
     rw[pV,m6 i hlt]
     simp at h
     simp[h]
    ·refine J.skip ?_;try simp only[aF,b8,simprocAttr]
     refine .bV (by decide +kernel) fun K hK =>?_
     simp only[EB,U,simprocAttr]
     refine .done (hK _ ?_);clear hK K;try simp only[aF]
     refine ⟨i+1,⟨by omega,fun k hk =>?_⟩,by omega,?_⟩
     ·by_cases hk':k=i
      ·subst hk'
       simp at h
       simp[hb,h]
      ·exact hi.2 k (by omega)
     ·rw[dz _ (by omega) (by omega)]
      refine aC.bZ ?_ ?_ ?_ ?_ <;>simp[aX,bO,bM,bt,aW,I.only,bB]
  ·have hge:i=5:=by simp at h;omega
   subst hge
   refine J.exit ?_;try simp only[aF,b8,simprocAttr]
   refine .au (by decide +kernel) fun K hK =>?_
   simp only[EC,U,simprocAttr]
   refine .done (hK _ ?_);clear hK K
   refine J.ret ?_
   simp only[U,simprocAttr]
   rw[pV,o7 hi.2]
theorem zD(f:FuncId)(caps:List I)(hcaps:I.eS caps=true)(p:Nat→Bool)(hf:∀ i:Nat,i<6→av Tryz.prog f (enc (i:Int)::caps) (enc (p i))):av Tryz.prog 197 [.func f caps] (enc (jK (fun i => !p i) 6:Int)):=by
 refine av.bn Tryz.func197 Q5 S3 Ve (Nat.le_of_ble_eq_true rfl) (fun hwf W0 D0 E1 =>?_)
 simp only[Bv,Ld,a6]
 have hcl:I.bU caps=true:=kG caps hcaps
 have hfc:∀ aB A,bY aB A caps=some caps:=fun aB A=>kJ aB A caps hcaps
 have hon:∀ q,I.bP q caps=true:=fun q=>kg q caps hcl
 refine .au (by decide +kernel) fun K hK =>?_
 simp only[GM,U,simprocAttr]
 refine .done (hK _ ?_);clear hK K
 refine .au (by decide +kernel) fun K hK =>?_
 simp only[GN,U,simprocAttr]
 refine .done (hK _ ?_);clear hK K
 refine J.seq ?_
 refine .au (by decide +kernel) fun K hK =>?_
 simp only[GO,U,simprocAttr]
 refine .done (hK _ ?_);clear hK K
 refine J.block (J.loop (fun i:Nat=>aq [(0,.func f caps),(3,.int .i64 (jK (fun i => !p i) i:Int)),(5,.int .i64 i)] []) (fun i=>i≤6∧jK (fun i => !p i) i≤i) (fun i=>6-i) 0 ⟨by omega,by simp[jK]⟩ ?_ (fun i hi =>?_))
 ·refine aC.bZ ?_ ?_ ?_ ?_ <;>simp[aX,bO,bM,bt,aW,I.only,hon,jK]
 ·refine .au (by decide +kernel) fun K hK =>?_
  simp only[GP,U,simprocAttr]
  refine .done (hK _ ?_);clear hK K
  refine J.seq ?_
  refine J.bW ?_
  simp only[ak,U,simprocAttr]
  refine ⟨fun h =>?_,fun h =>?_⟩
  ·have hlt:i<6:=by simp at h;omega
   refine J.skip ?_;try simp only[aF,simprocAttr]
   refine J.seq (J.block ?_)
   refine .au (by decide +kernel) fun K hK =>?_
   simp only[GQ,U,simprocAttr]
   refine .done (hK _ ?_);clear hK K
   refine .au (by decide +kernel) fun K hK =>?_
   simp only[GR,U,simprocAttr]
   try simp only[List.cons_append,hfc,U,simprocAttr]
   refine .flat _ (hf i hlt) rfl ?_
   try simp only[U,simprocAttr]
   refine .done (hK _ ?_);clear hK K
   refine J.bW ?_
   simp only[ak,U,simprocAttr]
   refine ⟨fun h =>?_,fun h =>?_⟩
   ·simp at h
    refine .bV (by decide +kernel) fun K hK =>?_
    simp only[GS,U,simprocAttr]
    refine .done (hK _ ?_);clear hK K;try simp only[aF,b8]
    refine .bV (by decide +kernel) fun K hK =>?_
    simp only[wL,U,simprocAttr]
    refine .done (hK _ ?_);clear hK K;try simp only[aF]
    refine ⟨i+1,⟨by omega,?_⟩,by omega,?_⟩
    ·simp only[jK];split <;>omega
    ·rw[dz _ (by omega) (by omega),dz _ (by omega) (by omega)]
     refine aC.bZ ?_ ?_ ?_ ?_ <;>simp[aX,bO,bM,bt,aW,I.only,hon,jK,h]
   ·simp at h
    refine J.skip ?_;try simp only[aF,b8,simprocAttr]
    refine .bV (by decide +kernel) fun K hK =>?_
    simp only[wL,U,simprocAttr]
    refine .done (hK _ ?_);clear hK K;try simp only[aF]
    refine ⟨i+1,⟨by omega,?_⟩,by omega,?_⟩
    ·simp only[jK];split <;>omega
    ·rw[dz _ (by omega) (by omega)]
     refine aC.bZ ?_ ?_ ?_ ?_ <;>simp[aX,bO,bM,bt,aW,I.only,hon,jK,h]
  ·have hge:i=6:=by simp at h;omega
   subst hge
   refine J.exit ?_;try simp only[aF,b8,simprocAttr]
   refine .au (by decide +kernel) fun K hK =>?_
   simp only[GU,U,simprocAttr]
   refine .done (hK _ ?_);clear hK K
   refine J.ret ?_
   simp only[U,simprocAttr]
theorem Oo(w:bI 5 Int)(m r:bI 6 Int)(hm:gf m=true)(i:Nat)(hi:i<6):av Tryz.prog 212 (enc (i:Int)::[.ref (.func 196 []),.ref (enc w),.ref (enc m),.ref (enc r)]) (enc (!sw w m r i)):=by
 obtain ⟨h0,h5⟩:=x5 hm hi
 refine av.bn Tryz.func212 Re Tb Vm (Nat.le_of_ble_eq_true rfl) (fun hwf W0 D0 E1 =>?_)
 simp only[BD,Ll,a6,Nat.zero_add,Nat.reduceAdd]
 refine .au (by decide +kernel) fun K hK =>?_
 simp only[HD,U,simprocAttr]
 refine .done (hK _ ?_);clear hK K
 refine .au (by decide +kernel) fun K hK =>?_
 simp only[HE,U,simprocAttr]
 try simp only[er,fb,U,simprocAttr]
 refine .flat _ (uK w m i hi h0 h5) rfl ?_
 try simp only[bh,oj 1 r hi rfl,qO,sY r hi,List.append_nil,U,simprocAttr]
 refine .flat _ (zC _ _) rfl ?_
 try simp only[U,simprocAttr]
 refine .done (hK _ ?_);clear hK K
 refine J.ret ?_
 simp only[U,simprocAttr]
 simp[sw,bne]
theorem Od(w:bI 5 Int)(a b:bI 6 Int)(ha:gf a=true)(hb:gf b=true)(i:Nat)(hi:i<6):av Tryz.prog 198 (enc (i:Int)::[.ref (.func 196 []),.ref (enc w),.ref (enc a),.ref (enc b)]) (enc (!qv w a b i)):=by
 obtain ⟨h0,h5⟩:=x5 ha hi
 obtain ⟨k0,k5⟩:=x5 hb hi
 refine av.bn Tryz.func198 Q6 S4 Vf (Nat.le_of_ble_eq_true rfl) (fun hwf W0 D0 E1 =>?_)
 simp only[Bw,Le,a6,Nat.zero_add,Nat.reduceAdd]
 refine .au (by decide +kernel) fun K hK =>?_
 simp only[GV,U,simprocAttr]
 refine .done (hK _ ?_);clear hK K
 refine .au (by decide +kernel) fun K hK =>?_
 simp only[GW,U,simprocAttr]
 try simp only[er,fb,U,simprocAttr]
 refine .flat _ (uK w a i hi h0 h5) rfl ?_
 try simp only[er,fb,U,simprocAttr]
 refine .flat _ (uK w b i hi k0 k5) rfl ?_
 try simp only[List.append_nil,U,simprocAttr]
 refine .flat _ (zC _ _) rfl ?_
 try simp only[U,simprocAttr]
 refine .done (hK _ ?_);clear hK K
 refine J.ret ?_
 simp only[U,simprocAttr]
 simp[qv,bne]
theorem MR{A:ab}{n:Nat}{b:I}{f:FuncId}{caps:List I}{rest:List az} : dg A none n [] b (.func f caps) rest (some .de)=ay rest (A.aN n (.box (b.dH [] (.func f caps)))):=eD rfl rfl (by simp[I.aR])
theorem Oh(w:bI 5 Int)(m r:bI 6 Int)(hm:gf m=true):av Tryz.prog 202 [enc w,enc m,enc r] (enc (mh w m r)):=by
 refine av.bn Tryz.func202 Ra S8 Vj (Nat.le_of_ble_eq_true rfl) (fun hwf W0 D0 E1 =>?_)
 simp only[BA,Li,a6,Nat.zero_add,Nat.reduceAdd]
 refine .au (by decide +kernel) fun K hK =>?_
 simp only[G9,U,simprocAttr]
 try simp only[dQ,U,simprocAttr]
 refine .done (hK _ ?_);clear hK K
 refine .au (by decide +kernel) fun K hK =>?_
 simp only[Ha,U,simprocAttr]
 try simp only[MR,U,simprocAttr]
 refine .done (hK _ ?_);clear hK K
 refine .au (by decide +kernel) fun K hK =>?_
 simp only[Hb,U,simprocAttr]
 try simp only[List.all_cons,List.all_nil,I.cm,Bool.and_self,dP,U,simprocAttr]
 refine .flat _ (zD 212 [.ref (.func 196 []),.ref (enc w),.ref (enc m),.ref (enc r)] ?_ (fun i => !sw w m r i) (fun i hi=>Oo w m r hm i hi)) rfl ?_
 ·simp only[I.eS,I.done,I.br,I.bU,dP,Bool.and_self]
 try simp only[U,simprocAttr]
 refine .done (hK _ ?_);clear hK K
 refine J.ret ?_
 simp only[U,simprocAttr]
 simp only[mh,Bool.not_not]
theorem NY(w:bI 5 Int)(a b:bI 6 Int)(ha:gf a=true)(hb:gf b=true):av Tryz.prog 165 [enc w,enc a,enc b] (enc (jK (qv w a b) 6:Int)):=by
 refine av.bn Tryz.func165 QN SK UW (Nat.le_of_ble_eq_true rfl) (fun hwf W0 D0 E1 =>?_)
 simp only[Bc,KV,a6,Nat.zero_add,Nat.reduceAdd]
 refine .au (by decide +kernel) fun K hK =>?_
 simp only[F1,U,simprocAttr]
 try simp only[dQ,U,simprocAttr]
 refine .done (hK _ ?_);clear hK K
 refine .au (by decide +kernel) fun K hK =>?_
 simp only[F2,U,simprocAttr]
 try simp only[MR,U,simprocAttr]
 refine .done (hK _ ?_);clear hK K
 refine .au (by decide +kernel) fun K hK =>?_
 simp only[F3,U,simprocAttr]
 try simp only[List.all_cons,List.all_nil,I.cm,Bool.and_self,dP,U,simprocAttr]
 refine .flat _ (zD 198 [.ref (.func 196 []),.ref (enc w),.ref (enc a),.ref (enc b)] ?_ (fun i => !qv w a b i) (fun i hi=>Od w a b ha hb i hi)) rfl ?_
 ·simp only[I.eS,I.done,I.br,I.bU,dP,Bool.and_self]
 try simp only[U,simprocAttr]
 refine .done (hK _ ?_);clear hK K
 refine J.ret ?_
 simp only[U,simprocAttr]
 simp only[Bool.not_not]
theorem NX(m:cH)(g:cv)(k:bI 6 Int)(hg:gf g.mark=true)(hk:gf k=true):av Tryz.prog 164 (enc g::[.ref (enc m),.ref (enc k)]) (enc (nM m g.mark k)):=by
 refine av.bn Tryz.func164 QM SJ UU (Nat.le_of_ble_eq_true rfl) (fun hwf W0 D0 E1 =>?_)
 simp only[Bb,KU,a6,Nat.zero_add,Nat.reduceAdd]
 refine .au (by decide +kernel) fun K hK =>?_
 simp only[FZ,U,simprocAttr]
 try simp only[dQ,U,simprocAttr]
 refine .done (hK _ ?_);clear hK K
 refine .au (by decide +kernel) fun K hK =>?_
 simp only[F0,U,simprocAttr]
 try simp only[er,fb,U,simprocAttr]
 refine .flat _ (NY m.gC g.mark k hg hk) rfl ?_
 try simp only[er,U,simprocAttr]
 refine .done (hK _ ?_);clear hK K
 refine J.ret ?_
 simp only[U,simprocAttr]
 rfl
theorem uJ(l:List cv)(f:FuncId)(caps:List I)(hcaps:I.eS caps=true)(p:cv→Bool)(hf:∀ x∈l,av Tryz.prog f (enc x::caps) (enc (p x))):av Tryz.prog 195 [enc l,.func f caps] (enc (match l.findIdx? p with | some i=>(i:Int) | none=>-1)):=by
 refine av.bn Tryz.func195 Q3 S1 Vc (Nat.le_of_ble_eq_true rfl) (fun hwf W0 D0 E1 =>?_)
 simp only[Bt,Lb,a6,Nat.zero_add]
 have hlen:l.length≤maxLen:=((jZ l).1 hwf.1).1
 simp only[maxLen] at hlen
 have hcl:I.bU caps=true:=kG caps hcaps
 have hfc:∀ aB A,bY aB A caps=some caps:=fun aB A=>kJ aB A caps hcaps
 have hon:∀ q,I.bP q caps=true:=fun q=>kg q caps hcl
 refine .au (by decide +kernel) fun K hK =>?_
 simp only[GB,U,simprocAttr]
 refine .done (hK _ ?_);clear hK K
 refine J.seq ?_
 refine J.seq (J.bV (by decide +kernel) fun K hK =>?_)
 try simp only[GC,bh,U,simprocAttr]
 refine .done (hK _ ?_);clear hK K
 refine J.block (J.loop (fun i:Nat=>aq [(0,enc l),(1,.func f caps),(7,.int .i64 l.length),(8,.int .i64 i)] []) (fun i=>i≤l.length∧∀ x∈l.take i,p x=false) (fun i=>l.length-i) 0 ⟨Nat.zero_le _,by simp⟩ ?_ (fun i hi =>?_))
 ·refine aC.bZ ?_ ?_ ?_ ?_ <;>simp[aX,bO,bM,bt,aW,I.only,bB,hon]
 ·refine .au (by decide +kernel) fun K hK =>?_
  simp only[GD,U,simprocAttr]
  refine .done (hK _ ?_);clear hK K
  refine J.seq ?_
  refine J.bW ?_
  simp only[ak,U,simprocAttr]
  refine ⟨fun h =>?_,fun h =>?_⟩
  ·have hlt:i<l.length:=by simpa using h
   refine J.skip ?_;try simp only[aF,simprocAttr]
   refine J.seq (J.block ?_)
   refine .au (by decide +kernel) fun K hK =>?_
   simp only[GF,U,simprocAttr]
   refine .done (hK _ ?_);clear hK K
   refine .au (by decide +kernel) fun K hK =>?_
   simp only[GG,U,simprocAttr]
   try simp only[eA 7 hlt rfl,er,List.cons_append,hfc,fb,U,simprocAttr]
   refine .flat _ (hf _ (List.getElem_mem hlt)) rfl ?_
   try simp only[U,simprocAttr]
   refine .done (hK _ ?_);clear hK K
   refine J.bW ?_
   simp only[ak,U,simprocAttr]
   refine ⟨fun h =>?_,fun h =>?_⟩
   ·refine .au (by decide +kernel) fun K hK =>?_
    simp only[GH,U,simprocAttr]
    refine .done (hK _ ?_);clear hK K
    refine J.ret ?_
    simp only[b8,aF,U,simprocAttr]
    simp[sJ hlt hi.2 h]
   ·refine J.skip ?_;try simp only[aF,b8,simprocAttr]
    refine .bV (by decide +kernel) fun K hK =>?_
    simp only[GI,U,simprocAttr]
    refine .done (hK _ ?_);clear hK K;try simp only[aF]
    refine ⟨i+1,⟨by omega,fun x hm =>?_⟩,by omega,?_⟩
    ·rw[List.take_succ_eq_append_getElem hlt] at hm
     rcases List.mem_append.1 hm with hm | hm
     ·exact hi.2 x hm
     ·simp at hm;rw[hm];exact h
    ·rw[dz _ (by omega) (by omega)]
     refine aC.bZ ?_ ?_ ?_ ?_ <;>simp[aX,bO,bM,bt,aW,I.only,bB,hon]
  ·have hge:i=l.length:=by simp at h;omega
   refine J.exit ?_;try simp only[aF,b8,simprocAttr]
   refine .au (by decide +kernel) fun K hK =>?_
   simp only[GJ,U,simprocAttr]
   refine .done (hK _ ?_);clear hK K
   refine J.ret ?_
   simp only[U,simprocAttr]
   simp[hge] at hi
   simp[sI hi]
theorem X5{α:Type}(p:α→Bool)(l:List α):decide (0≤(match l.findIdx? p with | some i=>(i:Int) | none=>-1))=l.any p:=by
 cases h:l.findIdx? p with
 |none =>
  rw[List.findIdx?_eq_none_iff] at h
  have:l.any p=false:=by rw[List.any_eq_false];intro x hx;simp[h x hx]
  simp[this]
 |some i =>
  rw[List.findIdx?_eq_some_iff_getElem] at h
  obtain ⟨h1,h2,_⟩:=h
  have:l.any p=true:=by rw[List.any_eq_true];exact ⟨_,List.getElem_mem h1,h2⟩
  rw[this]
  exact decide_eq_true (Int.natCast_nonneg i)
theorem NW(l:List cv)(f:FuncId)(caps:List I)(hcaps:I.eS caps=true)(p:cv→Bool)(hf:∀ x∈l,av Tryz.prog f (enc x::caps) (enc (p x))):av Tryz.prog 163 [enc l,.func f caps] (enc (l.any p)):=by
 refine av.bn Tryz.func163 QL SI UT (Nat.le_of_ble_eq_true rfl) (fun hwf W0 D0 E1 =>?_)
 simp only[Ba,KT,a6,Nat.zero_add]
 have hcl:I.bU caps=true:=kG caps hcaps
 have hfc:∀ aB A,bY aB A caps=some caps:=fun aB A=>kJ aB A caps hcaps
 refine .au (by decide +kernel) fun K hK =>?_
 simp only[FX,U,simprocAttr]
 refine .done (hK _ ?_);clear hK K
 refine .au (by decide +kernel) fun K hK =>?_
 simp only[FY,U,simprocAttr]
 try simp only[fb,hfc,U,simprocAttr]
 refine .flat _ (uJ l f caps hcaps p hf) rfl ?_
 try simp only[U,simprocAttr]
 refine .done (hK _ ?_);clear hK K
 refine J.ret ?_
 simp only[U,simprocAttr]
 rw[X5]
theorem zq(m:cH)(l:List cv)(k:bI 6 Int)(hl:∀ g∈l,gf g.mark=true)(hk:gf k=true):av Tryz.prog 124 [enc m,enc l,enc k] (enc (!l.any fun g=>nM m g.mark k)):=by
 refine av.bn Tryz.func124 Qk Se Ur (Nat.le_of_ble_eq_true rfl) (fun hwf W0 D0 E1 =>?_)
 simp only[AE,Kq,a6,Nat.zero_add,Nat.reduceAdd]
 refine .au (by decide +kernel) fun K hK =>?_
 simp only[EJ,U,simprocAttr]
 try simp only[dQ,U,simprocAttr]
 refine .done (hK _ ?_);clear hK K
 refine .au (by decide +kernel) fun K hK =>?_
 simp only[EK,U,simprocAttr]
 try simp only[List.all_cons,List.all_nil,I.cm,Bool.and_self,dP,fb,U,simprocAttr]
 refine .flat _ (NW l 164 [.ref (enc m),.ref (enc k)] ?_ (fun g=>nM m g.mark k) (fun g hg=>NX m g k (hl g hg) hk)) rfl ?_
 ·simp only[I.eS,I.done,dP,Bool.and_self]
 try simp only[U,simprocAttr]
 refine .done (hK _ ?_);clear hK K
 refine J.ret ?_
 simp only[U,simprocAttr]
theorem yT{α:Type}[Enc α]{A:ab}(esz:Nat){l:List α}{i:Nat}(h:i≤l.length)(hs:Enc.sz α=esz):mW A esz none (some (.int .i64 i)) none (enc l)=some (enc (l.take i)):=by
 simp only[mW,fW,hs,if_true,jD,ic,List.length_map]
 rw[if_pos ⟨by omega,by omega,by omega,by omega⟩]
 simp
theorem zW(m:cH)(k:bI 6 Int){i:Nat}(h:i≤m.given.length):(!(m.given.take i).any fun g=>nM m g.mark k)=(List.range i).all (fun j => !nM m (eE m j).mark k):=by
 rw[Bool.eq_iff_iff]
 simp only[Bool.not_eq_true',List.any_eq_false,List.all_eq_true,List.mem_range]
 constructor
 ·intro h1 j hj
  have hjl:j<m.given.length:=by omega
  have:=h1 m.given[j] (by rw[List.mem_take_iff_getElem];exact ⟨j,by omega,rfl⟩)
  rw[kK hjl] at this
  simpa using this
 ·intro h1 g hg
  rw[List.mem_take_iff_getElem] at hg
  obtain ⟨j,hj,rfl⟩:=hg
  have hjl:j<m.given.length:=by omega
  rw[kK hjl]
  simpa using h1 j (by omega)
theorem uN(m:cH):av Tryz.prog 66 [enc m] (enc (if gN m then (0:Int) else 13)):=by
 refine av.bn Tryz.func66 Ry Tw VG (Nat.le_of_ble_eq_true rfl) (fun hwf W0 D0 E1 =>?_)
 simp only[BX,LG,a6]
 refine .au (by decide +kernel) fun K hK =>?_
 simp only[HZ,U,simprocAttr]
 try simp only[dQ,U,simprocAttr]
 refine .done (hK _ ?_);clear hK K
 refine J.seq (J.seq ?_)
 refine .bV (by decide +kernel) fun K hK =>?_
 simp only[H0,U,simprocAttr]
 try simp only[er,fb,U,simprocAttr]
 refine .flat _ (Nu m.gC) rfl ?_
 generalize hw:pV m.gC=bw
 cases bw
 ·try simp only[U,simprocAttr]
  refine .done (hK _ ?_);clear hK K;try simp only[aF]
  refine J.bW ?_
  simp only[ak,U,simprocAttr]
  refine ⟨fun h =>?_,fun h =>?_⟩
  ·refine .au (by decide +kernel) fun K hK =>?_
   simp only[sQ,U,simprocAttr]
   refine .done (hK _ ?_);clear hK K
   refine J.ret ?_
   simp only[aF,U,simprocAttr]
   simp[gN,hw]
  ·cases h
 try simp only[er,U,simprocAttr]
 refine .flat _ (rT m.gT 0 2) rfl ?_
 generalize hf:ca 0 2 m.gT=bf
 cases bf
 ·try simp only[U,simprocAttr]
  refine .done (hK _ ?_);clear hK K
  refine J.bW ?_
  simp only[ak,U,simprocAttr]
  refine ⟨fun h =>?_,fun h =>?_⟩
  ·refine .au (by decide +kernel) fun K hK =>?_
   simp only[sQ,U,simprocAttr]
   refine .done (hK _ ?_);clear hK K
   refine J.ret ?_
   simp only[aF,U,simprocAttr]
   simp[gN,hw,hf]
  ·cases h
 try simp only[er,bh,U,simprocAttr]
 refine .done (hK _ ?_);clear hK K
 refine J.bW ?_
 simp only[ak,U,simprocAttr]
 refine ⟨fun h =>?_,fun h =>?_⟩
 ·refine .au (by decide +kernel) fun K hK =>?_
  simp only[sQ,U,simprocAttr]
  refine .done (hK _ ?_);clear hK K
  refine J.ret ?_
  simp only[aF,U,simprocAttr]
  have:¬ m.given.length≤40:=by simp at h;omega
  simp[gN,hw,hf,this]
 have hlen:m.given.length≤40:=by simp at h;omega
 refine J.skip ?_;try simp only[aF,simprocAttr]
 refine J.seq (J.seq ?_)
 refine J.bV (by decide +kernel) fun K hK =>?_
 try simp only[H2,er,bh,U,simprocAttr]
 refine .done (hK _ ?_);clear hK K
 refine J.block (J.loop (fun i:Nat=>aq [(1,.ptr 1 []),(22,enc m.given),(23,.int .i64 m.given.length),(24,.int .i64 i)] [(1,.box (enc m))]) (fun i=>i≤m.given.length∧∀ j,j<i→je m j=true) (fun i=>m.given.length-i) 0 ⟨by omega,fun k h=>by omega⟩ ?_ (fun i hi =>?_))
 ·refine aC.bZ ?_ ?_ ?_ ?_ <;>simp[aX,bO,bM,bt,ao,aW,cA,I.only,ah.only,bB]
 refine .au (by decide +kernel) fun K hK =>?_
 simp only[H3,U,simprocAttr]
 refine .done (hK _ ?_);clear hK K
 refine J.seq ?_
 refine J.bW ?_
 simp only[ak,U,simprocAttr]
 refine ⟨fun h =>?_,fun h =>?_⟩
 case refine_2.refine_2 =>
  have hge:i=m.given.length:=by simp at h;omega
  subst hge
  refine J.exit ?_;try simp only[aF,b8,simprocAttr]
  refine .au (by decide +kernel) fun K hK =>?_
  simp only[H6,U,simprocAttr]
  refine .done (hK _ ?_);clear hK K
  refine J.ret ?_
  simp only[U,simprocAttr]
  have:(List.range m.given.length).all (je m)=true:=o7 hi.2
  simp[gN,hw,hf,this,hlen]
 have hlt:i<m.given.length:=by simpa using h
 refine J.skip ?_;try simp only[aF,simprocAttr]
 refine J.seq (J.block ?_)
 refine .au (by decide +kernel) fun K hK =>?_
 simp only[H4,U,simprocAttr]
 try simp only[er,I3 hlt,U,simprocAttr]
 rw[eD (dQ _) (by rw[fX];rfl) ((eM _).trans rfl)]
 try simp only[U,simprocAttr]
 refine .done (hK _ ?_);clear hK K
 have bad:∀ b,je m i=b→b=false→(if gN m then (0:Int) else 13)=13:=fun b h1 h2=>by
  have:(List.range m.given.length).all (je m)=false:=m6 i hlt (by rw[h1,h2])
  simp[gN,this]
 have htake:∀ g∈m.given.take i,gf g.mark=true:=fun g hg=>by
  rw[List.mem_take_iff_getElem] at hg
  obtain ⟨j,hj,rfl⟩:=hg
  have hjl:j<m.given.length:=by omega
  rw[kK hjl]
  exact JG (hi.2 j (by omega))
 refine .au (by decide +kernel) fun K hK =>?_
 simp only[H5,U,simprocAttr]
 try simp only[er,U,simprocAttr]
 refine .flat _ (Nv (eE m i).b5) rfl ?_
 generalize ho:ca 1 99 (eE m i).b5=bo
 cases bo
 ·try simp only[U,simprocAttr]
  refine .done (hK _ ?_);clear hK K
  refine J.bW ?_
  simp only[ak,U,simprocAttr]
  refine ⟨fun h =>?_,fun h =>?_⟩
  ·refine .au (by decide +kernel) fun K hK =>?_
   simp only[pD,U,simprocAttr]
   refine .done (hK _ ?_);clear hK K
   refine J.ret ?_
   simp only[b8,aF,U,simprocAttr]
   rw[bad _ rfl (by simp[je,ho])]
  ·cases h
 try simp only[er,fb,U,simprocAttr]
 refine .flat _ (Nw (eE m i).mark) rfl ?_
 generalize hk:gf (eE m i).mark=bk
 cases bk
 ·try simp only[U,simprocAttr]
  refine .done (hK _ ?_);clear hK K
  refine J.bW ?_
  simp only[ak,U,simprocAttr]
  refine ⟨fun h =>?_,fun h =>?_⟩
  ·refine .au (by decide +kernel) fun K hK =>?_
   simp only[pD,U,simprocAttr]
   refine .done (hK _ ?_);clear hK K
   refine J.ret ?_
   simp only[b8,aF,U,simprocAttr]
   rw[bad _ rfl (by simp[je,ho,hk])]
  ·cases h
 try simp only[U,simprocAttr]
 generalize hz:decide (0<(i:Int))=bz
 cases bz
 ·have hprev:(i==0||decide ((eE m (i-1)).b5<(eE m i).b5))=true:=by simp at hz;simp[hz]
  try simp only[er,U,simprocAttr]
  try simp only[er,fb,yT 7 (Nat.le_of_lt hlt) rfl,Option.map_none,U,simprocAttr]
  refine .flat _ (zq m (m.given.take i) (eE m i).mark htake hk) rfl ?_
  rw[zW m (eE m i).mark (Nat.le_of_lt hlt)]
  generalize hap:(List.range i).all (fun j => !nM m (eE m j).mark (eE m i).mark)=ba
  cases ba
  ·try simp only[U,simprocAttr]
   refine .done (hK _ ?_);clear hK K
   refine J.bW ?_
   simp only[ak,U,simprocAttr]
   refine ⟨fun h =>?_,fun h =>?_⟩
   ·refine .au (by decide +kernel) fun K hK =>?_
    simp only[pD,U,simprocAttr]
    refine .done (hK _ ?_);clear hK K
    refine J.ret ?_
    simp only[b8,aF,U,simprocAttr]
    rw[bad _ rfl (by simp only[je,hap,Bool.and_false])]
   ·cases h
  ·try simp only[U,simprocAttr]
   refine .done (hK _ ?_);clear hK K
   refine J.bW ?_
   simp only[ak,U,simprocAttr]
   refine ⟨fun h =>?_,fun h =>?_⟩
   ·cases h
   refine J.skip ?_;try simp only[aF,b8,simprocAttr]
   refine .bV (by decide +kernel) fun K hK =>?_
   simp only[wS,U,simprocAttr]
   refine .done (hK _ ?_);clear hK K;try simp only[aF]
   refine ⟨i+1,⟨by omega,fun k hk' =>?_⟩,by omega,?_⟩
   ·by_cases hki:k=i
    ·rw[hki]
     simp only[je,ho,hk,hprev,hap,Bool.and_self]
    ·exact hi.2 k (by omega)
   ·rw[dz _ (by omega) (by omega)]
    refine aC.bZ ?_ ?_ ?_ ?_ <;>simp[aX,bO,bM,bt,ao,aW,cA,I.only,ah.only,bB]
 ·have hpos:0<i:=by simpa using hz
  have hpl:i-1<m.given.length:=by omega
  have hpred:IntKind.i64.wrap ((i:Int)-1)=((i-1:Nat):Int):=by rw[dz _ (by omega) (by omega)];omega
  try simp only[er,hpred,I3 hpl,U,simprocAttr]
  generalize hq:decide ((eE m i).b5≤(eE m (i-1)).b5)=bq
  cases bq
  ·have hprev:(i==0||decide ((eE m (i-1)).b5<(eE m i).b5))=true:=by simp at hq;simp;omega
   try simp only[er,U,simprocAttr]
   try simp only[er,fb,yT 7 (Nat.le_of_lt hlt) rfl,Option.map_none,U,simprocAttr]
   refine .flat _ (zq m (m.given.take i) (eE m i).mark htake hk) rfl ?_
   rw[zW m (eE m i).mark (Nat.le_of_lt hlt)]
   generalize hap:(List.range i).all (fun j => !nM m (eE m j).mark (eE m i).mark)=ba
   cases ba
   ·try simp only[U,simprocAttr]
    refine .done (hK _ ?_);clear hK K;try simp only[aF,b8]
    refine J.bW ?_
    simp only[ak,U,simprocAttr]
    refine ⟨fun h =>?_,fun h =>?_⟩
    ·refine .au (by decide +kernel) fun K hK =>?_
     simp only[pD,U,simprocAttr]
     refine .done (hK _ ?_);clear hK K
     refine J.ret ?_
     simp only[b8,aF,U,simprocAttr]
     rw[bad _ rfl (by simp only[je,hap,Bool.and_false])]
    ·cases h
   ·try simp only[U,simprocAttr]
    refine .done (hK _ ?_);clear hK K
    refine J.bW ?_
    simp only[ak,U,simprocAttr]
    refine ⟨fun h =>?_,fun h =>?_⟩
    ·cases h
    refine J.skip ?_;try simp only[aF,b8,simprocAttr]
    refine .bV (by decide +kernel) fun K hK =>?_
    simp only[wS,U,simprocAttr]
    refine .done (hK _ ?_);clear hK K;try simp only[aF]
    refine ⟨i+1,⟨by omega,fun k hk' =>?_⟩,by omega,?_⟩
    ·by_cases hki:k=i
     ·rw[hki]
      simp only[je,ho,hk,hprev,hap,Bool.and_self]
     ·exact hi.2 k (by omega)
    ·rw[dz _ (by omega) (by omega)]
     refine aC.bZ ?_ ?_ ?_ ?_ <;>simp[aX,bO,bM,bt,ao,aW,cA,I.only,ah.only,bB]
  ·try simp only[U,simprocAttr]
   refine .done (hK _ ?_);clear hK K;try simp only[aF,b8]
   refine J.bW ?_
   simp only[ak,U,simprocAttr]
   refine ⟨fun h =>?_,fun h =>?_⟩
   ·refine .au (by decide +kernel) fun K hK =>?_
    simp only[pD,U,simprocAttr]
    refine .done (hK _ ?_);clear hK K
    refine J.ret ?_
    simp only[b8,aF,U,simprocAttr]
    have:(i==0||decide ((eE m (i-1)).b5<(eE m i).b5))=false:=by simp at hq;simp;omega
    rw[bad _ rfl (by simp only[je,this,Bool.and_false,Bool.false_and])]
   ·cases h
theorem Of(f:FuncId)(caps:List I)(hcaps:I.eS caps=true):av Tryz.prog 200 [enc ([]:List cv),.func f caps] (enc ([]:List cv)):=by
 refine av.bn Tryz.func200 Cr Cz CS (Nat.le_of_ble_eq_true rfl) (fun hwf W0 D0 E1 =>?_)
 simp only[vi,yp,a6,Nat.zero_add]
 have hcl:I.bU caps=true:=kG caps hcaps
 have hfc:∀ aB A,bY aB A caps=some caps:=fun aB A=>kJ aB A caps hcaps
 refine .au (by decide +kernel) fun K hK =>?_
 simp only[wM,U,simprocAttr]
 refine .done (hK _ ?_);clear hK K
 refine .au (by decide +kernel) fun K hK =>?_
 simp only[wN,U,simprocAttr]
 try simp only[fb,hfc,U,simprocAttr]
 refine .flat _ (uJ [] f caps hcaps (fun _=>false) (fun x hx=>by cases hx)) rfl ?_
 try simp only[List.findIdx?_nil,U,simprocAttr]
 refine .done (hK _ ?_);clear hK K
 refine J.seq (J.seq ?_)
 refine .bV (by decide +kernel) fun K hK =>?_
 simp only[sO,U,simprocAttr]
 refine .done (hK _ ?_);clear hK K;try simp only[aF]
 refine J.bW ?_
 simp only[ak,U,simprocAttr]
 refine ⟨fun h =>?_,fun h =>?_⟩
 ·refine .au (by decide +kernel) fun K hK =>?_
  simp only[wP,U,simprocAttr]
  refine .done (hK _ ?_);clear hK K
  refine J.ret ?_
  simp only[aF,U,simprocAttr]
  try simp only[fb,U,simprocAttr]
 ·cases h
def fN(p:cv→Bool)(l:List cv):List cv:=l.filter fun x => !p x
def CY(k:Nat)(l:List cv):cN:=fun r os'=>∃ m,r=.view k [] 7 0 l.length∧os'=iH k l m
theorem yc(p:Nat→Bool)(m:Nat)(x:cv):I.bP p (List.replicate m (enc x))=true:=by
 have:List.replicate m (enc x)=(List.replicate m x).map (enc (α:=cv)):=by simp
 rw[this];exact dU p _
theorem aj6(p:Nat→Bool)(xs:List cv)(i:Nat)(v:cv):I.bP p ((xs.map enc).set i (enc v))=true:=by
 rw[←List.map_set];exact dU p _
theorem yE{xs:List cv}{m j:Nat}(h:j<xs.length):((xs++List.replicate m fY).map (enc (α:=cv)))[0+j]?=some (enc xs[j]):=by
 rw[Nat.zero_add,List.getElem?_map,List.getElem?_append_left h,List.getElem?_eq_getElem h];rfl
theorem ak6{xs:List cv}{m i:Nat}(h:i<xs.length)(v:cv):((xs++List.replicate m fY).map (enc (α:=cv))).set (0+i) (enc v)=(xs.set i v++List.replicate m fY).map enc:=by
 rw[Nat.zero_add,←List.map_set,List.set_append_left _ _ h]
theorem zb(l:List cv)(m:Nat):(l++List.replicate m fY).take l.length=l:=List.take_left
theorem vR(p:cv→Bool)(l:List cv){j:Nat}(h:j<l.length):fN p (l.take (j+1))=fN p (l.take j)++(if p l[j] then [] else [l[j]]):=by
 rw[List.take_succ_eq_append_getElem h]
 simp only[fN,List.filter_append,List.filter_cons,List.filter_nil]
 cases p l[j] <;>simp
theorem Oe(l:List cv)(f:FuncId)(caps:List I)(hcaps:I.eS caps=true)(p:cv→Bool)(hf:∀ x∈l,av Tryz.prog f (enc x::caps) (enc (p x)))(hlen:l.length≤1000)(m:Nat) :
  cz Tryz.prog 200 [.view 1000000 [] 7 0 l.length,.func f caps] (iH 1000000 l m) (CY 1000000 (fN p l)):=by
 refine cz.bn Tryz.func200 Cr Cz CS (Nat.le_of_ble_eq_true rfl) (Nat.le_of_ble_eq_true rfl) (fun m hm=>by rw[cQ.1 hm];exact Nat.le_refl _) (fun hwf W0 D0 E1 =>?_)
 simp only[vi,yp,a6,Nat.zero_add]
 have hcl:I.bU caps=true:=kG caps hcaps
 have hfc:∀ aB A,bY aB A caps=some caps:=fun aB A=>kJ aB A caps hcaps
 have hon:∀ q,I.bP q caps=true:=fun q=>kg q caps hcl
 simp only[iH]
 refine .au (by decide +kernel) fun K hK =>?_
 simp only[wM,U,simprocAttr]
 refine .done (hK _ ?_);clear hK K
 refine .au (by decide +kernel) fun K hK =>?_
 simp only[wN,U,simprocAttr]
 try simp only[hfc,qJ (α:=cv) (sz:=7) rfl,zb,U,simprocAttr]
 refine .flat _ (uJ l f caps hcaps p hf) rfl ?_
 try simp only[U,simprocAttr]
 refine .done (hK _ ?_);clear hK K
 generalize hfi:l.findIdx? p=fi
 cases fi with
 |none =>
  rw[List.findIdx?_eq_none_iff] at hfi
  have hk:fN p l=l:=by
   simp only[fN,List.filter_eq_self];intro x hx;simp[hfi x hx]
  refine J.seq (J.seq ?_)
  refine .bV (by decide +kernel) fun K hK =>?_
  simp only[sO,U,simprocAttr]
  refine .done (hK _ ?_);clear hK K;try simp only[aF]
  refine J.bW ?_
  simp only[ak,U,simprocAttr]
  refine ⟨fun h =>?_,fun h =>?_⟩
  ·refine .au (by decide +kernel) fun K hK =>?_
   simp only[wP,U,simprocAttr]
   refine .done (hK _ ?_);clear hK K
   refine J.ret ?_
   simp only[aF,fq]
   rw[hk]
   exact ⟨iH 1000000 l m,[.view 1000000 [] 7 0 l.length],kL rfl (fun p=>mB p _),⟨⟨_,rfl,.inl ⟨rfl,rfl,rfl⟩⟩,trivial⟩,m,rfl,rfl⟩
  ·cases h
 |some i0 =>
  obtain ⟨q1,q2,q3⟩:=List.findIdx?_eq_some_iff_getElem.1 hfi
  have hstart:l.take i0=fN p (l.take (i0+1)):=by
   rw[vR p l q1,q2]
   simp only[if_true,List.append_nil,fN]
   symm
   rw[List.filter_eq_self]
   intro x hx
   rw[List.mem_take_iff_getElem] at hx
   obtain ⟨j,hj,rfl⟩:=hx
   have:=q3 j (by omega)
   simpa using this
  refine J.seq (J.seq ?_)
  refine .bV (by decide +kernel) fun K hK =>?_
  simp only[sO,U,simprocAttr]
  refine .done (hK _ ?_);clear hK K;try simp only[aF]
  refine J.bW ?_
  simp only[ak,U,simprocAttr]
  refine ⟨fun h =>?_,fun h =>?_⟩
  ·simp at h
  refine J.skip ?_;try simp only[aF,simprocAttr]
  refine J.seq (J.seq ?_)
  refine .bV (by decide +kernel) fun K hK =>?_
  simp only[G1,U,simprocAttr]
  refine .done (hK _ ?_);clear hK K;try simp only[aF]
  refine J.block (J.loop (fun s:List cv×Nat×Nat=>aq [(0,.view 1000000 [] 7 0 l.length),(1,.func f caps),(5,.int .i64 s.2.1),(6,.int .i64 s.2.2)] [(1000000,.box (.agg ((s.1++List.replicate m fY).map enc)))])
   (fun s=>s.1.length=l.length∧s.2.1<s.2.2∧s.2.2≤l.length∧s.1.take s.2.1=fN p (l.take s.2.2)∧s.1.drop s.2.2=l.drop s.2.2) (fun s=>l.length-s.2.2) (l,i0,i0+1) ⟨rfl,by simp only;omega,by simp only;omega,hstart,rfl⟩ ?_ ?_)
  ·rw[dz _ (by omega) (by omega)]
   refine aC.bZ ?_ ?_ ?_ ?_ <;>simp[aX,bO,bM,bt,ao,aW,cA,I.only,ah.only,dU,gv,hon,yc]
  ·rintro ⟨xs,i,j⟩ ⟨c1,c2,c3,j0,lu⟩
   simp only at c1 c2 c3 j0 lu ⊢
   refine J.seq (J.seq ?_)
   refine .bV (by decide +kernel) fun K hK =>?_
   simp only[G2,U,simprocAttr]
   try simp only[cG,U,simprocAttr]
   refine .done (hK _ ?_);clear hK K;try simp only[aF]
   refine J.bW ?_
   simp only[ak,U,simprocAttr]
   refine ⟨fun h =>?_,fun h =>?_⟩
   ·have hj:j<l.length:=by simpa using h
    have hjx:j<xs.length:=by omega
    have hix:i<xs.length:=by omega
    have hxj:xs[j]=l[j]:=by
     have h1:(xs.drop j)[0]?=(l.drop j)[0]?:=by rw[lu]
     simpa[hj,hjx] using h1
    refine J.skip ?_;try simp only[aF,simprocAttr]
    refine J.seq (J.block ?_)
    refine .au (by decide +kernel) fun K hK =>?_
    simp only[G3,U,simprocAttr]
    try simp only[cG,xA (sz:=7) hj,List.nil_append,U,simprocAttr]
    try simp only[yE hjx,hxj,er,U,simprocAttr]
    rw[eD (dQ _) (by rw[fX];rfl) ((eM _).trans rfl)]
    try simp only[U,simprocAttr]
    refine .done (hK _ ?_);clear hK K
    refine .au (by decide +kernel) fun K hK =>?_
    simp only[G4,U,simprocAttr]
    try simp only[er,fb,hfc,List.cons_append,List.nil_append,U,simprocAttr]
    refine .flat _ (hf _ (List.getElem_mem hj)) rfl ?_
    try simp only[U,simprocAttr]
    refine .done (hK _ ?_);clear hK K
    refine J.bW ?_
    simp only[ak,U,simprocAttr]
    refine ⟨fun h =>?_,fun h =>?_⟩
    ·have hpj:p l[j]=false:=by simpa using h
     refine .au (by decide +kernel) fun K hK =>?_
     simp only[G5,U,simprocAttr]
     try simp only[er,cG,xA (sz:=7) (show i<l.length by omega),List.nil_append,U,simprocAttr]
     try simp only[yE hix,U,simprocAttr]
     rw[eD (dQ _) (by rw[fX];rfl) ((eM _).trans (eM _).symm)]
     try simp only[yE hix,ak6 hix,U,simprocAttr]
     refine .done (hK _ ?_);clear hK K
     refine .bV (by decide +kernel) fun K hK =>?_
     simp only[G6,U,simprocAttr]
     refine .done (hK _ ?_);clear hK K;try simp only[aF,b8]
     refine .bV (by decide +kernel) fun K hK =>?_
     simp only[wO,U,simprocAttr]
     refine .done (hK _ ?_);clear hK K;try simp only[aF]
     refine ⟨(xs.set i l[j],i+1,j+1),⟨by simp[c1],by simp only;omega,by simp only;omega,?_,?_⟩,by simp only;omega,?_⟩
     ·simp only
      rw[vR p l hj,hpj,←j0]
      simp only[Bool.false_eq_true,if_false]
      rw[List.take_succ_eq_append_getElem (by simpa using hix),List.take_set_of_le (Nat.le_refl _)]
      simp
     ·simp only
      rw[List.drop_set_of_lt (by omega)]
      have:(xs.drop j).drop 1=(l.drop j).drop 1:=by rw[lu]
      simpa[List.drop_drop] using this
     ·simp only
      rw[dz _ (by omega) (by omega),dz _ (by omega) (by omega)]
      refine aC.bZ ?_ ?_ ?_ ?_ <;>simp[aX,bO,bM,bt,ao,aW,cA,I.only,ah.only,gv,hon,yc,aj6]
    ·have hpj:p l[j]=true:=by simpa using h
     refine J.skip ?_;try simp only[aF,b8,simprocAttr]
     refine .bV (by decide +kernel) fun K hK =>?_
     simp only[wO,U,simprocAttr]
     refine .done (hK _ ?_);clear hK K;try simp only[aF]
     refine ⟨(xs,i,j+1),⟨c1,by simp only;omega,by simp only;omega,?_,?_⟩,by simp only;omega,?_⟩
     ·simp only
      rw[vR p l hj,hpj,←j0]
      simp
     ·simp only
      have:(xs.drop j).drop 1=(l.drop j).drop 1:=by rw[lu]
      simpa[List.drop_drop] using this
     ·simp only
      rw[dz _ (by omega) (by omega)]
      refine aC.bZ ?_ ?_ ?_ ?_ <;>simp[aX,bO,bM,bt,ao,aW,cA,I.only,ah.only,dU,gv,hon,yc]
   ·have hj:j=l.length:=by simp at h;omega
    subst hj
    rw[List.take_length] at j0
    have hlk:(fN p l).length=i:=by rw[←j0,List.length_take];omega
    have htot:((xs++List.replicate m fY).map (enc (α:=cv))).length=l.length+m:=by simp[c1]
    refine J.exit ?_;try simp only[aF,b8,simprocAttr]
    refine .au (by decide +kernel) fun K hK =>?_
    simp only[GZ,U,simprocAttr]
    try simp only[cG,htot,Option.map_none,rI (show i≤l.length by omega) (show l.length≤l.length+m by omega) (show i<l.length+m by omega),vG,U,simprocAttr]
    rw[sv fY rfl (by simp[c1];omega)]
    have hcont:(xs++List.replicate m fY).take i++(List.replicate (l.length-i) fY++(xs++List.replicate m fY).drop (i+(l.length-i)))=fN p l++List.replicate (l.length-i+m) fY:=by
     rw[List.take_append_of_le_length (by omega),j0]
     have e1:i+(l.length-i)=xs.length:=by omega
     rw[e1,List.drop_left,List.replicate_append_replicate]
    rw[hcont]
    try simp only[U,simprocAttr]
    refine .done (hK _ ?_);clear hK K
    have htot2:((fN p l++List.replicate (l.length-i+m) fY).map (enc (α:=cv))).length=l.length+m:=by simp[hlk];omega
    refine .au (by decide +kernel) fun K hK =>?_
    simp only[G0,U,simprocAttr]
    try simp only[cG,htot2,Option.map_none,uk (show i≤l.length+m by omega) (show 0<l.length+m by omega),U,simprocAttr]
    refine .done (hK _ ?_);clear hK K
    refine J.ret ?_
    simp only[fq]
    exact ⟨iH 1000000 (fN p l) (l.length-i+m),[.view 1000000 [] 7 0 i],kL rfl (fun p=>mB p _),⟨⟨_,rfl,.inl ⟨rfl,rfl,rfl⟩⟩,trivial⟩,l.length-i+m,by rw[hlk];rfl,rfl⟩
def pM(a:Item)(k d kn b:Int):al:=⟨a,k,d,kn,b,0,0,0,iu,⟨0,0⟩⟩
theorem C5:I.agg [.agg [.int .i64 0,.int .i64 0],.int .i64 0,.int .i64 0,.int .i64 0,.int .i64 0,.int .i64 0,.int .i64 0,.int .i64 0,.agg [.int .i64 0,.int .i64 0,.int .i64 0,.int .i64 0,.int .i64 0,.int .i64 0],.agg [.int .i64 0,.int .i64 0]]=enc (pM ⟨0,0⟩ 0 0 0 0):=rfl
theorem Ai(a:Item)(k d kn b:Int):(eG [.agg [.int .i64 0,.int .i64 0],.int .i64 0,.int .i64 0,.int .i64 0,.int .i64 0,.int .i64 0,.int .i64 0,.int .i64 0,.agg [.int .i64 0,.int .i64 0,.int .i64 0,.int .i64 0,.int .i64 0,.int .i64 0],.agg [.int .i64 0,.int .i64 0]] [(0,enc a),(1,.int .i64 k),(2,.int .i64 d),(3,.int .i64 kn),(4,.int .i64 b)]).map .agg=some (enc (pM a k d kn b)):=by
 simp[eG,I.cm,I.size,I.sizes,iT,sE];rfl
theorem Ah(a:Item)(k d kn:Int):(eG [.agg [.int .i64 0,.int .i64 0],.int .i64 0,.int .i64 0,.int .i64 0,.int .i64 0,.int .i64 0,.int .i64 0,.int .i64 0,.agg [.int .i64 0,.int .i64 0,.int .i64 0,.int .i64 0,.int .i64 0,.int .i64 0],.agg [.int .i64 0,.int .i64 0]] [(0,enc a),(1,.int .i64 k),(2,.int .i64 d),(3,.int .i64 kn)]).map .agg=some (enc (pM a k d kn 0)):=by
 simp[eG,I.cm,I.size,I.sizes,iT,sE];rfl
theorem ML(A:ab)(n:Nat)(b:I)(x y:al)(rest:List az):dg A (some 17) n [] b (enc x) rest (some (enc y))=ay rest (A.aN n (.box (enc x))):=eD (dQ _) (JM x) ((eM x).trans (eM y).symm)
theorem oQ(A:ab)(n:Nat)(p:List Nat)(b:I)(k:IntKind)(x y:Int)(rest:List az):dg A none n p b (.int k x) rest (some (.int k y))=ay rest (A.aN n (.box (b.dH p (.int k x)))):=eD rfl rfl rfl
theorem alx(A:ab)(n:Nat)(p:List Nat)(b:I)(x y:bI 6 Int)(rest:List az):dg A (some 6) n p b (enc x) rest (some (enc y))=ay rest (A.aN n (.box (b.dH p (enc x)))):=eD (dQ _) (JL x) ((eM x).trans (eM y).symm)
theorem MU(A:ab)(n:Nat)(p:List Nat)(b:I)(x y:Item)(rest:List az):dg A (some 2) n p b (enc x) rest (some (enc y))=ay rest (A.aN n (.box (b.dH p (enc x)))):=eD (dQ _) (JN x) ((eM x).trans (eM y).symm)
theorem MA :
  (∀ (A:ab) (n:Nat) (rest:List az) (e:al) v y,dg A (some 2) n [0] (enc e) (enc (v:Item)) rest (some (enc (y:Item)))=ay rest (A.aN n (.box (enc { e with cW:=v })))) ∧
  (∀ (A:ab) (n:Nat) (rest:List az) (e:al) v y,dg A none n [1] (enc e) (.int .i64 v) rest (some (.int .i64 y))=ay rest (A.aN n (.box (enc { e with kind:=v })))) ∧
  (∀ (A:ab) (n:Nat) (rest:List az) (e:al) v y,dg A none n [2] (enc e) (.int .i64 v) rest (some (.int .i64 y))=ay rest (A.aN n (.box (enc { e with day:=v })))) ∧
  (∀ (A:ab) (n:Nat) (rest:List az) (e:al) v y,dg A none n [3] (enc e) (.int .i64 v) rest (some (.int .i64 y))=ay rest (A.aN n (.box (enc { e with known:=v })))) ∧
  (∀ (A:ab) (n:Nat) (rest:List az) (e:al) v y,dg A none n [4] (enc e) (.int .i64 v) rest (some (.int .i64 y))=ay rest (A.aN n (.box (enc { e with c4:=v })))) ∧
  (∀ (A:ab) (n:Nat) (rest:List az) (e:al) v y,dg A none n [5] (enc e) (.int .i64 v) rest (some (.int .i64 y))=ay rest (A.aN n (.box (enc { e with dI:=v })))) ∧
  (∀ (A:ab) (n:Nat) (rest:List az) (e:al) v y,dg A none n [6] (enc e) (.int .i64 v) rest (some (.int .i64 y))=ay rest (A.aN n (.box (enc { e with ec:=v })))) ∧
  (∀ (A:ab) (n:Nat) (rest:List az) (e:al) v y,dg A none n [7] (enc e) (.int .i64 v) rest (some (.int .i64 y))=ay rest (A.aN n (.box (enc { e with b5:=v })))) ∧
  (∀ (A:ab) (n:Nat) (rest:List az) (e:al) v y,dg A (some 6) n [8] (enc e) (enc (v:bI 6 Int)) rest (some (enc (y:bI 6 Int)))=ay rest (A.aN n (.box (enc { e with aY:=v })))) ∧
  (∀ (A:ab) (n:Nat) (rest:List az) (e:al) v y,dg A (some 2) n [9] (enc e) (enc (v:Item)) rest (some (enc (y:Item)))=ay rest (A.aN n (.box (enc { e with gZ:=v })))) :=
 ⟨fun _ _ _ _ _ _=>by rw[MU];rfl,fun _ _ _ _ _ _=>by rw[oQ];rfl,fun _ _ _ _ _ _=>by rw[oQ];rfl,fun _ _ _ _ _ _=>by rw[oQ];rfl,fun _ _ _ _ _ _=>by rw[oQ];rfl,fun _ _ _ _ _ _=>by rw[oQ];rfl,fun _ _ _ _ _ _=>by rw[oQ];rfl,fun _ _ _ _ _ _=>by rw[oQ];rfl,fun _ _ _ _ _ _=>by rw[alx];rfl,fun _ _ _ _ _ _=>by rw[MU];rfl⟩
theorem zi(x y:bI 6 Int):x=y↔x.l=y.l:=by cases x;cases y;simp
theorem amn(p q:Prop)[Decidable p][Decidable q]:iy (some (decide p)) (some (decide q))=some (decide (p∧q)):=by simp[iy]
theorem Db(a b:Int):cg (.i .i64) (.int .i64 a) (.int .i64 b)=some (decide (a=b)):=by simp[cg];rfl
theorem Da(x y:al):cg (.bg [(.bg [(.i .i64),(.i .i64)]),(.i .i64),(.i .i64),(.i .i64),(.i .i64),(.i .i64),(.i .i64),(.i .i64),(.jG 6 (.i .i64)),(.bg [(.i .i64),(.i .i64)])]) (enc x) (enc y)=some (decide (x=y)):=by
 obtain ⟨a1,k1,d1,n1,b1,m1,s1,o1,r1,f1⟩:=x
 obtain ⟨a2,k2,d2,n2,b2,m2,s2,o2,dV,f2⟩:=y
 show cg _ (.agg [enc a1,.int .i64 k1,.int .i64 d1,.int .i64 n1,.int .i64 b1,.int .i64 m1,.int .i64 s1,.int .i64 o1,enc r1,enc f1]) (.agg [enc a2,.int .i64 k2,.int .i64 d2,.int .i64 n2,.int .i64 b2,.int .i64 m2,.int .i64 s2,.int .i64 o2,enc dV,enc f2])=_
 have hr:cg (.jG 6 (.i .i64)) (enc r1) (enc dV)=some (decide (r1=dV)):=by
  rw[px]
  congr 1
  exact decide_eq_decide.2 (zi r1 dV).symm
 rw[cg]
 simp only[iU,qE,Db,hr,al.mk.injEq]
 simp[iy]
theorem aK:(type_of% @lb)∧(type_of% @nE)∧(type_of% @lR)∧(∀ {α:Type} [Enc α] (aB:Bool) (A:ab) (x:α),bd aB A (enc x)=some (enc x))∧(∀ {α:Type} [Enc α] (x:α),(enc x).cm=true)∧(type_of% @C5)∧(type_of% @Ai)∧(type_of% @Ah)∧(type_of% @ML) ∧
  (type_of% @MA)∧(type_of% @Da)∧(type_of% @qE)∧(∀ (a:Nat) l m,(a::l)++m=a::(l++m))∧(∀ b:Bool,((if b=true then (0:Int) else 12)==0)=b)∧(∀ b:Bool,((if b=true then (0:Int) else 12) != 0) = !b) :=
 ⟨lb,nE,lR,@fb,@dQ,C5,Ai,Ah,ML,MA,Da,qE,fun _ _ _=>rfl,fun b=>by cases b <;>rfl,fun b=>by cases b <;>rfl⟩
theorem ON(x:al):av Tryz.prog 84 [enc x] (enc (mf x)):=by
 refine av.bn Tryz.func84 RL TJ VT (Nat.le_of_ble_eq_true rfl) (fun hwf W0 D0 E1 =>?_)
 simp only[Cc,LU,a6]
 have R:=And.intro @aK @U
 repeat' ((first
  |(with_reducible refine .guard (fun hb =>?_) (fun hb =>?_) <;>try simp only[hb])
  |refine J.aG (by decide +kernel) rfl fun K hK =>?_
  |(refine .aw [0,1,2,3,15,24,25,36,41,47] hK ?_;clear hK K)
  |(with_reducible refine .done (hK _ ?_);clear hK K)
  |refine J.of rfl ?_
  |(with_reducible refine ak.aE (fun h =>?_) (fun h =>?_) <;>try simp only[h])) <;>try simp only[aH,R,simprocAttr])
 all_goals clear R
 all_goals (congr 1;simp_all[mf,pM])
theorem uF(x:al):av Tryz.prog 117 [enc x] (enc (hE x)):=by
 refine av.bn Tryz.func117 Qd R7 Uk (Nat.le_of_ble_eq_true rfl) (fun hwf W0 D0 E1 =>?_)
 simp only[Aw,Kj,a6]
 refine .au (by decide +kernel) fun K hK =>?_
 simp only[Em,U,simprocAttr]
 try simp only[aK,U,simprocAttr]
 refine .done (hK _ ?_);clear hK K
 refine .au (by decide +kernel) fun K hK =>?_
 simp only[En,U,simprocAttr]
 try simp only[aK,U,simprocAttr]
 refine .done (hK _ ?_);clear hK K
 refine .au (by decide +kernel) fun K hK =>?_
 simp only[Eo,U,simprocAttr]
 try simp only[aK,U,simprocAttr]
 refine .flat _ (NP _) rfl ?_
 try simp only[U,simprocAttr]
 refine .done (hK _ ?_);clear hK K
 refine J.fN [1,2,3,4] ?_
 simp only[xC,reduceIte,Nat.reduceBEq]
 by_cases hk:0≤x.kind∧x.kind≤6
 ·refine J.seq (J.nO (aq [(1,.ptr 1 []),(3,.ptr 3 []),(4,.bool (j7 x))] [(1,.box (enc x)),(3,.box (enc (mf x)))]) ?_ fun B hB=>J.sub hB ?_)
  ·clear hwf
   obtain hk | hk | hk | hk | hk | hk | hk:x.kind=0∨x.kind=1∨x.kind=2∨x.kind=3∨x.kind=4∨x.kind=5∨x.kind=6:=by omega
   all_goals
    have R:=And.intro @hk (And.intro @aK @U)
    repeat' ((first
     |(with_reducible refine .guard (fun hb =>?_) (fun hb =>?_) <;>try simp only[hb])
     |refine J.aG (by decide +kernel) rfl fun K hK =>?_
     |refine .flat _ (zm _) rfl ?_
     |refine .flat _ (NQ _) rfl ?_
     |refine .flat _ (NR _) rfl ?_
     |refine .flat _ (ma _ _ _) rfl ?_
     |refine .flat _ (zw _) rfl ?_
     |refine .flat _ (uH _) rfl ?_
     |(refine J.rA (gs:=wa) [] [(1,[1]),(3,[3]),(23,[1]),(25,[3]),(26,[3])] [0,1,2,3,4,5] (by decide +kernel) (ew.of (by simp[nx,aW,tm,I.only])) fun K hK =>?_;simp only[lT,wa,List.getD_cons_zero,List.getD_cons_succ,R,simprocAttr])
     |(refine J.rA (gs:=wb) [] [(1,[1]),(3,[3]),(55,[1]),(57,[1]),(59,[1]),(61,[3]),(62,[3]),(63,[3])] [0,1,2,3,4,5,6,7,8,9,10,11] (by decide +kernel) (ew.of (by simp[nx,aW,tm,I.only])) fun K hK =>?_;simp only[lT,wb,List.getD_cons_zero,List.getD_cons_succ,R,simprocAttr])
     |(refine .aw [0,1,2,3,4,20,21,53,87,98,110,122] hK ?_;clear hK K)
     |(with_reducible refine .done (hK _ ?_);clear hK K)
     |refine J.of rfl ?_
     |(with_reducible refine ak.aE (fun h =>?_) (fun h =>?_) <;>try simp only[h])) <;>try simp only[aH,R,simprocAttr])
    all_goals clear R
   all_goals
    refine aC.bZ ?_ ?_ ?_ ?_ <;>simp[*,aX,bO,bM,bt,ao,aW,cA,I.only,ah.only,bB,j7,mf,pM]
  ·have R:=And.intro @aK @U
   repeat' ((first
    |(with_reducible refine .guard (fun hb =>?_) (fun hb =>?_) <;>try simp only[hb])
    |refine J.aG (by decide +kernel) rfl fun K hK =>?_
    |refine .flat _ (zm _) rfl ?_
    |refine .flat _ (uH _) rfl ?_
    |(refine .aw [0,1,2,3,4,20,21,53,87,98,110,122] hK ?_;clear hK K)
    |(with_reducible refine .done (hK _ ?_);clear hK K)
    |refine J.of rfl ?_
    |(with_reducible refine ak.aE (fun h =>?_) (fun h =>?_) <;>try simp only[h])) <;>try simp only[aH,R,simprocAttr])
   all_goals clear R
   all_goals simp[hE, *]
 ·have h0:(x.kind==0)=false:=by simp;omega
  have h1:(x.kind==1)=false:=by simp;omega
  have h2:(x.kind==2)=false:=by simp;omega
  have h3:(x.kind==3)=false:=by simp;omega
  have h4:(x.kind==4)=false:=by simp;omega
  have h5:(x.kind==5)=false:=by simp;omega
  have h6:(x.kind==6)=false:=by simp;omega
  have R:=And.intro @h0 (And.intro @h1 (And.intro @h2 (And.intro @h3 (And.intro @h4 (And.intro @h5 (And.intro @h6 (And.intro @aK @U)))))))
  repeat' ((first
   |(with_reducible refine .guard (fun hb =>?_) (fun hb =>?_) <;>try simp only[hb])
   |refine J.aG (by decide +kernel) rfl fun K hK =>?_
   |(refine .aw [0,1,2,3,4,20,21,53,87,98,110,122] hK ?_;clear hK K)
   |(with_reducible refine .done (hK _ ?_);clear hK K)
   |refine J.of rfl ?_
   |(with_reducible refine ak.aE (fun h =>?_) (fun h =>?_) <;>try simp only[h])) <;>try simp only[aH,R,simprocAttr])
  all_goals clear R
  simp at h0 h1 h2 h3 h4 h5 h6
  simp[hE,j7, *]
def gV:al:=pM ⟨0,0⟩ 0 0 0 0
theorem sD:I.agg [.agg [.int .i64 0,.int .i64 0],.int .i64 0,.int .i64 0,.int .i64 0,.int .i64 0,.int .i64 0,.int .i64 0,.int .i64 0,.agg [.int .i64 0,.int .i64 0,.int .i64 0,.int .i64 0,.int .i64 0,.int .i64 0],.agg [.int .i64 0,.int .i64 0]]=enc gV:=rfl
theorem xM(p:Nat→Bool)(l:List al):(I.agg (l.map enc)).only p=true:=by simp only[I.only];exact dU p l
def kV(k:Nat)(l:List al)(m:Nat):List (Nat×ah):=[(k,.box (.agg ((l++List.replicate m gV).map enc)))]
def CJ(l:List al):cN:=fun r os'=>(l=[]∧(r=.nils 17∨r=.c0 17)∧os'=[])∨(l≠[]∧∃ m,r=.view 7 [] 17 0 l.length∧os'=kV 7 l m)
theorem NJ(l:List al)(hl:l.length≤1000):cz Tryz.prog 136 [enc l] [] (CJ l):=by
 refine cz.bn Tryz.func136 Qt Sn UA (Nat.le_of_ble_eq_true rfl) (Nat.le_of_ble_eq_true rfl) (fun m hm=>by simp[ao,ai] at hm) (fun hwf W0 D0 E1 =>?_)
 simp only[AN,KA,a6]
 refine .au (by decide +kernel) fun K hK =>?_
 simp only[E0,U]
 refine .done (hK _ ?_);clear hK K
 refine J.seq (J.seq ?_)
 by_cases hn:l=[]
 ·subst hn
  refine .bV (by decide +kernel) fun K hK =>?_
  simp only[wA,U,Nat.reduceEqDiff,reduceIte]
  simp only[ux,List.isEmpty_nil,pQ]
  refine .any rfl fun b _ =>?_
  try simp only[U]
  generalize (b==0)=t
  cases t
  ·refine .done (hK _ ?_);clear hK K;try simp only[aF]
   refine J.bW ?_
   simp only[ak,U,Nat.reduceEqDiff,reduceIte]
   refine ⟨fun h =>?_,fun h =>?_⟩
   ·cases h
   refine J.skip ?_;try simp only[aF]
   refine .au (by decide +kernel) fun K hK =>?_
   simp only[wB,U]
   try simp only[cG,sD,U,Nat.reduceEqDiff,reduceIte]
   refine .done (hK _ ?_);clear hK K
   refine J.ret ?_
   simp only[fq]
   exact ⟨[],[.c0 17],pF,⟨⟨.c0 17,rfl,.inl ⟨rfl,rfl,rfl⟩⟩,trivial⟩,.inl ⟨rfl,.inr rfl,rfl⟩⟩
  ·refine .done (hK _ ?_);clear hK K
   refine J.bW ?_
   simp only[ak,U,Nat.reduceEqDiff,reduceIte]
   refine ⟨fun h =>?_,fun h =>?_⟩
   ·refine .au (by decide +kernel) fun K hK =>?_
    simp only[E4,U]
    refine .done (hK _ ?_);clear hK K
    refine J.ret ?_
    simp only[aF,fq]
    exact ⟨[],[.nils 17],pF,⟨⟨.nils 17,rfl,.inl ⟨rfl,rfl,rfl⟩⟩,trivial⟩,.inl ⟨rfl,.inl rfl,rfl⟩⟩
   ·cases h
 ·have hu:jY (enc l)=false:=by rw[ux];simpa using hn
  refine .bV (by decide +kernel) fun K hK =>?_
  simp only[wA,U,Nat.reduceEqDiff,reduceIte]
  try simp only[hu,Jz _ l hn,U]
  refine .done (hK _ ?_);clear hK K;try simp only[aF]
  refine J.bW ?_
  simp only[ak,U,Nat.reduceEqDiff,reduceIte]
  refine ⟨fun h =>?_,fun h =>?_⟩
  ·cases h
  refine J.skip ?_;try simp only[aF]
  refine .au (by decide +kernel) fun K hK =>?_
  simp only[wB,U]
  try simp only[cG,sD,U,Nat.reduceEqDiff,reduceIte]
  refine bj.nT gV rfl hn rfl (by omega) (by simp only[maxLen];omega) fun m =>?_
  try simp only[U,Nat.reduceEqDiff,reduceIte]
  refine .done (hK _ ?_);clear hK K
  refine J.ret ?_
  simp only[fq]
  exact ⟨kV 7 l m,[.view 7 [] 17 0 l.length],kL rfl (fun p=>xM p _),⟨⟨_,rfl,.inl ⟨rfl,rfl,rfl⟩⟩,trivial⟩,.inr ⟨hn,m,rfl,rfl⟩⟩
def I0(l:List al)(i:Nat)(g:al):List al:=l.take i++g::l.drop i
theorem amp(l:List al)(i k:Nat)(g:al)(h:i<l.length)(hk:1≤k)(xs:List al)(hx:xs=l++List.replicate k gV)(ys:List al)(hy:ys=xs.take (i+1)++(((xs.drop i).take (l.length+1-i)).take (l.length-i)++xs.drop (i+1+(l.length-i)))) :
  ys.take i++([g].take 1++ys.drop (i+1))=I0 l i g++List.replicate (k-1) gV:=by
 have e1:((xs.drop i).take (l.length+1-i)).take (l.length-i)=l.drop i:=by
  rw[List.take_take,Nat.min_eq_left (by omega),hx,List.drop_append_of_le_length (by omega),List.take_append_of_le_length (by rw[List.length_drop];omega),List.take_of_length_le (by rw[List.length_drop];omega)]
 have e2:xs.drop (i+1+(l.length-i))=List.replicate (k-1) gV:=by
  rw[hx,List.drop_append,List.drop_eq_nil_of_le (by omega),List.nil_append,List.drop_replicate]
  congr 1;omega
 have hl:(xs.take (i+1)).length=i+1:=by rw[List.length_take,hx,List.length_append];omega
 have e3:ys.take i=l.take i:=by
  rw[hy,List.take_append_of_le_length (by omega),List.take_take,Nat.min_eq_left (by omega),hx,List.take_append_of_le_length (by omega)]
 have e4:ys.drop (i+1)=l.drop i++List.replicate (k-1) gV:=by
  rw[hy,e1,e2]
  exact List.drop_left' hl
 rw[e3,e4]
 simp[I0]
def eZ(l:List al)(i:Nat):List al:=l.take i++l.drop (i+1)
theorem CZ{l:List al}{i:Nat}(h:i<l.length):(eZ l i).length=l.length-1:=by
 simp only[eZ,List.length_append,List.length_take,List.length_drop];omega
def CX(l:List al)(i:Nat):cN:=fun r os'=>∃ q,r=.view 1000000 [] 17 0 (l.length-1)∧os'=kV 1000000 (eZ l i) q
theorem aix(l:List al)(i k:Nat)(h:i+1<l.length)(xs:List al)(hx:xs=l++List.replicate k gV)(a:List al)(ha:a=xs.take i++(l.drop (i+1)++xs.drop (i+(l.drop (i+1)).length))) :
  a.take (l.length-1)++(List.replicate 1 gV++a.drop (l.length-1+1))=eZ l i++List.replicate (k+1) gV:=by
 have e1:xs.take i=l.take i:=by rw[hx,List.take_append_of_le_length (by omega)]
 have e0:i+(l.drop (i+1)).length=l.length-1:=by rw[List.length_drop];omega
 have e2:a=eZ l i++xs.drop (l.length-1):=by rw[ha,e1,e0,eZ,List.append_assoc]
 have hl:=CZ (l:=l) (i:=i) (by omega)
 have e3:a.take (l.length-1)=eZ l i:=by rw[e2,←hl,List.take_left]
 have e4:a.drop (l.length-1+1)=List.replicate k gV:=by
  rw[e2,List.drop_append,hl,List.drop_eq_nil_of_le (by omega),List.nil_append,List.drop_drop]
  have:l.length-1+(l.length-1+1-(l.length-1))=l.length:=by omega
  rw[this,hx,List.drop_left]
 rw[e3,e4,List.replicate_append_replicate,Nat.add_comm 1 k]
theorem aiy(l:List al)(k:Nat)(i:Nat)(h:i+1=l.length)(xs:List al)(hx:xs=l++List.replicate k gV):xs.take (l.length-1)++(List.replicate 1 gV++xs.drop (l.length-1+1))=eZ l i++List.replicate (k+1) gV:=by
 have e1:l.length-1=i:=by omega
 have e2:xs.drop (l.length-1+1)=List.replicate k gV:=by rw[show l.length-1+1=l.length by omega,hx,List.drop_left]
 have e3:xs.take (l.length-1)=eZ l i:=by
  rw[e1,hx,List.take_append_of_le_length (by omega),eZ,List.drop_eq_nil_of_le (by omega),List.append_nil]
 rw[e2,e3,List.replicate_append_replicate,Nat.add_comm 1 k]
theorem NI(l:List al)(i:Nat)(k:Nat)(hi:i<l.length)(hlen:l.length≤1000) :
  cz Tryz.prog 135 [.view 1000000 [] 17 0 l.length,enc (i:Int),enc ((i+1:Nat):Int)] (kV 1000000 l k) (CX l i):=by
 refine cz.bn Tryz.func135 Qs Sm Uz (Nat.le_of_ble_eq_true rfl) (Nat.le_of_ble_eq_true rfl) (fun m hm=>by rw[cQ.1 hm];exact Nat.le_refl _) (fun hwf W0 D0 E1 =>?_)
 simp only[AM,Kz,a6,Nat.zero_add,Nat.reduceAdd]
 simp only[kV]
 obtain ⟨xs,hxs⟩:∃ xs,xs=l++List.replicate k gV:=⟨_,rfl⟩
 have hxl:xs.length=l.length+k:=by rw[hxs];simp
 have htot:(xs.map (enc (α:=al))).length=l.length+k:=by rw[List.length_map];exact hxl
 rw[←hxs]
 have hA:∀ ts,(aq ts [(1000000,.box (.agg (xs.map (enc (α:=al)))))]).o 1000000=some (.box (.agg (xs.map enc))):=fun _=>rfl
 refine .au (by decide +kernel) fun K hK =>?_
 simp only[EW,U]
 refine .done (hK _ ?_);clear hK K
 refine .au (by decide +kernel) fun K hK =>?_
 simp only[EX,U,Nat.reduceEqDiff,reduceIte]
 try simp only[cG,htot,Option.map_some,alo (show i≤i+1 by omega) (show i+1≤l.length by omega) (show l.length≤l.length+k by omega),U,Nat.reduceEqDiff,reduceIte]
 refine .done (hK _ ?_);clear hK K
 refine J.seq (J.seq ?_)
 refine .bV (by decide +kernel) fun K hK =>?_
 simp only[EY,U,Nat.reduceEqDiff,reduceIte]
 try simp only[er,bh,lR,fb,U,Nat.reduceEqDiff,reduceIte,Int.reduceBNe,Int.reduceBEq]
 refine .done (hK _ ?_);clear hK K;try simp only[aF]
 refine J.bW ?_
 simp only[ak,U,Nat.reduceEqDiff,reduceIte]
 refine ⟨fun h =>?_,fun h =>?_⟩
 ·exfalso
  have:(i:Int)=((i+1:Nat):Int):=by simpa using h
  omega
 refine J.skip ?_;try simp only[aF]
 refine .au (by decide +kernel) fun K hK =>?_
 simp only[EZ,U,Nat.reduceEqDiff,reduceIte]
 try simp only[cG,U,Nat.reduceEqDiff,reduceIte]
 refine .done (hK _ ?_);clear hK K
 by_cases hl1:i+1<l.length
 ·have hd:(xs.drop (i+1)).take (l.length-(i+1))=l.drop (i+1):=by
   rw[hxs,List.drop_append_of_le_length (by omega),List.take_append_of_le_length (by rw[List.length_drop];omega),List.take_of_length_le (by rw[List.length_drop];omega)]
  have hdl:i+(l.drop (i+1)).length=l.length-1:=by rw[List.length_drop];omega
  obtain ⟨b,hb⟩:∃ b,b=xs.take i++(l.drop (i+1)++xs.drop (i+(l.drop (i+1)).length)):=⟨_,rfl⟩
  have hbl:b.length=l.length+k:=by rw[hb];simp;omega
  have hcont:=aix l i k hl1 xs hxs b hb
  refine .au (by decide +kernel) fun K hK =>?_
  simp only[wv,U,Nat.reduceEqDiff,reduceIte]
  try simp only[cG,htot,Option.map_none,Option.map_some,uk (show i≤l.length+k by omega) (show 0<l.length+k by omega),rI (show i+1≤l.length by omega) (show l.length≤l.length+k by omega) (show i+1<l.length+k by omega),U,Nat.reduceEqDiff,reduceIte]
  rw[Pm (esz:=17) (xs:=xs) (ys:=l.drop (i+1)) _ _ (by rw[qc (xs:=xs) (hA _) (by omega),hd]) (by simp;omega) (hA _) (by rw[List.length_drop];omega)]
  rw[←hb,hdl]
  try simp only[U,Nat.reduceEqDiff,reduceIte]
  refine .done (hK _ ?_);clear hK K
  have htb:(b.map (enc (α:=al))).length=l.length+k:=by rw[List.length_map];exact hbl
  have hB:∀ ts os,(aq ts ((1000000,.box (.agg (b.map (enc (α:=al)))))::os)).o 1000000=some (.box (.agg (b.map enc))):=fun _ _=>rfl
  refine .au (by decide +kernel) fun K hK =>?_
  simp only[wy,U,Nat.reduceEqDiff,reduceIte]
  try simp only[cG,htb,Option.map_none,Option.map_some,sD,U,Nat.reduceEqDiff,reduceIte]
  rw[ME (show l.length-1≤l.length by omega) (show l.length≤l.length+k by omega) (by omega)]
  try simp only[cG,U,Nat.reduceEqDiff,reduceIte]
  rw[sv (xs:=b) gV (hB _ _) (by omega)]
  have hone:l.length-(l.length-1)=1:=by omega
  try simp only[hone,hcont,U]
  refine .done (hK _ ?_);clear hK K
  refine .au (by decide +kernel) fun K hK =>?_
  simp only[wz,U,Nat.reduceEqDiff,reduceIte]
  refine .done (hK _ ?_);clear hK K
  refine J.ret ?_
  simp only[fq]
  exact ⟨kV 1000000 (eZ l i) (k+1),[.view 1000000 [] 17 0 (l.length-1)],kL rfl (fun p=>xM p _),⟨⟨_,rfl,.inl ⟨rfl,rfl,rfl⟩⟩,trivial⟩,k+1,rfl,rfl⟩
 ·have hie:i+1=l.length:=by omega
  obtain ⟨b,hb⟩:∃ b,b=xs:=⟨_,rfl⟩
  have hbl:b.length=l.length+k:=by rw[hb];exact hxl
  have hcont:=aiy l k i hie xs hxs
  rw[←hb] at hcont
  have hi1:i=l.length-1:=by omega
  obtain ⟨y,hy⟩:=aln (n:=1000000) (p:=[]) (sz:=17) (show i+1≤l.length by omega) (show l.length≤l.length+k by omega)
  have hye:∀ ts,eC (aq ts [(1000000,.box (.agg (xs.map (enc (α:=al)))))]) 17 y=some []:=fun ts=>by
   by_cases hk:k=0
   ·have:hU 1000000 [] 17 0 l.length (l.length+k) (some (.int .i64 ((i+1:Nat):Int))) none none=some (.c0 17):=by
     simp only[hU,ic]
     rw[if_pos ⟨by omega,by omega,by omega⟩,if_pos (by omega)]
    rw[this] at hy;cases hy;rfl
   ·rw[rI (show i+1≤l.length by omega) (show l.length≤l.length+k by omega) (by omega)] at hy
    cases hy
    rw[qc (xs:=xs) (hA _) (by omega),hie]
    simp
  refine .au (by decide +kernel) fun K hK =>?_
  simp only[wv,U,Nat.reduceEqDiff,reduceIte]
  try simp only[cG,htot,Option.map_none,Option.map_some,uk (show i≤l.length+k by omega) (show 0<l.length+k by omega),hy,U,Nat.reduceEqDiff,reduceIte]
  rw[z1 (esz:=17) (xs:=xs) _ _ (hye _) (hA _) (by omega)]
  rw[hi1,←hb]
  try simp only[U,Nat.reduceEqDiff,reduceIte]
  refine .done (hK _ ?_);clear hK K
  have htb:(b.map (enc (α:=al))).length=l.length+k:=by rw[List.length_map];exact hbl
  have hB:∀ ts os,(aq ts ((1000000,.box (.agg (b.map (enc (α:=al)))))::os)).o 1000000=some (.box (.agg (b.map enc))):=fun _ _=>rfl
  refine .au (by decide +kernel) fun K hK =>?_
  simp only[wy,U,Nat.reduceEqDiff,reduceIte]
  try simp only[cG,htb,Option.map_none,Option.map_some,sD,U,Nat.reduceEqDiff,reduceIte]
  rw[ME (show l.length-1≤l.length by omega) (show l.length≤l.length+k by omega) (by omega)]
  try simp only[cG,U,Nat.reduceEqDiff,reduceIte]
  rw[sv (xs:=b) gV (hB _ _) (by omega)]
  have hone:l.length-(l.length-1)=1:=by omega
  try simp only[hone,hcont,U]
  refine .done (hK _ ?_);clear hK K
  refine .au (by decide +kernel) fun K hK =>?_
  simp only[wz,U,Nat.reduceEqDiff,reduceIte]
  refine .done (hK _ ?_);clear hK K
  refine J.ret ?_
  simp only[fq]
  exact ⟨kV 1000000 (eZ l i) (k+1),[.view 1000000 [] 17 0 (l.length-1)],kL rfl (fun p=>xM p _),⟨⟨_,rfl,.inl ⟨rfl,rfl,rfl⟩⟩,trivial⟩,k+1,rfl,rfl⟩
def eg(b:aA)(s:I):I:=.agg [.agg [.int .i64 b.no,.int .i64 b.ec,.int .i64 b.dI,.int .i64 b.b5,.int .i64 b.iz,.int .i64 b.born,.int .i64 b.dm,.bool b.found,s]]
structure eK where
 b:aA
instance:Enc eK where
 enc x:=.agg [enc x.b]
 sz:=9
 aR:=.eh [.eh [.one,.one,.one,.one,.one,.one,.one,.one,.one]]
 ga:=true
 done e:=by simp only[I.done,I.eS,Enc.done,Bool.and_self]
 size e:=by simp only[I.size,I.sizes,iT,C8]
 jV e:=by simp only[I.aR,I.cT,eM];rfl
 agg _:=rfl
def eU(B:Nat):Nat→List aA→List (Nat×ah)
 |_,[]=>[]
 |i,b::bs=>(B+2+2*i,.box (eg b (.own (B+3+2*i) b.aY.length)))::(B+3+2*i,.bT 66 6 (b.aY.map enc))::eU B (i+1) bs
def eb(B n:Nat):List I:=(List.range n).map fun i=>.ptr (B+2+2*i) []
def dp(bs:List aA):List I:=(bs.map (·.no)).map enc
def cn(B:Nat)(bs:List aA):List (Nat×ah):=(B,.box (.agg [.mref (B+1)]))::(B+1,.ct (dp bs) (eb B bs.length))::eU B 0 bs
theorem tj(B:Nat):∀ (bs:List aA) (i n:Nat),n<B+2+2*i→ai (eU B i bs) n=none
 | [],_,_,_=>rfl
 |b::bs,i,n,h=>by
  simp only[eU,ai]
  rw[if_neg (by omega),if_neg (by omega)]
  exact tj B bs (i+1) n (by omega)
theorem tg(B:Nat):∀ (bs:List aA) (i n:Nat),B+2+2*(i+bs.length)≤n→ai (eU B i bs) n=none
 | [],_,_,_=>rfl
 |b::bs,i,n,h=>by
  simp only[List.length_cons] at h
  simp only[eU,ai]
  rw[if_neg (by omega),if_neg (by omega)]
  exact tg B bs (i+1) n (by omega)
theorem th(B:Nat):∀ (bs:List aA) (i k:Nat) (h:k<bs.length),ai (eU B i bs) (B+2+2*(i+k))=some (.box (eg bs[k] (.own (B+3+2*(i+k)) (bs[k]).aY.length)))
 | [],_,_,h=>by simp at h
 |b::bs,i,0,_=>by simp[eU,ai]
 |b::bs,i,k+1,h=>by
  simp only[eU,ai]
  rw[if_neg (by omega),if_neg (by omega)]
  have:=th B bs (i+1) k (by simpa using h)
  rw[show i+1+k=i+(k+1) by omega] at this
  exact this
theorem tk(B:Nat):∀ (bs:List aA) (i k:Nat) (h:k<bs.length),ai (eU B i bs) (B+3+2*(i+k))=some (.bT 66 6 ((bs[k]).aY.map enc))
 | [],_,_,h=>by simp at h
 |b::bs,i,0,_=>by
  simp only[eU,ai]
  rw[if_neg (by omega),if_pos (by omega)];rfl
 |b::bs,i,k+1,h=>by
  simp only[eU,ai]
  rw[if_neg (by omega),if_neg (by omega)]
  have:=tk B bs (i+1) k (by simpa using h)
  rw[show i+1+k=i+(k+1) by omega] at this
  exact this
theorem tB(B n m:Nat):n<B∨n=B∨n=B+1∨(∃ k,k<m∧n=B+2+2*k)∨(∃ k,k<m∧n=B+3+2*k)∨B+2+2*m≤n:=by
 by_cases h1:n<B
 ·exact .inl h1
 by_cases h2:n=B
 ·exact .inr (.inl h2)
 by_cases h3:n=B+1
 ·exact .inr (.inr (.inl h3))
 by_cases h4:B+2+2*m≤n
 ·exact .inr (.inr (.inr (.inr (.inr h4))))
 rcases Nat.mod_two_eq_zero_or_one (n-B) with h5 | h5
 ·exact .inr (.inr (.inr (.inl ⟨(n-B-2) / 2,by omega,by omega⟩)))
 ·exact .inr (.inr (.inr (.inr (.inl ⟨(n-B-3) / 2,by omega,by omega⟩))))
section
variable {B:Nat} {bs:List aA}
theorem kb{n:Nat}(h:n<B):ai (cn B bs) n=none:=by
 simp only[cn,ai]
 rw[if_neg (by omega),if_neg (by omega)]
 exact tj B bs 0 n (by omega)
theorem ta{n:Nat}(h:B+2+2*bs.length≤n):ai (cn B bs) n=none:=by
 simp only[cn,ai]
 rw[if_neg (by omega),if_neg (by omega)]
 exact tg B bs 0 n (by omega)
theorem ka:ai (cn B bs) B=some (.box (.agg [.mref (B+1)])):=by simp[cn,ai]
theorem kM:ai (cn B bs) (B+1)=some (.ct (dp bs) (eb B bs.length)):=by simp[cn,ai]
theorem mz{k:Nat}(h:k<bs.length):ai (cn B bs) (B+2+2*k)=some (.box (eg bs[k] (.own (B+3+2*k) (bs[k]).aY.length))):=by
 simp only[cn,ai]
 rw[if_neg (by omega),if_neg (by omega)]
 have:=th B bs 0 k h
 rwa [Nat.zero_add] at this
theorem lH{k:Nat}(h:k<bs.length):ai (cn B bs) (B+3+2*k)=some (.bT 66 6 ((bs[k]).aY.map enc)):=by
 simp only[cn,ai]
 rw[if_neg (by omega),if_neg (by omega)]
 have:=tk B bs 0 k h
 rwa [Nat.zero_add] at this
theorem nq{n:Nat} : ao (cn B bs) n=decide (B≤n∧n<B+2+2*bs.length):=by
 rcases tB B n bs.length with h | h | h | ⟨k,hk,h⟩ | ⟨k,hk,h⟩ | h
 ·simp only[ao,kb h];simp;omega
 ·subst h;simp only[ao,ka];simp;omega
 ·subst h;simp only[ao,kM];simp;omega
 ·subst h;simp only[ao,mz hk];simp;omega
 ·subst h;simp only[ao,lH hk];simp;omega
 ·simp only[ao,ta h];simp;omega
theorem yb(p:Nat→Bool){n:Nat}(h:∀ i,i<n→p (B+2+2*i)=true):I.bP p (eb B n)=true:=by
 unfold eb
 induction n with
 |zero=>rfl
 |succ n ih =>
  rw[List.range_succ,List.map_append,gv,ih fun i hi=>h i (by omega)]
  simp[I.bP,I.only,h n (by omega)]
theorem fx{n:Nat}{x:ah}(h:ai (cn B bs) n=some x):x.only (ao (cn B bs))=true∧x.eO=true:=by
 rcases tB B n bs.length with h2 | h2 | h2 | ⟨k,hk,h2⟩ | ⟨k,hk,h2⟩ | h2
 ·rw[kb h2] at h;cases h
 ·subst h2;rw[ka] at h;cases h
  simp[ah.only,I.only,I.bP,nq,ah.eO];omega
 ·subst h2;rw[kM] at h;cases h
  refine ⟨?_,rfl⟩
  simp only[ah.only,Bool.and_eq_true]
  exact ⟨dU _ _,yb _ fun i hi=>by rw[nq];simp;omega⟩
 ·subst h2;rw[mz hk] at h;cases h
  simp[ah.only,I.only,I.bP,nq,ah.eO,eg];omega
 ·subst h2;rw[lH hk] at h;cases h
  exact ⟨dU _ _,rfl⟩
 ·rw[ta h2] at h;cases h
theorem IM{i:Nat}(hi:i<bs.length)(b:aA)(hno:b.no=(bs[i]).no)(n:Nat):ai (cn B (bs.set i b)) n =
  if n=B+2+2*i then some (.box (eg b (.own (B+3+2*i) b.aY.length))) else if n=B+3+2*i then some (.bT 66 6 (b.aY.map enc)) else ai (cn B bs) n:=by
 have hl:(bs.set i b).length=bs.length:=List.length_set
 have hnos:dp (bs.set i b)=dp bs:=by
  simp only[dp,List.map_set,hno]
  congr 1
  exact List.ext_getElem (by simp) fun j h1 h2=>by
   simp only[List.getElem_set,List.getElem_map]
   split
   ·rename_i e;subst e;rfl
   ·rfl
 rcases tB B n bs.length with h2 | h2 | h2 | ⟨k,hk,h2⟩ | ⟨k,hk,h2⟩ | h2
 ·rw[kb h2,kb h2,if_neg (by omega),if_neg (by omega)]
 ·subst h2;rw[ka,ka,if_neg (by omega),if_neg (by omega)]
 ·subst h2;rw[kM,kM,hl,hnos,if_neg (by omega),if_neg (by omega)]
 ·subst h2
  rw[mz (by omega),mz hk]
  by_cases e:k=i
  ·subst e;simp
  ·rw[if_neg (by omega),if_neg (by omega)]
   simp[Ne.symm e]
 ·subst h2
  rw[lH (by omega),lH hk]
  by_cases e:k=i
  ·subst e
   rw[if_neg (by omega),if_pos rfl]
   simp
  ·rw[if_neg (by omega),if_neg (by omega)]
   simp[Ne.symm e]
 ·rw[ta (by omega),ta h2,if_neg (by omega),if_neg (by omega)]
end
theorem J8{B n i:Nat}(h:i<n):(eb B n)[i]?=some (.ptr (B+2+2*i) []):=by simp[eb,h]
theorem vM(a b:Int):cg (.i .i64) (enc a) (enc b)=some (decide (a=b)):=Db a b
theorem sV{bs:List aA}{no:Int} : match (bs.map (·.no)).findIdx? fun x=>decide (no=x) with
  |some i=>∃ h:i<bs.length,cB bs no=some bs[i]∧(bs[i]).no=no
  |none=>cB bs no=none:=by
 cases h:(bs.map (·.no)).findIdx? fun x=>decide (no=x) with
 |none =>
  rw[List.findIdx?_eq_none_iff] at h
  simp only
  rw[sW]
  intro hm
  have:=h no hm
  simp at this
 |some i =>
  obtain ⟨h1,h2,h3⟩:=List.findIdx?_eq_some_iff_getElem.1 h
  have hi:i<bs.length:=by simpa using h1
  have hno:(bs[i]).no=no:=by simpa using (of_decide_eq_true h2).symm
  refine ⟨hi,?_,hno⟩
  simp only[cB,List.find?_eq_some_iff_getElem]
  refine ⟨by simpa using hno,i,hi,rfl,fun j hj =>?_⟩
  have:=h3 j hj
  simp at this
  simpa using fun e=>this e.symm
theorem pJ(B:Nat)(bs:List aA)(no:Int):(cB bs no=none∧gp (.i .i64) .nilp (.int .i64 no) (dp bs) (eb B bs.length)=some (.nilp,false)) ∨
  ∃ i,∃ h:i<bs.length,cB bs no=some bs[i]∧(bs[i]).no=no∧gp (.i .i64) .nilp (.int .i64 no) (dp bs) (eb B bs.length)=some (.ptr (B+2+2*i) [],true):=by
 have h1:=sV (bs:=bs) (no:=no)
 have h2:=xG vM .nilp no (bs.map (·.no)) (eb B bs.length)
 rw[ij] at h2
 unfold dp
 cases h:(bs.map (·.no)).findIdx? fun x=>decide (no=x) with
 |none=>rw[h] at h1 h2;exact .inl ⟨h1,h2⟩
 |some i =>
  rw[h] at h1 h2
  obtain ⟨hi,g1,g2⟩:=h1
  refine .inr ⟨i,hi,g1,g2,?_⟩
  rw[h2];simp only[J8 hi,Option.map_some]
theorem My{bs:List aA}(hd:(bs.map (·.no)).Nodup){i:Nat}(hi:i<bs.length){b:aA}(hno:b.no=(bs[i]).no):mT bs b=bs.set i b:=by
 refine List.ext_getElem (by simp[mT]) fun j h1 h2 =>?_
 simp only[mT,List.getElem_map,List.getElem_set]
 have hj:j<bs.length:=by simpa using h2
 by_cases e:i=j
 ·subst e;rw[if_pos hno.symm,if_pos rfl]
 ·rw[if_neg e,if_neg]
  intro he
  have he:=he.trans hno
  have:=(List.getElem_inj (h₀:=by simpa using hj) (h₁:=by simpa using hi) hd).1 (by simpa using he)
  exact e this.symm
theorem Dk(x:eK):(enc x).dn=some [enc x.b]:=rfl
theorem Dl(b:aA)(s:I):(eg b s).dn=some [.agg [.int .i64 b.no,.int .i64 b.ec,.int .i64 b.dI,.int .i64 b.b5,.int .i64 b.iz,.int .i64 b.born,.int .i64 b.dm,.bool b.found,s]]:=rfl
theorem CI(b:aA)(n k:Nat):(eg b (.own n k)).br=false:=by simp[eg,I.br,I.bU]
theorem mw{A:ab}{m n:Nat}{b:aA}(ho:A.o n=some (.bT 66 6 (b.aY.map enc))):dv A (m+3) (eg b (.own n b.aY.length))=some (enc (⟨b⟩:eK)):=by
 have h1:dv A (m+1) (.own n b.aY.length)=some (enc b.aY):=by
  simp only[dv,I.br,Bool.false_eq_true,if_false,ho,List.length_map,jI,and_self,if_true];rfl
 have hi:∀ (k:IntKind) (v:Int),dv A (m+1) (.int k v)=some (.int k v):=fun _ _=>by simp[dv,I.br]
 have hb:∀ v:Bool,dv A (m+1) (.bool v)=some (.bool v):=fun _=>by simp[dv,I.br]
 have h2:dv A (m+2) (.agg [.int .i64 b.no,.int .i64 b.ec,.int .i64 b.dI,.int .i64 b.b5,.int .i64 b.iz,.int .i64 b.born,.int .i64 b.dm,.bool b.found,.own n b.aY.length])=some (enc b):=by
  rw[dv]
  simp only[I.br,I.bU,Bool.and_false,Bool.and_true,Bool.false_eq_true,if_false,fH,hi,hb,h1,Option.map_some]
  rfl
 rw[eg,dv]
 simp only[I.br,I.bU,Bool.and_false,Bool.and_true,Bool.false_eq_true,if_false,fH,h2,Option.map_some]
 rfl
theorem MO :
  (∀ (A:ab) n b s (v u:Int) rest,dg A none n [0,3] (eg b s) (.int .i64 v) rest (some (.int .i64 u))=ay rest (A.aN n (.box (eg { b with b5:=v } s)))) ∧
  (∀ (A:ab) n b s (v u:Int) rest,dg A none n [0,6] (eg b s) (.int .i64 v) rest (some (.int .i64 u))=ay rest (A.aN n (.box (eg { b with dm:=v } s)))) ∧
  (∀ (A:ab) n b s (v u:Bool) rest,dg A none n [0,7] (eg b s) (.bool v) rest (some (.bool u))=ay rest (A.aN n (.box (eg { b with found:=v } s)))) ∧
  (∀ (A:ab) n b s m k m' k' rest,dg A none n [0,8] (eg b s) (.own m k) rest (some (.own m' k'))=ay rest (A.aN n (.box (eg b (.own m k))))) :=
 ⟨fun _ _ _ _ v u _=>by rw[eD (s:=none) (v:=.int .i64 v) (old:=.int .i64 u) rfl rfl rfl];rfl,fun _ _ _ _ v u _=>by rw[eD (s:=none) (v:=.int .i64 v) (old:=.int .i64 u) rfl rfl rfl];rfl,
  fun _ _ _ _ v u _=>by rw[eD (s:=none) (v:=.bool v) (old:=.bool u) rfl rfl rfl];rfl,fun _ _ _ _ m k m' k' _=>by rw[eD (s:=none) (v:=.own m k) (old:=.own m' k') rfl rfl rfl];rfl⟩
theorem gQ:(type_of% @Dk)∧(type_of% @Dl)∧(type_of% @CI)∧(type_of% @MO)∧(type_of% @fI)∧(∀ n:Nat,(n=n)=True)∧(∀ rs post A,nH rs post .ret A=lh rs post A):=⟨Dk,Dl,CI,MO,fI,fun _=>eq_self _,fq⟩
theorem jq(b:aA):av Tryz.prog 90 [.ref (enc (⟨b⟩:eK))] (enc (decide (0≤b.dm))):=by
 refine av.bn Tryz.func90 RO TM VW (Nat.le_of_ble_eq_true rfl) (fun hwf W0 D0 E1 =>?_)
 simp only[Cf,LX,a6]
 have R:=And.intro @gQ (And.intro @eB (And.intro @aK @U))
 repeat' ((first
  |(with_reducible refine .guard (fun hb =>?_) (fun hb =>?_) <;>try simp only[hb])
  |refine J.aG (by decide +kernel) rfl fun K hK =>?_
  |(refine .aw [0,2] hK ?_;clear hK K)
  |(with_reducible refine .done (hK _ ?_);clear hK K)
  |refine J.of rfl ?_
  |(with_reducible refine ak.aE (fun h =>?_) (fun h =>?_) <;>try simp only[h])) <;>try simp only[aH,R,simprocAttr])
 all_goals clear R
def iW(B d:Nat)(bs:List aA)(x:al):cN:=fun r os'=>match di fk bs x with
 |none=>r=.bool false∧os'=cn B bs
 |some bs'=>r=.bool true∧os'=if x.kind=1∨x.kind=2 then (B+1,.ct (dp bs') (eb B bs.length++[.ptr d []]))::(d,.box (eg (fp x) (.nils 6)))::cn B bs else cn B bs'
theorem kN{bs:List aA} : ∀ m,ao (cn 1000000 bs) m=true→1000000≤m:=fun m hm=>by rw[nq] at hm;simp at hm;omega
theorem gh{ts:List (Nat×I)}{os os':List (Nat×ah)}{b:Bool}{post:cN}(ht:Abs.bH ts 4=.bool b)(ho:∀ n,ao os' n=true→ai os n=ai os' n)(hg:∀ n x,ai os' n=some x→x.only (ao os')=true∧x.eO=true)(hp:post (.bool b) os'):lh [.tmp 4] post (aq ts os):=by
 refine ⟨os',[.bool b],fun n x hx=>⟨?_,hg n x hx⟩,⟨⟨.bool b,?_,.inl ⟨rfl,rfl,rfl⟩⟩,trivial⟩,hp⟩
 ·show ai os n=some x
  rw[ho n (by simp[ao,hx])];exact hx
 ·show some (Abs.bH ts 4)=some _
  rw[ht]
theorem lI{bs:List aA}{z:ah} : ∀ n,ao (cn 1000000 bs) n=true→ai ((3,z)::cn 1000000 bs) n=ai (cn 1000000 bs) n:=fun n h=>by
 have:=kN n h
 simp only[ai];rw[if_neg (by omega)]
theorem xp{bs:List aA}{i:Nat}(hi:i<bs.length){b:aA}(hno:b.no=(bs[i]).no)(hs:b.aY=(bs[i]).aY){z:ah}{nl nr:Nat}(hnl:nl=1000000+2+2*i)(hnr:nr=1000000+3+2*i) :
  ∀ n,ao (cn 1000000 (bs.set i b)) n=true→ai ((nl,.box (eg b (.own nr (bs[i]).aY.length)))::(3,z)::cn 1000000 bs) n=ai (cn 1000000 (bs.set i b)) n:=fun n h=>by
 have:=kN n h
 rw[IM hi b hno]
 simp only[ai,hs]
 subst hnl hnr
 rw[if_neg (show ¬ n=3 by omega)]
 split
 ·rfl
 ·split
  ·rename_i e;subst e;exact lH hi
  ·rfl
theorem jN{B d:Nat}{bs:List aA}{x:al}(h:di fk bs x=none):iW B d bs x (.bool false) (cn B bs):=by simp[iW,h]
theorem td{B d:Nat}{bs:List aA}{x:al}(hd:(bs.map (·.no)).Nodup)(hk:¬ (x.kind=1∨x.kind=2)){i:Nat}(hi:i<bs.length)(hg:cB bs x.c4=some bs[i]){b:aA}(ht:fF bs[i] x=some b)(hno:b.no=(bs[i]).no) :
  iW B d bs x (.bool true) (cn B (bs.set i b)):=by
 have:di fk bs x=some (bs.set i b):=by
  simp only[di,if_neg hk,hg,ht,Option.map_some,My hd hi hno]
 simp only[iW,this,if_neg hk,and_self]
theorem sd{bs:List aA}{x:al}(hk:¬ (x.kind=1∨x.kind=2))(hg:cB bs x.c4=none):di fk bs x=none:=by
 simp only[di,if_neg hk,hg]
theorem Aa{bs:List aA}{x:al}(hk:¬ (x.kind=1∨x.kind=2)){b:aA}(hg:cB bs x.c4=some b)(ht:fF b x=none):di fk bs x=none:=by
 simp only[di,if_neg hk,hg,ht,Option.map_none]
theorem N6(bs:List aA)(x:al)(d:Nat)(hk:x.kind=3)(hd:(bs.map (·.no)).Nodup):cz Tryz.prog 174 [.ptr 1000000 [],enc x] (cn 1000000 bs) (iW 1000000 d bs x):=by
 refine cz.bn Tryz.func174 QW SS U4 (Nat.le_of_ble_eq_true rfl) (Nat.le_of_ble_eq_true rfl) kN (fun hwf W0 D0 E1 =>?_)
 simp only[Bk,K3,a6,Nat.zero_add]
 clear hwf
 have hk12:¬ (x.kind=1∨x.kind=2):=by omega
 have n3:ai (cn 1000000 bs) 3=none:=kb (by omega)
 have h0:ai (cn 1000000 bs) 1000000=some (.box (.agg [.mref 1000001])):=ka
 have h1:ai (cn 1000000 bs) 1000001=some (.ct (dp bs) (eb 1000000 bs.length)):=kM
 rcases pJ 1000000 bs x.c4 with ⟨hg,hlk⟩ | ⟨i,hi,hg,hno,hlk⟩
 ·have R:=And.intro @n3 (And.intro @h0 (And.intro @h1 (And.intro @hlk (And.intro @cC (And.intro @gQ (And.intro @eB (And.intro @aK @U)))))))
  repeat' ((first
   |(with_reducible refine .guard (fun hb =>?_) (fun hb =>?_) <;>try simp only[hb])
   |refine J.aG (by decide +kernel) rfl fun K hK =>?_
   |refine .flat _ (jq _) rfl ?_
   |(refine .aw [0,1,3,4,5,36] hK ?_;clear hK K)
   |(with_reducible refine .done (hK _ ?_);clear hK K)
   |refine J.of rfl ?_
   |(with_reducible refine ak.aE (fun h =>?_) (fun h =>?_) <;>try simp only[h])) <;>try simp only[aH,R,simprocAttr])
  all_goals clear R
  exact gh rfl lI (fun n x h=>fx h) (jN (sd hk12 hg))
 ·have hl:=mz (B:=1000000) hi
  have hr:=lH (B:=1000000) hi
  obtain ⟨nl,hnl⟩:∃ nl,nl=1000000+2+2*i:=⟨_,rfl⟩
  obtain ⟨nr,hnr⟩:∃ nr,nr=1000000+3+2*i:=⟨_,rfl⟩
  rw[←hnl] at hl hlk
  rw[←hnr] at hl hr
  have e1:(nl=3)=False:=by simp;omega
  have e2:(nr=3)=False:=by simp;omega
  have e3:(3=nl)=False:=by simp;omega
  have e4:(nr=nl)=False:=by simp;omega
  have e5:(nl=nr)=False:=by simp;omega
  have e6:(3=nr)=False:=by simp;omega
  have R:=And.intro @n3 (And.intro @h0 (And.intro @h1 (And.intro @hl (And.intro @hr (And.intro @e1 (And.intro @e2 (And.intro @e3 (And.intro @hlk (And.intro @mw (And.intro @cC (And.intro @gQ (And.intro @eB (And.intro @aK @U)))))))))))))
  repeat' ((first
   |(with_reducible refine .guard (fun hb =>?_) (fun hb =>?_) <;>try simp only[hb])
   |refine J.aG (by decide +kernel) rfl fun K hK =>?_
   |refine .flat _ (jq _) rfl ?_
   |(refine .aw [0,1,3,4,5,36] hK ?_;clear hK K)
   |(with_reducible refine .done (hK _ ?_);clear hK K)
   |refine J.of rfl ?_
   |(with_reducible refine ak.aE (fun h =>?_) (fun h =>?_) <;>try simp only[h])) <;>try simp only[aH,R,simprocAttr])
  all_goals clear R
  all_goals first
   |exact gh rfl lI (fun n x h=>fx h) (jN (Aa hk12 hg (by simp_all[fF])))
   |exact gh rfl (xp hi (b := { bs[i] with b5:=x.b5 }) rfl rfl hnl hnr) (fun n x h=>fx h) (td hd hk12 hi hg (by simp_all[fF]) rfl)
theorem N8(bs:List aA)(x:al)(d:Nat)(hk:x.kind=5)(hd:(bs.map (·.no)).Nodup):cz Tryz.prog 176 [.ptr 1000000 [],enc x] (cn 1000000 bs) (iW 1000000 d bs x):=by
 refine cz.bn Tryz.func176 QY SV U6 (Nat.le_of_ble_eq_true rfl) (Nat.le_of_ble_eq_true rfl) kN (fun hwf W0 D0 E1 =>?_)
 simp only[Bm,K5,a6,Nat.zero_add]
 clear hwf
 have hk12:¬ (x.kind=1∨x.kind=2):=by omega
 have n3:ai (cn 1000000 bs) 3=none:=kb (by omega)
 have h0:ai (cn 1000000 bs) 1000000=some (.box (.agg [.mref 1000001])):=ka
 have h1:ai (cn 1000000 bs) 1000001=some (.ct (dp bs) (eb 1000000 bs.length)):=kM
 rcases pJ 1000000 bs x.c4 with ⟨hg,hlk⟩ | ⟨i,hi,hg,hno,hlk⟩
 ·have R:=And.intro @n3 (And.intro @h0 (And.intro @h1 (And.intro @hlk (And.intro @cC (And.intro @gQ (And.intro @eB (And.intro @aK @U)))))))
  repeat' ((first
   |(with_reducible refine .guard (fun hb =>?_) (fun hb =>?_) <;>try simp only[hb])
   |refine J.aG (by decide +kernel) rfl fun K hK =>?_
   |refine .flat _ (jq _) rfl ?_
   |(refine .aw [0,1,3,4,5,14] hK ?_;clear hK K)
   |(with_reducible refine .done (hK _ ?_);clear hK K)
   |refine J.of rfl ?_
   |(with_reducible refine ak.aE (fun h =>?_) (fun h =>?_) <;>try simp only[h])) <;>try simp only[aH,R,simprocAttr])
  all_goals clear R
  exact gh rfl lI (fun n x h=>fx h) (jN (sd hk12 hg))
 ·have hl:=mz (B:=1000000) hi
  have hr:=lH (B:=1000000) hi
  obtain ⟨nl,hnl⟩:∃ nl,nl=1000000+2+2*i:=⟨_,rfl⟩
  obtain ⟨nr,hnr⟩:∃ nr,nr=1000000+3+2*i:=⟨_,rfl⟩
  rw[←hnl] at hl hlk
  rw[←hnr] at hl hr
  have e1:(nl=3)=False:=by simp;omega
  have e2:(nr=3)=False:=by simp;omega
  have e3:(3=nl)=False:=by simp;omega
  have e4:(nr=nl)=False:=by simp;omega
  have e5:(nl=nr)=False:=by simp;omega
  have e6:(3=nr)=False:=by simp;omega
  have R:=And.intro @n3 (And.intro @h0 (And.intro @h1 (And.intro @hl (And.intro @hr (And.intro @e1 (And.intro @e2 (And.intro @e3 (And.intro @hlk (And.intro @mw (And.intro @cC (And.intro @gQ (And.intro @eB (And.intro @aK @U)))))))))))))
  repeat' ((first
   |(with_reducible refine .guard (fun hb =>?_) (fun hb =>?_) <;>try simp only[hb])
   |refine J.aG (by decide +kernel) rfl fun K hK =>?_
   |refine .flat _ (jq _) rfl ?_
   |(refine .aw [0,1,3,4,5,14] hK ?_;clear hK K)
   |(with_reducible refine .done (hK _ ?_);clear hK K)
   |refine J.of rfl ?_
   |(with_reducible refine ak.aE (fun h =>?_) (fun h =>?_) <;>try simp only[h])) <;>try simp only[aH,R,simprocAttr])
  all_goals clear R
  refine gh rfl (fun n h =>?_) (fun n x h=>fx h) (td hd hk12 hi hg (b := { bs[i] with b5:=x.b5,found:=true }) (by simp[fF,hk]) rfl)
  rw[←xp hi (b := { bs[i] with b5:=x.b5,found:=true }) rfl rfl (z:=.box (enc x)) hnl hnr n h]
  simp only[ai]
  split <;>rfl
theorem N9(bs:List aA)(x:al)(d:Nat)(hk:x.kind=6)(hd:(bs.map (·.no)).Nodup):cz Tryz.prog 177 [.ptr 1000000 [],enc x] (cn 1000000 bs) (iW 1000000 d bs x):=by
 refine cz.bn Tryz.func177 QZ SW U7 (Nat.le_of_ble_eq_true rfl) (Nat.le_of_ble_eq_true rfl) kN (fun hwf W0 D0 E1 =>?_)
 simp only[Bn,K6,a6,Nat.zero_add]
 clear hwf
 have hk12:¬ (x.kind=1∨x.kind=2):=by omega
 have n3:ai (cn 1000000 bs) 3=none:=kb (by omega)
 have h0:ai (cn 1000000 bs) 1000000=some (.box (.agg [.mref 1000001])):=ka
 have h1:ai (cn 1000000 bs) 1000001=some (.ct (dp bs) (eb 1000000 bs.length)):=kM
 rcases pJ 1000000 bs x.c4 with ⟨hg,hlk⟩ | ⟨i,hi,hg,hno,hlk⟩
 ·have R:=And.intro @n3 (And.intro @h0 (And.intro @h1 (And.intro @hlk (And.intro @cC (And.intro @gQ (And.intro @eB (And.intro @aK @U)))))))
  repeat' ((first
   |(with_reducible refine .guard (fun hb =>?_) (fun hb =>?_) <;>try simp only[hb])
   |refine J.aG (by decide +kernel) rfl fun K hK =>?_
   |refine .flat _ (jq _) rfl ?_
   |(refine .aw [0,1,3,4,5,18] hK ?_;clear hK K)
   |(with_reducible refine .done (hK _ ?_);clear hK K)
   |refine J.of rfl ?_
   |(with_reducible refine ak.aE (fun h =>?_) (fun h =>?_) <;>try simp only[h])) <;>try simp only[aH,R,simprocAttr])
  all_goals clear R
  exact gh rfl lI (fun n x h=>fx h) (jN (sd hk12 hg))
 ·have hl:=mz (B:=1000000) hi
  have hr:=lH (B:=1000000) hi
  obtain ⟨nl,hnl⟩:∃ nl,nl=1000000+2+2*i:=⟨_,rfl⟩
  obtain ⟨nr,hnr⟩:∃ nr,nr=1000000+3+2*i:=⟨_,rfl⟩
  rw[←hnl] at hl hlk
  rw[←hnr] at hl hr
  have e1:(nl=3)=False:=by simp;omega
  have e2:(nr=3)=False:=by simp;omega
  have e3:(3=nl)=False:=by simp;omega
  have e4:(nr=nl)=False:=by simp;omega
  have e5:(nl=nr)=False:=by simp;omega
  have e6:(3=nr)=False:=by simp;omega
  have R:=And.intro @n3 (And.intro @h0 (And.intro @h1 (And.intro @hl (And.intro @hr (And.intro @e1 (And.intro @e2 (And.intro @e3 (And.intro @hlk (And.intro @mw (And.intro @cC (And.intro @gQ (And.intro @eB (And.intro @aK @U)))))))))))))
  repeat' ((first
   |(with_reducible refine .guard (fun hb =>?_) (fun hb =>?_) <;>try simp only[hb])
   |refine J.aG (by decide +kernel) rfl fun K hK =>?_
   |refine .flat _ (jq _) rfl ?_
   |(refine .aw [0,1,3,4,5,18] hK ?_;clear hK K)
   |(with_reducible refine .done (hK _ ?_);clear hK K)
   |refine J.of rfl ?_
   |(with_reducible refine ak.aE (fun h =>?_) (fun h =>?_) <;>try simp only[h])) <;>try simp only[aH,R,simprocAttr])
  all_goals clear R
  all_goals first
   |exact gh rfl lI (fun n x h=>fx h) (jN (Aa hk12 hg (by simp_all[fF])))
   |exact gh rfl (xp hi (b := { bs[i] with dm:=x.day }) rfl rfl hnl hnr) (fun n x h=>fx h) (td hd hk12 hi hg (by simp_all[fF]) rfl)
theorem ahU{bs:List aA}{i:Nat}(hi:i<bs.length){b:aA}(hno:b.no=(bs[i]).no){z:ah}{nl nr:Nat}(hnl:nl=1000000+2+2*i)(hnr:nr=1000000+3+2*i) :
  ∀ n,ao (cn 1000000 (bs.set i b)) n=true→ai ((nl,.box (eg b (.own nr b.aY.length)))::(nr,.bT 66 6 (b.aY.map enc))::(3,z)::cn 1000000 bs) n=ai (cn 1000000 (bs.set i b)) n:=fun n h=>by
 have:=kN n h
 rw[IM hi b hno]
 simp only[ai]
 subst hnl hnr
 rw[if_neg (show ¬ n=3 by omega)]
theorem N7(bs:List aA)(x:al)(d:Nat)(hk:x.kind=4)(hd:(bs.map (·.no)).Nodup)(hlen:∀ b∈bs,b.aY.length≤1000):cz Tryz.prog 175 [.ptr 1000000 [],enc x] (cn 1000000 bs) (iW 1000000 d bs x):=by
 refine cz.bn Tryz.func175 QX SU U5 (Nat.le_of_ble_eq_true rfl) (Nat.le_of_ble_eq_true rfl) kN (fun hwf W0 D0 E1 =>?_)
 simp only[Bl,K4,a6,Nat.zero_add]
 clear hwf
 have hk12:¬ (x.kind=1∨x.kind=2):=by omega
 have n3:ai (cn 1000000 bs) 3=none:=kb (by omega)
 have h0:ai (cn 1000000 bs) 1000000=some (.box (.agg [.mref 1000001])):=ka
 have h1:ai (cn 1000000 bs) 1000001=some (.ct (dp bs) (eb 1000000 bs.length)):=kM
 rcases pJ 1000000 bs x.c4 with ⟨hg,hlk⟩ | ⟨i,hi,hg,hno,hlk⟩
 ·have R:=And.intro @n3 (And.intro @h0 (And.intro @h1 (And.intro @hlk (And.intro @cC (And.intro @gQ (And.intro @eB (And.intro @aK @U)))))))
  repeat' ((first
   |(with_reducible refine .guard (fun hb =>?_) (fun hb =>?_) <;>try simp only[hb])
   |refine J.aG (by decide +kernel) rfl fun K hK =>?_
   |refine .flat _ (jq _) rfl ?_
   |(refine .aw [0,1,3,4,5,14] hK ?_;clear hK K)
   |(with_reducible refine .done (hK _ ?_);clear hK K)
   |refine J.of rfl ?_
   |(with_reducible refine ak.aE (fun h =>?_) (fun h =>?_) <;>try simp only[h])) <;>try simp only[aH,R,simprocAttr])
  all_goals clear R
  exact gh rfl lI (fun n x h=>fx h) (jN (sd hk12 hg))
 ·have hl:=mz (B:=1000000) hi
  have hr:=lH (B:=1000000) hi
  obtain ⟨nl,hnl⟩:∃ nl,nl=1000000+2+2*i:=⟨_,rfl⟩
  obtain ⟨nr,hnr⟩:∃ nr,nr=1000000+3+2*i:=⟨_,rfl⟩
  rw[←hnl] at hl hlk
  rw[←hnr] at hl hr
  have e1:(nl=3)=False:=by simp;omega
  have e2:(nr=3)=False:=by simp;omega
  have e3:(3=nl)=False:=by simp;omega
  have e4:(nr=nl)=False:=by simp;omega
  have e5:(nl=nr)=False:=by simp;omega
  have e6:(3=nr)=False:=by simp;omega
  have hle:=hlen _ (List.getElem_mem hi)
  have happ:=fun (A:ab) d rest=>jr (α:=bI 6 Int) (A:=A) (d:=d) 66 6 48 nr (l:=(bs[i]).aY.length) (es:=(bs[i]).aY) (ys:=[x.aY]) (rest:=rest) rfl rfl (by simp) (by simp[maxLen];omega) (by simp;omega)
  have hbs:=nX 6 x.aY rfl
  have R:=And.intro @n3 (And.intro @h0 (And.intro @h1 (And.intro @hl (And.intro @hr (And.intro @e1 (And.intro @e2 (And.intro @e3 (And.intro @e4 (And.intro @e5 (And.intro @e6 (And.intro @hlk (And.intro @happ (And.intro @hbs (And.intro @mw (And.intro @cC (And.intro @gQ (And.intro @eB (And.intro @aK @U))))))))))))))))))
  repeat' ((first
   |(with_reducible refine .guard (fun hb =>?_) (fun hb =>?_) <;>try simp only[hb])
   |refine J.aG (by decide +kernel) rfl fun K hK =>?_
   |(refine J.rA (gs:=wK) [] [] [0,1,2,3,4,5,6,7,8,9,10,11,12,13] (by decide +kernel) (ew.of (by simp[nx])) fun K hK =>?_;simp only[lT,wK,List.getD_cons_zero,List.getD_cons_succ,R,simprocAttr])
   |(refine .aw [0,1,3,4,5,14] hK ?_;clear hK K)
   |(with_reducible refine .done (hK _ ?_);clear hK K)
   |refine J.of rfl ?_
   |(with_reducible refine ak.aE (fun h =>?_) (fun h =>?_) <;>try simp only[h])) <;>try simp only[aH,R,simprocAttr])
  all_goals clear R
  refine gh rfl (fun n h =>?_) (fun n x h=>fx h) (td hd hk12 hi hg (b := { bs[i] with aY:=(bs[i]).aY++[x.aY] }) (by simp[fF,hk]) rfl)
  rw[←ahU hi (b := { bs[i] with aY:=(bs[i]).aY++[x.aY] }) rfl (z:=.box (enc x)) hnl hnr n h]
  rfl
def gH(B d:Nat)(bs:List aA)(b:aA):List (Nat×ah):=(B+1,.ct (dp (bs++[b])) (eb B bs.length++[.ptr d []]))::(d,.box (eg b (.nils 6)))::cn B bs
theorem tc{B d:Nat}{bs:List aA}{x:al}(hk:x.kind=1∨x.kind=2)(hg:cB bs x.c4=none)(hdam:fw bs x=true):iW B d bs x (.bool true) (gH B d bs (fp x)):=by
 have:di fk bs x=some (bs++[fp x]):=by simp only[di,if_pos hk,hg,hdam,fk,and_self,if_true]
 simp only[iW,this,if_pos hk,gH,and_self]
def IK(B d:Nat)(bs:List aA)(x:al):cN:=fun r os' =>
 (cB bs x.c4≠none∧r=.bool false∧os'=cn B bs)∨(cB bs x.c4=none∧r=.bool true∧os'=gH B d bs (fp x))
theorem PY(a b c d e f g:Int):(eG [.int .i64 0,.int .i64 0,.int .i64 0,.int .i64 0,.int .i64 0,.int .i64 0,.int .i64 0,.bool false,.nils 6] [(0,.int .i64 a),(1,.int .i64 b),(2,.int .i64 c),(3,.int .i64 d),(4,.int .i64 e),(5,.int .i64 f),(6,.int .i64 g)]).map I.agg=some (I.agg [.int .i64 a,.int .i64 b,.int .i64 c,.int .i64 d,.int .i64 e,.int .i64 f,.int .i64 g,.bool false,.nils 6]):=by
 simp[eG,I.cm,I.size]
theorem PZ(a b c d e f g:Int):(eG [.agg [.int .i64 0,.int .i64 0,.int .i64 0,.int .i64 0,.int .i64 0,.int .i64 0,.int .i64 0,.bool false,.nils 6]] [(0,.agg [.int .i64 a,.int .i64 b,.int .i64 c,.int .i64 d,.int .i64 e,.int .i64 f,.int .i64 g,.bool false,.nils 6])]).map I.agg=some (eg ⟨a,b,c,d,e,f,g,false,[]⟩ (.nils 6)):=by
 simp[eG,I.cm,I.size,I.sizes];rfl
theorem ah8(b:aA)(s:I):(eg b s).cm=true:=rfl
theorem aiW(B d:Nat)(bs:List aA)(x:al)(hg:cB bs x.c4=none):gb (.i .i64) (.int .i64 x.c4) (.ptr d []) (dp bs) (eb B bs.length)=some (dp (bs++[fp x]),eb B bs.length++[.ptr d []]):=by
 have h2:=Jy vM x.c4 (.ptr d []) rfl (bs.map (·.no)) (eb B bs.length)
 rw[ij] at h2
 unfold dp
 rw[h2]
 have h1:=sV (bs:=bs) (no:=x.c4)
 cases h:(bs.map (·.no)).findIdx? fun y=>decide (x.c4=y) with
 |none=>simp only[List.map_append,List.map_cons,List.map_nil];rfl
 |some i=>rw[h] at h1;obtain ⟨hi,g,_⟩:=h1;rw[hg] at g;cases g
theorem nk{B d:Nat}{bs:List aA}{b:aA}{n:Nat} : ao (gH B d bs b) n=(decide (n=d)||ao (cn B bs) n):=by
 by_cases h1:n=B+1
 ·subst h1
  have:ao (cn B bs) (B+1)=true:=by simp[ao,kM]
  rw[this];simp[gH,ao,ai]
 ·by_cases h2:n=d
  ·subst h2;simp[gH,ao,ai,h1]
  ·simp[gH,ao,ai,h1,h2]
theorem np{B d:Nat}{bs:List aA}{b:aA}{n:Nat}{x:ah}(h:ai (gH B d bs b) n=some x):x.only (ao (gH B d bs b))=true∧x.eO=true:=by
 have cF:∀ m,ao (cn B bs) m=true→ao (gH B d bs b) m=true:=fun m hm=>by rw[nk,hm,Bool.or_true]
 simp only[gH,ai] at h
 split at h
 ·cases h
  refine ⟨?_,rfl⟩
  simp only[ah.only,Bool.and_eq_true,gv]
  refine ⟨dU _ _,yb _ fun i hi=>cF _ (by rw[nq];simp;omega),?_⟩
  simp[I.bP,I.only,nk]
 ·split at h
  ·cases h
   exact ⟨by simp[ah.only,I.only,I.bP,eg],rfl⟩
  ·obtain ⟨k1,k2⟩:=fx h
   exact ⟨ah.jf cF _ k1,k2⟩
theorem rW(bs:List aA)(x:al):cz Tryz.prog 173 [.ptr 1000000 [],enc x] (cn 1000000 bs) (IK 1000000 33 bs x):=by
 refine cz.bn Tryz.func173 QV SR U3 (Nat.le_of_ble_eq_true rfl) (Nat.le_of_ble_eq_true rfl) kN (fun hwf W0 D0 E1 =>?_)
 simp only[Bj,K2,a6,Nat.zero_add]
 clear hwf
 have n3:ai (cn 1000000 bs) 3=none:=kb (by omega)
 have n33:ai (cn 1000000 bs) 33=none:=kb (by omega)
 have h0:ai (cn 1000000 bs) 1000000=some (.box (.agg [.mref 1000001])):=ka
 have h1:ai (cn 1000000 bs) 1000001=some (.ct (dp bs) (eb 1000000 bs.length)):=kM
 rcases pJ 1000000 bs x.c4 with ⟨hg,hlk⟩ | ⟨i,hi,hg,hno,hlk⟩
 ·have hup:=aiW 1000000 33 bs x hg
  have R:=And.intro @n3 (And.intro @n33 (And.intro @h0 (And.intro @h1 (And.intro @hlk (And.intro @hup (And.intro @PY (And.intro @PZ (And.intro @ah8 (And.intro @cC (And.intro @gQ (And.intro @eB (And.intro @aK @U))))))))))))
  repeat' ((first
   |(with_reducible refine .guard (fun hb =>?_) (fun hb =>?_) <;>try simp only[hb])
   |refine J.aG (by decide +kernel) rfl fun K hK =>?_
   |(refine .aw [0,1,3,4,12] hK ?_;clear hK K)
   |(with_reducible refine .done (hK _ ?_);clear hK K)
   |refine J.of rfl ?_
   |(with_reducible refine ak.aE (fun h =>?_) (fun h =>?_) <;>try simp only[h])) <;>try simp only[aH,R,simprocAttr])
  all_goals clear R
  refine gh (os':=gH 1000000 33 bs (fp x)) (b:=true) rfl (fun n h =>?_) (fun n x h=>np h) (Or.inr ⟨hg,rfl,rfl⟩)
  rw[nk] at h
  simp only[gH,ai]
  by_cases e:n=33
  ·subst e;simp;rfl
  ·have:=kN n (by simpa[e] using h)
   rw[if_neg (show ¬ n=33 by omega),if_neg (show ¬ n=3 by omega),if_neg (show ¬ n=33 by omega)]
 ·have R:=And.intro @n3 (And.intro @h0 (And.intro @h1 (And.intro @hlk (And.intro @cC (And.intro @gQ (And.intro @eB (And.intro @aK @U)))))))
  repeat' ((first
   |(with_reducible refine .guard (fun hb =>?_) (fun hb =>?_) <;>try simp only[hb])
   |refine J.aG (by decide +kernel) rfl fun K hK =>?_
   |(refine .aw [0,1,3,4,12] hK ?_;clear hK K)
   |(with_reducible refine .done (hK _ ?_);clear hK K)
   |refine J.of rfl ?_
   |(with_reducible refine ak.aE (fun h =>?_) (fun h =>?_) <;>try simp only[h])) <;>try simp only[aH,R,simprocAttr])
  all_goals clear R
  exact gh (b:=false) rfl lI (fun n x h=>fx h) (Or.inl ⟨by rw[hg];simp,rfl,rfl⟩)
theorem bj.xl{K:ab→Prop}{f:FuncId}{x:al}{avs:List I}{a1 a2:Option (List I)}{dst:Option Nat}{rest:List az}{ts:List (Nat×I)}{z:ah}{bs:List aA}(hc:cz Tryz.prog f [.ptr 1000000 [],enc x] (cn 1000000 bs) (IK 1000000 33 bs x))(hav:avs=[.ptr 1000000 [],enc x])
  (h1:cB bs x.c4≠none→bj Tryz.prog iC false K (ay rest ((aq ts (cn 1000000 bs++((3,z)::cn 1000000 bs))).aP dst (.bool false))))
  (h2:cB bs x.c4=none→bj Tryz.prog iC false K (ay rest ((aq ts (gH 1000000 33 bs (fp x)++((3,z)::cn 1000000 bs))).aP dst (.bool true)))) :
  bj Tryz.prog iC false K (.call f avs a1 a2 dst rest (aq ts ((3,z)::cn 1000000 bs))):=by
 subst hav
 refine .bQ false [] (cn 1000000 bs) [.ptr 1000000 [],enc x] _ rfl hc ⟨fun m y hy =>?_,fun m m' _ _ h=>h⟩ ⟨.inl ⟨?_,?_,rfl⟩,.inl ⟨(jM _ _).symm,bB _ _,dQ _⟩,trivial⟩ ?_ ?_
 ·have hm:=kN (bs:=bs) m (by simp[ao,hy])
  rw[ah.lW (ρ:=bA []) (fun n=>rfl)]
  refine ⟨?_,fx hy⟩
  show ai ((3,z)::cn 1000000 bs) m=some y
  have h3:¬ m=3:=by omega
  simp only[ai,if_neg h3];exact hy
 ·simp only[I.aM,bA]
 ·simp only[I.only];simp[ao,ka]
 ·rintro r os' (⟨_,rfl,rfl⟩ | ⟨_,rfl,rfl⟩)
  ·exact ⟨fun m y hy=>⟨(fx hy).1,(fx hy).2,fun h=>by cases h⟩,fun m m' _ _ h=>h,fun m hm=>hm,(fun m a b=>by rw[a] at b;cases b),rfl,(fun h=>by cases h)⟩
  ·refine ⟨fun m y hy=>⟨(np hy).1,(np hy).2,fun h=>by cases h⟩,fun m m' _ _ h=>h,fun m hm=>by rw[nk,hm,Bool.or_true],fun m a b =>?_,rfl,fun h=>by cases h⟩
   rw[nk,b,Bool.or_false,decide_eq_true_eq] at a
   subst a
   have h3:¬ (33:Nat)=3:=by omega
   refine ⟨?_,by simp[bA]⟩
   show ai ((3,z)::cn 1000000 bs) 33=none
   simp only[ai,if_neg h3];exact kb (by omega)
 ·rintro r os' (⟨hg,rfl,rfl⟩ | ⟨hg,rfl,rfl⟩)
  ·rw[ub];exact h1 hg
  ·rw[ub];exact h2 hg
theorem o9{os os0:List (Nat×ah)} : ∀ n,ao os n=true→ai (os++os0) n=ai os n:=fun n h=>by
 rw[kc]
 cases hx:ai os n with
 |none=>simp[ao,hx] at h
 |some y=>rfl
theorem N5(bs:List aA)(x:al)(hk:x.kind=1):cz Tryz.prog 172 [.ptr 1000000 [],enc x] (cn 1000000 bs) (iW 1000000 33 bs x):=by
 refine cz.bn Tryz.func172 QU SQ U2 (Nat.le_of_ble_eq_true rfl) (Nat.le_of_ble_eq_true rfl) kN (fun hwf W0 D0 E1 =>?_)
 simp only[Bi,K1,a6,Nat.zero_add]
 clear hwf
 have n3:ai (cn 1000000 bs) 3=none:=kb (by omega)
 have h0:ai (cn 1000000 bs) 1000000=some (.box (.agg [.mref 1000001])):=ka
 have h1:ai (cn 1000000 bs) 1000001=some (.ct (dp bs) (eb 1000000 bs.length)):=kM
 by_cases hd0:x.dI≤0
 ·have hc:decide (0<x.dI)=false:=by simp;omega
  have hdam:fw bs x=true:=by simp[fw,hd0]
  have R:=And.intro @n3 (And.intro @h0 (And.intro @h1 (And.intro @hc (And.intro @cC (And.intro @gQ (And.intro @eB (And.intro @aK @U)))))))
  repeat' ((first
   |(with_reducible refine .guard (fun hb =>?_) (fun hb =>?_) <;>try simp only[hb])
   |refine J.aG (by decide +kernel) rfl fun K hK =>?_
   |(refine .aw [0,1,3,4,5,8,41] hK ?_;clear hK K)
   |(with_reducible refine .done (hK _ ?_);clear hK K)
   |refine J.of rfl ?_
   |(with_reducible refine ak.aE (fun h =>?_) (fun h =>?_) <;>try simp only[h])) <;>try simp only[aH,R,simprocAttr])
  all_goals clear R
  refine bj.xl (rW bs x) rfl (fun hg =>?_) (fun hg =>?_)
  ·try simp only[U,simprocAttr]
   refine .done (hK _ ?_);clear hK K
   refine J.ret ?_
   simp only[fq]
   exact gh (b:=false) rfl o9 (fun n x h=>fx h) (jN (by simp[di,hk,hg]))
  ·try simp only[U,simprocAttr]
   refine .done (hK _ ?_);clear hK K
   refine J.ret ?_
   simp only[fq]
   exact gh (b:=true) rfl o9 (fun n x h=>np h) (tc (.inl hk) hg hdam)
 have hc:decide (0<x.dI)=true:=by simp;omega
 rcases pJ 1000000 bs x.dI with ⟨hg,hlk⟩ | ⟨i,hi,hg,hno,hlk⟩
 ·have hdam:fw bs x=false:=by simp[fw,hg];omega
  have R:=And.intro @n3 (And.intro @h0 (And.intro @h1 (And.intro @hc (And.intro @hlk (And.intro @cC (And.intro @gQ (And.intro @eB (And.intro @aK @U))))))))
  repeat' ((first
   |(with_reducible refine .guard (fun hb =>?_) (fun hb =>?_) <;>try simp only[hb])
   |refine J.aG (by decide +kernel) rfl fun K hK =>?_
   |(refine .aw [0,1,3,4,5,8,41] hK ?_;clear hK K)
   |(with_reducible refine .done (hK _ ?_);clear hK K)
   |refine J.of rfl ?_
   |(with_reducible refine ak.aE (fun h =>?_) (fun h =>?_) <;>try simp only[h])) <;>try simp only[aH,R,simprocAttr])
  all_goals clear R
  exact gh (b:=false) rfl lI (fun n x h=>fx h) (jN (by simp[di,hk,hdam]))
 ·have hl:=mz (B:=1000000) hi
  have hr:=lH (B:=1000000) hi
  obtain ⟨nl,hnl⟩:∃ nl,nl=1000000+2+2*i:=⟨_,rfl⟩
  obtain ⟨nr,hnr⟩:∃ nr,nr=1000000+3+2*i:=⟨_,rfl⟩
  rw[←hnl] at hl hlk
  rw[←hnr] at hl hr
  have e1:(nl=3)=False:=by simp;omega
  have e2:(nr=3)=False:=by simp;omega
  cases hs:(bs[i]).ec != x.ec with
  |true =>
   have hdam:fw bs x=false:=by simp at hs;simp[fw,hg,hs];omega
   have R:=And.intro @n3 (And.intro @h0 (And.intro @h1 (And.intro @hl (And.intro @hr (And.intro @e1 (And.intro @e2 (And.intro @hc (And.intro @hlk (And.intro @hs (And.intro @mw (And.intro @cC (And.intro @gQ (And.intro @eB (And.intro @aK @U))))))))))))))
   repeat' ((first
    |(with_reducible refine .guard (fun hb =>?_) (fun hb =>?_) <;>try simp only[hb])
    |refine J.aG (by decide +kernel) rfl fun K hK =>?_
    |refine .flat _ (jq _) rfl ?_
    |(refine .aw [0,1,3,4,5,8,41] hK ?_;clear hK K)
    |(with_reducible refine .done (hK _ ?_);clear hK K)
    |refine J.of rfl ?_
    |(with_reducible refine ak.aE (fun h =>?_) (fun h =>?_) <;>try simp only[h])) <;>try simp only[aH,R,simprocAttr])
   all_goals clear R
   exact gh (b:=false) rfl lI (fun n x h=>fx h) (jN (by simp[di,hk,hdam]))
  |false =>
   cases hdd:decide (0≤(bs[i]).dm) with
   |false =>
    have hdam:fw bs x=true:=by simp at hs hdd;simp[fw,hg,hs];omega
    have R:=And.intro @n3 (And.intro @h0 (And.intro @h1 (And.intro @hl (And.intro @hr (And.intro @e1 (And.intro @e2 (And.intro @hc (And.intro @hlk (And.intro @hs (And.intro @hdd (And.intro @mw (And.intro @cC (And.intro @gQ (And.intro @eB (And.intro @aK @U)))))))))))))))
    repeat' ((first
     |(with_reducible refine .guard (fun hb =>?_) (fun hb =>?_) <;>try simp only[hb])
     |refine J.aG (by decide +kernel) rfl fun K hK =>?_
     |refine .flat _ (jq _) rfl ?_
     |(refine .aw [0,1,3,4,5,8,41] hK ?_;clear hK K)
     |(with_reducible refine .done (hK _ ?_);clear hK K)
     |refine J.of rfl ?_
     |(with_reducible refine ak.aE (fun h =>?_) (fun h =>?_) <;>try simp only[h])) <;>try simp only[aH,R,simprocAttr])
    all_goals clear R
    refine bj.xl (rW bs x) rfl (fun hg =>?_) (fun hg =>?_)
    ·try simp only[U,simprocAttr]
     refine .done (hK _ ?_);clear hK K
     refine J.ret ?_
     simp only[fq]
     exact gh (b:=false) rfl o9 (fun n x h=>fx h) (jN (by simp[di,hk,hg]))
    ·try simp only[U,simprocAttr]
     refine .done (hK _ ?_);clear hK K
     refine J.ret ?_
     simp only[fq]
     exact gh (b:=true) rfl o9 (fun n x h=>np h) (tc (.inl hk) hg hdam)
   |true =>
    cases hdy:decide ((bs[i]).dm<x.day) with
    |true =>
     have hdam:fw bs x=false:=by simp at hs hdd hdy;simp[fw,hg,hs];omega
     have R:=And.intro @n3 (And.intro @h0 (And.intro @h1 (And.intro @hl (And.intro @hr (And.intro @e1 (And.intro @e2 (And.intro @hc (And.intro @hlk (And.intro @hs (And.intro @hdd (And.intro @hdy (And.intro @mw (And.intro @cC (And.intro @gQ (And.intro @eB (And.intro @aK @U))))))))))))))))
     repeat' ((first
      |(with_reducible refine .guard (fun hb =>?_) (fun hb =>?_) <;>try simp only[hb])
      |refine J.aG (by decide +kernel) rfl fun K hK =>?_
      |refine .flat _ (jq _) rfl ?_
      |(refine .aw [0,1,3,4,5,8,41] hK ?_;clear hK K)
      |(with_reducible refine .done (hK _ ?_);clear hK K)
      |refine J.of rfl ?_
      |(with_reducible refine ak.aE (fun h =>?_) (fun h =>?_) <;>try simp only[h])) <;>try simp only[aH,R,simprocAttr])
     all_goals clear R
     exact gh (b:=false) rfl lI (fun n x h=>fx h) (jN (by simp[di,hk,hdam]))
    |false =>
     have hdam:fw bs x=true:=by simp at hs hdd hdy;simp[fw,hg,hs];omega
     have R:=And.intro @n3 (And.intro @h0 (And.intro @h1 (And.intro @hl (And.intro @hr (And.intro @e1 (And.intro @e2 (And.intro @hc (And.intro @hlk (And.intro @hs (And.intro @hdd (And.intro @hdy (And.intro @mw (And.intro @cC (And.intro @gQ (And.intro @eB (And.intro @aK @U))))))))))))))))
     repeat' ((first
      |(with_reducible refine .guard (fun hb =>?_) (fun hb =>?_) <;>try simp only[hb])
      |refine J.aG (by decide +kernel) rfl fun K hK =>?_
      |refine .flat _ (jq _) rfl ?_
      |(refine .aw [0,1,3,4,5,8,41] hK ?_;clear hK K)
      |(with_reducible refine .done (hK _ ?_);clear hK K)
      |refine J.of rfl ?_
      |(with_reducible refine ak.aE (fun h =>?_) (fun h =>?_) <;>try simp only[h])) <;>try simp only[aH,R,simprocAttr])
     all_goals clear R
     refine bj.xl (rW bs x) rfl (fun hg =>?_) (fun hg =>?_)
     ·try simp only[U,simprocAttr]
      refine .done (hK _ ?_);clear hK K
      refine J.ret ?_
      simp only[fq]
      exact gh (b:=false) rfl o9 (fun n x h=>fx h) (jN (by simp[di,hk,hg]))
     ·try simp only[U,simprocAttr]
      refine .done (hK _ ?_);clear hK K
      refine J.ret ?_
      simp only[fq]
      exact gh (b:=true) rfl o9 (fun n x h=>np h) (tc (.inl hk) hg hdam)
def kF:I:=.cU [.int .i64 1,.int .i64 2,.int .i64 3,.int .i64 4,.int .i64 5,.int .i64 6] [.func 172 [],.func 173 [],.func 174 [],.func 175 [],.func 176 [],.func 177 []]
theorem aiP:gb (.i .i64) (.int .i64 1) (.func 172 []) [] []=some ([.int .i64 1],[.func 172 []]):=by simp[gb,fc,cg,I.cm]
theorem aiQ:gb (.i .i64) (.int .i64 2) (.func 173 []) [.int .i64 1] [.func 172 []]=some ([.int .i64 1,.int .i64 2],[.func 172 [],.func 173 []]):=by simp[gb,fc,cg,I.cm]
theorem aiR:gb (.i .i64) (.int .i64 3) (.func 174 []) [.int .i64 1,.int .i64 2] [.func 172 [],.func 173 []]=some ([.int .i64 1,.int .i64 2,.int .i64 3],[.func 172 [],.func 173 [],.func 174 []]):=by simp[gb,fc,cg,I.cm]
theorem aiS:gb (.i .i64) (.int .i64 4) (.func 175 []) [.int .i64 1,.int .i64 2,.int .i64 3] [.func 172 [],.func 173 [],.func 174 []]=some ([.int .i64 1,.int .i64 2,.int .i64 3,.int .i64 4],[.func 172 [],.func 173 [],.func 174 [],.func 175 []]):=by simp[gb,fc,cg,I.cm]
theorem aiT:gb (.i .i64) (.int .i64 5) (.func 176 []) [.int .i64 1,.int .i64 2,.int .i64 3,.int .i64 4] [.func 172 [],.func 173 [],.func 174 [],.func 175 []]=some ([.int .i64 1,.int .i64 2,.int .i64 3,.int .i64 4,.int .i64 5],[.func 172 [],.func 173 [],.func 174 [],.func 175 [],.func 176 []]):=by simp[gb,fc,cg,I.cm]
theorem aiU:gb (.i .i64) (.int .i64 6) (.func 177 []) [.int .i64 1,.int .i64 2,.int .i64 3,.int .i64 4,.int .i64 5] [.func 172 [],.func 173 [],.func 174 [],.func 175 [],.func 176 []]=some ([.int .i64 1,.int .i64 2,.int .i64 3,.int .i64 4,.int .i64 5,.int .i64 6],[.func 172 [],.func 173 [],.func 174 [],.func 175 [],.func 176 [],.func 177 []]):=by simp[gb,fc,cg,I.cm]
theorem zt:av Tryz.prog 139 [] kF:=by
 refine av.bn Tryz.func139 Qv Sq UC (Nat.le_of_ble_eq_true rfl) (fun hwf W0 D0 E1 =>?_)
 simp only[AP,KC,a6]
 refine .au (by decide +kernel) fun K hK =>?_
 simp only[E6,U,simprocAttr]
 refine .done (hK _ ?_);clear hK K
 refine .au (by decide +kernel) fun K hK =>?_
 simp only[E7,U,simprocAttr]
 try simp only[eB,aiP,aiQ,aiR,aiS,aiT,aiU,U,simprocAttr]
 refine .done (hK _ ?_);clear hK K
 refine J.ret ?_
 simp only[U,simprocAttr]
 simp[kF,bd,aq,cA,dv,fH,I.bU,I.br,ly,nI];rfl
def dT(bs:List aA):List (Nat×ah):=(43,.box (.agg [.mref 41]))::(41,.ct (dp bs) (eb 2000 bs.length))::eU 2000 0 bs
def nj(bs:List aA)(b:aA):List (Nat×ah):=(41,.ct (dp (bs++[b])) (eb 2000 bs.length++[.ptr (2002+2*bs.length) []]))::(2002+2*bs.length,.box (eg b (.nils 6)))::dT bs
def gz(n:Nat):List (Nat×Nat):=(33,2002+2*n)::(1000000,43)::(1000001,41)::(List.range' 0 200).map fun j=>(1000002+j,2002+j)
theorem Mn(m:Nat):∀ k a,bA ((List.range' a k).map fun j=>(1000002+j,2002+j)) m=if 1000002+a≤m∧m<1000002+a+k then m-998000 else m
 |0,a=>by
  rw[if_neg (by omega)];rfl
 |k+1,a=>by
  rw[List.range'_succ,List.map_cons,bA,Mn m k (a+1)]
  by_cases h:m=1000002+a
  ·rw[if_pos h,if_pos (by omega)];omega
  ·rw[if_neg h]
   by_cases h2:1000002+(a+1)≤m∧m<1000002+(a+1)+k
   ·rw[if_pos h2,if_pos (by omega)]
   ·rw[if_neg h2,if_neg (by omega)]
theorem lY(n m:Nat):bA (gz n) m=if m=33 then 2002+2*n else if m=1000000 then 43 else if m=1000001 then 41 else if 1000002≤m∧m<1000202 then m-998000 else m:=by
 simp only[gz,bA,Mn]
theorem Mm{n i:Nat}(h:i≤80):bA (gz n) (1000000+2+2*i)=2000+2+2*i:=by
 rw[lY,if_neg (by omega),if_neg (by omega),if_neg (by omega),if_pos (by omega)];omega
theorem ak2{n i:Nat}(h:i≤80):bA (gz n) (1000000+3+2*i)=2000+3+2*i:=by
 rw[lY,if_neg (by omega),if_neg (by omega),if_neg (by omega),if_pos (by omega)];omega
theorem Mj(n:Nat):bA (gz n) 1000000=43:=by rw[lY];rfl
theorem Mk(n:Nat):bA (gz n) 1000001=41:=by rw[lY];rfl
theorem Ml(n:Nat):bA (gz n) 33=2002+2*n:=by rw[lY];rfl
theorem yx(ρ:List (Nat×Nat))(k:Nat)(v:ah)(os:List (Nat×ah)):dC ρ ((k,v)::os)=(bA ρ k,v.aM (bA ρ))::dC ρ os:=rfl
theorem Md(n:Nat):∀ (bs:List aA) (i:Nat),i+bs.length≤80→dC (gz n) (eU 1000000 i bs)=eU 2000 i bs
 | [],_,_=>rfl
 |b::bs,i,h=>by
  simp only[List.length_cons] at h
  have ih:=Md n bs (i+1) (by omega)
  simp only[eU,yx,ih,Mm (n:=n) (i:=i) (by omega),ak2 (n:=n) (i:=i) (by omega),ah.aM,gw,eg,I.aM,I.cR]
theorem Mf(n:Nat){k:Nat}(h:k≤80):I.cR (bA (gz n)) (eb 1000000 k)=eb 2000 k:=by
 simp only[eb,oG,List.map_map]
 refine List.map_congr_left fun i hi =>?_
 have:=List.mem_range.1 hi
 simp only[Function.comp,I.aM,Mm (n:=n) (i:=i) (by omega)]
theorem Me(ρ:Nat→Nat)(bs:List aA):I.cR ρ (dp bs)=dp bs:=by
 simp only[dp,gw]
theorem uc(n:Nat){bs:List aA}(h:bs.length≤80):dC (gz n) (cn 1000000 bs)=dT bs:=by
 have h1:=Md n bs 0 (by omega)
 simp only[cn,dT,yx,h1,ah.aM,I.aM,I.cR,Me,Mf n h,Mj,Mk,Nat.reduceAdd]
theorem akQ(ρ:Nat→Nat)(xs ys:List I):I.cR ρ (xs++ys)=I.cR ρ xs++I.cR ρ ys:=by simp only[oG,List.map_append]
theorem akO{bs:List aA}{b:aA}(h:bs.length≤80):dC (gz bs.length) (gH 1000000 33 bs b)=nj bs b:=by
 have h1:=uc bs.length h
 simp only[gH,nj,yx,h1,ah.aM,I.aM,I.cR,Me,akQ,Mf bs.length h,Mk,Ml,eg,Nat.reduceAdd]
def tD(n m:Nat):Prop:=m=33∨(1000000≤m∧m<1000002+2*n)
theorem ug{n k m m':Nat}(hk:k≤80)(hm:1000000≤m∧m<1000002+2*k)(hm':1000000≤m'∧m'<1000002+2*k)(h:bA (gz n) m=bA (gz n) m'):m=m':=by
 rw[lY,lY] at h
 rw[if_neg (by omega),if_neg (show ¬ m'=33 by omega)] at h
 (repeat' split at h) <;>omega
theorem ak1{n m m':Nat}(hk:n≤80)(hm:tD n m)(hm':tD n m')(h:bA (gz n) m=bA (gz n) m'):m=m':=by
 simp only[tD] at hm hm'
 rw[lY,lY] at h
 (repeat' split at h) <;>omega
theorem aiC{ρ:List (Nat×Nat)}{os:List (Nat×ah)}{m:Nat}{y:ah}(inj:∀ m',ao os m'=true→bA ρ m'=bA ρ m→m'=m)(h:ai os m=some y):ai (dC ρ os) (bA ρ m)=some (y.aM (bA ρ)):=by
 have h1:=q0 ρ os [] (bA ρ m)
 rw[List.append_nil] at h1
 rw[h1]
 cases hp:pre ρ os (bA ρ m) with
 |none=>exact absurd rfl (yh hp (by simp[ao,h]))
 |some m' =>
  obtain ⟨k1,k2⟩:=lV hp
  have:=inj m' k1 k2
  subst this
  simp only[h,Option.map_some]
theorem xm{bs:List aA}{n:Nat} : ao (dT bs) n=decide (n=43∨n=41∨(2002≤n∧n<2002+2*bs.length)):=by
 have h2:ao (eU 2000 0 bs) n=decide (2002≤n∧n<2002+2*bs.length):=by
  by_cases h1:n<2002
  ·simp only[ao,tj 2000 bs 0 n (by omega)];simp;omega
  by_cases h3:2002+2*bs.length≤n
  ·simp only[ao,tg 2000 bs 0 n (by omega)];simp;omega
  ·rcases tB 2000 n bs.length with h | h | h | ⟨k,hk,h⟩ | ⟨k,hk,h⟩ | h
   ·omega
   ·omega
   ·omega
   ·have:=th 2000 bs 0 k hk
    rw[Nat.zero_add] at this
    rw[h];simp only[ao,this];simp;omega
   ·have:=tk 2000 bs 0 k hk
    rw[Nat.zero_add] at this
    rw[h];simp only[ao,this];simp;omega
   ·omega
 simp only[ao,dT,ai] at h2 ⊢
 by_cases h3:n=43
 ·simp[h3]
 by_cases h4:n=41
 ·simp[h4]
 simp only[h3,h4,if_false,h2,false_or]
theorem cz.post{P:Program}{f:FuncId}{args:List I}{os:List (Nat×ah)}{post post':cN}(h:cz P f args os post)(hp:∀ r os',post r os'→post' r os'):cz P f args os post' :=
 ⟨h.1,fun w D E vs hs hD ho hv=>(h.2 w D E vs hs hD ho hv).mono fun _ _ ⟨v,D',E',r,os',k1,k2,k⟩=>⟨v,D',E',r,os',k1,hp _ _ k2,k⟩⟩
def nf:List I:=[.int .i64 1,.int .i64 2,.int .i64 3,.int .i64 4,.int .i64 5,.int .i64 6]
def ng:List I:=[.func 172 [],.func 173 [],.func 174 [],.func 175 [],.func 176 [],.func 177 []]
theorem Jb{x:al}(h:hE x=true):0≤x.kind∧x.kind≤6∧(x.kind=2→x.dI=0):=by
 simp only[hE,Bool.and_eq_true,decide_eq_true_eq] at h
 obtain ⟨h1,h2,_⟩:=h
 have h3:x.kind=2→x.dI=0:=fun hk=>by rw[h2];simp[mf,hk]
 simp only[j7] at h1
 refine ⟨?_,?_,h3⟩
 all_goals
  split at h1
  ·omega
  ·simp only[Bool.and_eq_true] at h1
   obtain ⟨-,h1⟩:=h1
   repeat' split at h1
   all_goals first | omega | (simp only[decide_eq_true_eq] at h1;omega)
theorem vB{bs:List aA}{x:al}(hok:hE x=true)(hk0:x.kind≠0)(hd:(bs.map (·.no)).Nodup)(hlen:∀ b∈bs,b.aY.length≤1000) :
  ∃ f,gp (.i .i64) .de (.int .i64 x.kind) nf ng=some (.func f [],true)∧[172,173,174,175,176,177].contains f=true∧cz Tryz.prog f [.ptr 1000000 [],enc x] (cn 1000000 bs) (iW 1000000 33 bs x):=by
 obtain ⟨h1,h2,h3⟩:=Jb hok
 have h4:x.kind=1∨x.kind=2∨x.kind=3∨x.kind=4∨x.kind=5∨x.kind=6:=by omega
 rcases h4 with h | h | h | h | h | h
 ·exact ⟨172,by rw[h];simp[gp,fc,cg,nf,ng],rfl,N5 bs x h⟩
 ·refine ⟨173,by rw[h];simp[gp,fc,cg,nf,ng],rfl,cz.post (rW bs x) ?_⟩
  have hdam:fw bs x=true:=by simp[fw,h3 h]
  rintro r os' (⟨k1,rfl,rfl⟩ | ⟨k1,rfl,rfl⟩)
  ·exact jN (by simp[di,h,k1])
  ·exact tc (.inr h) k1 hdam
 ·exact ⟨174,by rw[h];simp[gp,fc,cg,nf,ng],rfl,N6 bs x 33 h hd⟩
 ·exact ⟨175,by rw[h];simp[gp,fc,cg,nf,ng],rfl,N7 bs x 33 h hd hlen⟩
 ·exact ⟨176,by rw[h];simp[gp,fc,cg,nf,ng],rfl,N8 bs x 33 h hd⟩
 ·exact ⟨177,by rw[h];simp[gp,fc,cg,nf,ng],rfl,N9 bs x 33 h hd⟩
theorem uZ{bs bs':List aA}{x:al}(hk:¬ (x.kind=1∨x.kind=2))(h:di fk bs x=some bs'):bs'.length=bs.length:=by
 simp only[di,if_neg hk] at h
 split at h
 ·cases h
 ·simp only[Option.map_eq_some_iff] at h
  obtain ⟨b',_,rfl⟩:=h
  simp[mT]
theorem cd.vB{hs:List FuncId}{K:ab→Prop}{f:FuncId}{x:al}{avs:List I}{a1 a2:Option (List I)}{dst:Option Nat}{rest:List az}{ts:List (Nat×I)}{z y:ah}{bs:List aA}(hlen:bs.length≤60)(hf:hs.contains f=true)
  (hc:cz Tryz.prog f [.ptr 1000000 [],enc x] (cn 1000000 bs) (iW 1000000 33 bs x)) (hav:avs=[.ptr 43 [],enc x])
  (h1:di fk bs x=none→cd Tryz.prog hs K (ay rest ((aq ts (dT bs++((900,z)::(dT bs++[(3,y)])))).aP dst (.bool false))))
  (h2:∀ bs',di fk bs x=some bs'→¬ (x.kind=1∨x.kind=2)→cd Tryz.prog hs K (ay rest ((aq ts (dT bs'++((900,z)::(dT bs++[(3,y)])))).aP dst (.bool true))))
  (h3:di fk bs x=some (bs++[fp x])→cd Tryz.prog hs K (ay rest ((aq ts (nj bs (fp x)++((900,z)::(dT bs++[(3,y)])))).aP dst (.bool true)))) :
  cd Tryz.prog hs K (.call f avs a1 a2 dst rest (aq ts ((900,z)::(dT bs++[(3,y)])))):=by
 subst hav
 have nm:∀ {bs:List aA} {m},ao (cn 1000000 bs) m=true→1000000≤m∧m<1000002+2*bs.length:=fun {bs m} h=>by
  rw[nq] at h;simpa using h
 have hlow:∀ {bs':List aA},bs'.length≤60→∀ {m y},ai (cn 1000000 bs') m=some y→ai (dT bs') (bA (gz bs.length) m)=some (y.aM (bA (gz bs.length))):=fun {bs'} hl {m y} hy=>by
  rw[←uc bs.length (bs:=bs') (by omega)]
  exact aiC (fun m' hm' he=>ug (by omega) (nm hm') (nm (by simp[ao,hy])) he) hy
 refine .xX false (gz bs.length) (cn 1000000 bs) [.ptr 1000000 [],enc x] _ hf hc ⟨fun m y' hy =>?_,fun m m' h h' e=>ug (n:=bs.length) (by omega) (nm h) (nm h') e⟩ ⟨.inl ⟨?_,?_,rfl⟩,.inl ⟨(jM _ _).symm,bB _ _,dQ _⟩,trivial⟩ ?_ ?_
 ·have hm:=nm (bs:=bs) (m:=m) (by simp[ao,hy])
  refine ⟨?_,fx hy⟩
  have h9:bA (gz bs.length) m≠900:=fun e=>by
   rw[lY] at e
   (repeat' split at e) <;>omega
  simp only[ai,if_neg h9,kc,hlow hlen hy]
 ·simp only[I.aM,Mj]
 ·simp only[I.only];simp[ao,ka]
 ·intro r os' hp
  simp only[iW] at hp
  split at hp
  ·obtain ⟨rfl,rfl⟩:=hp
   exact ⟨fun m y hy=>⟨(fx hy).1,(fx hy).2,fun h=>by cases h⟩,fun m m' h h' e=>ug (n:=bs.length) (k:=bs.length) (by omega) (nm h) (nm h') e,fun m hm=>hm,(fun m a b=>by rw[a] at b;cases b),rfl,(fun h=>by cases h)⟩
  ·rename_i bs' hb
   obtain ⟨rfl,rfl⟩:=hp
   split
   ·rename_i hk
    have hbs:bs'=bs++[fp x]:=by
     simp only[di,if_pos hk] at hb
     split at hb
     ·simpa[fk] using hb.symm
     ·cases hb
    subst hbs
    have hN:∀ {m},ao (gH 1000000 33 bs (fp x)) m=true→tD bs.length m:=fun {m} h=>by
     rw[nk] at h
     simp only[Bool.or_eq_true,decide_eq_true_eq] at h
     rcases h with h | h
     ·exact .inl h
     ·exact .inr (nm h)
    refine ⟨fun m y hy=>⟨(np hy).1,(np hy).2,fun h=>by cases h⟩,fun m m' h h' e=>ak1 (by omega) (hN h) (hN h') e,fun m hm =>?_,fun m a b =>?_,rfl,fun h=>by cases h⟩
    ·show ao (gH 1000000 33 bs (fp x)) m=true
     rw[nk,hm,Bool.or_true]
    ·have a':ao (gH 1000000 33 bs (fp x)) m=true:=a
     rw[nk,b,Bool.or_false,decide_eq_true_eq] at a'
     subst a'
     rw[Ml]
     refine ⟨?_,by omega⟩
     have h9:¬ 2002+2*bs.length=900:=by omega
     have h3:¬ 2002+2*bs.length=3:=by omega
     have hno:ai (dT bs) (2002+2*bs.length)=none:=by
      have:=xm (bs:=bs) (n:=2002+2*bs.length)
      rw[decide_eq_false (by omega)] at this
      simpa[ao] using this
     simp only[ai,if_neg h9,kc,hno,if_neg h3]
   ·rename_i hk
    have hl:=uZ hk hb
    refine ⟨fun m y hy=>⟨(fx hy).1,(fx hy).2,fun h=>by cases h⟩,fun m m' h h' e=>ug (n:=bs.length) (k:=bs'.length) (by omega) (nm h) (nm h') e,fun m hm =>?_,fun m a b =>?_,rfl,fun h=>by cases h⟩
    ·rw[nq] at hm ⊢;rw[hl];exact hm
    ·rw[nq] at a b;rw[hl] at a;rw[a] at b;cases b
 ·intro r os' hp
  simp only[iW] at hp
  split at hp
  ·rename_i hb
   obtain ⟨rfl,rfl⟩:=hp
   rw[uc bs.length (by omega)]
   exact h1 hb
  ·rename_i bs' hb
   obtain ⟨rfl,rfl⟩:=hp
   split
   ·rename_i hk
    have hbs:bs'=bs++[fp x]:=by
     simp only[di,if_pos hk] at hb
     split at hb
     ·simpa[fk] using hb.symm
     ·cases hb
    subst hbs
    have e:dC (gz bs.length) ((1000000+1,ah.ct (dp (bs++[fp x])) (eb 1000000 bs.length++[.ptr 33 []]))::(33,.box (eg (fp x) (.nils 6)))::cn 1000000 bs)=nj bs (fp x):=akO (by omega)
    rw[e]
    exact h3 hb
   ·rename_i hk
    have hl:=uZ hk hb
    rw[uc bs.length (by omega)]
    exact h2 bs' hb hk
def uS(a b c d e f:Int):bI 6 Int:=⟨[a,b,c,d,e,f],rfl⟩
def a5(a b c d e:Int):bI 5 Int:=⟨[a,b,c,d,e],rfl⟩
theorem Xp(a b c d e:Int):I.agg [.int .i64 a,.int .i64 b,.int .i64 c,.int .i64 d,.int .i64 e]=enc (a5 a b c d e):=rfl
theorem Xq(a b c d e f:Int):I.agg [.int .i64 a,.int .i64 b,.int .i64 c,.int .i64 d,.int .i64 e,.int .i64 f]=enc (uS a b c d e f):=rfl
theorem yS{zs:List I}{i:Nat}{v z:I}{rest:List (Nat×I)}(h:zs[i]?=some z)(h1:v.cm=true)(h2:v.size=z.size):eG zs ((i,v)::rest)=eG (zs.set i v) rest:=by
 simp only[eG,h];rw[if_pos ⟨h1,h2⟩]
theorem Xo(w:bI 5 Int)(n:Int)(l:List cv):I.agg [enc w,.int .i64 n,enc l]=enc (⟨w,n,l⟩:cH):=rfl
theorem amk(x:al):av Tryz.prog 62 [enc x] (enc (if hE x then (0:Int) else 40)):=by
 refine av.bn Tryz.func62 Ru Ts VC (Nat.le_of_ble_eq_true rfl) (fun hwf W0 D0 E1 =>?_)
 simp only[BT,LB,a6]
 have R:=And.intro @aK @U
 repeat' ((first
  |(with_reducible refine .guard (fun hb =>?_) (fun hb =>?_) <;>try simp only[hb])
  |refine J.aG (by decide +kernel) rfl fun K hK =>?_
  |refine .flat _ (uF _) rfl ?_
  |(refine .aw [0,1,2,5] hK ?_;clear hK K)
  |(with_reducible refine .done (hK _ ?_);clear hK K)
  |refine J.of rfl ?_
  |(with_reducible refine ak.aE (fun h =>?_) (fun h =>?_) <;>try simp only[h])) <;>try simp only[aH,R,simprocAttr])
 all_goals clear R
 all_goals simp_all
theorem aic{x:al}(h:j7 x=true):ca 0 6 x.kind=true:=by
 simp only[j7] at h
 simp only[ca,Bool.and_eq_true,decide_eq_true_eq]
 repeat' split at h
 all_goals first | omega | (simp at h;omega)
def sA(x:al):Bool:=ca 0 100000 x.known&&ca 0 100000 x.day
def p5(x:al):Bool:=mA x.cW&&(sA x&&(ca 0 6 x.kind&&decide (x=mf x)))
theorem JH(x:al):hE x=(p5 x&&j7 x):=by
 simp only[hE,p5,sA]
 cases h:j7 x
 ·simp
 ·simp[aic h,Bool.and_comm,Bool.and_left_comm,Bool.and_assoc]
theorem zH(x:al):av Tryz.prog 63 [enc x] (enc (if hE x then (0:Int) else 40)):=by
 refine av.bn Tryz.func63 Rv Tt VD (Nat.le_of_ble_eq_true rfl) (fun hwf W0 D0 E1 =>?_)
 simp only[BU,LC,a6]
 clear hwf
 refine .au (by decide +kernel) fun K hK =>?_
 simp only[HS,U,simprocAttr]
 try simp only[aK,U,simprocAttr]
 refine .done (hK _ ?_);clear hK K
 refine J.seq (J.nO (aq [(1,.ptr 1 []),(3,.bool (sA x))] [(1,.box (enc x))]) ?_ fun B hB=>J.sub hB ?_)
 ·have R:=And.intro @aK @U
  repeat' ((first
   |(with_reducible refine .guard (fun hb =>?_) (fun hb =>?_) <;>try simp only[hb])
   |refine J.aG (by decide +kernel) rfl fun K hK =>?_
   |refine .flat _ (nP _ _ _) rfl ?_
   |(refine .aw [0,1,2,3,4,5,6,34,37,64,68,76,77,98,102,107,113] hK ?_;clear hK K)
   |(with_reducible refine .done (hK _ ?_);clear hK K)
   |refine J.of rfl ?_
   |(with_reducible refine ak.aE (fun h =>?_) (fun h =>?_) <;>try simp only[h])) <;>try simp only[aH,R,simprocAttr])
  all_goals clear R
  all_goals
   refine aC.bZ ?_ ?_ ?_ ?_ <;>simp[*,aX,bO,bM,bt,ao,aW,cA,I.only,ah.only,bB,sA]
 refine J.seq (J.seq (J.nO (aq [(1,.ptr 1 []),(34,.bool !(p5 x))] [(1,.box (enc x))]) ?_ fun B hB=>J.sub hB ?_))
 ·have R:=And.intro @aK @U
  repeat' ((first
   |(with_reducible refine .guard (fun hb =>?_) (fun hb =>?_) <;>try simp only[hb])
   |refine J.aG (by decide +kernel) rfl fun K hK =>?_
   |refine .flat _ (nP _ _ _) rfl ?_
   |refine .flat _ (zn _) rfl ?_
   |refine .lead _ (ON _) ?_
   |(refine .aw [0,1,2,3,4,5,6,34,37,64,68,76,77,98,102,107,113] hK ?_;clear hK K)
   |(with_reducible refine .done (hK _ ?_);clear hK K)
   |refine J.of rfl ?_
   |(with_reducible refine ak.aE (fun h =>?_) (fun h =>?_) <;>try simp only[h])) <;>try simp only[aH,R,simprocAttr])
  all_goals clear R
  all_goals
   refine aC.bZ ?_ ?_ ?_ ?_ <;>simp[*,aX,bO,bM,bt,ao,aW,cA,I.only,ah.only,bB,p5]
 refine J.bW ?_
 simp only[ak,U,simprocAttr]
 refine ⟨fun h =>?_,fun h =>?_⟩
 ·have R:=And.intro @aK @U
  repeat' ((first
   |(with_reducible refine .guard (fun hb =>?_) (fun hb =>?_) <;>try simp only[hb])
   |refine J.aG (by decide +kernel) rfl fun K hK =>?_
   |(refine .aw [0,1,2,3,4,5,6,34,37,64,68,76,77,98,102,107,113] hK ?_;clear hK K)
   |(with_reducible refine .done (hK _ ?_);clear hK K)
   |refine J.of rfl ?_
   |(with_reducible refine ak.aE (fun h =>?_) (fun h =>?_) <;>try simp only[h])) <;>try simp only[aH,R,simprocAttr])
  all_goals clear R
  simp at h
  simp[JH,h]
 refine J.skip ?_;try simp only[aF,simprocAttr]
 have hp:p5 x=true:=by simpa using h
 have hr:0≤x.kind∧x.kind≤6:=by simp[p5,ca] at hp;omega
 have ho:hE x=j7 x:=by rw[JH,hp];rfl
 rw[ho]
 obtain hk | hk | hk | hk | hk | hk | hk:x.kind=0∨x.kind=1∨x.kind=2∨x.kind=3∨x.kind=4∨x.kind=5∨x.kind=6:=by omega
 all_goals
  have R:=And.intro @hk (And.intro @aK @U)
  repeat' ((first
   |(with_reducible refine .guard (fun hb =>?_) (fun hb =>?_) <;>try simp only[hb])
   |refine J.aG (by decide +kernel) rfl fun K hK =>?_
   |refine .flat _ (nP _ _ _) rfl ?_
   |refine .flat _ (zn _) rfl ?_
   |refine .flat _ (Np _) rfl ?_
   |(refine .aw [0,1,2,3,4,5,6,34,37,64,68,76,77,98,102,107,113] hK ?_;clear hK K)
   |(with_reducible refine .done (hK _ ?_);clear hK K)
   |refine J.of rfl ?_
   |(with_reducible refine ak.aE (fun h =>?_) (fun h =>?_) <;>try simp only[h])) <;>try simp only[aH,R,simprocAttr])
  all_goals clear R
 all_goals (clear hp hr;simp_all[j7];try omega)
theorem T9(a b:Item):decide (nZ a b<0)=before a b:=by
 simp only[nZ,mI,jJ,before]
 repeat' split
 all_goals simp_all
 all_goals omega
theorem Px{a b c:Item}(h:before a b=true)(k:before b c=true):before a c=true:=by
 simp only[before,Bool.or_eq_true,decide_eq_true_eq,Bool.and_eq_true] at *
 omega
theorem CK(a b:Item):decide (0≤nZ a b) = !before a b:=by
 rw[←T9]
 by_cases h:nZ a b<0
 ·have:¬ 0≤nZ a b:=by omega
  simp[h,this]
 ·have:0≤nZ a b:=by omega
  simp[h,this]
theorem kI{l:List al}{i:Nat}(h:i<l.length):l[i]=ae l i:=by simp[ae,h]
theorem gJ{l:List al}{i:Nat}(h:i<l.length)(A:ab):gX A 17 (i:Int) (enc l)=some (.ref (enc (ae l i))):=by
 rw[eA 17 h rfl,kI h]
theorem fy{i n:Nat}(h:i<n):decide ((i:Int)<(n:Int))=true:=by simp;omega
theorem fD{i n:Nat}(h:¬ i<n):decide ((i:Int)<(n:Int))=false:=by simp;omega
theorem uB{n:Nat}(h:n≤9223372036854775807):IntKind.i64.wrap (n:Int)=(n:Int):=dz _ (by omega) (by omega)
theorem eH{i:Nat}(h:i<9223372036854775807):IntKind.i64.wrap ((i:Int)+1)=((i+1:Nat):Int):=by rw[dz _ (by omega) (by omega)];rfl
theorem Nf{i:Nat}(h:0<i)(h2:i<9223372036854775807):IntKind.i64.wrap ((i:Int)-1)=((i-1:Nat):Int):=by rw[dz _ (by omega) (by omega)];omega
theorem ke{l:List al}(h:df l=true):l.length≤60:=by simp[df] at h;exact h.1
theorem x3{l:List al}(h:df l=true){i:Nat}(hi:i<l.length):il l i=true:=by
 simp only[df,Bool.and_eq_true,List.all_eq_true,List.mem_range] at h
 exact h.2 i hi
theorem tJ{l:List al}{i:Nat}(hi:i<l.length)(h:il l i=false):df l=false:=by
 cases hk:df l with
 |false=>rfl
 |true=>rw[x3 hk hi] at h;cases h
theorem x4{l:List al}(hl:l.length≤60)(h:∀ i,i<l.length→il l i=true):df l=true:=by
 simp only[df,Bool.and_eq_true,List.all_eq_true,List.mem_range,decide_eq_true_eq]
 exact ⟨hl,h⟩
theorem tK{l:List al}(h:df l=true){i:Nat}(hi:i<l.length):hE (ae l i)=true:=by
 have:=x3 h hi
 simp only[il,Bool.and_eq_true] at this
 exact this.1
theorem JJ{l:List al}(h:df l=true):∀ {j i:Nat},i<j→j<l.length→before (ae l i).cW (ae l j).cW=true
 |0,i,hij,_=>by omega
 |j+1,i,hij,hj=>by
  have h1:=x3 h hj
  simp only[il,Bool.and_eq_true,Bool.or_eq_true,decide_eq_true_eq,Nat.add_sub_cancel] at h1
  have h2:=h1.2.resolve_left (by omega)
  by_cases e:i=j
  ·rw[e];exact h2
  ·exact Px (JJ h (j:=j) (by omega) (by omega)) h2
theorem tq{p:Nat→Prop}{i:Nat}(h:∀ j,j<i→p j)(hi:p i):∀ j,j<i+1→p j:=fun j hj=>by
 by_cases e:j=i
 ·exact e▸hi
 ·exact h j (by omega)
theorem zI(l:List al):av Tryz.prog 64 [enc l] (enc (if df l then (0:Int) else 41)):=by
 refine av.bn Tryz.func64 Rw Tu VE (Nat.le_of_ble_eq_true rfl) (fun hwf W0 D0 E1 =>?_)
 simp only[BV,LD,a6]
 have hlen:l.length≤maxLen:=((jZ l).1 hwf.1).1
 simp only[maxLen] at hlen
 clear hwf
 refine .au (by decide +kernel) fun K hK =>?_
 simp only[HT,U,simprocAttr]
 refine .done (hK _ ?_);clear hK K
 refine J.seq (J.seq ?_)
 refine .bV (by decide +kernel) fun K hK =>?_
 simp only[HU,U,simprocAttr]
 try simp only[bh,U,simprocAttr]
 refine .done (hK _ ?_);clear hK K;try simp only[aF]
 refine J.bW ?_
 simp only[ak,U,simprocAttr]
 refine ⟨fun h =>?_,fun h =>?_⟩
 ·have R:=And.intro @aK @U
  repeat' ((first
   |(with_reducible refine .guard (fun hb =>?_) (fun hb =>?_) <;>try simp only[hb])
   |refine J.aG (by decide +kernel) rfl fun K hK =>?_
   |(refine .aw [0,2,3,4,7,8,9,10,11,33] hK ?_;clear hK K)
   |(with_reducible refine .done (hK _ ?_);clear hK K)
   |refine J.of rfl ?_
   |(with_reducible refine ak.aE (fun h =>?_) (fun h =>?_) <;>try simp only[h])) <;>try simp only[aH,R,simprocAttr])
  all_goals clear R
  have:¬ l.length≤60:=by simp at h;omega
  simp[df,this]
 have hl6:l.length≤60:=by simp at h;omega
 refine J.skip ?_;try simp only[aF,simprocAttr]
 refine J.seq (J.seq ?_)
 refine .bV (by decide +kernel) fun K hK =>?_
 simp only[HV,U,simprocAttr]
 try simp only[bh,U,simprocAttr]
 refine .done (hK _ ?_);clear hK K;try simp only[aF]
 refine J.block (J.loop (fun i:Nat=>aq [(0,enc l),(8,enc l),(9,.int .i64 l.length),(10,.int .i64 i)] []) (fun i=>i≤l.length∧∀ j,j<i→il l j=true) (fun i=>l.length-i) 0 ⟨by omega,fun k h=>by omega⟩ ?_ (fun i hi =>?_))
 ·refine aC.bZ ?_ ?_ ?_ ?_ <;>simp[aX,bO,bM,bt,aW,I.only,bB]
 by_cases hlt:i<l.length
 ·have he:=gJ hlt
  have hc:=fy hlt
  have hw:=eH (i:=i) (by omega)
  by_cases h0:i=0
  ·have hc0:decide ((0:Int)<(i:Int))=false:=by simp;omega
   have R:=And.intro @he (And.intro @hc (And.intro @hw (And.intro @hc0 (And.intro @CK (And.intro @aK @U)))))
   repeat' ((first
    |(with_reducible refine .guard (fun hb =>?_) (fun hb =>?_) <;>try simp only[hb])
    |refine J.aG (by decide +kernel) rfl fun K hK =>?_
    |refine .flat _ (uF _) rfl ?_
    |refine .flat _ (zo _ _) rfl ?_
    |(refine .aw [0,2,3,4,7,8,9,10,11,33] hK ?_;clear hK K)
    |(with_reducible refine .done (hK _ ?_);clear hK K)
    |refine J.of rfl ?_
    |(with_reducible refine ak.aE (fun h =>?_) (fun h =>?_) <;>try simp only[h])) <;>try simp only[aH,R,simprocAttr])
   all_goals clear R
   all_goals first
    |(refine ⟨i+1,⟨by omega,tq hi.2 (by simp_all[il])⟩,by omega,?_⟩;(refine aC.bZ ?_ ?_ ?_ ?_ <;>simp[aX,bO,bM,bt,aW,I.only,bB]))
    |(rw[tJ hlt (by simp_all[il])];rfl)
  ·have he2:=gJ (l:=l) (i:=i-1) (by omega)
   have hw2:=Nf (i:=i) (by omega) (by omega)
   have hc0:decide ((0:Int)<(i:Int))=true:=by simp;omega
   have R:=And.intro @he (And.intro @hc (And.intro @hw (And.intro @he2 (And.intro @hw2 (And.intro @hc0 (And.intro @CK (And.intro @aK @U)))))))
   repeat' ((first
    |(with_reducible refine .guard (fun hb =>?_) (fun hb =>?_) <;>try simp only[hb])
    |refine J.aG (by decide +kernel) rfl fun K hK =>?_
    |refine .flat _ (uF _) rfl ?_
    |refine .flat _ (zo _ _) rfl ?_
    |(refine .aw [0,2,3,4,7,8,9,10,11,33] hK ?_;clear hK K)
    |(with_reducible refine .done (hK _ ?_);clear hK K)
    |refine J.of rfl ?_
    |(with_reducible refine ak.aE (fun h =>?_) (fun h =>?_) <;>try simp only[h])) <;>try simp only[aH,R,simprocAttr])
   all_goals clear R
   all_goals first
    |(refine ⟨i+1,⟨by omega,tq hi.2 (by simp_all[il])⟩,by omega,?_⟩;(refine aC.bZ ?_ ?_ ?_ ?_ <;>simp[aX,bO,bM,bt,aW,I.only,bB]))
    |(rw[tJ hlt (by simp_all[il])];rfl)
 ·have hc:=fD hlt
  have R:=And.intro @hc (And.intro @aK @U)
  repeat' ((first
   |(with_reducible refine .guard (fun hb =>?_) (fun hb =>?_) <;>try simp only[hb])
   |refine J.aG (by decide +kernel) rfl fun K hK =>?_
   |(refine .aw [0,2,3,4,7,8,9,10,11,33] hK ?_;clear hK K)
   |(with_reducible refine .done (hK _ ?_);clear hK K)
   |refine J.of rfl ?_
   |(with_reducible refine ak.aE (fun h =>?_) (fun h =>?_) <;>try simp only[h])) <;>try simp only[aH,R,simprocAttr])
  all_goals clear R
  rw[x4 hl6 fun j hj=>hi.2 j (by omega)];rfl
theorem rX(l:List al):av Tryz.prog 65 [enc l] (enc (if df l then (0:Int) else 41)):=by
 refine av.bn Tryz.func65 Rx Tv VF (Nat.le_of_ble_eq_true rfl) (fun hwf W0 D0 E1 =>?_)
 simp only[BW,LF,a6]
 have hlen:l.length≤maxLen:=((jZ l).1 hwf.1).1
 simp only[maxLen] at hlen
 clear hwf
 refine .au (by decide +kernel) fun K hK =>?_
 simp only[HW,U,simprocAttr]
 refine .done (hK _ ?_);clear hK K
 refine J.seq (J.seq ?_)
 refine .bV (by decide +kernel) fun K hK =>?_
 simp only[HX,U,simprocAttr]
 try simp only[bh,U,simprocAttr]
 refine .done (hK _ ?_);clear hK K;try simp only[aF]
 refine J.bW ?_
 simp only[ak,U,simprocAttr]
 refine ⟨fun h =>?_,fun h =>?_⟩
 ·have R:=And.intro @aK @U
  repeat' ((first
   |(with_reducible refine .guard (fun hb =>?_) (fun hb =>?_) <;>try simp only[hb])
   |refine J.aG (by decide +kernel) rfl fun K hK =>?_
   |(refine .aw [0,2,3,6,10,37] hK ?_;clear hK K)
   |(with_reducible refine .done (hK _ ?_);clear hK K)
   |refine J.of rfl ?_
   |(with_reducible refine ak.aE (fun h =>?_) (fun h =>?_) <;>try simp only[h])) <;>try simp only[aH,R,simprocAttr])
  all_goals clear R
  have:¬ l.length≤60:=by simp at h;omega
  simp[df,this]
 have hl6:l.length≤60:=by simp at h;omega
 refine J.skip ?_;try simp only[aF,simprocAttr]
 refine J.seq (J.seq ?_)
 refine .bV (by decide +kernel) fun K hK =>?_
 simp only[HY,U,simprocAttr]
 try simp only[er,bh,lR,fb,U,simprocAttr]
 refine .done (hK _ ?_);clear hK K;try simp only[aF]
 refine J.block (J.loop (fun i:Nat=>aq [(0,enc l),(3,.int .i64 i)] []) (fun i=>i≤l.length∧∀ j,j<i→il l j=true) (fun i=>l.length-i) 0 ⟨by omega,fun k h=>by omega⟩ ?_ (fun i hi =>?_))
 ·refine aC.bZ ?_ ?_ ?_ ?_ <;>simp[aX,bO,bM,bt,aW,I.only,bB]
 by_cases hlt:i<l.length
 ·have he:=gJ hlt
  have hc:=fy hlt
  have hw:=eH (i:=i) (by omega)
  have hb0:∀ b:Bool,((if b=true then (0:Int) else 40) != 0) = !b:=fun b=>by cases b <;>rfl
  by_cases h0:i=0
  ·have hc0:decide ((0:Int)<(i:Int))=false:=by simp;omega
   have R:=And.intro @he (And.intro @hc (And.intro @hw (And.intro @hc0 (And.intro @hb0 (And.intro @bh (And.intro @aK @U))))))
   repeat' ((first
    |(with_reducible refine .guard (fun hb =>?_) (fun hb =>?_) <;>try simp only[hb])
    |refine J.aG (by decide +kernel) rfl fun K hK =>?_
    |refine .flat _ (zH _) rfl ?_
    |refine .flat _ (zp _ _) rfl ?_
    |(refine .aw [0,2,3,6,10,37] hK ?_;clear hK K)
    |(with_reducible refine .done (hK _ ?_);clear hK K)
    |refine J.of rfl ?_
    |(with_reducible refine ak.aE (fun h =>?_) (fun h =>?_) <;>try simp only[h])) <;>try simp only[aH,R,simprocAttr])
   all_goals clear R
   all_goals first
    |(refine ⟨i+1,⟨by omega,tq hi.2 (by simp_all[il])⟩,by omega,?_⟩;(refine aC.bZ ?_ ?_ ?_ ?_ <;>simp[aX,bO,bM,bt,aW,I.only,bB]))
    |(rw[tJ hlt (by simp_all[il])];rfl)
  ·have he2:=gJ (l:=l) (i:=i-1) (by omega)
   have hw2:=Nf (i:=i) (by omega) (by omega)
   have hc0:decide ((0:Int)<(i:Int))=true:=by simp;omega
   have R:=And.intro @he (And.intro @hc (And.intro @hw (And.intro @he2 (And.intro @hw2 (And.intro @hc0 (And.intro @hb0 (And.intro @bh (And.intro @aK @U))))))))
   repeat' ((first
    |(with_reducible refine .guard (fun hb =>?_) (fun hb =>?_) <;>try simp only[hb])
    |refine J.aG (by decide +kernel) rfl fun K hK =>?_
    |refine .flat _ (zH _) rfl ?_
    |refine .flat _ (zp _ _) rfl ?_
    |(refine .aw [0,2,3,6,10,37] hK ?_;clear hK K)
    |(with_reducible refine .done (hK _ ?_);clear hK K)
    |refine J.of rfl ?_
    |(with_reducible refine ak.aE (fun h =>?_) (fun h =>?_) <;>try simp only[h])) <;>try simp only[aH,R,simprocAttr])
   all_goals clear R
   all_goals first
    |(refine ⟨i+1,⟨by omega,tq hi.2 (by simp_all[il])⟩,by omega,?_⟩;(refine aC.bZ ?_ ?_ ?_ ?_ <;>simp[aX,bO,bM,bt,aW,I.only,bB]))
    |(rw[tJ hlt (by simp_all[il])];rfl)
 ·have hc:=fD hlt
  have R:=And.intro @hc (And.intro @bh (And.intro @aK @U))
  repeat' ((first
   |(with_reducible refine .guard (fun hb =>?_) (fun hb =>?_) <;>try simp only[hb])
   |refine J.aG (by decide +kernel) rfl fun K hK =>?_
   |(refine .aw [0,2,3,6,10,37] hK ?_;clear hK K)
   |(with_reducible refine .done (hK _ ?_);clear hK K)
   |refine J.of rfl ?_
   |(with_reducible refine ak.aE (fun h =>?_) (fun h =>?_) <;>try simp only[h])) <;>try simp only[aH,R,simprocAttr])
  all_goals clear R
  rw[x4 hl6 fun j hj=>hi.2 j (by omega)];rfl
def bX(k:Nat)(ws:List Int):List (Nat×ah):=[(k,.box (.agg (ws.map enc)))]
theorem jv(p:Nat→Bool)(l:List Int):(I.agg (l.map enc)).only p=true:=by simp only[I.only];exact dU p l
theorem aiD(l:List Int):(I.agg (l.map enc)).cY=true:=by simp only[I.cY];exact xF l
theorem mO{ws:List Int} : ∀ m,ao (bX 1000000 ws) m=true→1000000≤m:=fun m hm=>by rw[cQ.1 hm];exact Nat.le_refl _
def kp(ws:List Int)(i j:Nat):List Int:=(ws.set i (ws.getD j 0)).set j (ws.getD i 0)
theorem M2{A B C:List Int}{x y:Int}{i j:Nat}(hi:A.length=i)(hj:A.length+1+B.length=j):kp (A++x::B++y::C) i j=A++y::B++x::C:=by
 subst hi hj
 have e1:(A++x::B++y::C).getD A.length 0=x:=by simp[List.getD_eq_getElem?_getD,List.append_assoc]
 have e2:(A++x::B++y::C).getD (A.length+1+B.length) 0=y:=by
  rw[List.getD_eq_getElem?_getD,List.getElem?_append_right (by simp;omega)]
  simp[]
  have:A.length+1+B.length-(A.length+(B.length+1))=0:=by omega
  rw[this];rfl
 simp only[kp,e1,e2]
 rw[List.append_assoc,List.set_append_right _ _ (Nat.le_refl _),Nat.sub_self,List.cons_append,List.set_cons_zero]
 rw[List.set_append_right _ _ (by omega)]
 have:A.length+1+B.length-A.length=(B.length)+1:=by omega
 rw[this,List.set_cons_succ,List.set_append_right _ _ (Nat.le_refl _),Nat.sub_self,List.set_cons_zero]
 simp
theorem ik{n i:Nat}(h:i<n)(fs:List I):ja 1000000 [] 1 0 n 1 (i:Int) (some fs)=some (.ptr 1000000 [i]):=by
 have:=nz (m:=1000000) (sz:=1) (lo:=0) (l:=n) (i:=i) (fs:=fs) h
 rwa [Nat.zero_add] at this
theorem lf(x y:Nat)(h:x+y<9223372036854775807):IntKind.i64.wrap ((x:Int)+(y:Int))=((x+y:Nat):Int):=by rw[dz _ (by omega) (by omega)];omega
theorem iK{x y:Nat}(h:y≤x)(hx:x<9223372036854775807):IntKind.i64.wrap ((x:Int)-(y:Int))=((x-y:Nat):Int):=by rw[dz _ (by omega) (by omega)];omega
def jX(p x y z q:List Int)(i:Nat):List Int:=p++(z.take i++x.drop i)++y++(x.take i++z.drop i)++q
theorem alS{p x y z q:List Int}{i a b:Nat}(hx:i<x.length)(hz:z.length=x.length)(ha:p.length=a)(hb:a+x.length+y.length=b):kp (jX p x y z q i) (a+i) (b+i)=jX p x y z q (i+1):=by
 have e1:jX p x y z q i=(p++z.take i)++x[i]::(x.drop (i+1)++y++x.take i)++z[i]::(z.drop (i+1)++q):=by
  simp only[jX]
  rw[List.drop_eq_getElem_cons hx,List.drop_eq_getElem_cons (l:=z) (by omega)]
  simp only[List.append_assoc,List.cons_append]
 have e2:jX p x y z q (i+1)=(p++z.take i)++z[i]::(x.drop (i+1)++y++x.take i)++x[i]::(z.drop (i+1)++q):=by
  simp only[jX]
  rw[List.take_succ_eq_append_getElem hx,List.take_succ_eq_append_getElem (l:=z) (by omega)]
  simp only[List.append_assoc,List.cons_append,List.nil_append]
 rw[e1,e2]
 refine M2 ?_ ?_
 ·simp;omega
 ·simp;omega
theorem alR(p x y z q:List Int)(i:Nat)(hz:z.length=x.length)(hi:i≤x.length):(jX p x y z q i).length=p.length+x.length+y.length+x.length+q.length:=by
 simp only[jX,List.length_append,List.length_take,List.length_drop];omega
def yF(ws:List Int):cN:=fun r os'=>r=.tuple []∧os'=bX 1000000 ws
theorem nG{ts:List (Nat×I)}{ws ws':List Int}{os:List (Nat×ah)}{post:cN}(hl:ai os 1000000=some (.box (.agg (ws.map enc))))(he:ws=ws')(hp:post (.tuple []) (bX 1000000 ws')):lh [] post (aq ts os):=by
 subst he
 exact ⟨bX 1000000 ws,[],kL hl (fun p=>jv p _),trivial,hp⟩
theorem uM(p x y z q:List Int)(a b n k:Nat)(f:I)(hz:z.length=x.length)(ha:p.length=a)(hb:a+x.length+y.length=b)(hk:x.length=k)(hn:b+k≤n)(hN:n≤1000) :
  cz Tryz.prog 216 [.view 1000000 [] 1 0 n,enc (a:Int),enc (b:Int),enc (k:Int),f] (bX 1000000 (p++x++y++z++q)) (yF (p++z++y++x++q)):=by
 refine cz.bn Tryz.func216 Rg Td Vo (Nat.le_of_ble_eq_true rfl) (Nat.le_of_ble_eq_true rfl) mO (fun hwf W0 D0 E1 =>?_)
 simp only[BF,Ln,a6,Nat.zero_add,Nat.reduceAdd]
 clear hwf
 refine .au (by decide +kernel) fun K hK =>?_
 simp only[HP,U,simprocAttr]
 refine .done (hK _ ?_);clear hK K
 refine J.block (J.loop (fun i:Nat=>aq [(0,.view 1000000 [] 1 0 n),(1,.int .i64 a),(2,.int .i64 b),(3,.int .i64 k),(10,.int .i64 i)] (bX 1000000 (jX p x y z q i))) (fun i=>i≤k) (fun i=>k-i) 0 (by omega) ?_ (fun i hi =>?_))
 ·have e:jX p x y z q 0=p++x++y++z++q:=by simp[jX]
  rw[e]
  simp only[bX]
  refine aC.bZ ?_ ?_ ?_ ?_ <;>simp[aX,bO,bM,bt,ao,aW,cA,I.only,ah.only,dU,gv]
 by_cases hlt:i<k
 ·have hc:=fy hlt
  have hw:=eH (i:=i) (by omega)
  have w1:=lf a i (by omega)
  have w2:=lf b i (by omega)
  have hst:=alS (p:=p) (q:=q) (i:=i) (by omega) hz ha hb
  have hl:=alR p x y z q i hz (by omega)
  simp only[bX]
  generalize jX p x y z q i=ws at hst hl
  have v1:=ik (n:=n) (i:=a+i) (by omega)
  have v2:=ik (n:=n) (i:=b+i) (by omega)
  have l1:=fL (xs:=ws) (i:=a+i) (by omega)
  have l2:=fL (xs:=ws) (i:=b+i) (by omega)
  have s1:=fun (A:ab) v u rest=>mY (A:=A) (n:=1000000) (xs:=ws) (i:=a+i) (by omega) v u rest
  obtain ⟨ws2,hws2⟩:∃ ws2,ws2=ws.set (a+i) (ws.getD (b+i) 0):=⟨_,rfl⟩
  have s2:=fun (A:ab) v u rest=>mY (A:=A) (n:=1000000) (xs:=ws2) (i:=b+i) (by rw[hws2];simp;omega) v u rest
  have l3:=fL (xs:=ws2) (i:=b+i) (by rw[hws2];simp;omega)
  have R:=And.intro @hc (And.intro @hw (And.intro @w1 (And.intro @w2 (And.intro @v1 (And.intro @v2 (And.intro @l1 (And.intro @l2 (And.intro @s1 (And.intro @s2 (And.intro @l3 (And.intro @cG (And.intro @aK @U))))))))))))
  repeat' ((first
   |(with_reducible refine .guard (fun hb =>?_) (fun hb =>?_) <;>try simp only[hb])
   |refine J.aG (by decide +kernel) rfl fun K hK =>?_
   |(refine .aw [0,1,2,3,10,13] hK ?_;clear hK K)
   |(with_reducible refine .done (hK _ ?_);clear hK K)
   |refine J.of rfl ?_
   |(with_reducible refine ak.aE (fun h =>?_) (fun h =>?_) <;>try simp only[h])) <;>try simp only[aH,R,←hws2,simprocAttr])
  all_goals clear R
  refine ⟨i+1,by omega,by omega,?_⟩
  rw[←hst]
  simp only[kp,←hws2]
  generalize ws2.set _ _=ws3
  refine aC.bZ ?_ ?_ ?_ ?_ <;>simp[aX,bO,bM,bt,ao,aW,cA,I.only,ah.only,dU]
 ·have hc:=fD hlt
  have he:i=k:=by omega
  subst he
  have R:=And.intro @hc (And.intro @aK @U)
  repeat' ((first
   |(with_reducible refine .guard (fun hb =>?_) (fun hb =>?_) <;>try simp only[hb])
   |refine J.aG (by decide +kernel) rfl fun K hK =>?_
   |(refine .aw [0,1,2,3,10,13] hK ?_;clear hK K)
   |(with_reducible refine .done (hK _ ?_);clear hK K)
   |refine J.of rfl ?_
   |(with_reducible refine ak.aE (fun h =>?_) (fun h =>?_) <;>try simp only[h])) <;>try simp only[aH,R,simprocAttr])
  all_goals clear R
  rw[lX]
  refine nG rfl ?_ ⟨rfl,rfl⟩
  have h1:z.take i=z:=List.take_of_length_le (by omega)
  have h2:x.take i=x:=List.take_of_length_le (by omega)
  have h3:z.drop i=[]:=List.drop_eq_nil_of_le (by omega)
  have h4:x.drop i=[]:=List.drop_eq_nil_of_le (by omega)
  simp only[jX,h1,h2,h3,h4,List.append_nil]
end Go.Proofs.YtcldiigclhgafaaGreat
