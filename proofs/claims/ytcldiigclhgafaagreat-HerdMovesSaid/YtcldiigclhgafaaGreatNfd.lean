/-
  A part of the proof that the law HerdMoves returns true for every input; conditions: none beyond the statement's own. (part 4 of 7)
-/
import Derived.Test.YtcldiigclhgafaaGreatChecked
import Derived.KernelRfl
import Derived.Test.YtcldiigclhgafaaGreatNfc
set_option linter.unusedSimpArgs false
set_option linter.unusedVariables false
set_option maxHeartbeats 16000000
set_option maxRecDepth 100000
namespace Go.Proofs.YtcldiigclhgafaaGreat
open Go Go.Abs Go.Abs.C
def abj:=[o 2 (.mv (.c (.nils 1)))]
def abk:=[m 6 0,o 7 (.len (.t 6)),o 8 (.bin .lss (.t 7) (aj 2))]
def abq:=[m 9 0,m 2 9]
def abr:=[aT 3 1]
def abt:=[m 10 3,m 11 0,o 12 (.len (.t 11)),lt 13 10 12]
def abu:=[m 16 0,m 17 3,o 18 (.is 1 (.t 16) (.t 17)),l 19 18,m 20 0,m 21 3,o 22 (.bin .sub (.t 21) (aj 1)),o 23 (.is 1 (.t 20) (.t 22)),l 24 23,o 25 (.bin .eql (.t 19) (.t 24))]
def YO:=some [[],[],[0,1],[2],[],[],[5],[4,6],[7],[3,8]]
def abv:=[m 26 0,m 27 3,o 28 (.sl 1 (.t 26) (some (.t 27)) none none),m 4 28]
def abw:=[aT 5 1]
def Fs:=[m 29 5,m 30 4,o 31 (.len (.t 30)),lt 32 29 31]
def abx:=[m 35 4,m 36 5,o 37 (.is 1 (.t 35) (.t 36)),l 38 37,m 39 4,m 40 5,o 41 (.bin .sub (.t 40) (aj 1)),o 42 (.is 1 (.t 39) (.t 41)),l 43 42,o 44 (.bin .neq (.t 38) (.t 43))]
def YP:=some [[],[],[0,1],[2],[],[],[5],[4,6],[7],[3,8]]
def abl:=[m 45 0,m 46 3,m 47 4,m 48 5,o 49 (.is 1 (.t 47) (.t 48)),l 50 49,o 51 (.is 1 (.t 45) (.t 46)),p (.bA none (.t 51) (.t 50))]
def abm:=[m 52 3,ad 53 52 1,m 3 53]
def abn:=[m 33 5,ad 34 33 1,m 5 34]
def Fp:=[m 54 0,m 55 3,o 56 (.sl 1 (.t 54) (some (.t 55)) none none),p (.iO 1 (.int .i64 0) (.t 56))]
def Fq:=[m 57 0,m 58 3,o 59 (.sl 1 (.t 57) none (some (.t 58)) none),m 2 59]
def abo:=[m 14 3,ad 15 14 1,m 3 15]
def abp:=[m 60 0,m 2 60]
def vB:aN:=(s (r abj) (s (s (r abk) (.cond (.t 8) (s (r abq) .ret) .skip)) (s (s (r abr) (.block 0 (.loop (s (s (r abt) (.cond (.t 13) .skip (.exit 0))) (s (.block 1 (s (.bT YO abu) (.cond (.t 25) (s (r abv) (s (s (r abw) (.block 2 (.loop (s (s (r Fs) (.cond (.t 32) .skip (.exit 2))) (s (.block 3 (s (.bT YP abx) (.cond (.t 44) (s (r abl) (r abm)) .skip))) (r abn)))))) (s (r Fp) (s (r Fq) .ret)))) .skip))) (r abo)))))) (s (r abp) .ret))))
def y5:List bd:=[.tmp 2]
theorem Dn:bD Tryz.prog Tryz.f108 vB:=e (by kernel_rfl)
theorem DN:bE Tryz.prog Tryz.f108 y5:=e (by kernel_rfl)
theorem C9:bB Tryz.prog 108:=e (by kernel_rfl)
def Ft:=[b 3 0,b 4 1,b 5 2,o 6 (.mv (.c (.nils 1)))]
def Fu:=[o 7 (.mv (.c (.func 149 [])))]
def wJ:=[l 9 4,m 10 7,o 11 (.call 72 [.t 9,.t 10]),l 12 5,m 13 7,o 14 (.call 72 [.t 12,.t 13]),o 15 (.bs 29 1 [.t 11,.t 14]),o 16 (.call 150 [.t 15]),m 8 16]
def YQ:=some [[],[],[0,1],[],[],[3,4,2],[2,5],[6,5],[7,7,0,1,2,3,4,5,6,7]]
def Fv:=[m 17 8,o 18 (.call 107 [.t 17])]
def Fw:=[m 19 8,o 20 (.call 108 [.t 19]),o 21 (.mk 152 [.t 3,.t 4,.t 5]),o 22 (.call 151 [.t 20,.t 21]),m 6 22]
def Bc:aN:=(s (r Ft) (s (r Fu) (s (.bT YQ wJ) (s (r Fv) (s (r Fw) .ret)))))
def L8:List bd:=[.tmp 6]
theorem Uv:bD Tryz.prog Tryz.f109 Bc:=e (by kernel_rfl)
theorem WO:bE Tryz.prog Tryz.f109 L8:=e (by kernel_rfl)
theorem Sq:bB Tryz.prog 109:=e (by kernel_rfl)
def Fx:=[b 3 1,aT 4 0]
def Fy:=[aT 5 0]
def aby:=[m 6 5,m 7 0,o 8 (.len (.t 7)),lt 9 6 8]
def abz:=[m 12 0,m 13 5,o 14 (.is 17 (.t 12) (.t 13)),f 15 0 0 14,L 16 2 15,L 17 2 3,o 18 (.eqv (.bA [(.i .i64),(.i .i64)]) false (.t 16) (.t 17))]
def YR:=some [[],[],[0,1],[2],[3],[],[4,5]]
def abA:=[m 19 5,m 4 19]
def abB:=[m 10 5,ad 11 10 1,m 5 11]
def abC:=[aT 4 (-1)]
def Bd:aN:=(s (r Fx) (s (s (r Fy) (.block 0 (.loop (s (s (r aby) (.cond (.t 9) .skip (.exit 0))) (s (.block 1 (s (.bT YR abz) (.cond (.t 18) (s (r abA) .ret) .skip))) (r abB)))))) (s (r abC) .ret)))
def L9:List bd:=[.tmp 4]
theorem Uw:bD Tryz.prog Tryz.f110 Bd:=e (by kernel_rfl)
theorem WQ:bE Tryz.prog Tryz.f110 L9:=e (by kernel_rfl)
theorem Sr:bB Tryz.prog 110:=e (by kernel_rfl)
def abD:=[b 3 0,b 4 1,b 5 2,o 6 (.mv (.c (.nils 1)))]
def abE:=[o 7 (.mv (.c (.nils 1)))]
def abN:=[aT 8 0]
def abO:=[m 12 8,f 13 0 0 4,l 14 13,o 15 (.len (.t 14)),lt 16 12 15]
def abP:=[m 19 7,f 20 0 0 4,l 21 20,m 22 8,o 23 (.is 9 (.t 21) (.t 22)),f 24 0 0 23,l 25 24,o 26 (.bs 3 1 [.t 25]),o 27 (.cV 3 1 8 (.int .i64 0) (.t 19) (.t 26)),m 7 27]
def abQ:=[m 17 8,ad 18 17 1,m 8 18]
def abR:=[aT 9 0]
def abS:=[m 28 9,f 29 0 0 5,l 30 29,o 31 (.len (.t 30)),lt 32 28 31]
def abT:=[m 35 7,f 36 0 0 5,l 37 36,m 38 9,o 39 (.is 9 (.t 37) (.t 38)),f 40 0 0 39,l 41 40,o 42 (.bs 3 1 [.t 41]),o 43 (.cV 3 1 8 (.int .i64 0) (.t 35) (.t 42)),m 7 43]
def abU:=[m 33 9,ad 34 33 1,m 9 34]
def abF:=[m 44 7,o 45 (.call 97 [.t 44]),m 7 45]
def abG:=[o 10 (.mv (.c (.nils 1)))]
def abH:=[aT 11 0]
def abI:=[m 46 11,m 47 7,o 48 (.len (.t 47)),lt 49 46 48]
def abJ:=[L 52 7 3,L 53 2 4,L 54 2 5,m 55 7,m 56 11,o 57 (.is 1 (.t 55) (.t 56)),l 58 57,o 59 (.call 79 [.t 52,.t 53,.t 54,.t 58]),no 60 59]
def YS:=some [[],[],[],[],[],[3,4],[5],[0,1,2,6],[7]]
def abK:=[m 61 10,m 62 7,m 63 11,o 64 (.is 1 (.t 62) (.t 63)),l 65 64,o 66 (.bs 3 1 [.t 65]),o 67 (.cV 3 1 8 (.int .i64 0) (.t 61) (.t 66)),m 10 67]
def abL:=[m 50 11,ad 51 50 1,m 11 51]
def abM:=[m 68 10,m 6 68]
def Be:aN:=(s (r abD) (s (r abE) (s (s (r abN) (.block 0 (.loop (s (s (r abO) (.cond (.t 16) .skip (.exit 0))) (s (.block 1 (r abP)) (r abQ)))))) (s (s (r abR) (.block 2 (.loop (s (s (r abS) (.cond (.t 32) .skip (.exit 2))) (s (.block 3 (r abT)) (r abU)))))) (s (r abF) (s (r abG) (s (s (r abH) (.block 4 (.loop (s (s (r abI) (.cond (.t 49) .skip (.exit 4))) (s (.block 5 (s (.bT YS abJ) (.cond (.t 60) (r abK) .skip))) (r abL)))))) (s (r abM) .ret))))))))
def Ma:List bd:=[.tmp 6]
theorem Ux:bD Tryz.prog Tryz.f111 Be:=e (by kernel_rfl)
theorem WR:bE Tryz.prog Tryz.f111 Ma:=e (by kernel_rfl)
theorem St:bB Tryz.prog 111:=e (by kernel_rfl)
def Fz:=[o 6 (.mv bp)]
def FA:=[m 7 1,m 8 0,o 9 (.bin .leq (.t 7) (.t 8)),m 10 9,cw 11 0 10,cw 12 2 10,bn 13 (.bin .leq (.t 11) (.t 12)) 10,and 14 10 13,m 6 14]
def Bf:aN:=(s (r Fz) (s (r FA) .ret))
def Mb:List bd:=[.tmp 6]
theorem Uy:bD Tryz.prog Tryz.f114 Bf:=e (by kernel_rfl)
theorem WS:bE Tryz.prog Tryz.f114 Mb:=e (by kernel_rfl)
theorem Su:bB Tryz.prog 114:=e (by kernel_rfl)
def FB:=[b 1 0,o 2 (.mv bp)]
def FC:=[f 3 0 0 1,l 4 3,o 5 (.call 114 [.t 4,(aj 0),(aj 5)]),m 6 5,cF 7 1 1 1 6,cP 8 7 6,bn 9 (.call 114 [.t 8,(aj 0),(aj 9999)]) 6,and 10 6 9,m 2 10]
def Bg:aN:=(s (r FB) (s (r FC) .ret))
def Mc:List bd:=[.tmp 2]
theorem Uz:bD Tryz.prog Tryz.f115 Bg:=e (by kernel_rfl)
theorem WT:bE Tryz.prog Tryz.f115 Mc:=e (by kernel_rfl)
theorem Sv:bB Tryz.prog 115:=e (by kernel_rfl)
def FD:=[b 1 0,o 2 (.mv bp)]
def FE:=[f 3 0 0 1,l 4 3,o 5 (.call 94 [.t 4,(aj 0),(aj 5)]),m 6 5,cF 7 1 1 1 6,cP 8 7 6,bn 9 (.call 94 [.t 8,(aj 0),(aj 9999)]) 6,and 10 6 9,m 2 10]
def Bh:aN:=(s (r FD) (s (r FE) .ret))
def Md:List bd:=[.tmp 2]
theorem UA:bD Tryz.prog Tryz.f116 Bh:=e (by kernel_rfl)
theorem WU:bE Tryz.prog Tryz.f116 Md:=e (by kernel_rfl)
theorem Sw:bB Tryz.prog 116:=e (by kernel_rfl)
def FF:=[b 1 0,o 2 (.mv bp)]
def FG:=[f 5 0 0 1,L 6 2 5,f 7 1 2 1,l 8 7,f 9 2 3 1,l 10 9,f 11 3 4 1,l 12 11,f 13 4 5 1,l 14 13,o 15 (.bld [.agg [.int .i64 0,.int .i64 0],.int .i64 0,.int .i64 0,.int .i64 0,.int .i64 0,.int .i64 0,.int .i64 0,.int .i64 0,.agg [.int .i64 0,.int .i64 0,.int .i64 0,.int .i64 0,.int .i64 0,.int .i64 0],.agg [.int .i64 0,.int .i64 0]] [(0,(.t 6)),(1,(.t 8)),(2,(.t 10)),(3,(.t 12)),(4,(.t 14))]),o 3 (.alloc (.agg [.agg [.int .i64 0,.int .i64 0],.int .i64 0,.int .i64 0,.int .i64 0,.int .i64 0,.int .i64 0,.int .i64 0,.int .i64 0,.agg [.int .i64 0,.int .i64 0,.int .i64 0,.int .i64 0,.int .i64 0,.int .i64 0],.agg [.int .i64 0,.int .i64 0]])),p (.bA (some 17) (.t 3) (.t 15))]
def FH:=[f 16 4 5 1,l 17 16,o 18 (.call 154 [.t 17]),m 4 18]
def ab8:=[f 19 1 2 1,l 20 19]
def ab9:=[o 22 (.bin .eql (.t 20) (aj 0)),m 21 22]
def wK:=[f 23 9 15 1,L 24 2 23,f 25 4 5 3,p (.bA none (.t 25) (aj 0)),f 26 9 15 3,p (.bA (some 2) (.t 26) (.t 24))]
def YT:=some [[],[0],[],[2],[0,1,2,3],[4,1,3,0,1,2,3]] -- DRAW BAD
def aca:=[f 27 2 3 1,l 28 27,o 29 (.bin .eql (.t 28) (aj 0)),m 30 29,cF 31 9 15 1 30,bn 32 (.ld (some 2) (.t 31)) 30,bn 33 (.call 115 [.t 32]) 30,and 34 30 33,m 35 34,cF 36 9 15 1 35,cF 37 0 0 36 35,cP 38 37 35,cF 39 0 0 1 35,cF 40 0 0 39 35,cP 41 40 35,bn 42 (.bin .eql (.t 38) (.t 41)) 35,and 43 35 42,m 44 43,cF 45 9 15 1 44,cF 46 1 1 45 44,cP 47 46 44,cF 48 0 0 1 44,cF 49 1 1 48 44,cP 50 49 44,bn 51 (.bin .lss (.t 47) (.t 50)) 44,and 52 44 51,m 4 52]
def acb:=[o 54 (.bin .eql (.t 20) (aj 1)),m 53 54]
def wL:=[f 55 6 7 1,l 56 55,f 57 7 8 1,l 58 57,f 59 5 6 1,l 60 59,f 61 6 7 3,p (.bA none (.t 61) (.t 56)),f 62 7 8 3,p (.bA none (.t 62) (.t 58)),f 63 5 6 3,p (.bA none (.t 63) (.t 60))]
def YU:=some [[],[0],[],[2],[],[4],[0,1],[6,1,0,1],[0,1,2,3,6,7],[8,3,7,0,1,2,3,6,7],[0,1,2,3,4,5,6,7,8,9],[10,5,9,0,1,2,3,4,5,6,7,8,9]] -- DRAW BAD
def acd:=[m 64 4,m 65 64,cF 66 6 7 1 65,cP 67 66 65,bn 68 (.call 155 [.t 67]) 65,and 69 65 68,m 70 69,cF 71 7 8 1 70,cP 72 71 70,bn 73 (.call 156 [.t 72]) 70,and 74 70 73,m 75 74,cF 76 5 6 1 75,cP 77 76 75,bn 78 (.call 114 [.t 77,(aj 0),(aj 9999)]) 75,and 79 75 78,m 80 79,cF 81 5 6 1 80,cP 82 81 80,cF 83 4 5 1 80,cP 84 83 80,bn 85 (.bin .neq (.t 82) (.t 84)) 80,and 86 80 85,m 4 86]
def abV:=[o 88 (.bin .eql (.t 20) (aj 2)),m 87 88]
def abW:=[f 89 6 7 1,l 90 89,f 91 6 7 3,p (.bA none (.t 91) (.t 90))]
def abX:=[m 92 4,m 93 92,cF 94 6 7 1 93,cP 95 94 93,bn 96 (.call 155 [.t 95]) 93,and 97 93 96,m 4 97]
def abY:=[o 99 (.bin .eql (.t 20) (aj 3)),m 98 99]
def abZ:=[o 100 (.bin .eql (.t 20) (aj 5)),m 98 100]
def ab0:=[f 101 7 8 1,l 102 101,f 103 7 8 3,p (.bA none (.t 103) (.t 102))]
def ab1:=[m 104 4,m 105 104,cF 106 7 8 1 105,cP 107 106 105,bn 108 (.call 156 [.t 107]) 105,and 109 105 108,m 4 109]
def ab2:=[o 111 (.bin .eql (.t 20) (aj 4)),m 110 111]
def ab3:=[f 112 8 9 1,L 113 6 112,f 114 8 9 3,p (.bA (some 6) (.t 114) (.t 113))]
def ab4:=[m 115 4,m 116 115,cF 117 8 9 1 116,bn 118 (.ld (some 6) (.t 117)) 116,bn 119 (.call 157 [.t 118]) 116,bn 120 (.bin .eql (.t 119) (aj 0)) 116,and 121 116 120,m 4 121]
def ab5:=[o 123 (.bin .eql (.t 20) (aj 6)),m 122 123]
def ab6:=[o 2 (.mv bp)]
def ab7:=[m 124 4,m 125 124,bn 126 (.ld (some 17) (.t 1)) 125,bn 127 (.ld (some 17) (.t 3)) 125,bn 128 (.eqv (.bA [(.bA [(.i .i64),(.i .i64)]),(.i .i64),(.i .i64),(.i .i64),(.i .i64),(.i .i64),(.i .i64),(.i .i64),(.kq 6 (.i .i64)),(.bA [(.i .i64),(.i .i64)])]) false (.t 126) (.t 127)) 125,and 129 125 128,m 130 129,cF 131 0 0 1 130,bn 132 (.ld (some 2) (.t 131)) 130,bn 133 (.call 115 [.t 132]) 130,and 134 130 133,m 135 134,cF 136 2 3 1 135,cP 137 136 135,bn 138 (.call 127 [.t 137]) 135,and 139 135 138,m 140 139,cF 141 3 4 1 140,cP 142 141 140,bn 143 (.call 127 [.t 142]) 140,and 144 140 143,m 2 144]
def Bi:aN:=(s (r FF) (s (r FG) (s (r FH) (s (s (r ab8) (.block 0 (s (r ab9) (.cond (.t 21) (s (.bT YT wK) (r aca)) (s (r acb) (.cond (.t 53) (s (.bT YU wL) (r acd)) (s (r abV) (.cond (.t 87) (s (r abW) (r abX)) (s (s (r abY) (.cond (.t 98) .skip (r abZ))) (.cond (.t 98) (s (r ab0) (r ab1)) (s (r ab2) (.cond (.t 110) (s (r ab3) (r ab4)) (s (r ab5) (.cond (.t 122) .skip (s (r ab6) .ret))))))))))))))) (s (r ab7) .ret)))))
def Me:List bd:=[.tmp 2]
theorem UB:bD Tryz.prog Tryz.f117 Bi:=e (by kernel_rfl)
theorem WV:bE Tryz.prog Tryz.f117 Me:=e (by kernel_rfl)
theorem Sx:bB Tryz.prog 117:=e (by kernel_rfl)
def FI:=[b 2 0,b 3 1,aT 4 0]
def FJ:=[f 5 0 0 2,l 6 5,f 7 0 0 3,l 8 7,o 9 (.call 159 [.t 6,.t 8]),f 10 1 1 2,l 11 10,f 12 1 1 3,l 13 12,o 14 (.call 159 [.t 11,.t 13]),o 15 (.bs 3 1 [.t 9,.t 14]),o 16 (.call 158 [.t 15]),m 4 16]
def YV:=some [[],[0],[],[2],[1,3],[],[5],[],[7],[6,8,4],[4,9],[10,9],[11,11,0,1,2,3,4,5,6,7,8,9,10,11]]
def Bj:aN:=(s (r FI) (s (.bT YV FJ) .ret))
def Mf:List bd:=[.tmp 4]
theorem UC:bD Tryz.prog Tryz.f118 Bj:=e (by kernel_rfl)
theorem WW:bE Tryz.prog Tryz.f118 Mf:=e (by kernel_rfl)
theorem Sy:bB Tryz.prog 118:=e (by kernel_rfl)
def FK:=[b 2 0,b 3 1,o 4 (.mv bp)]
def FL:=[f 5 0 0 2,l 6 5,f 7 0 0 3,l 8 7,lt 9 6 8,m 10 9,fn 11 0 0 2 10,eU 12 11 10,fn 13 0 0 3 10,eU 14 13 10,on 15 (.bin .eql (.t 12) (.t 14)) 10,ew 16 15 10,cF 17 1 1 2 16,cP 18 17 16,cF 19 1 1 3 16,cP 20 19 16,bn 21 (.bin .lss (.t 18) (.t 20)) 16,on 22 (.pick (.t 16) (.t 21) bp) 10,or 23 10 22,m 4 23]
def Bk:aN:=(s (r FK) (s (r FL) .ret))
def Mg:List bd:=[.tmp 4]
theorem UD:bD Tryz.prog Tryz.f119 Bk:=e (by kernel_rfl)
theorem WX:bE Tryz.prog Tryz.f119 Mg:=e (by kernel_rfl)
theorem Sz:bB Tryz.prog 119:=e (by kernel_rfl)
def FM:=[b 1 0,o 2 (.mv bp)]
def FN:=[L 6 5 1,aT 7 0]
def FO:=[o 8 (.bin .lss (.t 7) (aj 5))]
def FP:=[m 9 7,o 10 (.ix 5 1 none (.t 6) (.t 7)),m 3 9,m 4 10]
def FQ:=[m 11 4,m 5 11]
def FR:=[m 12 5,o 13 (.call 160 [.t 12]),no 14 13,m 15 14,ew 16 5 15,ew 17 3 15,on 18 (.call 161 [.t 16,.t 17]) 15,on 19 (.un .not (.t 18)) 15,or 20 15 19]
def wM:=[o 2 (.mv bp)]
def FT:=[ad 21 7 1,m 7 21]
def FU:=[o 2 (.mv T)]
def Bl:aN:=(s (r FM) (s (s (r FN) (.block 0 (.loop (s (r FO) (s (.cond (.t 8) .skip (.exit 0)) (s (.block 1 (s (r FP) (s (r FQ) (s (r FR) (.cond (.t 20) (s (r wM) .ret) .skip))))) (r FT))))))) (s (r FU) .ret)))
def Mh:List bd:=[.tmp 2]
theorem UE:bD Tryz.prog Tryz.f120 Bl:=e (by kernel_rfl)
theorem WY:bE Tryz.prog Tryz.f120 Mh:=e (by kernel_rfl)
theorem SA:bB Tryz.prog 120:=e (by kernel_rfl)
def FV:=[o 6 (.mv bp)]
def FW:=[m 7 1,m 8 0,o 9 (.bin .leq (.t 7) (.t 8)),m 10 9,cw 11 0 10,cw 12 2 10,bn 13 (.bin .leq (.t 11) (.t 12)) 10,and 14 10 13,m 6 14]
def Bm:aN:=(s (r FV) (s (r FW) .ret))
def Mi:List bd:=[.tmp 6]
theorem UF:bD Tryz.prog Tryz.f121 Bm:=e (by kernel_rfl)
theorem WZ:bE Tryz.prog Tryz.f121 Mi:=e (by kernel_rfl)
theorem SB:bB Tryz.prog 121:=e (by kernel_rfl)
def FX:=[o 2 (.mv bp)]
def FY:=[m 3 0,o 4 (.call 121 [.t 3,(aj 1),(aj 99)]),m 2 4]
def Bn:aN:=(s (r FX) (s (r FY) .ret))
def Mj:List bd:=[.tmp 2]
theorem UG:bD Tryz.prog Tryz.f122 Bn:=e (by kernel_rfl)
theorem W2:bE Tryz.prog Tryz.f122 Mj:=e (by kernel_rfl)
theorem SC:bB Tryz.prog 122:=e (by kernel_rfl)
def FZ:=[b 1 0,o 2 (.mv bp)]
def F0:=[o 3 (.va 6 1 (.t 1)),o 4 (.call 125 [.t 3,(.c (.func 162 []))]),no 5 4,m 2 5]
def Bo:aN:=(s (r FZ) (s (r F0) .ret))
def Mk:List bd:=[.tmp 2]
theorem UH:bD Tryz.prog Tryz.f123 Bo:=e (by kernel_rfl)
theorem W3:bE Tryz.prog Tryz.f123 Mk:=e (by kernel_rfl)
theorem SD:bB Tryz.prog 123:=e (by kernel_rfl)
def F1:=[b 3 0,b 5 2,o 6 (.mv bp)]
def F2:=[m 7 1,o 8 (.mk 164 [.t 3,.t 5]),o 9 (.call 163 [.t 7,.t 8]),no 10 9,m 6 10]
def Bp:aN:=(s (r F1) (s (r F2) .ret))
def Ml:List bd:=[.tmp 6]
theorem UI:bD Tryz.prog Tryz.f124 Bp:=e (by kernel_rfl)
theorem W4:bE Tryz.prog Tryz.f124 Ml:=e (by kernel_rfl)
theorem SE:bB Tryz.prog 124:=e (by kernel_rfl)
def F3:=[o 4 (.mv bp)]
def F4:=[m 5 0,m 6 1,o 7 (.call 166 [.t 5,.t 6]),o 8 (.bin .geq (.t 7) (aj 0)),m 4 8]
def Bq:aN:=(s (r F3) (s (r F4) .ret))
def Mm:List bd:=[.tmp 4]
theorem UJ:bD Tryz.prog Tryz.f125 Bq:=e (by kernel_rfl)
theorem W5:bE Tryz.prog Tryz.f125 Mm:=e (by kernel_rfl)
theorem SF:bB Tryz.prog 125:=e (by kernel_rfl)
def ace:=[o 2 (.mv bp)]
def acf:=[m 3 0,o 4 (.call 127 [.t 3]),no 5 4,m 2 5]
def Br:aN:=(s (r ace) (s (r acf) .ret))
def Mn:List bd:=[.tmp 2]
theorem UK:bD Tryz.prog Tryz.f126 Br:=e (by kernel_rfl)
theorem W6:bE Tryz.prog Tryz.f126 Mn:=e (by kernel_rfl)
theorem SG:bB Tryz.prog 126:=e (by kernel_rfl)
def F5:=[o 2 (.mv bp)]
def F6:=[m 3 0,o 4 (.call 114 [.t 3,(aj 0),(aj 100000)]),m 2 4]
def Bt:aN:=(s (r F5) (s (r F6) .ret))
def Mo:List bd:=[.tmp 2]
theorem UL:bD Tryz.prog Tryz.f127 Bt:=e (by kernel_rfl)
theorem W7:bE Tryz.prog Tryz.f127 Mo:=e (by kernel_rfl)
theorem SH:bB Tryz.prog 127:=e (by kernel_rfl)
def F7:=[b 2 0,o 4 (.mv (.c (.nils 1))),aT 5 0]
def F8:=[L 11 7 2,o 12 (.call 66 [.t 11]),m 6 12]
def wR:=[m 13 6,o 14 (.bin .neq (.t 13) (aj 0))]
def F9:=[m 15 6,o 4 (.mv (.c (.nils 1))),m 5 15]
def Ga:=[m 16 1,o 17 (.len (.t 16)),o 18 (.bin .gtr (.t 17) (aj 60))]
def Gb:=[o 4 (.mv (.c (.nils 1))),aT 5 2]
def Gc:=[f 19 2 6 2,l 20 19,o 21 (.call 167 [.t 20]),m 7 21]
def wS:=[m 22 1,o 23 (.len (.t 22)),aT 24 0]
def wT:=[lt 25 24 23]
def wU:=[o 26 (.is 6 (.t 22) (.t 24)),L 27 6 26,o 9 (.alloc (.agg [.int .i64 0,.int .i64 0,.int .i64 0,.int .i64 0,.int .i64 0,.int .i64 0])),p (.bA (some 6) (.t 9) (.t 27))]
def wN:=[L 28 6 9,o 29 (.call 157 [.t 28]),m 10 29]
def tc:=[m 30 10,o 31 (.bin .neq (.t 30) (aj 0))]
def wO:=[m 32 10,o 4 (.mv (.c (.nils 1))),m 5 32]
def wP:=[f 33 0 0 2,L 34 5 33,f 35 1 5 2,l 36 35,m 37 7,o 38 (.bld [.agg [.int .i64 0,.int .i64 0,.int .i64 0,.int .i64 0,.int .i64 0],.int .i64 0,.nils 7] [(0,(.t 34)),(1,(.t 36)),(2,(.t 37))]),L 39 6 9,o 40 (.call 168 [.t 38,.t 39]),m 7 40]
def td:=[ad 41 24 1,m 24 41]
def wQ:=[m 42 7,o 43 (.call 169 [.t 42]),m 4 43,aT 5 0]
def Bu:aN:=(s (r F7) (s (s (r F8) (s (r wR) (.cond (.t 14) (s (r F9) .ret) .skip))) (s (s (r Ga) (.cond (.t 18) (s (r Gb) .ret) .skip)) (s (r Gc) (s (s (r wS) (.block 0 (.loop (s (r wT) (s (.cond (.t 25) .skip (.exit 0)) (s (.block 1 (s (r wU) (s (s (r wN) (s (r tc) (.cond (.t 31) (s (r wO) .ret) .skip))) (r wP)))) (r td))))))) (s (r wQ) .ret))))))
def Mp:List bd:=[.tmp 4,.tmp 5]
theorem UM:bD Tryz.prog Tryz.f128 Bu:=e (by kernel_rfl)
theorem W8:bE Tryz.prog Tryz.f128 Mp:=e (by kernel_rfl)
theorem SI:bB Tryz.prog 128:=e (by kernel_rfl)
def Gd:=[b 3 0,b 4 1,b 5 2,aT 6 0]
def Ge:=[aT 7 0]
def Gf:=[aT 8 0]
def Gg:=[m 9 8,o 10 (.bin .lss (.t 9) (aj 6))]
def Gh:=[m 13 8,o 14 (.ia 6 1 (.t 4) (.t 13)),l 15 14,o 16 (.ia 5 1 (.t 3) (.t 15)),l 17 16,m 18 8,o 19 (.ia 6 1 (.t 5) (.t 18)),l 20 19,o 21 (.ia 5 1 (.t 3) (.t 20)),l 22 21,o 23 (.bin .and (.t 17) (.t 22)),o 24 (.bin .eql (.t 23) (aj 0))]
def YW:=some [[],[0],[1],[2],[3],[],[5],[6],[7],[8],[4,9],[10]]
def Gi:=[m 25 7,ad 26 25 1,m 7 26]
def wV:=[m 11 8,ad 12 11 1,m 8 12]
def Gj:=[m 27 7,m 6 27]
def Bv:aN:=(s (r Gd) (s (r Ge) (s (s (r Gf) (.block 0 (.loop (s (s (r Gg) (.cond (.t 10) .skip (.exit 0))) (s (.block 1 (s (.bT YW Gh) (.cond (.t 24) (r Gi) .skip))) (r wV)))))) (s (r Gj) .ret))))
def Mq:List bd:=[.tmp 6]
theorem UN:bD Tryz.prog Tryz.f129 Bv:=e (by kernel_rfl)
theorem W9:bE Tryz.prog Tryz.f129 Mq:=e (by kernel_rfl)
theorem SJ:bB Tryz.prog 129:=e (by kernel_rfl)
def Gk:=[b 2 0,o 4 (.mv (.c (.nils 1))),aT 5 0]
def Gl:=[L 11 7 2,o 12 (.call 70 [.t 11]),o 13 (.bin .neq (.t 12) (aj 0))]
def Gw:=[o 4 (.mv (.c (.nils 1))),aT 5 13]
def Gy:=[m 14 1,o 15 (.len (.t 14)),o 16 (.bin .gtr (.t 15) (aj 60))]
def Gz:=[o 4 (.mv (.c (.nils 1))),aT 5 2]
def GA:=[aT 6 0]
def GB:=[m 17 6,m 18 1,o 19 (.len (.t 18)),lt 20 17 19]
def GC:=[m 23 1,m 24 6,o 25 (.is 6 (.t 23) (.t 24)),L 26 6 25,o 27 (.call 101 [.t 26]),o 28 (.bin .neq (.t 27) (aj 0))]
def GD:=[o 4 (.mv (.c (.nils 1))),aT 5 12]
def GF:=[m 21 6,ad 22 21 1,m 6 22]
def Gm:=[o 7 (.mv (.c (.nils 1)))]
def Gn:=[aT 8 0]
def Gp:=[m 29 8,f 30 2 6 2,l 31 30,o 32 (.len (.t 31)),lt 33 29 32]
def Gq:=[o 9 (.mv T)]
def Gr:=[aT 10 0]
def Gs:=[m 36 10,m 37 1,o 38 (.len (.t 37)),lt 39 36 38]
def Gt:=[m 42 9,m 43 42,cF 44 0 0 2 43,bn 45 (.ld (some 5) (.t 44)) 43,cF 46 2 6 2 43,cP 47 46 43,cw 48 8 43,bn 49 (.is 7 (.t 47) (.t 48)) 43,cF 50 1 1 49 43,bn 51 (.ld (some 6) (.t 50)) 43,cw 52 1 43,cw 53 10 43,bn 54 (.is 6 (.t 52) (.t 53)) 43,bn 55 (.ld (some 6) (.t 54)) 43,bn 56 (.call 102 [.t 45,.t 51,.t 55]) 43,cF 57 1 5 2 43,cP 58 57 43,bn 59 (.bin .leq (.t 56) (.t 58)) 43,and 60 43 59,m 9 60]
def YX:=some [[],[0],[1],[2,1],[1],[4,1],[1],[5,6,1],[7,1],[8,1],[1],[1],[10,11,1],[12,1],[3,9,13,1,1],[1],[15,1],[14,16,1],[1,17],[18,14,0,1,2,3,4,5,6,7,8,9,10,11,12,13,14,15,16,17,18]]
def wW:=[m 40 10,ad 41 40 1,m 10 41]
def Gu:=[m 61 9]
def Gv:=[m 62 7,f 63 2 6 2,l 64 63,m 65 8,o 66 (.is 7 (.t 64) (.t 65)),f 67 0 0 66,l 68 67,o 69 (.bs 3 1 [.t 68]),o 70 (.cV 3 1 8 (.int .i64 0) (.t 62) (.t 69)),m 7 70]
def wX:=[m 34 8,ad 35 34 1,m 8 35]
def Gx:=[m 71 7,m 4 71,aT 5 0]
def Bw:aN:=(s (r Gk) (s (s (r Gl) (.cond (.t 13) (s (r Gw) .ret) .skip)) (s (s (r Gy) (.cond (.t 16) (s (r Gz) .ret) .skip)) (s (s (r GA) (.block 0 (.loop (s (s (r GB) (.cond (.t 20) .skip (.exit 0))) (s (.block 1 (s (r GC) (.cond (.t 28) (s (r GD) .ret) .skip))) (r GF)))))) (s (r Gm) (s (s (r Gn) (.block 2 (.loop (s (s (r Gp) (.cond (.t 33) .skip (.exit 2))) (s (.block 3 (s (r Gq) (s (s (r Gr) (.block 4 (.loop (s (s (r Gs) (.cond (.t 39) .skip (.exit 4))) (s (.block 5 (.bT YX Gt)) (r wW)))))) (s (r Gu) (.cond (.t 61) (r Gv) .skip))))) (r wX)))))) (s (r Gx) .ret)))))))
def Mr:List bd:=[.tmp 4,.tmp 5]
theorem UO:bD Tryz.prog Tryz.f130 Bw:=e (by kernel_rfl)
theorem Xa:bE Tryz.prog Tryz.f130 Mr:=e (by kernel_rfl)
theorem SK:bB Tryz.prog 130:=e (by kernel_rfl)
def acg:=[aT 4 0]
def ach:=[m 6 0,o 7 (.len (.t 6)),aT 8 0]
def aci:=[lt 9 8 7]
def acj:=[m 10 8,m 5 10]
def ack:=[m 11 1,m 12 0,m 13 5,o 14 (.is 1 (.t 12) (.t 13)),l 15 14,o 16 (.bin .eql (.t 11) (.t 15))]
def acm:=[m 17 5,m 4 17]
def acn:=[ad 18 8 1,m 8 18]
def aco:=[aT 4 (-1)]
def Bx:aN:=(s (r acg) (s (s (r ach) (.block 0 (.loop (s (r aci) (s (.cond (.t 9) .skip (.exit 0)) (s (.block 1 (s (r acj) (s (r ack) (.cond (.t 16) (s (r acm) .ret) .skip)))) (r acn))))))) (s (r aco) .ret)))
def Ms:List bd:=[.tmp 4]
theorem UP:bD Tryz.prog Tryz.f131 Bx:=e (by kernel_rfl)
theorem Xb:bE Tryz.prog Tryz.f131 Ms:=e (by kernel_rfl)
theorem SL:bB Tryz.prog 131:=e (by kernel_rfl)
def acp:=[b 3 1,o 4 (.mv (.c (.nils 9))),o 5 (.mv bp)]
def acq:=[m 11 0,f 12 4 5 3,l 13 12,o 14 (.call 93 [.t 11,.t 13]),m 6 14]
def acC:=[f 15 1 2 3,l 16 15,o 17 (.bin .eql (.t 16) (aj 1)),m 18 17,fn 19 1 2 3 18,eU 20 19 18,on 21 (.bin .eql (.t 20) (aj 2)) 18,or 22 18 21]
def acM:=[m 23 6,o 24 (.bin .geq (.t 23) (aj 0))]
def acO:=[m 25 0,m 4 25,o 5 (.mv bp)]
def acP:=[f 26 5 6 3,l 27 26,o 28 (.bin .neq (.t 27) (aj 0))]
def acQ:=[m 29 0,f 30 5 6 3,l 31 30,o 32 (.call 93 [.t 29,.t 31]),m 7 32]
def acR:=[m 33 7,o 34 (.bin .lss (.t 33) (aj 0)),m 35 34,ew 36 0 35,ew 37 7 35,on 38 (.is 9 (.t 36) (.t 37)) 35,fn 39 1 1 38 35,eU 40 39 35,fn 41 6 7 3 35,eU 42 41 35,on 43 (.bin .neq (.t 40) (.t 42)) 35,or 44 35 43,m 45 44,ew 46 0 45,ew 47 7 45,on 48 (.is 9 (.t 46) (.t 47)) 45,fn 49 6 6 48 45,eU 50 49 45,on 51 (.bin .geq (.t 50) (aj 0)) 45,ew 52 51 45,cw 53 0 52,cw 54 7 52,bn 55 (.is 9 (.t 53) (.t 54)) 52,cF 56 6 6 55 52,cP 57 56 52,cF 58 2 3 3 52,cP 59 58 52,bn 60 (.bin .lss (.t 57) (.t 59)) 52,on 61 (.pick (.t 52) (.t 60) bp) 45,or 62 45 61]
def YZ:=some [[],[0],[1],[2],[2],[3,4,2],[5,2],[6,2],[2],[8,2],[7,9,2],[2,10],[11,2],[12],[12],[13,14,12],[15,12],[16,12],[17,12],[18,12,12],[19],[19],[20,21,19],[22,19],[23,19],[19],[25,19],[24,26,19],[19,27,12],[12,28]]
def acS:=[m 63 0,m 4 63,o 5 (.mv bp)]
def acT:=[m 64 0,f 65 4 5 3,l 66 65,f 67 6 7 3,l 68 67,f 69 5 6 3,l 70 69,f 71 7 8 3,l 72 71,f 73 7 8 3,l 74 73,f 75 2 3 3,l 76 75,o 77 (.bld [.int .i64 0,.int .i64 0,.int .i64 0,.int .i64 0,.int .i64 0,.int .i64 0,.int .i64 0,.bool false,.nils 6] [(0,(.t 66)),(1,(.t 68)),(2,(.t 70)),(3,(.t 72)),(4,(.t 74)),(5,(.t 76)),(6,(.c (.int .i64 (-1))))]),o 78 (.call 170 [.t 64,.t 77]),m 8 78]
def acr:=[m 79 8,m 4 79,o 5 (.mv T)]
def acs:=[m 80 6,o 81 (.bin .lss (.t 80) (aj 0))]
def acu:=[m 82 0,m 4 82,o 5 (.mv bp)]
def acv:=[m 83 0,m 84 6,o 85 (.is 9 (.t 83) (.t 84)),L 86 9 85,o 9 (.alloc (.agg [.int .i64 0,.int .i64 0,.int .i64 0,.int .i64 0,.int .i64 0,.int .i64 0,.int .i64 0,.bool false,.nils 6])),p (.bA (some 9) (.t 9) (.t 86))]
def acw:=[f 87 1 2 3,l 88 87]
def acx:=[o 90 (.bin .eql (.t 88) (aj 3)),m 89 90]
def acy:=[f 91 6 6 9,l 92 91,o 93 (.bin .geq (.t 92) (aj 0)),m 94 93,fn 95 3 3 9 94,eU 96 95 94,on 97 (.bin .eql (.t 96) (aj 0)) 94,or 98 94 97,m 99 98,fn 100 3 3 9 99,eU 101 100 99,fn 102 7 8 3 99,eU 103 102 99,on 104 (.bin .eql (.t 101) (.t 103)) 99,or 105 99 104]
def acz:=[m 106 0,m 4 106,o 5 (.mv bp)]
def acA:=[f 107 7 8 3,l 108 107,f 109 3 3 9,p (.bA none (.t 109) (.t 108))]
def acB:=[o 111 (.bin .eql (.t 88) (aj 4)),m 110 111]
def wY:=[o 112 (.bs0 6),f 113 8 8 9,l 114 113,o 115 (.cV 66 6 48 (.agg [.int .i64 0,.int .i64 0,.int .i64 0,.int .i64 0,.int .i64 0,.int .i64 0]) (.t 112) (.t 114)),f 116 8 9 3,L 117 6 116,o 118 (.bs 66 6 [.t 117]),o 119 (.cV 66 6 48 (.agg [.int .i64 0,.int .i64 0,.int .i64 0,.int .i64 0,.int .i64 0,.int .i64 0]) (.t 115) (.t 118)),f 120 8 8 9,p (.bA none (.t 120) (.t 119))]
def YY:=some [[],[],[1],[0,2],[],[4],[5],[3,6,3],[0,1,2,3,4,5,6,7],[8,7,7,0,1,2,3,4,5,6,7]] -- DRAW BAD
def acD:=[o 122 (.bin .eql (.t 88) (aj 5)),m 121 122]
def acE:=[f 123 7 8 3,l 124 123,f 125 3 3 9,p (.bA none (.t 125) (.t 124))]
def acF:=[f 126 7 7 9,p (.bA none (.t 126) T)]
def acG:=[o 128 (.bin .eql (.t 88) (aj 6)),m 127 128]
def acH:=[f 129 6 6 9,l 130 129,o 131 (.bin .geq (.t 130) (aj 0))]
def acI:=[m 132 0,m 4 132,o 5 (.mv bp)]
def acJ:=[f 133 2 3 3,l 134 133,f 135 6 6 9,p (.bA none (.t 135) (.t 134))]
def acK:=[o 136 (.bs0 9),m 137 0,o 138 (.cV 78 9 88 (.agg [.int .i64 0,.int .i64 0,.int .i64 0,.int .i64 0,.int .i64 0,.int .i64 0,.int .i64 0,.bool false,.nils 6]) (.t 136) (.t 137)),m 10 138]
def acL:=[m 139 10,m 140 6,L 141 9 9,o 142 (.is 9 (.t 139) (.t 140)),p (.bA (some 9) (.t 142) (.t 141))]
def acN:=[m 143 10,m 4 143,o 5 (.mv T)]
def oD:aN:=(s (r acp) (s (r acq) (s (s (r acC) (.cond (.t 22) (s (s (r acM) (.cond (.t 24) (s (r acO) .ret) .skip)) (s (s (r acP) (.cond (.t 28) (s (r acQ) (s (.bT YZ acR) (.cond (.t 62) (s (r acS) .ret) .skip))) .skip)) (s (r acT) (s (r acr) .ret)))) .skip)) (s (s (r acs) (.cond (.t 81) (s (r acu) .ret) .skip)) (s (r acv) (s (s (r acw) (.block 0 (s (r acx) (.cond (.t 89) (s (s (r acy) (.cond (.t 105) (s (r acz) .ret) .skip)) (r acA)) (s (r acB) (.cond (.t 110) (.bT YY wY) (s (r acD) (.cond (.t 121) (s (r acE) (r acF)) (s (r acG) (.cond (.t 127) (s (s (r acH) (.cond (.t 131) (s (r acI) .ret) .skip)) (r acJ)) .skip)))))))))) (s (r acK) (s (r acL) (s (r acN) .ret)))))))))
def oS:List bd:=[.tmp 4,.tmp 5]
theorem pF:bD Tryz.prog Tryz.f132 oD:=e (by kernel_rfl)
theorem pI:bE Tryz.prog Tryz.f132 oS:=e (by kernel_rfl)
theorem pD:bB Tryz.prog 132:=e (by kernel_rfl)
def acU:=[o 2 (.alloc (.agg [.int .i64 0,.int .i64 0,.int .i64 0,.int .i64 0,.int .i64 0,.int .i64 0,.int .i64 0,.int .i64 0]))]
def acV:=[aT 3 0]
def acW:=[m 4 0,o 5 (.nilC (.t 4)),f 6 0 0 5,f 7 7 7 6,l 8 7]
def acX:=[aT 3 1]
def acY:=[m 9 0,o 10 (.nilC (.t 9)),f 11 0 0 10,f 12 0 0 11,l 13 12,m 14 0,o 15 (.nilC (.t 14)),f 16 0 0 15,f 17 1 1 16,l 18 17,m 19 0,o 20 (.nilC (.t 19)),f 21 0 0 20,f 22 2 2 21,l 23 22,m 24 0,o 25 (.nilC (.t 24)),f 26 0 0 25,f 27 3 3 26,l 28 27,m 29 0,o 30 (.nilC (.t 29)),f 31 0 0 30,f 32 4 4 31,l 33 32,m 34 0,o 35 (.nilC (.t 34)),f 36 0 0 35,f 37 5 5 36,l 38 37,m 39 0,o 40 (.nilC (.t 39)),f 41 0 0 40,f 42 6 6 41,l 43 42,m 44 3,o 45 (.bld [.int .i64 0,.int .i64 0,.int .i64 0,.int .i64 0,.int .i64 0,.int .i64 0,.int .i64 0,.int .i64 0] [(0,(.t 13)),(1,(.t 18)),(2,(.t 23)),(3,(.t 28)),(4,(.t 33)),(5,(.t 38)),(6,(.t 43)),(7,(.t 44))]),p (.bA (some 8) (.t 2) (.t 45))]
def Y0:=some [[],[0],[1],[2],[3],[],[5],[6],[7],[8],[],[10],[11],[12],[13],[],[15],[16],[17],[18],[],[20],[21],[22],[23],[],[25],[26],[27],[28],[],[30],[31],[32],[33],[],[4,9,14,19,24,29,34,35],[36,0,1,2,3,4,5,6,7,8,9,10,11,12,13,14,15,16,17,18,19,20,21,22,23,24,25,26,27,28,29,30,31,32,33,34,35,36]]
def By:aN:=(s (r acU) (s (r acV) (s (s (r acW) (.cond (.t 8) (r acX) .skip)) (s (.bT Y0 acY) .ret))))
def Mt:List bd:=[.cell 2 (some 8)]
theorem UQ:bD Tryz.prog Tryz.f133 By:=e (by kernel_rfl)
theorem Xc:bE Tryz.prog Tryz.f133 Mt:=e (by kernel_rfl)
theorem SM:bB Tryz.prog 133:=e (by kernel_rfl)
def acZ:=[o 4 (.mv bp)]
def ac0:=[m 6 0,o 7 (.len (.t 6)),m 8 1,o 9 (.len (.t 8)),o 10 (.bin .neq (.t 7) (.t 9))]
def ac1:=[o 4 (.mv bp)]
def ac2:=[m 11 0,o 12 (.len (.t 11)),aT 13 0]
def ac3:=[lt 14 13 12]
def ac4:=[m 15 13,m 5 15]
def ac5:=[m 16 0,m 17 5,o 18 (.is 1 (.t 16) (.t 17)),l 19 18,m 20 1,m 21 5,o 22 (.is 1 (.t 20) (.t 21)),l 23 22,o 24 (.bin .neq (.t 19) (.t 23))]
def Y1:=some [[],[],[0,1],[2],[],[],[4,5],[6],[3,7]]
def ac6:=[o 4 (.mv bp)]
def ac7:=[ad 25 13 1,m 13 25]
def ac8:=[o 4 (.mv T)]
def Bz:aN:=(s (r acZ) (s (s (r ac0) (.cond (.t 10) (s (r ac1) .ret) .skip)) (s (s (r ac2) (.block 0 (.loop (s (r ac3) (s (.cond (.t 14) .skip (.exit 0)) (s (.block 1 (s (r ac4) (s (.bT Y1 ac5) (.cond (.t 24) (s (r ac6) .ret) .skip)))) (r ac7))))))) (s (r ac8) .ret))))
def Mu:List bd:=[.tmp 4]
theorem UR:bD Tryz.prog Tryz.f134 Bz:=e (by kernel_rfl)
theorem Xd:bE Tryz.prog Tryz.f134 Mu:=e (by kernel_rfl)
theorem SN:bB Tryz.prog 134:=e (by kernel_rfl)
def GG:=[o 6 (.mv (.c (.nils 17)))]
def GH:=[m 8 0,m 9 1,m 10 2,m 11 0,o 12 (.len (.t 11)),o 13 (.sl 17 (.t 8) (some (.t 9)) (some (.t 10)) (some (.t 12)))]
def GI:=[m 14 1,m 15 2,o 16 (.bin .eql (.t 14) (.t 15))]
def ac9:=[m 17 0,m 6 17]
def GJ:=[m 18 0,o 19 (.len (.t 18)),m 7 19]
def wZ:=[m 20 0,m 21 1,o 22 (.sl 17 (.t 20) none (some (.t 21)) none),m 23 0,m 24 2,o 25 (.sl 17 (.t 23) (some (.t 24)) none none),o 26 (.cV 68 17 136 (.agg [.agg [.int .i64 0,.int .i64 0],.int .i64 0,.int .i64 0,.int .i64 0,.int .i64 0,.int .i64 0,.int .i64 0,.int .i64 0,.agg [.int .i64 0,.int .i64 0,.int .i64 0,.int .i64 0,.int .i64 0,.int .i64 0],.agg [.int .i64 0,.int .i64 0]]) (.t 22) (.t 25)),m 0 26]
def Y2:=some [[],[],[0,1],[],[],[3,4],[2,5],[6,6,0,1,2,3,4,5,6]]
def w0:=[m 27 0,m 28 0,o 29 (.len (.t 28)),m 30 7,o 31 (.sl 17 (.t 27) (some (.t 29)) (some (.t 30)) none),p (.iO 17 (.agg [.agg [.int .i64 0,.int .i64 0],.int .i64 0,.int .i64 0,.int .i64 0,.int .i64 0,.int .i64 0,.int .i64 0,.int .i64 0,.agg [.int .i64 0,.int .i64 0,.int .i64 0,.int .i64 0,.int .i64 0,.int .i64 0],.agg [.int .i64 0,.int .i64 0]]) (.t 31))]
def xa:=[m 32 0,m 6 32]
def BA:aN:=(s (r GG) (s (r GH) (s (s (r GI) (.cond (.t 16) (s (r ac9) .ret) .skip)) (s (r GJ) (s (.bT Y2 wZ) (s (r w0) (s (r xa) .ret)))))))
def Mv:List bd:=[.tmp 6]
theorem US:bD Tryz.prog Tryz.f135 BA:=e (by kernel_rfl)
theorem Xe:bE Tryz.prog Tryz.f135 Mv:=e (by kernel_rfl)
theorem SO:bB Tryz.prog 135:=e (by kernel_rfl)
def GK:=[o 2 (.mv (.c (.nils 17)))]
def xb:=[m 3 0,o 4 (.nilS false (.t 3))]
def GL:=[o 2 (.mv (.c (.nils 17)))]
def xc:=[o 5 (.bs0 17),m 6 0,o 7 (.cV 68 17 136 (.agg [.agg [.int .i64 0,.int .i64 0],.int .i64 0,.int .i64 0,.int .i64 0,.int .i64 0,.int .i64 0,.int .i64 0,.int .i64 0,.agg [.int .i64 0,.int .i64 0,.int .i64 0,.int .i64 0,.int .i64 0,.int .i64 0],.agg [.int .i64 0,.int .i64 0]]) (.t 5) (.t 6)),m 2 7]
def BB:aN:=(s (r GK) (s (s (r xb) (.cond (.t 4) (s (r GL) .ret) .skip)) (s (r xc) .ret)))
def Mw:List bd:=[.tmp 2]
theorem UT:bD Tryz.prog Tryz.f136 BB:=e (by kernel_rfl)
theorem Xf:bE Tryz.prog Tryz.f136 Mw:=e (by kernel_rfl)
theorem SP:bB Tryz.prog 136:=e (by kernel_rfl)
def GM:=[m 4 0,m 5 0,o 6 (.len (.t 5)),m 7 1,o 8 (.call 171 [.t 4,.t 6,.t 7])]
def vC:aN:=(r GM)
def y6:List bd:=[]
theorem Dp:bD Tryz.prog Tryz.f137 vC:=e (by kernel_rfl)
theorem DO:bE Tryz.prog Tryz.f137 y6:=e (by kernel_rfl)
theorem Da:bB Tryz.prog 137:=e (by kernel_rfl)
def ada:=[aT 5 0]
def adb:=[l 6 2,m 7 0,o 8 (.is 17 (.t 6) (.t 7)),f 9 2 3 8,l 10 9,l 11 2,m 12 1,o 13 (.is 17 (.t 11) (.t 12)),f 14 2 3 13,l 15 14,o 16 (.bin .sub (.t 10) (.t 15)),m 5 16]
def Y3:=some [[],[],[0,1],[2],[3],[],[],[5,6],[7],[8],[4,9],[10,0,1,2,3,4,5,6,7,8,9,10]]
def BC:aN:=(s (r ada) (s (.bT Y3 adb) .ret))
def Mx:List bd:=[.tmp 5]
theorem UU:bD Tryz.prog Tryz.f138 BC:=e (by kernel_rfl)
theorem Xg:bE Tryz.prog Tryz.f138 Mx:=e (by kernel_rfl)
theorem SQ:bB Tryz.prog 138:=e (by kernel_rfl)
def GN:=[o 0 (.mv (.c (.raw (.map none))))]
def GO:=[o 1 (.kb),p (.hU (.i .i64) (.t 1) (aj 1) (.c (.func 172 []))),p (.hU (.i .i64) (.t 1) (aj 2) (.c (.func 173 []))),p (.hU (.i .i64) (.t 1) (aj 3) (.c (.func 174 []))),p (.hU (.i .i64) (.t 1) (aj 4) (.c (.func 175 []))),p (.hU (.i .i64) (.t 1) (aj 5) (.c (.func 176 []))),p (.hU (.i .i64) (.t 1) (aj 6) (.c (.func 177 []))),m 2 1,m 0 2]
def BD:aN:=(s (r GN) (s (r GO) .ret))
def My:List bd:=[.tmp 0]
theorem UW:bD Tryz.prog Tryz.f139 BD:=e (by kernel_rfl)
theorem Xh:bE Tryz.prog Tryz.f139 My:=e (by kernel_rfl)
theorem SR:bB Tryz.prog 139:=e (by kernel_rfl)
def ade:=[o 4 (.mv (.c (.nils 1)))]
def adf:=[o 5 (.mv (.c (.nils 1)))]
def adl:=[o 6 (.mv bp)]
def adm:=[aT 7 0]
def adn:=[m 8 7,m 9 0,o 10 (.len (.t 9)),lt 11 8 10]
def ado:=[m 14 0,m 15 7,o 16 (.is 1 (.t 14) (.t 15)),l 17 16,m 18 1,o 19 (.bin .eql (.t 17) (.t 18))]
def adp:=[m 20 0,m 4 20]
def adq:=[m 21 6,no 22 21,m 23 22,cw 24 0 23,cw 25 7 23,bn 26 (.is 1 (.t 24) (.t 25)) 23,cP 27 26 23,cw 28 1 23,bn 29 (.bin .gtr (.t 27) (.t 28)) 23,and 30 23 29]
def adr:=[m 31 5,m 32 1,o 33 (.bs 3 1 [.t 32]),o 34 (.cV 3 1 8 (.int .i64 0) (.t 31) (.t 33)),m 5 34]
def ads:=[o 6 (.mv T)]
def adg:=[m 35 5,m 36 0,m 37 7,o 38 (.is 1 (.t 36) (.t 37)),l 39 38,o 40 (.bs 3 1 [.t 39]),o 41 (.cV 3 1 8 (.int .i64 0) (.t 35) (.t 40)),m 5 41]
def adh:=[m 12 7,ad 13 12 1,m 7 13]
def adi:=[m 42 6,no 43 42]
def adj:=[m 44 5,m 45 1,o 46 (.bs 3 1 [.t 45]),o 47 (.cV 3 1 8 (.int .i64 0) (.t 44) (.t 46)),m 5 47]
def adk:=[m 48 5,m 4 48]
def BF:aN:=(s (r ade) (s (r adf) (s (r adl) (s (s (r adm) (.block 0 (.loop (s (s (r adn) (.cond (.t 11) .skip (.exit 0))) (s (.block 1 (s (s (r ado) (.cond (.t 19) (s (r adp) .ret) .skip)) (s (s (r adq) (.cond (.t 30) (s (r adr) (r ads)) .skip)) (r adg)))) (r adh)))))) (s (s (r adi) (.cond (.t 43) (r adj) .skip)) (s (r adk) .ret))))))
def MA:List bd:=[.tmp 4]
theorem UY:bD Tryz.prog Tryz.f140 BF:=e (by kernel_rfl)
theorem Xj:bE Tryz.prog Tryz.f140 MA:=e (by kernel_rfl)
theorem SU:bB Tryz.prog 140:=e (by kernel_rfl)
def GP:=[o 2 (.mv (.c (.nils 1)))]
def GQ:=[o 3 (.mv (.c (.nils 1)))]
def GR:=[aT 4 0]
def GS:=[m 5 4,o 6 (.bin .lss (.t 5) (aj 5))]
def GU:=[m 9 0,m 10 4,o 11 (.bin .shl (aj 1) (.t 10)),o 12 (.bin .and (.t 9) (.t 11)),o 13 (.bin .neq (.t 12) (aj 0))]
def GV:=[m 14 3,m 15 4,o 16 (.bs 3 1 [.t 15]),o 17 (.cV 3 1 8 (.int .i64 0) (.t 14) (.t 16)),m 3 17]
def xd:=[m 7 4,ad 8 7 1,m 4 8]
def GW:=[m 18 3,m 2 18]
def BG:aN:=(s (r GP) (s (r GQ) (s (s (r GR) (.block 0 (.loop (s (s (r GS) (.cond (.t 6) .skip (.exit 0))) (s (.block 1 (s (r GU) (.cond (.t 13) (r GV) .skip))) (r xd)))))) (s (r GW) .ret))))
def MB:List bd:=[.tmp 2]
theorem UZ:bD Tryz.prog Tryz.f141 BG:=e (by kernel_rfl)
theorem Xk:bE Tryz.prog Tryz.f141 MB:=e (by kernel_rfl)
theorem SV:bB Tryz.prog 141:=e (by kernel_rfl)
def adt:=[b 4 1,aT 6 0,o 7 (.mv bp)]
def adu:=[m 12 0,o 13 (.len (.t 12)),m 8 13]
def adv:=[m 14 8,aT 9 0,m 10 14]
def adw:=[m 15 9,m 16 10,lt 17 15 16]
def adx:=[m 18 9,m 19 10,o 20 (.bin .add (.t 18) (.t 19)),o 21 (.conv .u64 (.t 20)),o 22 (.bin .shr (.t 21) (.c (.int .u64 1))),o 23 (.conv .i64 (.t 22)),m 11 23]
def ady:=[m 24 2,m 25 0,m 26 11,o 27 (.is 17 (.t 25) (.t 26)),L 28 17 27,L 29 2 4,o 30 (.eH (.t 24) [.t 28,.t 29]),o 31 (.bin .lss (.t 30) (aj 0))]
def Y4:=some [[],[],[],[1,2],[3],[],[0,4,5],[6]]
def adz:=[m 32 11,ad 33 32 1,m 9 33]
def adA:=[m 34 11,m 10 34]
def adB:=[m 35 9,m 36 9,m 37 8,lt 38 36 37,m 39 38,cw 40 2 39,cw 41 0 39,cw 42 9 39,bn 43 (.is 17 (.t 41) (.t 42)) 39,bn 44 (.ld (some 17) (.t 43)) 39,bn 45 (.ld (some 2) (.t 4)) 39,bn 46 (.eH (.t 40) [.t 44,.t 45]) 39,bn 47 (.bin .eql (.t 46) (aj 0)) 39,and 48 39 47,m 6 35,m 7 48]
def Y5:=some [[],[],[],[1,2],[3],[4],[4],[4],[6,7,4],[8,4],[4],[5,9,10,4,4],[11,4],[4,12],[0,11,0],[13,14,0,1,2,3,4,5,6,7,8,9,10,11,12,13,14]]
def BH:aN:=(s (r adt) (s (r adu) (s (r adv) (s (.block 0 (.loop (s (s (r adw) (.cond (.t 17) .skip (.exit 0))) (.block 1 (s (r adx) (s (.bT Y4 ady) (.cond (.t 31) (r adz) (r adA)))))))) (s (.bT Y5 adB) .ret)))))
def MC:List bd:=[.tmp 6,.tmp 7]
theorem U0:bD Tryz.prog Tryz.f142 BH:=e (by kernel_rfl)
theorem Xl:bE Tryz.prog Tryz.f142 MC:=e (by kernel_rfl)
theorem SW:bB Tryz.prog 142:=e (by kernel_rfl)
def adC:=[b 2 0,b 3 1,aT 4 0]
def adD:=[f 5 0 0 2,L 6 2 5,L 7 2 3,o 8 (.call 118 [.t 6,.t 7]),m 4 8]
def BI:aN:=(s (r adC) (s (r adD) .ret))
def MD:List bd:=[.tmp 4]
theorem U1:bD Tryz.prog Tryz.f143 BI:=e (by kernel_rfl)
theorem Xm:bE Tryz.prog Tryz.f143 MD:=e (by kernel_rfl)
theorem SX:bB Tryz.prog 143:=e (by kernel_rfl)
def adE:=[b 1 0,o 2 (.mv (.c (.dv)))]
def adF:=[o 3 (.mk 178 [.t 1]),m 2 3]
def BJ:aN:=(s (r adE) (s (r adF) .ret))
def ME:List bd:=[.tmp 2]
theorem U2:bD Tryz.prog Tryz.f145 BJ:=e (by kernel_rfl)
theorem Xn:bE Tryz.prog Tryz.f145 ME:=e (by kernel_rfl)
theorem SY:bB Tryz.prog 145:=e (by kernel_rfl)
def GX:=[l 5 1,o 6 (.len (.t 5)),aT 7 0]
def GY:=[lt 8 7 6]
def GZ:=[m 9 7,m 4 9]
def xe:=[l 10 2,m 11 4,o 12 (.is 1 (.t 10) (.t 11)),l 13 12,m 14 13,cw 15 0 14,cw 16 4 14,bn 17 (.eH (.t 15) [.t 16]) 14,bn 18 (.un .not (.t 17)) 14,and 19 14 18]
def xf:=[ad 20 7 1,m 7 20]
def BK:aN:=(s (r GX) (.block 0 (.loop (s (r GY) (s (.cond (.t 8) .skip (.exit 0)) (s (.block 1 (s (r GZ) (s (r xe) (.cond (.t 19) .ret .skip)))) (r xf)))))))
def MF:List bd:=[]
theorem U3:bD Tryz.prog Tryz.f146 BK:=e (by kernel_rfl)
theorem Xo:bE Tryz.prog Tryz.f146 MF:=e (by kernel_rfl)
theorem Db:bB Tryz.prog 146:=e (by kernel_rfl)
def adG:=[o 2 (.mv bp)]
def adH:=[o 2 (.mv T)]
def BL:aN:=(s (r adG) (s (r adH) .ret))
def MG:List bd:=[.tmp 2]
theorem U4:bD Tryz.prog Tryz.f149 BL:=e (by kernel_rfl)
theorem Xp:bE Tryz.prog Tryz.f149 MG:=e (by kernel_rfl)
theorem SZ:bB Tryz.prog 149:=e (by kernel_rfl)
def adT:=[o 2 (.mv (.c (.nils 1)))]
def adU:=[aT 3 0]
def ad0:=[m 9 0,o 10 (.len (.t 9)),aT 11 0]
def ad3:=[lt 12 11 10]
def ad4:=[o 13 (.is 1 (.t 9) (.t 11)),l 14 13,m 5 14]
def ad5:=[m 15 3,m 16 5,o 17 (.len (.t 16)),o 18 (.bin .add (.t 15) (.t 17)),m 3 18]
def ad6:=[m 19 3,o 20 (.bin .lss (.t 19) (aj 0))]
def ad7:=[ad 22 11 1,m 11 22]
def ad8:=[m 23 3,o 24 (.call 190 [(.c (.nils 1)),.t 23]),m 6 24]
def ad9:=[m 25 0,o 26 (.len (.t 25)),aT 27 0]
def adV:=[lt 28 27 26]
def adW:=[o 29 (.is 1 (.t 25) (.t 27)),l 30 29,m 8 30]
def adX:=[m 31 6,m 32 8,o 33 (.cV 3 1 8 (.int .i64 0) (.t 31) (.t 32)),m 6 33]
def adY:=[ad 34 27 1,m 27 34]
def adZ:=[m 35 6,m 2 35]
def vD:aN:=(s (r adT) (s (r adU) (s (s (r ad0) (.block 0 (.loop (s (r ad3) (s (.cond (.t 12) .skip (.exit 0)) (s (.block 1 (s (r ad4) (s (r ad5) (s (r ad6) (.cond (.t 20) .iN .skip))))) (r ad7))))))) (s (r ad8) (s (s (r ad9) (.block 2 (.loop (s (r adV) (s (.cond (.t 28) .skip (.exit 2)) (s (.block 3 (s (r adW) (r adX))) (r adY))))))) (s (r adZ) .ret))))))
def y7:List bd:=[.tmp 2]
theorem Dq:bD Tryz.prog Tryz.f150 vD:=e (by kernel_rfl)
theorem DP:bE Tryz.prog Tryz.f150 y7:=e (by kernel_rfl)
theorem Dc:bB Tryz.prog 150:=e (by kernel_rfl)
def aea:=[o 4 (.mv (.c (.nils 1)))]
def aeb:=[m 8 0,m 9 1,o 10 (.call 166 [.t 8,.t 9]),m 5 10]
def aed:=[m 11 5,o 12 (.bin .eql (.t 11) (.c (.int .i64 (-1))))]
def aee:=[m 13 0,m 4 13]
def aef:=[m 14 5,ad 15 14 1,m 6 15]
def G2:=[m 16 6,m 17 0,o 18 (.len (.t 17)),lt 19 16 18]
def aeg:=[m 22 0,m 23 6,o 24 (.is 1 (.t 22) (.t 23)),l 25 24,m 7 25]
def aeh:=[m 26 1,m 27 7,o 28 (.eH (.t 26) [.t 27]),no 29 28]
def aei:=[m 30 0,m 31 5,m 32 7,o 33 (.is 1 (.t 30) (.t 31)),p (.bA none (.t 33) (.t 32))]
def aej:=[m 34 5,ad 35 34 1,m 5 35]
def aec:=[m 20 6,ad 21 20 1,m 6 21]
def G0:=[m 36 0,m 37 5,o 38 (.sl 1 (.t 36) (some (.t 37)) none none),p (.iO 1 (.int .i64 0) (.t 38))]
def G1:=[m 39 0,m 40 5,o 41 (.sl 1 (.t 39) none (some (.t 40)) none),m 4 41]
def vE:aN:=(s (r aea) (s (r aeb) (s (s (r aed) (.cond (.t 12) (s (r aee) .ret) .skip)) (s (s (r aef) (.block 0 (.loop (s (s (r G2) (.cond (.t 19) .skip (.exit 0))) (s (.block 1 (s (r aeg) (s (r aeh) (.cond (.t 29) (s (r aei) (r aej)) .skip)))) (r aec)))))) (s (r G0) (s (r G1) .ret))))))
def y8:List bd:=[.tmp 4]
theorem Dr:bD Tryz.prog Tryz.f151 vE:=e (by kernel_rfl)
theorem DQ:bE Tryz.prog Tryz.f151 y8:=e (by kernel_rfl)
theorem Dd:bB Tryz.prog 151:=e (by kernel_rfl)
def aek:=[o 5 (.mv bp)]
def ael:=[L 6 7 1,l 7 2,o 8 (.nilC (.t 7)),f 9 0 0 8,l 10 9,m 11 0,o 12 (.lk (.i .i64) (.nilp) false (.t 10) (.t 11)),l 13 3,o 14 (.nilC (.t 13)),f 15 0 0 14,l 16 15,m 17 0,o 18 (.lk (.i .i64) (.nilp) false (.t 16) (.t 17)),o 19 (.call 77 [.t 6,.t 12,.t 18]),m 5 19]
def Y6:=some [[],[],[1],[2],[3],[],[4,5],[],[7],[8],[9],[],[10,11],[0,6,12],[13,13,0,1,2,3,4,5,6,7,8,9,10,11,12,13]]
def BM:aN:=(s (r aek) (s (.bT Y6 ael) .ret))
def MH:List bd:=[.tmp 5]
theorem U5:bD Tryz.prog Tryz.f152 BM:=e (by kernel_rfl)
theorem Xq:bE Tryz.prog Tryz.f152 MH:=e (by kernel_rfl)
theorem S0:bB Tryz.prog 152:=e (by kernel_rfl)
def G3:=[o 2 (.mv bp)]
def G4:=[m 3 0,o 4 (.call 114 [.t 3,(aj 1),(aj 9999)]),m 2 4]
def BN:aN:=(s (r G3) (s (r G4) .ret))
def MI:List bd:=[.tmp 2]
theorem U6:bD Tryz.prog Tryz.f154 BN:=e (by kernel_rfl)
theorem Xr:bE Tryz.prog Tryz.f154 MI:=e (by kernel_rfl)
theorem S1:bB Tryz.prog 154:=e (by kernel_rfl)
def G5:=[o 2 (.mv bp)]
def G6:=[m 3 0,o 4 (.call 114 [.t 3,(aj 1),(aj 9)]),m 2 4]
def BO:aN:=(s (r G5) (s (r G6) .ret))
def MJ:List bd:=[.tmp 2]
theorem U7:bD Tryz.prog Tryz.f155 BO:=e (by kernel_rfl)
theorem Xs:bE Tryz.prog Tryz.f155 MJ:=e (by kernel_rfl)
theorem S2:bB Tryz.prog 155:=e (by kernel_rfl)
def G7:=[o 2 (.mv bp)]
def G8:=[m 3 0,o 4 (.call 114 [.t 3,(aj 1),(aj 99)]),m 2 4]
def BP:aN:=(s (r G7) (s (r G8) .ret))
def MK:List bd:=[.tmp 2]
theorem U8:bD Tryz.prog Tryz.f156 BP:=e (by kernel_rfl)
theorem Xt:bE Tryz.prog Tryz.f156 MK:=e (by kernel_rfl)
theorem S3:bB Tryz.prog 156:=e (by kernel_rfl)
def G9:=[b 1 0,aT 2 0]
def Ha:=[L 3 6 1,o 4 (.call 193 [.t 3]),no 5 4]
def Hb:=[aT 2 12]
def Hc:=[aT 2 0]
def BQ:aN:=(s (r G9) (s (s (r Ha) (.cond (.t 5) (s (r Hb) .ret) .skip)) (s (r Hc) .ret)))
def ML:List bd:=[.tmp 2]
theorem U9:bD Tryz.prog Tryz.f157 BQ:=e (by kernel_rfl)
theorem Xu:bE Tryz.prog Tryz.f157 ML:=e (by kernel_rfl)
theorem S4:bB Tryz.prog 157:=e (by kernel_rfl)
def Hd:=[aT 2 0]
def He:=[aT 3 0]
def Hf:=[m 6 0,o 7 (.len (.t 6)),aT 8 0]
def Hg:=[lt 9 8 7]
def Hh:=[o 10 (.is 1 (.t 6) (.t 8)),l 11 10,m 5 11]
def Hi:=[m 12 5,m 13 3,o 14 (.bin .neq (.t 12) (.t 13))]
def Hj:=[m 15 5,m 2 15]
def Hk:=[ad 16 8 1,m 8 16]
def Hl:=[m 17 3,m 2 17]
def BR:aN:=(s (r Hd) (s (r He) (s (s (r Hf) (.block 0 (.loop (s (r Hg) (s (.cond (.t 9) .skip (.exit 0)) (s (.block 1 (s (r Hh) (s (r Hi) (.cond (.t 14) (s (r Hj) .ret) .skip)))) (r Hk))))))) (s (r Hl) .ret))))
def MN:List bd:=[.tmp 2]
theorem Va:bD Tryz.prog Tryz.f158 BR:=e (by kernel_rfl)
theorem Xv:bE Tryz.prog Tryz.f158 MN:=e (by kernel_rfl)
theorem S5:bB Tryz.prog 158:=e (by kernel_rfl)
def Hm:=[aT 4 0]
def Hn:=[m 7 0,o 8 (.call 194 [.t 7]),m 5 8]
def Hs:=[m 9 1,o 10 (.call 194 [.t 9]),m 6 10]
def Ht:=[m 11 5]
def aem:=[m 12 6]
def aen:=[aT 4 0]
def aeo:=[aT 4 (-1)]
def Hu:=[m 13 6]
def aep:=[aT 4 1]
def Hv:=[m 14 0,m 15 1,lt 16 14 15]
def Ho:=[aT 4 (-1)]
def Hp:=[m 17 0,m 18 1,o 19 (.bin .gtr (.t 17) (.t 18))]
def Hq:=[aT 4 1]
def Hr:=[aT 4 0]
def BS:aN:=(s (r Hm) (s (r Hn) (s (r Hs) (s (s (r Ht) (.cond (.t 11) (s (s (r aem) (.cond (.t 12) (s (r aen) .ret) .skip)) (s (r aeo) .ret)) .skip)) (s (s (r Hu) (.cond (.t 13) (s (r aep) .ret) .skip)) (s (s (r Hv) (.cond (.t 16) (s (r Ho) .ret) .skip)) (s (s (r Hp) (.cond (.t 19) (s (r Hq) .ret) .skip)) (s (r Hr) .ret))))))))
def MO:List bd:=[.tmp 4]
theorem Vb:bD Tryz.prog Tryz.f159 BS:=e (by kernel_rfl)
theorem Xw:bE Tryz.prog Tryz.f159 MO:=e (by kernel_rfl)
theorem S6:bB Tryz.prog 159:=e (by kernel_rfl)
def Hw:=[o 2 (.mv bp)]
def Hx:=[m 3 0,o 4 (.call 121 [.t 3,(aj 0),(aj 31)]),m 2 4]
def BU:aN:=(s (r Hw) (s (r Hx) .ret))
def MQ:List bd:=[.tmp 2]
theorem Vd:bD Tryz.prog Tryz.f160 BU:=e (by kernel_rfl)
theorem Xy:bE Tryz.prog Tryz.f160 MQ:=e (by kernel_rfl)
theorem S8:bB Tryz.prog 160:=e (by kernel_rfl)
def Hy:=[o 4 (.mv bp)]
def Hz:=[m 5 0,m 6 1,o 7 (.bin .shr (.t 5) (.t 6)),o 8 (.bin .and (.t 7) (aj 1)),o 9 (.bin .eql (.t 8) (aj 1)),m 4 9]
def BV:aN:=(s (r Hy) (s (r Hz) .ret))
def MR:List bd:=[.tmp 4]
theorem Ve:bD Tryz.prog Tryz.f161 BV:=e (by kernel_rfl)
theorem Xz:bE Tryz.prog Tryz.f161 MR:=e (by kernel_rfl)
theorem S9:bB Tryz.prog 161:=e (by kernel_rfl)
def HA:=[o 2 (.mv bp)]
def HB:=[m 3 0,o 4 (.call 121 [.t 3,(aj 0),(aj 4)]),no 5 4,m 2 5]
def BW:aN:=(s (r HA) (s (r HB) .ret))
def MS:List bd:=[.tmp 2]
theorem Vf:bD Tryz.prog Tryz.f162 BW:=e (by kernel_rfl)
theorem XA:bE Tryz.prog Tryz.f162 MS:=e (by kernel_rfl)
theorem Ta:bB Tryz.prog 162:=e (by kernel_rfl)
def HC:=[o 4 (.mv bp)]
def HD:=[m 5 0,m 6 1,o 7 (.call 195 [.t 5,.t 6]),o 8 (.bin .geq (.t 7) (aj 0)),m 4 8]
def BX:aN:=(s (r HC) (s (r HD) .ret))
def MT:List bd:=[.tmp 4]
theorem Vg:bD Tryz.prog Tryz.f163 BX:=e (by kernel_rfl)
theorem XB:bE Tryz.prog Tryz.f163 MT:=e (by kernel_rfl)
theorem Tb:bB Tryz.prog 163:=e (by kernel_rfl)
def HE:=[b 3 0,o 4 (.mv bp)]
def HF:=[f 5 0 0 1,L 6 5 5,f 7 1 1 3,L 8 6 7,L 9 6 2,o 10 (.call 165 [.t 6,.t 8,.t 9]),f 11 1 5 1,l 12 11,o 13 (.bin .mul (aj 2) (.t 12)),o 14 (.bin .leq (.t 10) (.t 13)),m 4 14]
def Y7:=some [[],[0],[],[2],[],[1,3,4],[],[6],[7],[5,8],[9,5,0,1,2,3,4,5,6,7,8,9]]
def BY:aN:=(s (r HE) (s (.bT Y7 HF) .ret))
def MU:List bd:=[.tmp 4]
theorem Vh:bD Tryz.prog Tryz.f164 BY:=e (by kernel_rfl)
theorem XC:bE Tryz.prog Tryz.f164 MU:=e (by kernel_rfl)
theorem Tc:bB Tryz.prog 164:=e (by kernel_rfl)
def HG:=[b 3 0,b 4 1,b 5 2,aT 6 0]
def HI:=[o 7 (.alloc (.dv)),p (.bA none (.t 7) (.c (.func 196 [])))]
def HJ:=[o 8 (.mk 198 [.t 7,.t 3,.t 4,.t 5]),o 9 (.call 197 [.t 8]),m 6 9]
def BZ:aN:=(s (r HG) (s (r HI) (s (r HJ) .ret)))
def MV:List bd:=[.tmp 6]
theorem Vi:bD Tryz.prog Tryz.f165 BZ:=e (by kernel_rfl)
theorem XD:bE Tryz.prog Tryz.f165 MV:=e (by kernel_rfl)
theorem Td:bB Tryz.prog 165:=e (by kernel_rfl)
def HK:=[aT 4 0]
def HL:=[m 6 0,o 7 (.len (.t 6)),aT 8 0]
def HM:=[lt 9 8 7]
def HN:=[m 10 8,m 5 10]
def HO:=[m 11 1,m 12 0,m 13 5,o 14 (.is 1 (.t 12) (.t 13)),l 15 14,o 16 (.eH (.t 11) [.t 15])]
def HP:=[m 17 5,m 4 17]
def HQ:=[ad 18 8 1,m 8 18]
def HR:=[aT 4 (-1)]
def B1:aN:=(s (r HK) (s (s (r HL) (.block 0 (.loop (s (r HM) (s (.cond (.t 9) .skip (.exit 0)) (s (.block 1 (s (r HN) (s (r HO) (.cond (.t 16) (s (r HP) .ret) .skip)))) (r HQ))))))) (s (r HR) .ret)))
def MW:List bd:=[.tmp 4]
theorem Vj:bD Tryz.prog Tryz.f166 B1:=e (by kernel_rfl)
theorem XE:bE Tryz.prog Tryz.f166 MW:=e (by kernel_rfl)
theorem Te:bB Tryz.prog 166:=e (by kernel_rfl)
def HS:=[o 2 (.mv (.c (.nils 7)))]
def xg:=[m 3 0,o 4 (.nilS false (.t 3))]
def HT:=[o 2 (.mv (.c (.nils 7)))]
def xh:=[o 5 (.bs0 7),m 6 0,o 7 (.cV 63 7 56 (.agg [.int .i64 0,.agg [.int .i64 0,.int .i64 0,.int .i64 0,.int .i64 0,.int .i64 0,.int .i64 0]]) (.t 5) (.t 6)),m 2 7]
def B3:aN:=(s (r HS) (s (s (r xg) (.cond (.t 4) (s (r HT) .ret) .skip)) (s (r xh) .ret)))
def MX:List bd:=[.tmp 2]
theorem Vk:bD Tryz.prog Tryz.f167 B3:=e (by kernel_rfl)
theorem XF:bE Tryz.prog Tryz.f167 MX:=e (by kernel_rfl)
theorem Tf:bB Tryz.prog 167:=e (by kernel_rfl)
def HU:=[b 2 0,b 3 1,o 4 (.mv (.c (.nils 7)))]
def HV:=[f 5 2 6 2,l 6 5,o 7 (.call 167 [.t 6]),o 8 (.mk 201 [.t 2,.t 3]),o 9 (.call 200 [.t 7,.t 8]),m 4 9]
def B4:aN:=(s (r HU) (s (r HV) .ret))
def MY:List bd:=[.tmp 4]
theorem Vl:bD Tryz.prog Tryz.f168 B4:=e (by kernel_rfl)
theorem XG:bE Tryz.prog Tryz.f168 MY:=e (by kernel_rfl)
theorem Tg:bB Tryz.prog 168:=e (by kernel_rfl)
def HW:=[o 2 (.mv (.c (.nils 1)))]
def HX:=[o 3 (.mv (.c (.nils 1)))]
def HY:=[m 6 0,o 7 (.len (.t 6)),aT 8 0]
def HZ:=[lt 9 8 7]
def H0:=[o 10 (.is 7 (.t 6) (.t 8)),L 11 7 10,o 5 (.alloc (.agg [.int .i64 0,.agg [.int .i64 0,.int .i64 0,.int .i64 0,.int .i64 0,.int .i64 0,.int .i64 0]])),p (.bA (some 7) (.t 5) (.t 11))]
def H2:=[m 12 3,f 13 0 0 5,l 14 13,o 15 (.bs 3 1 [.t 14]),o 16 (.cV 3 1 8 (.int .i64 0) (.t 12) (.t 15)),m 3 16]
def H3:=[ad 17 8 1,m 8 17]
def H4:=[m 18 3,m 2 18]
def B5:aN:=(s (r HW) (s (r HX) (s (s (r HY) (.block 0 (.loop (s (r HZ) (s (.cond (.t 9) .skip (.exit 0)) (s (.block 1 (s (r H0) (r H2))) (r H3))))))) (s (r H4) .ret))))
def MZ:List bd:=[.tmp 2]
theorem Vm:bD Tryz.prog Tryz.f169 B5:=e (by kernel_rfl)
theorem XH:bE Tryz.prog Tryz.f169 MZ:=e (by kernel_rfl)
theorem Th:bB Tryz.prog 169:=e (by kernel_rfl)
def aey:=[b 3 1,o 4 (.mv (.c (.nils 9)))]
def aez:=[o 5 (.mv (.c (.nils 9)))]
def aeD:=[o 6 (.mv bp)]
def aeE:=[aT 7 0]
def aeF:=[m 8 7,m 9 0,o 10 (.len (.t 9)),lt 11 8 10]
def aeG:=[m 14 6,no 15 14,m 16 15,cw 17 0 16,cw 18 7 16,bn 19 (.is 9 (.t 17) (.t 18)) 16,cF 20 0 0 19 16,cP 21 20 16,cF 22 0 0 3 16,cP 23 22 16,bn 24 (.bin .gtr (.t 21) (.t 23)) 16,and 25 16 24]
def Y8:=some [[],[0],[1],[2],[2],[3,4,2],[5,2],[6,2],[2],[8,2],[7,9,2],[2,10]]
def aeH:=[m 26 5,L 27 9 3,o 28 (.bs 78 9 [.t 27]),o 29 (.cV 78 9 88 (.agg [.int .i64 0,.int .i64 0,.int .i64 0,.int .i64 0,.int .i64 0,.int .i64 0,.int .i64 0,.bool false,.nils 6]) (.t 26) (.t 28)),m 5 29]
def aeI:=[o 6 (.mv T)]
def aeJ:=[m 30 5,m 31 0,m 32 7,o 33 (.is 9 (.t 31) (.t 32)),L 34 9 33,o 35 (.bs 78 9 [.t 34]),o 36 (.cV 78 9 88 (.agg [.int .i64 0,.int .i64 0,.int .i64 0,.int .i64 0,.int .i64 0,.int .i64 0,.int .i64 0,.bool false,.nils 6]) (.t 30) (.t 35)),m 5 36]
def aeK:=[m 12 7,ad 13 12 1,m 7 13]
def aeA:=[m 37 6,no 38 37]
def aeB:=[m 39 5,L 40 9 3,o 41 (.bs 78 9 [.t 40]),o 42 (.cV 78 9 88 (.agg [.int .i64 0,.int .i64 0,.int .i64 0,.int .i64 0,.int .i64 0,.int .i64 0,.int .i64 0,.bool false,.nils 6]) (.t 39) (.t 41)),m 5 42]
def aeC:=[m 43 5,m 4 43]
def B6:aN:=(s (r aey) (s (r aez) (s (r aeD) (s (s (r aeE) (.block 0 (.loop (s (s (r aeF) (.cond (.t 11) .skip (.exit 0))) (s (.block 1 (s (s (.bT Y8 aeG) (.cond (.t 25) (s (r aeH) (r aeI)) .skip)) (r aeJ))) (r aeK)))))) (s (s (r aeA) (.cond (.t 38) (r aeB) .skip)) (s (r aeC) .ret))))))
def M0:List bd:=[.tmp 4]
theorem Vn:bD Tryz.prog Tryz.f170 B6:=e (by kernel_rfl)
theorem XI:bE Tryz.prog Tryz.f170 M0:=e (by kernel_rfl)
theorem Ti:bB Tryz.prog 170:=e (by kernel_rfl)
def xi:=[aT 6 20]
def xj:=[m 10 6,aT 7 0,m 8 10]
def H5:=[m 11 8,m 12 1,o 13 (.bin .leq (.t 11) (.t 12))]
def aeS:=[m 14 0,m 15 7,m 16 8,m 17 2,o 18 (.call 203 [.t 14,.t 15,.t 16,.t 17])]
def aeT:=[m 19 8,m 7 19]
def aeU:=[m 20 8,m 21 6,o 22 (.bin .add (.t 20) (.t 21)),m 8 22]
def H6:=[m 23 0,m 24 7,m 25 1,m 26 2,o 27 (.call 203 [.t 23,.t 24,.t 25,.t 26])]
def xk:=[m 28 6,m 29 1,lt 30 28 29]
def H7:=[m 31 6,o 32 (.bin .mul (aj 2) (.t 31)),aT 7 0,m 8 32]
def H8:=[m 33 8,m 34 1,o 35 (.bin .leq (.t 33) (.t 34))]
def aeL:=[m 36 0,m 37 7,m 38 7,m 39 6,o 40 (.bin .add (.t 38) (.t 39)),m 41 8,m 42 2,o 43 (.call 204 [.t 36,.t 37,.t 40,.t 41,.t 42])]
def aeM:=[m 44 8,m 7 44]
def aeN:=[m 45 8,m 46 6,o 47 (.bin .mul (aj 2) (.t 46)),o 48 (.bin .add (.t 45) (.t 47)),m 8 48]
def aeO:=[m 49 7,m 50 6,o 51 (.bin .add (.t 49) (.t 50)),m 9 51]
def aeP:=[m 52 9,m 53 1,lt 54 52 53]
def aeQ:=[m 55 0,m 56 7,m 57 9,m 58 1,m 59 2,o 60 (.call 204 [.t 55,.t 56,.t 57,.t 58,.t 59])]
def aeR:=[m 61 6,o 62 (.bin .mul (.t 61) (aj 2)),m 6 62]
def vF:aN:=(s (r xi) (s (r xj) (s (.block 0 (.loop (s (s (r H5) (.cond (.t 13) .skip (.exit 0))) (.block 1 (s (r aeS) (s (r aeT) (r aeU))))))) (s (r H6) (.block 2 (.loop (s (s (r xk) (.cond (.t 30) .skip (.exit 2))) (.block 3 (s (r H7) (s (.block 4 (.loop (s (s (r H8) (.cond (.t 35) .skip (.exit 4))) (.block 5 (s (r aeL) (s (r aeM) (r aeN))))))) (s (s (r aeO) (s (r aeP) (.cond (.t 54) (r aeQ) .skip))) (r aeR))))))))))))
def y9:List bd:=[]
theorem Ds:bD Tryz.prog Tryz.f171 vF:=e (by kernel_rfl)
theorem DR:bE Tryz.prog Tryz.f171 y9:=e (by kernel_rfl)
theorem De:bB Tryz.prog 171:=e (by kernel_rfl)
def aeV:=[b 3 1,o 4 (.mv bp)]
def aeW:=[f 6 5 6 3,l 7 6,o 8 (.bin .gtr (.t 7) (aj 0))]
def aeX:=[m 9 0,o 10 (.nilC (.t 9)),f 11 0 0 10,l 12 11,f 13 5 6 3,l 14 13,o 15 (.lk (.i .i64) (.nilp) false (.t 12) (.t 14)),m 5 15]
def Y9:=some [[],[0],[1],[2],[],[4],[3,5],[6,0,1,2,3,4,5,6]]
def aeY:=[m 16 5,o 17 (.ptrE false (.t 16) (.c (.nilp))),m 18 17,ew 19 5 18,on 20 (.nilC (.t 19)) 18,fn 21 0 0 20 18,fn 22 1 1 21 18,eU 23 22 18,fn 24 6 7 3 18,eU 25 24 18,on 26 (.bin .neq (.t 23) (.t 25)) 18,or 27 18 26,m 28 27,ew 29 5 28,on 30 (.call 90 [.t 29]) 28,ew 31 30 28,cw 32 5 31,bn 33 (.nilC (.t 32)) 31,cF 34 0 0 33 31,cF 35 6 6 34 31,cP 36 35 31,cF 37 2 3 3 31,cP 38 37 31,bn 39 (.bin .lss (.t 36) (.t 38)) 31,on 40 (.pick (.t 31) (.t 39) bp) 28,or 41 28 40]
def Za:=some [[],[0],[1],[2],[3,2],[4,2],[5,2],[6,2],[2],[8,2],[7,9,2],[2,10],[11,2],[12],[13,12,12],[14,14,12],[15],[16,15],[17,15],[18,15],[19,15],[15],[21,15],[20,22,15],[15,23,12],[12,24]]
def aeZ:=[o 4 (.mv bp)]
def ae0:=[m 42 0,L 43 17 3,o 44 (.call 173 [.t 42,.t 43]),m 4 44]
def B7:aN:=(s (r aeV) (s (s (r aeW) (.cond (.t 8) (s (.bT Y9 aeX) (s (.bT Za aeY) (.cond (.t 41) (s (r aeZ) .ret) .skip))) .skip)) (s (r ae0) .ret)))
def M2:List bd:=[.tmp 4]
theorem Vo:bD Tryz.prog Tryz.f172 B7:=e (by kernel_rfl)
theorem XJ:bE Tryz.prog Tryz.f172 M2:=e (by kernel_rfl)
theorem Tj:bB Tryz.prog 172:=e (by kernel_rfl)
def ae1:=[b 3 1,o 4 (.mv bp)]
def ae2:=[m 5 0,o 6 (.nilC (.t 5)),f 7 0 0 6,l 8 7,f 9 4 5 3,l 10 9,o 11 (.lk (.i .i64) (.nilp) false (.t 8) (.t 10)),o 12 (.ptrE true (.t 11) (.c (.nilp)))]
def Zb:=some [[],[0],[1],[2],[],[4],[3,5],[6]]
def ae3:=[o 4 (.mv bp)]
def ae4:=[m 13 0,o 14 (.nilC (.t 13)),f 15 0 0 14,l 16 15,f 17 4 5 3,l 18 17,f 19 4 5 3,l 20 19,f 21 6 7 3,l 22 21,f 23 5 6 3,l 24 23,f 25 7 8 3,l 26 25,f 27 7 8 3,l 28 27,f 29 2 3 3,l 30 29,o 31 (.bld [.int .i64 0,.int .i64 0,.int .i64 0,.int .i64 0,.int .i64 0,.int .i64 0,.int .i64 0,.bool false,.nils 6] [(0,(.t 20)),(1,(.t 22)),(2,(.t 24)),(3,(.t 26)),(4,(.t 28)),(5,(.t 30)),(6,(.c (.int .i64 (-1))))]),o 32 (.bld [.agg [.int .i64 0,.int .i64 0,.int .i64 0,.int .i64 0,.int .i64 0,.int .i64 0,.int .i64 0,.bool false,.nils 6]] [(0,(.t 31))]),b 33 32,p (.hU (.i .i64) (.t 16) (.t 18) (.t 33))]
def Zc:=some [[],[0],[1],[2],[],[4],[],[6],[],[8],[],[10],[],[12],[],[14],[],[16],[7,9,11,13,15,17],[18],[19],[3,5,20,0,1,2,3,4,5,6,7,8,9,10,11,12,13,14,15,16,17,18,19,20]]
def ae5:=[o 4 (.mv T)]
def B8:aN:=(s (r ae1) (s (s (.bT Zb ae2) (.cond (.t 12) (s (r ae3) .ret) .skip)) (s (.bT Zc ae4) (s (r ae5) .ret))))
def M3:List bd:=[.tmp 4]
theorem Vp:bD Tryz.prog Tryz.f173 B8:=e (by kernel_rfl)
theorem XK:bE Tryz.prog Tryz.f173 M3:=e (by kernel_rfl)
theorem Tk:bB Tryz.prog 173:=e (by kernel_rfl)
def ae6:=[b 3 1,o 4 (.mv bp)]
def ae7:=[m 6 0,o 7 (.nilC (.t 6)),f 8 0 0 7,l 9 8,f 10 4 5 3,l 11 10,o 12 (.lk (.i .i64) (.nilp) false (.t 9) (.t 11)),m 5 12]
def Zd:=some [[],[0],[1],[2],[],[4],[3,5],[6,0,1,2,3,4,5,6]]
def ae8:=[m 13 5,o 14 (.ptrE false (.t 13) (.c (.nilp))),m 15 14,ew 16 5 15,on 17 (.call 90 [.t 16]) 15,or 18 15 17,m 19 18,ew 20 5 19,on 21 (.nilC (.t 20)) 19,fn 22 0 0 21 19,fn 23 3 3 22 19,eU 24 23 19,on 25 (.bin .eql (.t 24) (aj 0)) 19,or 26 19 25,m 27 26,ew 28 5 27,on 29 (.nilC (.t 28)) 27,fn 30 0 0 29 27,fn 31 3 3 30 27,eU 32 31 27,fn 33 7 8 3 27,eU 34 33 27,on 35 (.bin .eql (.t 32) (.t 34)) 27,or 36 27 35]
def Ze:=some [[],[0],[1],[2],[3,2,2],[2,4],[5,4],[6],[7,6],[8,6],[9,6],[10,6],[11,6],[6,12],[13,6],[14],[15,14],[16,14],[17,14],[18,14],[14],[20,14],[19,21,14],[14,22]]
def ae9:=[o 4 (.mv bp)]
def afa:=[m 37 5,f 38 7 8 3,l 39 38,o 40 (.nilC (.t 37)),f 41 0 0 40,f 42 3 3 41,p (.bA none (.t 42) (.t 39))]
def afb:=[o 4 (.mv T)]
def B9:aN:=(s (r ae6) (s (.bT Zd ae7) (s (s (.bT Ze ae8) (.cond (.t 36) (s (r ae9) .ret) .skip)) (s (r afa) (s (r afb) .ret)))))
def M4:List bd:=[.tmp 4]
theorem Vq:bD Tryz.prog Tryz.f174 B9:=e (by kernel_rfl)
theorem XL:bE Tryz.prog Tryz.f174 M4:=e (by kernel_rfl)
theorem Tl:bB Tryz.prog 174:=e (by kernel_rfl)
def afc:=[b 3 1,o 4 (.mv bp)]
def afd:=[m 6 0,o 7 (.nilC (.t 6)),f 8 0 0 7,l 9 8,f 10 4 5 3,l 11 10,o 12 (.lk (.i .i64) (.nilp) false (.t 9) (.t 11)),m 5 12]
def Zf:=some [[],[0],[1],[2],[],[4],[3,5],[6,0,1,2,3,4,5,6]]
def afe:=[m 13 5,o 14 (.ptrE false (.t 13) (.c (.nilp)))]
def aff:=[o 4 (.mv bp)]
def xl:=[m 15 5,m 16 5,o 17 (.nilC (.t 16)),f 18 0 0 17,f 19 8 8 18,l 20 19,f 21 8 9 3,L 22 6 21,o 23 (.bs 66 6 [.t 22]),o 24 (.cV 66 6 48 (.agg [.int .i64 0,.int .i64 0,.int .i64 0,.int .i64 0,.int .i64 0,.int .i64 0]) (.t 20) (.t 23)),o 25 (.nilC (.t 15)),f 26 0 0 25,f 27 8 8 26,p (.bA none (.t 27) (.t 24))]
def Zg:=some [[],[],[1],[2],[3],[4],[],[6],[7],[5,8],[0,0,1,2,3,4,5,6,7,8,9],[10,0,1,2,3,4,5,6,7,8,9],[11,0,1,2,3,4,5,6,7,8,9],[12,9,9,0,1,2,3,4,5,6,7,8,9]] -- DRAW BAD
def afg:=[o 4 (.mv T)]
def Ca:aN:=(s (r afc) (s (.bT Zf afd) (s (s (r afe) (.cond (.t 14) (s (r aff) .ret) .skip)) (s (.bT Zg xl) (s (r afg) .ret)))))
def M5:List bd:=[.tmp 4]
theorem Vr:bD Tryz.prog Tryz.f175 Ca:=e (by kernel_rfl)
theorem XM:bE Tryz.prog Tryz.f175 M5:=e (by kernel_rfl)
theorem Tm:bB Tryz.prog 175:=e (by kernel_rfl)
def afh:=[b 3 1,o 4 (.mv bp)]
def afi:=[m 6 0,o 7 (.nilC (.t 6)),f 8 0 0 7,l 9 8,f 10 4 5 3,l 11 10,o 12 (.lk (.i .i64) (.nilp) false (.t 9) (.t 11)),m 5 12]
def Zh:=some [[],[0],[1],[2],[],[4],[3,5],[6,0,1,2,3,4,5,6]]
def afj:=[m 13 5,o 14 (.ptrE false (.t 13) (.c (.nilp)))]
def afk:=[o 4 (.mv bp)]
def afl:=[m 15 5,m 16 5,f 17 7 8 3,l 18 17,o 19 (.nilC (.t 15)),f 20 0 0 19,f 21 3 3 20,p (.bA none (.t 21) (.t 18)),o 22 (.nilC (.t 16)),f 23 0 0 22,f 24 7 7 23,p (.bA none (.t 24) T)]
def afm:=[o 4 (.mv T)]
def Cb:aN:=(s (r afh) (s (.bT Zh afi) (s (s (r afj) (.cond (.t 14) (s (r afk) .ret) .skip)) (s (r afl) (s (r afm) .ret)))))
def M6:List bd:=[.tmp 4]
theorem Vs:bD Tryz.prog Tryz.f176 Cb:=e (by kernel_rfl)
theorem XN:bE Tryz.prog Tryz.f176 M6:=e (by kernel_rfl)
theorem Tn:bB Tryz.prog 176:=e (by kernel_rfl)
def afn:=[b 3 1,o 4 (.mv bp)]
def afo:=[m 6 0,o 7 (.nilC (.t 6)),f 8 0 0 7,l 9 8,f 10 4 5 3,l 11 10,o 12 (.lk (.i .i64) (.nilp) false (.t 9) (.t 11)),m 5 12]
def Zi:=some [[],[0],[1],[2],[],[4],[3,5],[6,0,1,2,3,4,5,6]]
def afp:=[m 13 5,o 14 (.ptrE false (.t 13) (.c (.nilp))),m 15 14,ew 16 5 15,on 17 (.call 90 [.t 16]) 15,or 18 15 17]
def afq:=[o 4 (.mv bp)]
def afr:=[m 19 5,f 20 2 3 3,l 21 20,o 22 (.nilC (.t 19)),f 23 0 0 22,f 24 6 6 23,p (.bA none (.t 24) (.t 21))]
def afs:=[o 4 (.mv T)]
def Cc:aN:=(s (r afn) (s (.bT Zi afo) (s (s (r afp) (.cond (.t 18) (s (r afq) .ret) .skip)) (s (r afr) (s (r afs) .ret)))))
def M7:List bd:=[.tmp 4]
theorem Vt:bD Tryz.prog Tryz.f177 Cc:=e (by kernel_rfl)
theorem XO:bE Tryz.prog Tryz.f177 M7:=e (by kernel_rfl)
theorem Tp:bB Tryz.prog 177:=e (by kernel_rfl)
def H9:=[l 4 1,o 5 (.len (.t 4)),o 6 (.bin .sub (.t 5) (aj 1)),m 3 6]
def Ia:=[m 7 3,o 8 (.bin .geq (.t 7) (aj 0))]
def Ib:=[m 11 0,m 12 3,l 13 1,m 14 3,o 15 (.is 17 (.t 13) (.t 14)),L 16 17 15,o 17 (.eH (.t 11) [.t 12,.t 16]),no 18 17]
def Ic:=[m 9 3,o 10 (.bin .sub (.t 9) (aj 1)),m 3 10]
def Cd:aN:=(s (r H9) (.block 0 (.loop (s (s (r Ia) (.cond (.t 8) .skip (.exit 0))) (s (.block 1 (s (r Ib) (.cond (.t 18) .ret .skip))) (r Ic))))))
def M8:List bd:=[]
theorem Vu:bD Tryz.prog Tryz.f178 Cd:=e (by kernel_rfl)
theorem XP:bE Tryz.prog Tryz.f178 M8:=e (by kernel_rfl)
theorem Df:bB Tryz.prog 178:=e (by kernel_rfl)
def afG:=[o 4 (.mv (.c (.nils 1)))]
def afH:=[m 5 1,o 6 (.bin .lss (.t 5) (aj 0))]
def afI:=[m 8 1,m 9 0,o 10 (.cap (.t 9)),m 11 0,o 12 (.len (.t 11)),o 13 (.bin .sub (.t 10) (.t 12)),o 14 (.bin .sub (.t 8) (.t 13)),m 1 14]
def afJ:=[m 15 1,o 16 (.bin .gtr (.t 15) (aj 0))]
def afK:=[m 17 0,m 18 0,o 19 (.cap (.t 18)),o 20 (.sl 1 (.t 17) none (some (.t 19)) none),m 21 1,o 22 (.lH 3 1 8 (.int .i64 0) (.t 20) (.t 21)),m 23 0,o 24 (.len (.t 23)),o 25 (.sl 1 (.t 22) none (some (.t 24)) none),m 0 25]
def afL:=[m 26 0,m 4 26]
def Cf:aN:=(s (r afG) (s (s (r afH) (.cond (.t 6) .iN .skip)) (s (s (r afI) (s (r afJ) (.cond (.t 16) (r afK) .skip))) (s (r afL) .ret))))
def Na:List bd:=[.tmp 4]
theorem Vw:bD Tryz.prog Tryz.f190 Cf:=e (by kernel_rfl)
theorem XR:bE Tryz.prog Tryz.f190 Na:=e (by kernel_rfl)
theorem Dg:bB Tryz.prog 190:=e (by kernel_rfl)
def Ie:=[b 1 0,o 2 (.mv bp)]
def If:=[o 3 (.va 6 1 (.t 1)),o 4 (.call 125 [.t 3,(.c (.func 211 []))]),no 5 4,m 2 5]
def Cg:aN:=(s (r Ie) (s (r If) .ret))
def Nb:List bd:=[.tmp 2]
theorem Vx:bD Tryz.prog Tryz.f193 Cg:=e (by kernel_rfl)
theorem XS:bE Tryz.prog Tryz.f193 Nb:=e (by kernel_rfl)
theorem Tr:bB Tryz.prog 193:=e (by kernel_rfl)
def Ig:=[o 2 (.mv bp)]
def Ih:=[m 3 0,m 4 0,o 5 (.bin .neq (.t 3) (.t 4)),m 2 5]
def Ch:aN:=(s (r Ig) (s (r Ih) .ret))
def Nc:List bd:=[.tmp 2]
theorem Vy:bD Tryz.prog Tryz.f194 Ch:=e (by kernel_rfl)
theorem XT:bE Tryz.prog Tryz.f194 Nc:=e (by kernel_rfl)
theorem Ts:bB Tryz.prog 194:=e (by kernel_rfl)
def Ii:=[aT 4 0]
def Ij:=[m 6 0,o 7 (.len (.t 6)),aT 8 0]
def Ik:=[lt 9 8 7]
def Il:=[m 10 8,m 5 10]
def Im:=[m 11 1,m 12 0,m 13 5,o 14 (.is 7 (.t 12) (.t 13)),L 15 7 14,o 16 (.eH (.t 11) [.t 15])]
def Io:=[m 17 5,m 4 17]
def Ip:=[ad 18 8 1,m 8 18]
def Iq:=[aT 4 (-1)]
def Ci:aN:=(s (r Ii) (s (s (r Ij) (.block 0 (.loop (s (r Ik) (s (.cond (.t 9) .skip (.exit 0)) (s (.block 1 (s (r Il) (s (r Im) (.cond (.t 16) (s (r Io) .ret) .skip)))) (r Ip))))))) (s (r Iq) .ret)))
def Nd:List bd:=[.tmp 4]
theorem Vz:bD Tryz.prog Tryz.f195 Ci:=e (by kernel_rfl)
theorem XU:bE Tryz.prog Tryz.f195 Nd:=e (by kernel_rfl)
theorem Tt:bB Tryz.prog 195:=e (by kernel_rfl)
def Ir:=[o 4 (.mv bp)]
def Is:=[m 5 0,m 6 1,o 7 (.bin .and (.t 5) (.t 6)),o 8 (.bin .neq (.t 7) (aj 0)),m 4 8]
def Cj:aN:=(s (r Ir) (s (r Is) .ret))
def Nf:List bd:=[.tmp 4]
theorem VA:bD Tryz.prog Tryz.f196 Cj:=e (by kernel_rfl)
theorem XV:bE Tryz.prog Tryz.f196 Nf:=e (by kernel_rfl)
theorem Tu:bB Tryz.prog 196:=e (by kernel_rfl)
def It:=[aT 2 0]
def Iu:=[aT 3 0]
def Iv:=[aT 5 0]
def Iw:=[o 6 (.bin .lss (.t 5) (aj 6))]
def Iy:=[m 7 5,m 4 7]
def Iz:=[m 8 0,m 9 4,o 10 (.eH (.t 8) [.t 9]),no 11 10]
def IA:=[m 12 3,ad 13 12 1,m 3 13]
def xm:=[ad 14 5 1,m 5 14]
def IB:=[m 15 3,m 2 15]
def Ck:aN:=(s (r It) (s (r Iu) (s (s (r Iv) (.block 0 (.loop (s (r Iw) (s (.cond (.t 6) .skip (.exit 0)) (s (.block 1 (s (r Iy) (s (r Iz) (.cond (.t 11) (r IA) .skip)))) (r xm))))))) (s (r IB) .ret))))
def Ng:List bd:=[.tmp 2]
theorem VB:bD Tryz.prog Tryz.f197 Ck:=e (by kernel_rfl)
theorem XW:bE Tryz.prog Tryz.f197 Ng:=e (by kernel_rfl)
theorem Tv:bB Tryz.prog 197:=e (by kernel_rfl)
def IC:=[o 6 (.mv bp)]
def ID:=[l 7 1,L 8 5 2,L 9 6 3,m 10 0,o 11 (.call 199 [.t 8,.t 9,.t 10]),L 12 5 2,L 13 6 4,m 14 0,o 15 (.call 199 [.t 12,.t 13,.t 14]),o 16 (.eH (.t 7) [.t 11,.t 15]),m 6 16]
def Zk:=some [[],[],[],[],[1,2,3],[],[],[],[5,6,7,4],[0,4,8,8],[9,9,0,1,2,3,4,5,6,7,8,9]]
def Cl:aN:=(s (r IC) (s (.bT Zk ID) .ret))
def Nh:List bd:=[.tmp 6]
theorem VC:bD Tryz.prog Tryz.f198 Cl:=e (by kernel_rfl)
theorem XX:bE Tryz.prog Tryz.f198 Nh:=e (by kernel_rfl)
theorem Tw:bB Tryz.prog 198:=e (by kernel_rfl)
def IE:=[b 3 0,b 4 1,aT 6 0]
def IF:=[m 7 2,o 8 (.ia 6 1 (.t 4) (.t 7)),l 9 8,o 10 (.ia 5 1 (.t 3) (.t 9)),l 11 10,m 6 11]
def Cm:aN:=(s (r IE) (s (r IF) .ret))
def Ni:List bd:=[.tmp 6]
theorem VD:bD Tryz.prog Tryz.f199 Cm:=e (by kernel_rfl)
theorem XY:bE Tryz.prog Tryz.f199 Ni:=e (by kernel_rfl)
theorem Tx:bB Tryz.prog 199:=e (by kernel_rfl)
def xn:=[o 4 (.mv (.c (.nils 7)))]
def xp:=[m 8 0,m 9 1,o 10 (.call 195 [.t 8,.t 9]),m 5 10]
def te:=[m 11 5,o 12 (.bin .eql (.t 11) (.c (.int .i64 (-1))))]
def xr:=[m 13 0,m 4 13]
def II:=[m 14 5,ad 15 14 1,m 6 15]
def IJ:=[m 16 6,m 17 0,o 18 (.len (.t 17)),lt 19 16 18]
def IK:=[m 22 0,m 23 6,o 24 (.is 7 (.t 22) (.t 23)),L 25 7 24,o 7 (.alloc (.agg [.int .i64 0,.agg [.int .i64 0,.int .i64 0,.int .i64 0,.int .i64 0,.int .i64 0,.int .i64 0]])),p (.bA (some 7) (.t 7) (.t 25))]
def IL:=[m 26 1,L 27 7 7,o 28 (.eH (.t 26) [.t 27]),no 29 28]
def IM:=[m 30 0,m 31 5,L 32 7 7,o 33 (.is 7 (.t 30) (.t 31)),p (.bA (some 7) (.t 33) (.t 32))]
def IN:=[m 34 5,ad 35 34 1,m 5 35]
def xq:=[m 20 6,ad 21 20 1,m 6 21]
def IG:=[m 36 0,m 37 5,o 38 (.sl 7 (.t 36) (some (.t 37)) none none),p (.iO 7 (.agg [.int .i64 0,.agg [.int .i64 0,.int .i64 0,.int .i64 0,.int .i64 0,.int .i64 0,.int .i64 0]]) (.t 38))]
def IH:=[m 39 0,m 40 5,o 41 (.sl 7 (.t 39) none (some (.t 40)) none),m 4 41]
def vG:aN:=(s (r xn) (s (r xp) (s (s (r te) (.cond (.t 12) (s (r xr) .ret) .skip)) (s (s (r II) (.block 0 (.loop (s (s (r IJ) (.cond (.t 19) .skip (.exit 0))) (s (.block 1 (s (r IK) (s (r IL) (.cond (.t 29) (s (r IM) (r IN)) .skip)))) (r xq)))))) (s (r IG) (s (r IH) .ret))))))
def za:List bd:=[.tmp 4]
theorem Dt:bD Tryz.prog Tryz.f200 vG:=e (by kernel_rfl)
theorem DS:bE Tryz.prog Tryz.f200 za:=e (by kernel_rfl)
theorem Di:bB Tryz.prog 200:=e (by kernel_rfl)
def IP:=[b 3 0,o 4 (.mv bp)]
def IQ:=[f 5 0 0 1,L 6 5 5,f 7 1 1 3,L 8 6 7,L 9 6 2,o 10 (.call 202 [.t 6,.t 8,.t 9]),f 11 1 5 1,l 12 11,o 13 (.bin .gtr (.t 10) (.t 12)),m 4 13]
def Zl:=some [[],[0],[],[2],[],[1,3,4],[],[6],[5,7],[8,5,0,1,2,3,4,5,6,7,8]]
def Co:aN:=(s (r IP) (s (.bT Zl IQ) .ret))
def Nk:List bd:=[.tmp 4]
theorem VF:bD Tryz.prog Tryz.f201 Co:=e (by kernel_rfl)
theorem X0:bE Tryz.prog Tryz.f201 Nk:=e (by kernel_rfl)
theorem Tz:bB Tryz.prog 201:=e (by kernel_rfl)
def IS:=[b 3 0,b 4 1,b 5 2,aT 6 0]
def IT:=[o 7 (.alloc (.dv)),p (.bA none (.t 7) (.c (.func 196 [])))]
def IU:=[o 8 (.mk 212 [.t 7,.t 3,.t 4,.t 5]),o 9 (.call 197 [.t 8]),m 6 9]
def Cp:aN:=(s (r IS) (s (r IT) (s (r IU) .ret)))
def Nl:List bd:=[.tmp 6]
theorem VG:bD Tryz.prog Tryz.f202 Cp:=e (by kernel_rfl)
theorem X1:bE Tryz.prog Tryz.f202 Nl:=e (by kernel_rfl)
theorem TA:bB Tryz.prog 202:=e (by kernel_rfl)
def xt:=[m 10 1,ad 11 10 1,m 8 11]
def IV:=[m 12 8,m 13 2,lt 14 12 13]
def IW:=[m 17 8,m 9 17]
def afM:=[m 18 9,m 19 1,o 20 (.bin .gtr (.t 18) (.t 19)),m 21 20,cw 22 3 21,cw 23 0 21,cw 24 9 21,bn 25 (.is 1 (.t 23) (.t 24)) 21,cP 26 25 21,cw 27 0 21,cw 28 9 21,bn 29 (.bin .sub (.t 28) (aj 1)) 21,bn 30 (.is 1 (.t 27) (.t 29)) 21,cP 31 30 21,bn 32 (.eH (.t 22) [.t 26,.t 31]) 21,bn 33 (.bin .lss (.t 32) (aj 0)) 21,and 34 21 33]
def Zm:=some [[],[],[0,1],[2],[3],[3],[3],[5,6,3],[7,3],[3],[3],[10,3],[9,11,3],[12,3],[4,8,13,3,3],[14,3],[3,15]]
def afN:=[m 37 0,m 38 9,m 39 0,m 40 9,o 41 (.bin .sub (.t 40) (aj 1)),m 42 0,m 43 9,o 44 (.bin .sub (.t 43) (aj 1)),o 45 (.is 1 (.t 42) (.t 44)),l 46 45,m 47 0,m 48 9,o 49 (.is 1 (.t 47) (.t 48)),l 50 49,o 51 (.is 1 (.t 37) (.t 38)),p (.bA none (.t 51) (.t 46)),o 52 (.is 1 (.t 39) (.t 41)),p (.bA none (.t 52) (.t 50))]
def Zn:=some [[],[],[],[],[3],[],[],[6],[5,7],[8],[],[],[10,11],[12],[0,1,0,1,5,6,7,8,9,13],[14,9,0,1,5,6,7,8,9,13],[2,4,0,1,2,3,4,5,6,7,8,9,10,11,12,13,14,15],[16,13,15,0,1,2,3,4,5,6,7,8,9,10,11,12,13,14,15]]
def afO:=[m 35 9,o 36 (.bin .sub (.t 35) (aj 1)),m 9 36]
def afP:=[m 15 8,ad 16 15 1,m 8 16]
def vH:aN:=(s (r xt) (.block 0 (.loop (s (s (r IV) (.cond (.t 14) .skip (.exit 0))) (s (.block 1 (s (r IW) (.block 2 (.loop (s (s (.bT Zm afM) (.cond (.t 34) .skip (.exit 2))) (s (.block 3 (.bT Zn afN)) (r afO))))))) (r afP))))))
def zb:List bd:=[]
theorem Du:bD Tryz.prog Tryz.f203 vH:=e (by kernel_rfl)
theorem DT:bE Tryz.prog Tryz.f203 zb:=e (by kernel_rfl)
theorem Dj:bB Tryz.prog 203:=e (by kernel_rfl)
def tf:=[m 25 2,m 26 1,o 27 (.bin .sub (.t 25) (.t 26)),o 28 (.bin .eql (.t 27) (aj 1))]
def IX:=[m 29 2,m 10 29]
def I1:=[m 30 3,m 11 30]
def I6:=[m 31 10,m 32 11,lt 33 31 32]
def af9:=[m 34 10,m 35 11,o 36 (.bin .add (.t 34) (.t 35)),o 37 (.conv .u64 (.t 36)),o 38 (.bin .shr (.t 37) (.c (.int .u64 1))),o 39 (.conv .i64 (.t 38)),m 12 39]
def agf:=[m 40 4,m 41 0,m 42 12,o 43 (.is 1 (.t 41) (.t 42)),l 44 43,m 45 0,m 46 1,o 47 (.is 1 (.t 45) (.t 46)),l 48 47,o 49 (.eH (.t 40) [.t 44,.t 48]),o 50 (.bin .lss (.t 49) (aj 0))]
def Zs:=some [[],[],[],[1,2],[3],[],[],[5,6],[7],[0,4,8],[9]]
def agh:=[m 51 12,ad 52 51 1,m 10 52]
def agi:=[m 53 12,m 11 53]
def Ja:=[m 54 1,m 13 54]
def agj:=[m 55 13,m 56 10,o 57 (.bin .sub (.t 56) (aj 1)),lt 58 55 57]
def afQ:=[m 61 0,m 62 13,m 63 0,m 64 13,ad 65 64 1,m 66 0,m 67 13,ad 68 67 1,o 69 (.is 1 (.t 66) (.t 68)),l 70 69,m 71 0,m 72 13,o 73 (.is 1 (.t 71) (.t 72)),l 74 73,o 75 (.is 1 (.t 61) (.t 62)),p (.bA none (.t 75) (.t 70)),o 76 (.is 1 (.t 63) (.t 65)),p (.bA none (.t 76) (.t 74))]
def Zo:=some [[],[],[],[],[3],[],[],[6],[5,7],[8],[],[],[10,11],[12],[0,1,0,1,5,6,7,8,9,13],[14,9,0,1,5,6,7,8,9,13],[2,4,0,1,2,3,4,5,6,7,8,9,10,11,12,13,14,15],[16,13,15,0,1,2,3,4,5,6,7,8,9,10,11,12,13,14,15]]
def afR:=[m 59 13,ad 60 59 1,m 13 60]
def xu:=[m 77 3,m 78 2,o 79 (.bin .sub (.t 77) (.t 78)),o 80 (.bin .eql (.t 79) (aj 1))]
def IY:=[m 81 1,m 14 81]
def IZ:=[m 82 2,m 15 82]
def I0:=[m 83 14,m 84 15,lt 85 83 84]
def afS:=[m 86 14,m 87 15,o 88 (.bin .add (.t 86) (.t 87)),o 89 (.conv .u64 (.t 88)),o 90 (.bin .shr (.t 89) (.c (.int .u64 1))),o 91 (.conv .i64 (.t 90)),m 16 91]
def afT:=[m 92 4,m 93 0,m 94 2,o 95 (.is 1 (.t 93) (.t 94)),l 96 95,m 97 0,m 98 16,o 99 (.is 1 (.t 97) (.t 98)),l 100 99,o 101 (.eH (.t 92) [.t 96,.t 100]),o 102 (.bin .lss (.t 101) (aj 0)),no 103 102]
def Zp:=some [[],[],[],[1,2],[3],[],[],[5,6],[7],[0,4,8],[9],[10]]
def afU:=[m 104 16,ad 105 104 1,m 14 105]
def afV:=[m 106 16,m 15 106]
def I2:=[m 107 2,m 17 107]
def afW:=[m 108 17,m 109 14,o 110 (.bin .gtr (.t 108) (.t 109))]
def afX:=[m 113 0,m 114 17,m 115 0,m 116 17,o 117 (.bin .sub (.t 116) (aj 1)),m 118 0,m 119 17,o 120 (.bin .sub (.t 119) (aj 1)),o 121 (.is 1 (.t 118) (.t 120)),l 122 121,m 123 0,m 124 17,o 125 (.is 1 (.t 123) (.t 124)),l 126 125,o 127 (.is 1 (.t 113) (.t 114)),p (.bA none (.t 127) (.t 122)),o 128 (.is 1 (.t 115) (.t 117)),p (.bA none (.t 128) (.t 126))]
def Zq:=some [[],[],[],[],[3],[],[],[6],[5,7],[8],[],[],[10,11],[12],[0,1,0,1,5,6,7,8,9,13],[14,9,0,1,5,6,7,8,9,13],[2,4,0,1,2,3,4,5,6,7,8,9,10,11,12,13,14,15],[16,13,15,0,1,2,3,4,5,6,7,8,9,10,11,12,13,14,15]]
def afY:=[m 111 17,o 112 (.bin .sub (.t 111) (aj 1)),m 17 112]
def I3:=[m 129 1,m 130 3,o 131 (.bin .add (.t 129) (.t 130)),o 132 (.conv .u64 (.t 131)),o 133 (.bin .shr (.t 132) (.c (.int .u64 1))),o 134 (.conv .i64 (.t 133)),m 18 134]
def I4:=[m 135 18,m 136 2,o 137 (.bin .add (.t 135) (.t 136)),m 19 137]
def I5:=[aT 20 0,aT 21 0]
def afZ:=[m 138 2,m 139 18,o 140 (.bin .gtr (.t 138) (.t 139))]
def af0:=[m 141 19,m 142 3,o 143 (.bin .sub (.t 141) (.t 142)),m 20 143]
def af1:=[m 144 18,m 21 144]
def af2:=[m 145 1,m 20 145]
def af3:=[m 146 2,m 21 146]
def I7:=[m 147 19,o 148 (.bin .sub (.t 147) (aj 1)),m 22 148]
def I8:=[m 149 20,m 150 21,lt 151 149 150]
def af4:=[m 152 20,m 153 21,o 154 (.bin .add (.t 152) (.t 153)),o 155 (.conv .u64 (.t 154)),o 156 (.bin .shr (.t 155) (.c (.int .u64 1))),o 157 (.conv .i64 (.t 156)),m 23 157]
def af5:=[m 158 4,m 159 0,m 160 22,m 161 23,o 162 (.bin .sub (.t 160) (.t 161)),o 163 (.is 1 (.t 159) (.t 162)),l 164 163,m 165 0,m 166 23,o 167 (.is 1 (.t 165) (.t 166)),l 168 167,o 169 (.eH (.t 158) [.t 164,.t 168]),o 170 (.bin .lss (.t 169) (aj 0)),no 171 170]
def Zr:=some [[],[],[],[],[2,3],[1,4],[5],[],[],[7,8],[9],[0,6,10],[11],[12]]
def af6:=[m 172 23,ad 173 172 1,m 20 173]
def af7:=[m 174 23,m 21 174]
def I9:=[m 175 19,m 176 20,o 177 (.bin .sub (.t 175) (.t 176)),m 24 177]
def af8:=[m 178 20,m 179 2,lt 180 178 179,m 181 180,cw 182 2 181,cw 183 24 181,bn 184 (.bin .lss (.t 182) (.t 183)) 181,and 185 181 184]
def aga:=[m 186 0,m 187 20,m 188 2,m 189 24,m 190 4,o 191 (.call 213 [.t 186,.t 187,.t 188,.t 189,.t 190])]
def agb:=[m 192 1,m 193 20,lt 194 192 193,m 195 194,cw 196 20 195,cw 197 18 195,bn 198 (.bin .lss (.t 196) (.t 197)) 195,and 199 195 198]
def agc:=[m 200 0,m 201 1,m 202 20,m 203 18,m 204 4,o 205 (.call 204 [.t 200,.t 201,.t 202,.t 203,.t 204])]
def agd:=[m 206 18,m 207 24,lt 208 206 207,m 209 208,cw 210 24 209,cw 211 3 209,bn 212 (.bin .lss (.t 210) (.t 211)) 209,and 213 209 212]
def age:=[m 214 0,m 215 18,m 216 24,m 217 3,m 218 4,o 219 (.call 204 [.t 214,.t 215,.t 216,.t 217,.t 218])]
def sK:aN:=(s (s (r tf) (.cond (.t 28) (s (r IX) (s (r I1) (s (.block 0 (.loop (s (s (r I6) (.cond (.t 33) .skip (.exit 0))) (.block 1 (s (r af9) (s (.bT Zs agf) (.cond (.t 50) (r agh) (r agi)))))))) (s (s (r Ja) (.block 2 (.loop (s (s (r agj) (.cond (.t 58) .skip (.exit 2))) (s (.block 3 (.bT Zo afQ)) (r afR)))))) .ret)))) .skip)) (s (s (r xu) (.cond (.t 80) (s (r IY) (s (r IZ) (s (.block 4 (.loop (s (s (r I0) (.cond (.t 85) .skip (.exit 4))) (.block 5 (s (r afS) (s (.bT Zp afT) (.cond (.t 103) (r afU) (r afV)))))))) (s (s (r I2) (.block 6 (.loop (s (s (r afW) (.cond (.t 110) .skip (.exit 6))) (s (.block 7 (.bT Zq afX)) (r afY)))))) .ret)))) .skip)) (s (r I3) (s (r I4) (s (r I5) (s (s (r afZ) (.cond (.t 140) (s (r af0) (r af1)) (s (r af2) (r af3)))) (s (r I7) (s (.block 8 (.loop (s (s (r I8) (.cond (.t 151) .skip (.exit 8))) (.block 9 (s (r af4) (s (.bT Zr af5) (.cond (.t 171) (r af6) (r af7)))))))) (s (r I9) (s (s (r af8) (.cond (.t 185) (r aga) .skip)) (s (s (r agb) (.cond (.t 199) (r agc) .skip)) (s (r agd) (.cond (.t 213) (r age) .skip)))))))))))))
def uu:List bd:=[]
theorem vN:bD Tryz.prog Tryz.f204 sK:=e (by kernel_rfl)
theorem vW:bE Tryz.prog Tryz.f204 uu:=e (by kernel_rfl)
theorem vK:bB Tryz.prog 204:=e (by kernel_rfl)
def Jk:=[o 2 (.mv bp)]
def Jl:=[m 3 0,o 4 (.bin .eql (.t 3) (aj 0)),m 5 4,ew 6 0 5,on 7 (.call 160 [.t 6]) 5,on 8 (.un .not (.t 7)) 5,or 9 5 8,m 2 9]
def Cr:aN:=(s (r Jk) (s (r Jl) .ret))
def Np:List bd:=[.tmp 2]
theorem VI:bD Tryz.prog Tryz.f211 Cr:=e (by kernel_rfl)
theorem X3:bE Tryz.prog Tryz.f211 Np:=e (by kernel_rfl)
theorem TC:bB Tryz.prog 211:=e (by kernel_rfl)
def Jm:=[o 6 (.mv bp)]
def Jn:=[l 7 1,L 8 5 2,L 9 6 3,m 10 0,o 11 (.call 199 [.t 8,.t 9,.t 10]),m 12 0,o 13 (.ia 6 1 (.t 4) (.t 12)),l 14 13,o 15 (.eH (.t 7) [.t 11,.t 14]),m 6 15]
def Zu:=some [[],[],[],[],[1,2,3],[],[5],[6],[0,4,7,4],[8,8,0,1,2,3,4,5,6,7,8]]
def Cs:aN:=(s (r Jm) (s (.bT Zu Jn) .ret))
def Nq:List bd:=[.tmp 6]
theorem VJ:bD Tryz.prog Tryz.f212 Cs:=e (by kernel_rfl)
theorem X4:bE Tryz.prog Tryz.f212 Nq:=e (by kernel_rfl)
theorem TD:bB Tryz.prog 212:=e (by kernel_rfl)
def Jo:=[m 12 2,m 13 1,o 14 (.bin .sub (.t 12) (.t 13)),m 10 14]
def Jp:=[m 15 3,m 16 2,o 17 (.bin .sub (.t 15) (.t 16)),m 11 17]
def Jq:=[m 18 10,m 19 11,o 20 (.bin .neq (.t 18) (.t 19))]
def Jr:=[m 21 10,m 22 11,o 23 (.bin .gtr (.t 21) (.t 22))]
def Js:=[m 24 0,m 25 2,m 26 10,o 27 (.bin .sub (.t 25) (.t 26)),m 28 2,m 29 11,m 30 4,o 31 (.call 216 [.t 24,.t 27,.t 28,.t 29,.t 30])]
def Jt:=[m 32 10,m 33 11,o 34 (.bin .sub (.t 32) (.t 33)),m 10 34]
def Ju:=[m 35 0,m 36 2,m 37 10,o 38 (.bin .sub (.t 36) (.t 37)),m 39 2,m 40 11,o 41 (.bin .add (.t 39) (.t 40)),m 42 10,o 43 (.bin .sub (.t 41) (.t 42)),m 44 10,m 45 4,o 46 (.call 216 [.t 35,.t 38,.t 43,.t 44,.t 45])]
def Jv:=[m 47 11,m 48 10,o 49 (.bin .sub (.t 47) (.t 48)),m 11 49]
def Jw:=[m 50 0,m 51 2,m 52 10,o 53 (.bin .sub (.t 51) (.t 52)),m 54 2,m 55 10,m 56 4,o 57 (.call 216 [.t 50,.t 53,.t 54,.t 55,.t 56])]
def Ct:aN:=(s (r Jo) (s (r Jp) (s (.block 0 (.loop (s (s (r Jq) (.cond (.t 20) .skip (.exit 0))) (.block 1 (s (r Jr) (.cond (.t 23) (s (r Js) (r Jt)) (s (r Ju) (r Jv)))))))) (r Jw))))
def Nr:List bd:=[]
theorem VK:bD Tryz.prog Tryz.f213 Ct:=e (by kernel_rfl)
theorem X5:bE Tryz.prog Tryz.f213 Nr:=e (by kernel_rfl)
theorem TE:bB Tryz.prog 213:=e (by kernel_rfl)
def Jx:=[aT 10 0]
def agk:=[m 11 10,m 12 3,lt 13 11 12]
def agl:=[m 16 0,m 17 1,m 18 10,o 19 (.bin .add (.t 17) (.t 18)),m 20 0,m 21 2,m 22 10,o 23 (.bin .add (.t 21) (.t 22)),m 24 0,m 25 2,m 26 10,o 27 (.bin .add (.t 25) (.t 26)),o 28 (.is 1 (.t 24) (.t 27)),l 29 28,m 30 0,m 31 1,m 32 10,o 33 (.bin .add (.t 31) (.t 32)),o 34 (.is 1 (.t 30) (.t 33)),l 35 34,o 36 (.is 1 (.t 16) (.t 19)),p (.bA none (.t 36) (.t 29)),o 37 (.is 1 (.t 20) (.t 23)),p (.bA none (.t 37) (.t 35))]
def Zv:=some [[],[],[],[1,2],[],[],[],[5,6],[],[],[],[9,10],[8,11],[12],[],[],[],[15,16],[14,17],[18],[0,3,0,1,2,3,8,9,10,11,12,13,19],[20,13,0,1,2,3,8,9,10,11,12,13,19],[4,7,0,1,2,3,4,5,6,7,8,9,10,11,12,13,14,15,16,17,18,19,20,21],[22,19,21,0,1,2,3,4,5,6,7,8,9,10,11,12,13,14,15,16,17,18,19,20,21]]
def agm:=[m 14 10,ad 15 14 1,m 10 15]
def Cu:aN:=(s (r Jx) (.block 0 (.loop (s (s (r agk) (.cond (.t 13) .skip (.exit 0))) (s (.block 1 (.bT Zv agl)) (r agm))))))
def Ns:List bd:=[]
theorem VL:bD Tryz.prog Tryz.f216 Cu:=e (by kernel_rfl)
theorem X6:bE Tryz.prog Tryz.f216 Ns:=e (by kernel_rfl)
theorem TF:bB Tryz.prog 216:=e (by kernel_rfl)
end Go.Proofs.YtcldiigclhgafaaGreat
namespace Go.Proofs.YtcldiigclhgafaaGreat
open Go Go.Abs
open Go.Abs.Enc (enc)
theorem qF(n lo hi:Int):aw Tryz.prog 94 [enc n,enc lo,enc hi] (enc (decide (lo≤n)&&decide (n≤hi))):=by
 refine aw.bj Tryz.func94 Ui Wm YH (zz0 rfl) (fun hwf W0 D0 E1 =>?_);simp only[C5,N4,bg,zz3,Nat.reduceAdd];refine .aq (by decide +kernel) fun K hK =>?_;simp only[Kd,U,simprocAttr];refine .done (hK _ ?_);clear hK K;refine .aq (by decide +kernel) fun K hK =>?_;simp only[Ke,U,simprocAttr];refine .guard (fun h =>?_) (fun h =>?_)
 ·simp only[U,simprocAttr,h];refine .done (hK _ ?_);clear hK K;refine J.ret ?_;simp only[U,simprocAttr]
  simp_all
 ·simp only[U,simprocAttr,h];refine .done (hK _ ?_);clear hK K;refine J.ret ?_;simp only[U,simprocAttr];simp at h;simp;omega
def b9(lo hi n:Int):Bool:=decide (lo≤n)&&decide (n≤hi)
def oB(a b:Int):Int:=IntKind.i64.wrap ((BitVec.ofInt IntKind.i64.bits a &&& BitVec.ofInt IntKind.i64.bits b).toNat:Int)
def shl(a:Int)(k:Nat):Int:=IntKind.i64.wrap (a*2^min k IntKind.i64.bits)
theorem Pr(m:bG 6 Int):aw Tryz.prog 100 [enc m] (enc (if (List.range 6).all (fun i=>b9 0 4 (m.g i)) then (0:Int) else 10)):=by
 refine aw.bj Tryz.func100 Sj Up WI (zz0 rfl) (fun hwf W0 D0 E1 =>?_);simp only[A6,L2,bg];refine .aq (by decide +kernel) fun K hK =>?_;simp only[ES,U,simprocAttr];refine .done (hK _ ?_);clear hK K;refine J.seq ?_;refine .aq (by decide +kernel) fun K hK =>?_;simp only[ET,U,simprocAttr];refine .done (hK _ ?_);clear hK K;refine J.block (J.loop (fun i:Nat=>ar [(1,.ptr 1 []),(2,.int .i64 0),(3,.int .i64 i)] [(1,.box (enc m))]) (fun j=>j≤6∧∀ i,i<j→b9 0 4 (m.g i)=true) (fun i=>6-i) 0 ⟨by omega,fun k h=>by omega⟩ ?_ (fun i hi =>?_))
 ·refine az.bL ?_ ?_ ?_ ?_ <;>simp[aO,bC,bx,aZ,al,aP,b8,I.only,ah.only,bh]
 ·refine J.seq (J.seq ?_);refine .bK (by decide +kernel) fun K hK =>?_;simp only[EU,U,simprocAttr];refine .done (hK _ ?_);clear hK K;try simp only[au]
  refine J.bP ?_;simp only[ai,U,simprocAttr];refine ⟨fun h =>?_,fun h =>?_⟩
  ·have hlt:i<6:=by simp at h;omega
   refine J.skip ?_;try simp only[au,simprocAttr]
   refine J.seq (J.block ?_);refine .aq (by decide +kernel) fun K hK =>?_;simp only[EV,U,simprocAttr]
   try simp only[aX,kZ 1 m hlt rfl,jY m hlt,U,simprocAttr]
   refine .flat _ (qF _ 0 4) rfl ?_
   try simp only[U,simprocAttr]
   refine .done (hK _ ?_);clear hK K;refine J.bP ?_;simp only[ai,U,simprocAttr];refine ⟨fun h =>?_,fun h =>?_⟩
   ·refine .aq (by decide +kernel) fun K hK =>?_;simp only[EW,U,simprocAttr];refine .done (hK _ ?_);clear hK K;refine J.ret ?_;simp only[bS,au,U,simprocAttr];rw[kp i hlt]
    ·simp
    ·simp at h;simp[b9];omega
   ·refine J.skip ?_;try simp only[au,bS,simprocAttr]
    refine .bK (by decide +kernel) fun K hK =>?_;simp only[EX,U,simprocAttr];refine .done (hK _ ?_);clear hK K;try simp only[au]
    refine ⟨i+1,⟨by omega,fun k hk =>?_⟩,by omega,?_⟩
    ·by_cases hk':k=i
     ·subst hk';simpa[b9] using h
     ·exact hi.2 k (by omega)
    ·rw[cL _ (by omega) (by omega)];refine az.bL ?_ ?_ ?_ ?_ <;>simp[aO,bC,bx,aZ,al,aP,b8,I.only,ah.only,bh]
  ·have hge:i=6:=by simp at h;omega
   subst hge;refine J.exit ?_;try simp only[au,bS,simprocAttr]
   refine .aq (by decide +kernel) fun K hK =>?_;simp only[EY,U,simprocAttr];refine .done (hK _ ?_);clear hK K;refine J.ret ?_;simp only[U,simprocAttr];rw[lF hi.2];simp
theorem Pt(m:bG 6 Int):aw Tryz.prog 101 [enc m] (enc (if (List.range 6).all (fun i=>b9 1 31 (m.g i)) then (0:Int) else 12)):=by
 refine aw.bj Tryz.func101 Sk Uq WJ (zz0 rfl) (fun hwf W0 D0 E1 =>?_);simp only[A7,L3,bg];refine .aq (by decide +kernel) fun K hK =>?_;simp only[EZ,U,simprocAttr];refine .done (hK _ ?_);clear hK K;refine J.seq ?_;refine .aq (by decide +kernel) fun K hK =>?_;simp only[E0,U,simprocAttr];refine .done (hK _ ?_);clear hK K;refine J.block (J.loop (fun i:Nat=>ar [(1,.ptr 1 []),(2,.int .i64 0),(3,.int .i64 i)] [(1,.box (enc m))]) (fun j=>j≤6∧∀ i,i<j→b9 1 31 (m.g i)=true) (fun i=>6-i) 0 ⟨by omega,fun k h=>by omega⟩ ?_ (fun i hi =>?_))
 ·refine az.bL ?_ ?_ ?_ ?_ <;>simp[aO,bC,bx,aZ,al,aP,b8,I.only,ah.only,bh]
 ·refine J.seq (J.seq ?_);refine .bK (by decide +kernel) fun K hK =>?_;simp only[E4,U,simprocAttr];refine .done (hK _ ?_);clear hK K;try simp only[au]
  refine J.bP ?_;simp only[ai,U,simprocAttr];refine ⟨fun h =>?_,fun h =>?_⟩
  ·have hlt:i<6:=by simp at h;omega
   refine J.skip ?_;try simp only[au,simprocAttr]
   refine J.seq (J.block ?_);refine .aq (by decide +kernel) fun K hK =>?_;simp only[E5,U,simprocAttr]
   try simp only[aX,kZ 1 m hlt rfl,jY m hlt,U,simprocAttr]
   refine .flat _ (qF _ 1 31) rfl ?_
   try simp only[U,simprocAttr]
   refine .done (hK _ ?_);clear hK K;refine J.bP ?_;simp only[ai,U,simprocAttr];refine ⟨fun h =>?_,fun h =>?_⟩
   ·refine .aq (by decide +kernel) fun K hK =>?_;simp only[E6,U,simprocAttr];refine .done (hK _ ?_);clear hK K;refine J.ret ?_;simp only[bS,au,U,simprocAttr];rw[kp i hlt]
    ·simp
    ·simp at h;simp[b9];omega
   ·refine J.skip ?_;try simp only[au,bS,simprocAttr]
    refine .bK (by decide +kernel) fun K hK =>?_;simp only[E7,U,simprocAttr];refine .done (hK _ ?_);clear hK K;try simp only[au]
    refine ⟨i+1,⟨by omega,fun k hk =>?_⟩,by omega,?_⟩
    ·by_cases hk':k=i
     ·subst hk';simpa[b9] using h
     ·exact hi.2 k (by omega)
    ·rw[cL _ (by omega) (by omega)];refine az.bL ?_ ?_ ?_ ?_ <;>simp[aO,bC,bx,aZ,al,aP,b8,I.only,ah.only,bh]
  ·have hge:i=6:=by simp at h;omega
   subst hge;refine J.exit ?_;try simp only[au,bS,simprocAttr]
   refine .aq (by decide +kernel) fun K hK =>?_;simp only[E8,U,simprocAttr];refine .done (hK _ ?_);clear hK K;refine J.ret ?_;simp only[U,simprocAttr];rw[lF hi.2];simp
structure cE where
 bX:Int
 mark:bG 6 Int
instance:Enc cE where
 enc g:=.agg [.int .i64 g.bX,enc g.mark]
 sz:=7
 aU:=.ej [.one,.ej (List.replicate 6 .one)]
 gb:=true
 done g:=by simp only[I.done,I.eI,Enc.done,zw4]
 size g:=by simp only[I.size,I.sizes,iD,mJ,mK]
 jT g:=by simp only[I.aU,I.cX,eL,wi,wj]
 agg _:=rfl
structure cq where
 fG:bG 5 Int
 gD:Int
 given:List cE
instance:Enc cq where
 enc m:=.agg [enc m.fG,.int .i64 m.gD,enc m.given]
 sz:=7
 aU:=.ej [.ej (List.replicate 5 .one),.one,.one]
 gb:=true
 done m:=by simp only[I.done,I.eI,Enc.done,zw4]
 size m:=by simp only[I.size,I.sizes,iD,mJ,mK,qS]
 jT m:=by simp only[I.aU,I.cX,eL,wi,wj,Ed]
 agg _:=rfl
theorem ma{fs:List I}{f off:Nat}{v:I}(h1:f<fs.length)(h:I.sizes (fs.take f)=off):dM fs f off v=some v:=by simp[dM,h,h1]
theorem da :
  (∀ m:cq,(enc m).du=some [enc m.fG,.int .i64 m.gD,enc m.given])∧(∀ g:cE,(enc g).du=some [.int .i64 g.bX,enc g.mark]) ∧
  (∀ (w:bG 5 Int) (n:Int) (g:List cE) v,dM [enc w,.int .i64 n,enc g] 0 0 v=some v)∧(∀ (w:bG 5 Int) (n:Int) (g:List cE) v,dM [enc w,.int .i64 n,enc g] 1 5 v=some v)∧(∀ (w:bG 5 Int) (n:Int) (g:List cE) v,dM [enc w,.int .i64 n,enc g] 2 6 v=some v) ∧
  (∀ (n:Int) (m:bG 6 Int) v,dM [.int .i64 n,enc m] 0 0 v=some v)∧(∀ (n:Int) (m:bG 6 Int) v,dM [.int .i64 n,enc m] 1 1 v=some v) ∧
  (∀ (g:List cE),ca none (enc g)=true)∧(∀ (g:List Int),ca none (enc g)=true)∧(∀ (g:bG 5 Int),ca (some 5) (enc g)=true)∧(∀ (g:bG 6 Int),ca (some 6) (enc g)=true)∧(∀ (g:cE),ca (some 7) (enc g)=true)∧(∀ (g:cq),ca (some 7) (enc g)=true) ∧
  (∀ (fs:List I) x,(x::fs)[0]?=some x)∧(∀ (fs:List I) x n,(x::fs)[n+1]?=fs[n]?)∧(∀ (fs:List I) x,(x::fs)[1]?=fs[0]?)∧(∀ (fs:List I) x,(x::fs)[2]?=fs[1]?) :=
 ⟨fun _=>rfl,fun _=>rfl,fun _ _ _ _=>ma (zz0 rfl) rfl,fun w n g v=>ma (zz0 rfl) (by simp[I.sizes,iD,mJ,mK]),fun w n g v=>ma (zz0 rfl) (by simp[I.sizes,I.size,iD,mJ,mK]),fun _ _ _=>ma (zz0 rfl) rfl,fun _ _ _=>ma (zz0 rfl) (by simp[I.sizes,I.size]),
  fun _=>by simp[kW,nF],fun _=>by simp[kW,nF],fun _=>by simp[gq,wh,mJ,mK],fun _=>by simp[gq,wh,mJ,mK],fun _=>by rw[gq];rfl,fun _=>by rw[gq];rfl,
  fun _ _=>rfl,fun _ _ _=>rfl,fun _ _=>rfl,fun _ _=>rfl⟩
theorem r9(n lo hi:Int):aw Tryz.prog 121 [enc n,enc lo,enc hi] (enc (b9 lo hi n)):=by
 refine aw.bj Tryz.func121 SB UF WZ (zz0 rfl) (fun hwf W0 D0 E1 =>?_);simp only[Bm,Mi,bg,zz3,Nat.reduceAdd];refine .aq (by decide +kernel) fun K hK =>?_;simp only[FV,U,simprocAttr];refine .done (hK _ ?_);clear hK K;refine .aq (by decide +kernel) fun K hK =>?_;simp only[FW,U,simprocAttr];refine .guard (fun h =>?_) (fun h =>?_)
 ·simp only[U,simprocAttr,h];refine .done (hK _ ?_);clear hK K;refine J.ret ?_;simp only[U,simprocAttr]
  simp_all[b9]
 ·simp only[U,simprocAttr,h];refine .done (hK _ ?_);clear hK K;refine J.ret ?_;simp only[U,simprocAttr];simp at h;simp[b9];omega
theorem Ah(n:Int):aw Tryz.prog 160 [enc n] (enc (b9 0 31 n)):=by
 refine aw.bj Tryz.func160 S8 Vd Xy (zz0 rfl) (fun hwf W0 D0 E1 =>?_);simp only[BU,MQ,bg];refine .aq (by decide +kernel) fun K hK =>?_;simp only[Hw,U,simprocAttr];refine .done (hK _ ?_);clear hK K;refine .aq (by decide +kernel) fun K hK =>?_;simp only[Hx,U,simprocAttr];refine .flat _ (r9 n 0 31) rfl ?_
 try simp only[U,simprocAttr]
 refine .done (hK _ ?_);clear hK K;refine J.ret ?_;simp only[U,simprocAttr]
theorem Ak(a b:Int):aw Tryz.prog 196 [enc a,enc b] (enc (oB a b != 0)):=by
 refine aw.bj Tryz.func196 Tu VA XV (zz0 rfl) (fun hwf W0 D0 E1 =>?_);simp only[Cj,Nf,bg,zz3];refine .aq (by decide +kernel) fun K hK =>?_;simp only[Ir,U,simprocAttr];refine .done (hK _ ?_);clear hK K;refine .aq (by decide +kernel) fun K hK =>?_;simp only[Is,U,simprocAttr];refine .done (hK _ ?_);clear hK K;refine J.ret ?_;simp only[U,simprocAttr];rfl
theorem vc(w:bG 5 Int)(m:bG 6 Int)(i:Nat)(hi:i<6)(h0:0≤m.g i)(h5:m.g i<5):aw Tryz.prog 199 [enc w,enc m,enc (i:Int)] (enc (w.g (m.g i).toNat)):=by
 refine aw.bj Tryz.func199 Tx VD XY (zz0 rfl) (fun hwf W0 D0 E1 =>?_);simp only[Cm,Ni,bg,zz3,Nat.reduceAdd];refine .aq (by decide +kernel) fun K hK =>?_;simp only[IE,U,simprocAttr];refine .done (hK _ ?_);clear hK K;refine .aq (by decide +kernel) fun K hK =>?_;simp only[IF,U,simprocAttr];have hk:(m.g i).toNat<5:=by omega
 try simp only[aX,kZ 1 m hi rfl,jY m hi,U,simprocAttr]
 try simp only[aX,pS 1 w ⟨h0,h5⟩ rfl,jY w hk,U,simprocAttr]
 refine .done (hK _ ?_);clear hK K;refine J.ret ?_;simp only[U,simprocAttr]
def fS(p:Nat→Bool):Nat→Nat
 |0=>0
 |n+1=>fS p n+if p n then 1 else 0
theorem vU(p:Nat→Bool):∀ n,fS p n≤n
 |0=>zz9 _
 |n+1=>by have:=vU p n;simp only[fS];split <;>omega
def lG(w:bG 5 Int)(a b:bG 6 Int)(i:Nat):Bool:=oB (w.g (a.g i).toNat) (w.g (b.g i).toNat)==0
def fD(m:bG 6 Int):Bool:=(List.range 6).all fun i=>b9 0 4 (m.g i)
theorem qf{m:bG 6 Int}(h:fD m=true){i:Nat}(hi:i<6):0≤m.g i∧m.g i<5:=by
 simp only[fD,zx9,zv2] at h;have:=h i hi;simp[b9] at this;omega
theorem Ab(w:bG 5 Int)(a b:bG 6 Int)(ha:fD a=true)(hb:fD b=true):aw Tryz.prog 129 [enc w,enc a,enc b] (enc (fS (lG w a b) 6:Int)):=by
 refine aw.bj Tryz.func129 SJ UN W9 (zz0 rfl) (fun hwf W0 D0 E1 =>?_);simp only[Bv,Mq,bg,zz3,Nat.reduceAdd];refine .aq (by decide +kernel) fun K hK =>?_;simp only[Gd,U,simprocAttr];refine .done (hK _ ?_);clear hK K;refine .aq (by decide +kernel) fun K hK =>?_;simp only[Ge,U,simprocAttr];refine .done (hK _ ?_);clear hK K;refine J.seq (J.seq ?_);refine .bK (by decide +kernel) fun K hK =>?_;simp only[Gf,U,simprocAttr];refine .done (hK _ ?_);clear hK K;try simp only[au]
 refine J.block (J.loop (fun i:Nat=>ar [(3,.ptr 3 []),(4,.ptr 4 []),(5,.ptr 5 []),(7,.int .i64 (fS (lG w a b) i)),(8,.int .i64 i)] [(3,.box (enc w)),(4,.box (enc a)),(5,.box (enc b))]) (fun i=>i≤6) (fun i=>6-i) 0 (by omega) ?_ (fun i hi =>?_))
 ·simp only[fS];refine az.bL ?_ ?_ ?_ ?_ <;>simp[aO,bC,bx,aZ,al,aP,b8,I.only,ah.only,bh]
 ·have hc:=vU (lG w a b) i;refine J.seq (J.seq ?_);refine .bK (by decide +kernel) fun K hK =>?_;simp only[Gg,U,simprocAttr];refine .done (hK _ ?_);clear hK K;try simp only[au]
  refine J.bP ?_;simp only[ai,U,simprocAttr];refine ⟨fun h =>?_,fun h =>?_⟩
  ·have hlt:i<6:=by simp at h;omega
   have h1:=qf ha hlt;have h2:=qf hb hlt;refine J.skip ?_;try simp only[au,simprocAttr]
   refine J.seq (J.block ?_);refine .aq (by decide +kernel) fun K hK =>?_;simp only[Gh,U,simprocAttr];have k1:(a.g i).toNat<5:=by omega
   have k2:(b.g i).toNat<5:=by omega
   try simp only[aX,kZ 1 a hlt rfl,jY a hlt,U,simprocAttr]
   try simp only[aX,pS 1 w h1 rfl,jY w k1,U,simprocAttr]
   try simp only[aX,kZ 1 b hlt rfl,jY b hlt,U,simprocAttr]
   try simp only[aX,pS 1 w h2 rfl,jY w k2,U,simprocAttr]
   refine .done (hK _ ?_);clear hK K;refine J.bP ?_;simp only[ai,U,simprocAttr];refine ⟨fun h =>?_,fun h =>?_⟩
   ·have hap:lG w a b i=true:=h;refine .bK (by decide +kernel) fun K hK =>?_;simp only[Gi,U,simprocAttr];refine .done (hK _ ?_);clear hK K;try simp only[au,bS]
    refine .bK (by decide +kernel) fun K hK =>?_;simp only[wV,U,simprocAttr];refine .done (hK _ ?_);clear hK K;try simp only[au]
    refine ⟨i+1,by omega,by omega,?_⟩;rw[cL _ (by omega) (by omega),cL _ (by omega) (by omega)];simp only[fS,hap,if_true];refine az.bL ?_ ?_ ?_ ?_ <;>simp[aO,bC,bx,aZ,al,aP,b8,I.only,ah.only,bh]
   ·have hap:lG w a b i=false:=h;refine J.skip ?_;try simp only[au,bS,simprocAttr]
    refine .bK (by decide +kernel) fun K hK =>?_;simp only[wV,U,simprocAttr];refine .done (hK _ ?_);clear hK K;try simp only[au]
    refine ⟨i+1,by omega,by omega,?_⟩;rw[cL _ (by omega) (by omega)];simp only[fS,hap,zz8,if_false];refine az.bL ?_ ?_ ?_ ?_ <;>simp[aO,bC,bx,aZ,al,aP,b8,I.only,ah.only,bh]
  ·have hge:i=6:=by simp at h;omega
   subst hge;refine J.exit ?_;try simp only[au,bS,simprocAttr]
   refine .aq (by decide +kernel) fun K hK =>?_;simp only[Gj,U,simprocAttr];refine .done (hK _ ?_);clear hK K;refine J.ret ?_;simp only[U,simprocAttr]
def kS(w:Int)(k:Nat):Bool:=oB w (shl 1 k) != 0
def mT(w:Int):Nat→List Int
 |0=>[]
 |k+1=>mT w k++if kS w k then [(k:Int)] else []
theorem Lc(w:Int):∀ k,(mT w k).length≤k
 |0=>zz9 _
 |k+1=>by
  have:=Lc w k;simp only[mT,zz5];split <;>simp <;>omega
theorem apY(w:Int):aw Tryz.prog 141 [enc w] (enc (mT w 5)):=by
 refine aw.bj Tryz.func141 SV UZ Xk (zz0 rfl) (fun hwf W0 D0 E1 =>?_);simp only[BG,MB,bg];refine .aq (by decide +kernel) fun K hK =>?_;simp only[GP,U,simprocAttr];refine .done (hK _ ?_);clear hK K;refine .aq (by decide +kernel) fun K hK =>?_;simp only[GQ,U,simprocAttr];refine .done (hK _ ?_);clear hK K;refine J.seq (J.seq ?_);refine .bK (by decide +kernel) fun K hK =>?_;simp only[GR,U,simprocAttr];refine .done (hK _ ?_);clear hK K;try simp only[au]
 refine J.block (J.loop (fun i:Nat=>ar [(0,.int .i64 w),(2,.nils 1),(3,.own 3 (mT w i).length),(4,.int .i64 i)] [(3,.b5 3 1 ((mT w i).map enc))]) (fun i=>i≤5) (fun i=>5-i) 0 (by omega) ?_ (fun i hi =>?_))
 ·refine az.lD 3 3 3 1 1 ?_ ?_ ?_
  ·simp only[pq,Nat.reduceEqDiff,reduceIte]
  ·simp only[pq]
  ·simp only[mT,zx2,zv7];refine az.bL ?_ ?_ ?_ ?_ <;>simp[aO,bC,bx,aZ,al,aP,b8,I.only,I.bW,ah.only]
 ·refine J.seq (J.seq ?_);refine .bK (by decide +kernel) fun K hK =>?_;simp only[GS,U,simprocAttr];refine .done (hK _ ?_);clear hK K;try simp only[au]
  refine J.bP ?_;simp only[ai,U,simprocAttr];refine ⟨fun h =>?_,fun h =>?_⟩
  ·have hlt:i<5:=by simp at h;omega
   have hml:=Lc w i;refine J.skip ?_;try simp only[au,simprocAttr]
   refine J.seq (J.block ?_);refine .aq (by decide +kernel) fun K hK =>?_;simp only[GU,U,simprocAttr];refine .done (hK _ ?_);clear hK K;refine J.bP ?_;simp only[ai,U,simprocAttr];refine ⟨fun h =>?_,fun h =>?_⟩
   ·have hb:kS w i=true:=h;refine .bK (by decide +kernel) fun K hK =>?_;simp only[GV,U,simprocAttr];rw[jE 3 1 8 3 rfl rfl (by simp) (by simp[maxLen];omega) (by simp;omega)]
    try simp only[U,simprocAttr]
    refine .done (hK _ ?_);clear hK K;try simp only[au,bS]
    refine .bK (by decide +kernel) fun K hK =>?_;simp only[xd,U,simprocAttr];refine .done (hK _ ?_);clear hK K;try simp only[au]
    refine ⟨i+1,by omega,by omega,?_⟩;rw[cL _ (by omega) (by omega)];simp only[mT,hb,reduceIte];refine az.bL ?_ ?_ ?_ ?_ <;>simp[aO,bC,bx,aZ,al,aP,b8,I.only,I.bW,ah.only,dn,gm,ga]
   ·have hb:kS w i=false:=h;refine J.skip ?_;try simp only[au,bS,simprocAttr]
    refine .bK (by decide +kernel) fun K hK =>?_;simp only[xd,U,simprocAttr];refine .done (hK _ ?_);clear hK K;try simp only[au]
    refine ⟨i+1,by omega,by omega,?_⟩;rw[cL _ (by omega) (by omega)];simp only[mT,hb,reduceIte,zz8,zx5];refine az.bL ?_ ?_ ?_ ?_ <;>simp[aO,bC,bx,aZ,al,aP,b8,I.only,ah.only,dn]
  ·have hge:i=5:=by simp at h;omega
   subst hge;refine J.exit ?_;try simp only[au,bS,simprocAttr]
   refine .aq (by decide +kernel) fun K hK =>?_;simp only[GW,U,simprocAttr];refine .done (hK _ ?_);clear hK K;refine J.ret ?_
   try simp only[U,simprocAttr]
theorem Q0(m:bG 5 Int):aw Tryz.prog 99 [enc m] (enc (if (List.range 5).all (fun i=>b9 0 31 (m.g i)&&kS (m.g i) i) then (0:Int) else 11)):=by
 refine aw.bj Tryz.func99 Uk Wo YJ (zz0 rfl) (fun hwf W0 D0 E1 =>?_);simp only[C7,N6,bg];refine .aq (by decide +kernel) fun K hK =>?_;simp only[Kf,U,simprocAttr];refine .done (hK _ ?_);clear hK K;refine J.seq ?_;refine .aq (by decide +kernel) fun K hK =>?_;simp only[Kg,U,simprocAttr];refine .done (hK _ ?_);clear hK K;refine J.block (J.loop (fun i:Nat=>ar [(1,.ptr 1 []),(2,.int .i64 0),(3,.int .i64 i)] [(1,.box (enc m))]) (fun j=>j≤5∧∀ i,i<j→(b9 0 31 (m.g i)&&kS (m.g i) i)=true) (fun i=>5-i) 0 ⟨by omega,fun k h=>by omega⟩ ?_ (fun i hi =>?_))
 ·refine az.bL ?_ ?_ ?_ ?_ <;>simp[aO,bC,bx,aZ,al,aP,b8,I.only,ah.only,bh]
 ·refine J.seq (J.seq ?_);refine .bK (by decide +kernel) fun K hK =>?_;simp only[Kh,U,simprocAttr];refine .done (hK _ ?_);clear hK K;try simp only[au]
  refine J.bP ?_;simp only[ai,U,simprocAttr];refine ⟨fun h =>?_,fun h =>?_⟩
  ·have hlt:i<5:=by simp at h;omega
   refine J.skip ?_;try simp only[au,simprocAttr]
   refine J.seq (J.block ?_);refine .aq (by decide +kernel) fun K hK =>?_;simp only[Ki,U,simprocAttr]
   try simp only[aX,kZ 1 m hlt rfl,jY m hlt,U,simprocAttr]
   refine .flat _ (qF _ 0 31) rfl ?_;generalize hb:(decide (0≤m.g i)&&decide (m.g i≤31))=b;cases b
   ·try simp only[U,simprocAttr]
    refine .done (hK _ ?_);clear hK K;refine J.bP ?_;simp only[ai,U,simprocAttr];refine ⟨fun h =>?_,fun h =>?_⟩
    ·refine .aq (by decide +kernel) fun K hK =>?_;simp only[xJ,U,simprocAttr];refine .done (hK _ ?_);clear hK K;refine J.ret ?_;simp only[bS,au,U,simprocAttr];rw[kp i hlt]
     ·simp
     ·simp only[b9,hb,Bool.false_and]
    ·cases h
   ·try simp only[aX,kZ 1 m hlt rfl,jY m hlt,U,simprocAttr]
    refine .done (hK _ ?_);clear hK K;refine J.bP ?_;simp only[ai,U,simprocAttr];refine ⟨fun h =>?_,fun h =>?_⟩
    ·refine .aq (by decide +kernel) fun K hK =>?_;simp only[xJ,U,simprocAttr];refine .done (hK _ ?_);clear hK K;refine J.ret ?_;simp only[bS,au,U,simprocAttr];rw[kp i hlt]
     ·simp
     ·simp only[b9,hb,Bool.true_and,kS,oB,shl];simpa using h
    ·refine J.skip ?_;try simp only[au,bS,simprocAttr]
     refine .bK (by decide +kernel) fun K hK =>?_;simp only[Kj,U,simprocAttr];refine .done (hK _ ?_);clear hK K;try simp only[au]
     refine ⟨i+1,⟨by omega,fun k hk =>?_⟩,by omega,?_⟩
     ·by_cases hk':k=i
      ·subst hk';simp only[b9,hb,Bool.true_and,kS,oB,shl];simpa using h
      ·exact hi.2 k (by omega)
     ·rw[cL _ (by omega) (by omega)];refine az.bL ?_ ?_ ?_ ?_ <;>simp[aO,bC,bx,aZ,al,aP,b8,I.only,ah.only,bh]
  ·have hge:i=5:=by simp at h;omega
   subst hge;refine J.exit ?_;try simp only[au,bS,simprocAttr]
   refine .aq (by decide +kernel) fun K hK =>?_;simp only[Kk,U,simprocAttr];refine .done (hK _ ?_);clear hK K;refine J.ret ?_;simp only[U,simprocAttr];rw[lF hi.2];simp
theorem sf(a b:List Int):aw Tryz.prog 20 [enc a,enc b] (enc (decide (a=b))):=by
 refine aw.bj Tryz.func20 Ty VE XZ (zz0 rfl) (fun hwf W0 D0 E1 =>?_);simp only[Cn,Nj,bg,zz3];have hlen:a.length≤maxLen:=((kL a).1 hwf.1).1;simp only[maxLen] at hlen;refine .aq (by decide +kernel) fun K hK =>?_;simp only[Jb,U,simprocAttr];refine .done (hK _ ?_);clear hK K;refine J.seq (J.seq ?_);refine .bK (by decide +kernel) fun K hK =>?_;simp only[Jc,U,simprocAttr]
 try simp only[aX,U,simprocAttr]
 refine .done (hK _ ?_);clear hK K;try simp only[au]
 refine J.bP ?_;simp only[ai,U,simprocAttr];refine ⟨fun h =>?_,fun h =>?_⟩
 ·refine .aq (by decide +kernel) fun K hK =>?_;simp only[Jd,U,simprocAttr];refine .done (hK _ ?_);clear hK K;refine J.ret ?_;simp only[au,U,simprocAttr];simp at h;have:a≠b:=fun e=>h (by rw[e]);simp[this]
 ·have hab:a.length=b.length:=by simp at h;omega
  refine J.skip ?_;try simp only[au,simprocAttr]
  refine J.seq ?_;refine .aq (by decide +kernel) fun K hK =>?_;simp only[Je,U,simprocAttr];refine .done (hK _ ?_);clear hK K;refine J.block (J.loop (fun i:Nat=>ar [(0,enc a),(1,enc b),(5,.int .i64 i)] []) (fun i=>i≤a.length∧a.take i=b.take i) (fun i=>a.length-i) 0 ⟨zw8 _,by simp⟩ ?_ (fun i hi =>?_))
  ·refine az.bL ?_ ?_ ?_ ?_ <;>simp[aO,bC,bx,aZ,aP,I.only,bh]
  ·refine J.seq (J.seq ?_);refine .bK (by decide +kernel) fun K hK =>?_;simp only[Jf,U,simprocAttr]
   try simp only[aX,U,simprocAttr]
   refine .done (hK _ ?_);clear hK K;try simp only[au]
   refine J.bP ?_;simp only[ai,U,simprocAttr];refine ⟨fun h =>?_,fun h =>?_⟩
   ·have hlt:i<a.length:=by simpa using h
    have hlb:i<b.length:=by omega
    refine J.skip ?_;try simp only[au,simprocAttr]
    refine J.seq (J.block ?_);refine .aq (by decide +kernel) fun K hK =>?_;simp only[Jg,U,simprocAttr]
    try simp only[eh 1 hlt rfl,eh 1 hlb rfl,U,simprocAttr]
    refine .done (hK _ ?_);clear hK K;refine J.bP ?_;simp only[ai,U,simprocAttr];refine ⟨fun h =>?_,fun h =>?_⟩
    ·refine .aq (by decide +kernel) fun K hK =>?_;simp only[Jh,U,simprocAttr];refine .done (hK _ ?_);clear hK K;refine J.ret ?_;simp only[bS,au,U,simprocAttr];have hne:a≠b:=fun e=>by subst e;simp at h
     simp[hne]
    ·refine J.skip ?_;try simp only[au,bS,simprocAttr]
     refine .bK (by decide +kernel) fun K hK =>?_;simp only[Ji,U,simprocAttr];refine .done (hK _ ?_);clear hK K;try simp only[au]
     refine ⟨i+1,⟨by omega,?_⟩,by omega,?_⟩
     ·rw[zz7 hlt,zz7 hlb,hi.2];simp at h;rw[h]
     ·rw[cL _ (by omega) (by omega)];refine az.bL ?_ ?_ ?_ ?_ <;>simp[aO,bC,bx,aZ,aP,I.only,bh]
   ·have hge:i=a.length:=by simp at h;omega
    refine J.exit ?_;try simp only[au,bS,simprocAttr]
    refine .aq (by decide +kernel) fun K hK =>?_;simp only[Jj,U,simprocAttr];refine .done (hK _ ?_);clear hK K;refine J.ret ?_;simp only[U,simprocAttr];have:a=b:=by
     have:=hi.2;rw[hge,zv1] at this;rw[hab,zv1] at this;exact this
    simp[this]
def ct(m:cq)(i:Nat):cE:=m.given.getD i ⟨0,⟨List.replicate 6 0,rfl⟩⟩
theorem j8{m:cq}{i:Nat}(h:i<m.given.length):m.given[i]=ct m i:=by simp[ct,zz2,h]
theorem nS{A:ae}{m:cq}{i:Nat}(h:i<m.given.length):jl A 7 (i:Int) (enc m.given)=some (.ref (enc (ct m i))):=by
 rw[eh 7 h rfl,j8 h]
def oa(w:bG 5 Int):Bool:=(List.range 5).all (fun i=>b9 0 31 (w.g i)&&kS (w.g i) i)
theorem Q1(w:bG 5 Int):aw Tryz.prog 99 [enc w] (enc (if oa w then (0:Int) else 11)):=Q0 w
theorem Ps(m:bG 6 Int):aw Tryz.prog 100 [enc m] (enc (if fD m then (0:Int) else 10)):=Pr m
theorem Av(n lo hi:Int):aw Tryz.prog 94 [enc n,enc lo,enc hi] (enc (b9 lo hi n)):=qF n lo hi
def iz(m:cq)(a b:bG 6 Int):Bool:=decide ((fS (lG m.fG a b) 6:Int)≤IntKind.i64.wrap (2*m.gD))
def fC(m:cq)(i:Nat):Bool:=b9 1 99 (ct m i).bX&&(fD (ct m i).mark&&((i==0||decide ((ct m (i-1)).bX<(ct m i).bX))&&(List.range i).all (fun j => !iz m (ct m j).mark (ct m i).mark)))
def eO(m:cq):Bool:=oa m.fG&&(b9 0 2 m.gD&&(decide (m.given.length≤40)&&(List.range m.given.length).all (fC m)))
theorem ud{m:cq}{i:Nat}(h:fC m i=true):fD (ct m i).mark=true:=by
 simp only[fC,zz4] at h;exact h.2.1
theorem vg(m:cq):aw Tryz.prog 70 [enc m] (enc (if eO m then (0:Int) else 13)):=by
 refine aw.bj Tryz.func70 TW V2 Yn (zz0 rfl) (fun hwf W0 D0 E1 =>?_);simp only[CL,NK,bg];refine .aq (by decide +kernel) fun K hK =>?_;simp only[JM,U,simprocAttr];refine .done (hK _ ?_);clear hK K;refine J.seq (J.seq ?_);refine .bK (by decide +kernel) fun K hK =>?_;simp only[JN,U,simprocAttr]
 try simp only[da,ev,U,simprocAttr]
 refine .flat _ (Q1 m.fG) rfl ?_;generalize hw:oa m.fG=bw;cases bw
 ·try simp only[U,simprocAttr]
  refine .done (hK _ ?_);clear hK K;try simp only[au]
  refine J.bP ?_;simp only[ai,U,simprocAttr];refine ⟨fun h =>?_,fun h =>?_⟩
  ·refine .aq (by decide +kernel) fun K hK =>?_;simp only[th,U,simprocAttr];refine .done (hK _ ?_);clear hK K;refine J.ret ?_;simp only[au,U,simprocAttr];simp[eO,hw]
  ·cases h
 try simp only[da,U,simprocAttr]
 refine .flat _ (Av m.gD 0 2) rfl ?_;generalize hf:b9 0 2 m.gD=bf;cases bf
 ·try simp only[U,simprocAttr]
  refine .done (hK _ ?_);clear hK K;refine J.bP ?_;simp only[ai,U,simprocAttr];refine ⟨fun h =>?_,fun h =>?_⟩
  ·refine .aq (by decide +kernel) fun K hK =>?_;simp only[th,U,simprocAttr];refine .done (hK _ ?_);clear hK K;refine J.ret ?_;simp only[au,U,simprocAttr];simp[eO,hw,hf]
  ·cases h
 try simp only[da,aX,U,simprocAttr]
 refine .done (hK _ ?_);clear hK K;refine J.bP ?_;simp only[ai,U,simprocAttr];refine ⟨fun h =>?_,fun h =>?_⟩
 ·refine .aq (by decide +kernel) fun K hK =>?_;simp only[th,U,simprocAttr];refine .done (hK _ ?_);clear hK K;refine J.ret ?_;simp only[au,U,simprocAttr];have:¬ m.given.length≤40:=by simp at h;omega
  simp[eO,hw,hf,this]
 have hlen:m.given.length≤40:=by simp at h;omega
 refine J.skip ?_;try simp only[au,simprocAttr]
 refine J.seq (J.seq ?_);refine .bK (by decide +kernel) fun K hK =>?_;simp only[JP,U,simprocAttr];refine .done (hK _ ?_);clear hK K;try simp only[au]
 refine J.block (J.loop (fun i:Nat=>ar [(1,.ptr 1 []),(3,.int .i64 i)] [(1,.box (enc m))]) (fun i=>i≤m.given.length∧∀ j,j<i→fC m j=true) (fun i=>m.given.length-i) 0 ⟨by omega,fun k h=>by omega⟩ ?_ (fun i hi =>?_))
 ·refine az.bL ?_ ?_ ?_ ?_ <;>simp[aO,bC,bx,aZ,al,aP,b8,I.only,ah.only,bh]
 refine J.seq (J.seq ?_);refine .bK (by decide +kernel) fun K hK =>?_;simp only[JQ,U,simprocAttr]
 try simp only[da,aX,U,simprocAttr]
 refine .done (hK _ ?_);clear hK K;try simp only[au]
 refine J.bP ?_;simp only[ai,U,simprocAttr];refine ⟨fun h =>?_,fun h =>?_⟩
 case refine_2.refine_2 =>
  have hge:i=m.given.length:=by simp at h;omega
  subst hge;refine J.exit ?_;try simp only[au,bS,simprocAttr]
  refine .aq (by decide +kernel) fun K hK =>?_;simp only[JO,U,simprocAttr];refine .done (hK _ ?_);clear hK K;refine J.ret ?_;simp only[U,simprocAttr];have:(List.range m.given.length).all (fC m)=true:=lF hi.2;simp[eO,hw,hf,this,hlen]
 have hlt:i<m.given.length:=by simpa using h
 refine J.skip ?_;try simp only[au,simprocAttr]
 refine J.seq (J.block ?_);refine .aq (by decide +kernel) fun K hK =>?_;simp only[JR,U,simprocAttr]
 try simp only[da,nS hlt,U,simprocAttr]
 rw[eF (dO _) (by rw[gq];rfl) ((eL _).trans rfl)]
 try simp only[U,simprocAttr]
 refine .done (hK _ ?_);clear hK K
 -- what is said of the mark at i alone
 have iN:∀ b,fC m i=b→b=false→(if eO m then (0:Int) else 13)=13:=fun b h1 h2=>by
  have:(List.range m.given.length).all (fC m)=false:=kp i hlt (by rw[h1,h2]);simp[eO,this]
 refine J.seq (J.seq ?_);refine .bK (by decide +kernel) fun K hK =>?_;simp only[JS,U,simprocAttr]
 try simp only[da,U,simprocAttr]
 refine .flat _ (Av (ct m i).bX 1 99) rfl ?_;generalize ho:b9 1 99 (ct m i).bX=bo;cases bo
 ·try simp only[U,simprocAttr]
  refine .done (hK _ ?_);clear hK K;try simp only[au]
  refine J.bP ?_;simp only[ai,U,simprocAttr];refine ⟨fun h =>?_,fun h =>?_⟩
  ·refine .aq (by decide +kernel) fun K hK =>?_;simp only[tj,U,simprocAttr];refine .done (hK _ ?_);clear hK K;refine J.ret ?_;simp only[bS,au,U,simprocAttr];rw[iN _ rfl (by simp[fC,ho])]
  ·cases h
 try simp only[da,ev,U,simprocAttr]
 refine .flat _ (Ps (ct m i).mark) rfl ?_;generalize hk:fD (ct m i).mark=bk;cases bk
 ·try simp only[U,simprocAttr]
  refine .done (hK _ ?_);clear hK K;refine J.bP ?_;simp only[ai,U,simprocAttr];refine ⟨fun h =>?_,fun h =>?_⟩
  ·refine .aq (by decide +kernel) fun K hK =>?_;simp only[tj,U,simprocAttr];refine .done (hK _ ?_);clear hK K;refine J.ret ?_;simp only[bS,au,U,simprocAttr];rw[iN _ rfl (by simp[fC,ho,hk])]
  ·cases h
 try simp only[U,simprocAttr]
 generalize hz:decide (0<(i:Int))=bz;cases bz
 ·have hprev:(i==0||decide ((ct m (i-1)).bX<(ct m i).bX))=true:=by simp at hz;simp[hz]
  try simp only[U,simprocAttr]
  refine .done (hK _ ?_);clear hK K;refine J.bP ?_;simp only[ai,U,simprocAttr];refine ⟨fun h =>?_,fun h =>?_⟩
  ·cases h
  refine J.skip ?_;try simp only[au,simprocAttr]
  refine .aq (by decide +kernel) fun K hK =>?_;simp only[xB,U,simprocAttr];refine .done (hK _ ?_);clear hK K;refine J.block (J.loop (fun j:Nat=>ar [(1,.ptr 1 []),(3,.int .i64 i),(4,.ptr 4 []),(5,.int .i64 j)] [(1,.box (enc m)),(4,.box (enc (ct m i)))]) (fun j=>j≤i∧∀ k,k<j→(!iz m (ct m k).mark (ct m i).mark)=true) (fun j=>i-j) 0 ⟨by omega,fun k h=>by omega⟩ ?_ (fun j hj =>?_))
  ·refine az.bL ?_ ?_ ?_ ?_ <;>simp[aO,bC,bx,aZ,al,aP,b8,I.only,ah.only,bh]
  refine J.seq (J.seq ?_);refine .bK (by decide +kernel) fun K hK =>?_;simp only[xC,U,simprocAttr];refine .done (hK _ ?_);clear hK K;try simp only[au]
  refine J.bP ?_;simp only[ai,U,simprocAttr];refine ⟨fun h =>?_,fun h =>?_⟩
  ·have hji:j<i:=by simp at h;omega
   have hjl:j<m.given.length:=by omega
   refine J.skip ?_;try simp only[au,simprocAttr]
   refine J.seq (J.block ?_);refine .aq (by decide +kernel) fun K hK =>?_;simp only[xw,U,simprocAttr]
   try simp only[da,nS hjl,ev,U,simprocAttr]
   refine .flat _ (Ab m.fG (ct m j).mark (ct m i).mark (ud (hi.2 j hji)) hk) rfl ?_
   try simp only[da,U,simprocAttr]
   refine .done (hK _ ?_);clear hK K;refine J.bP ?_;simp only[ai,U,simprocAttr];refine ⟨fun h =>?_,fun h =>?_⟩
   ·refine .aq (by decide +kernel) fun K hK =>?_;simp only[xy,U,simprocAttr];refine .done (hK _ ?_);clear hK K;refine J.ret ?_;simp only[bS,au,U,simprocAttr];have hn:iz m (ct m j).mark (ct m i).mark=true:=h;have:(List.range i).all (fun j => !iz m (ct m j).mark (ct m i).mark)=false:=kp j hji (by rw[hn];rfl);rw[iN _ rfl (by simp only[fC,this,Bool.and_false])]
   ·refine J.skip ?_;try simp only[au,bS,simprocAttr]
    refine .bK (by decide +kernel) fun K hK =>?_;simp only[xz,U,simprocAttr];refine .done (hK _ ?_);clear hK K;try simp only[au]
    refine ⟨j+1,⟨by omega,fun k hk' =>?_⟩,by omega,?_⟩
    ·by_cases hkj:k=j
     ·subst hkj;have hn:iz m (ct m k).mark (ct m i).mark=false:=h;rw[hn];rfl
     ·exact hj.2 k (by omega)
    ·rw[cL _ (by omega) (by omega)];refine az.bL ?_ ?_ ?_ ?_ <;>simp[aO,bC,bx,aZ,al,aP,b8,I.only,ah.only,bh]
  ·have hji:j=i:=by simp at h;omega
   refine J.exit ?_;try simp only[au,bS,simprocAttr]
   refine .bK (by decide +kernel) fun K hK =>?_;simp only[xA,U,simprocAttr];refine .done (hK _ ?_);clear hK K;try simp only[au]
   refine ⟨i+1,⟨by omega,fun k hk' =>?_⟩,by omega,?_⟩
   ·by_cases hki:k=i
    ·have:(List.range i).all (fun j => !iz m (ct m j).mark (ct m i).mark)=true:=lF fun k hk=>hj.2 k (by omega);rw[hki];simp only[fC,ho,hk,hprev,this,zw4]
    ·exact hi.2 k (by omega)
   ·rw[cL _ (by omega) (by omega)];refine az.bL ?_ ?_ ?_ ?_ <;>simp[aO,bC,bx,aZ,al,aP,b8,I.only,ah.only,bh]
 ·have hpos:0<i:=by simpa using hz
  have hpl:i-1<m.given.length:=by omega
  have hpred:IntKind.i64.wrap ((i:Int)-1)=((i-1:Nat):Int):=by rw[cL _ (by omega) (by omega)];omega
  try simp only[da,hpred,nS hpl,U,simprocAttr]
  refine .done (hK _ ?_);clear hK K;try simp only[au]
  refine J.bP ?_;simp only[ai,U,simprocAttr];refine ⟨fun h =>?_,fun h =>?_⟩
  ·refine .aq (by decide +kernel) fun K hK =>?_;simp only[tj,U,simprocAttr];refine .done (hK _ ?_);clear hK K;refine J.ret ?_;simp only[bS,au,U,simprocAttr];have:(i==0||decide ((ct m (i-1)).bX<(ct m i).bX))=false:=by simp at h;simp;omega
   rw[iN _ rfl (by simp only[fC,this,Bool.and_false,Bool.false_and])]
  have hprev:(i==0||decide ((ct m (i-1)).bX<(ct m i).bX))=true:=by simp at h;simp;omega
  refine J.skip ?_;try simp only[au,simprocAttr]
  refine .aq (by decide +kernel) fun K hK =>?_;simp only[xB,U,simprocAttr];refine .done (hK _ ?_);clear hK K;refine J.block (J.loop (fun j:Nat=>ar [(1,.ptr 1 []),(3,.int .i64 i),(4,.ptr 4 []),(5,.int .i64 j)] [(1,.box (enc m)),(4,.box (enc (ct m i)))]) (fun j=>j≤i∧∀ k,k<j→(!iz m (ct m k).mark (ct m i).mark)=true) (fun j=>i-j) 0 ⟨by omega,fun k h=>by omega⟩ ?_ (fun j hj =>?_))
  ·refine az.bL ?_ ?_ ?_ ?_ <;>simp[aO,bC,bx,aZ,al,aP,b8,I.only,ah.only,bh]
  refine J.seq (J.seq ?_);refine .bK (by decide +kernel) fun K hK =>?_;simp only[xC,U,simprocAttr];refine .done (hK _ ?_);clear hK K;try simp only[au]
  refine J.bP ?_;simp only[ai,U,simprocAttr];refine ⟨fun h =>?_,fun h =>?_⟩
  ·have hji:j<i:=by simp at h;omega
   have hjl:j<m.given.length:=by omega
   refine J.skip ?_;try simp only[au,simprocAttr]
   refine J.seq (J.block ?_);refine .aq (by decide +kernel) fun K hK =>?_;simp only[xw,U,simprocAttr]
   try simp only[da,nS hjl,ev,U,simprocAttr]
   refine .flat _ (Ab m.fG (ct m j).mark (ct m i).mark (ud (hi.2 j hji)) hk) rfl ?_
   try simp only[da,U,simprocAttr]
   refine .done (hK _ ?_);clear hK K;refine J.bP ?_;simp only[ai,U,simprocAttr];refine ⟨fun h =>?_,fun h =>?_⟩
   ·refine .aq (by decide +kernel) fun K hK =>?_;simp only[xy,U,simprocAttr];refine .done (hK _ ?_);clear hK K;refine J.ret ?_;simp only[bS,au,U,simprocAttr];have hn:iz m (ct m j).mark (ct m i).mark=true:=h;have:(List.range i).all (fun j => !iz m (ct m j).mark (ct m i).mark)=false:=kp j hji (by rw[hn];rfl);rw[iN _ rfl (by simp only[fC,this,Bool.and_false])]
   ·refine J.skip ?_;try simp only[au,bS,simprocAttr]
    refine .bK (by decide +kernel) fun K hK =>?_;simp only[xz,U,simprocAttr];refine .done (hK _ ?_);clear hK K;try simp only[au]
    refine ⟨j+1,⟨by omega,fun k hk' =>?_⟩,by omega,?_⟩
    ·by_cases hkj:k=j
     ·subst hkj;have hn:iz m (ct m k).mark (ct m i).mark=false:=h;rw[hn];rfl
     ·exact hj.2 k (by omega)
    ·rw[cL _ (by omega) (by omega)];refine az.bL ?_ ?_ ?_ ?_ <;>simp[aO,bC,bx,aZ,al,aP,b8,I.only,ah.only,bh]
  ·have hji:j=i:=by simp at h;omega
   refine J.exit ?_;try simp only[au,bS,simprocAttr]
   refine .bK (by decide +kernel) fun K hK =>?_;simp only[xA,U,simprocAttr];refine .done (hK _ ?_);clear hK K;try simp only[au]
   refine ⟨i+1,⟨by omega,fun k hk' =>?_⟩,by omega,?_⟩
   ·by_cases hki:k=i
    ·have:(List.range i).all (fun j => !iz m (ct m j).mark (ct m i).mark)=true:=lF fun k hk=>hj.2 k (by omega);rw[hki];simp only[fC,ho,hk,hprev,this,zw4]
    ·exact hi.2 k (by omega)
   ·rw[cL _ (by omega) (by omega)];refine az.bL ?_ ?_ ?_ ?_ <;>simp[aO,bC,bx,aZ,al,aP,b8,I.only,ah.only,bh]
def nA(w:bG 5 Int)(a:bG 6 Int)(r:bG 6 Int)(i:Nat):Bool:=oB (w.g (a.g i).toNat) (r.g i)==0
def kU(w:bG 5 Int)(a r:bG 6 Int):Int:=(fS (nA w a r) 6:Int)
theorem Pu(w:bG 5 Int)(a b:bG 6 Int)(ha:fD a=true):aw Tryz.prog 102 [enc w,enc a,enc b] (enc (kU w a b)):=by
 refine aw.bj Tryz.func102 Sl Ur WK (zz0 rfl) (fun hwf W0 D0 E1 =>?_);simp only[A8,L4,bg,zz3,Nat.reduceAdd];refine .aq (by decide +kernel) fun K hK =>?_;simp only[E9,U,simprocAttr];refine .done (hK _ ?_);clear hK K;refine .aq (by decide +kernel) fun K hK =>?_;simp only[Fa,U,simprocAttr];refine .done (hK _ ?_);clear hK K;refine J.seq (J.seq ?_);refine .bK (by decide +kernel) fun K hK =>?_;simp only[Fb,U,simprocAttr];refine .done (hK _ ?_);clear hK K;try simp only[au]
 refine J.block (J.loop (fun i:Nat=>ar [(3,.ptr 3 []),(4,.ptr 4 []),(5,.ptr 5 []),(7,.int .i64 (fS (nA w a b) i)),(8,.int .i64 i)] [(3,.box (enc w)),(4,.box (enc a)),(5,.box (enc b))]) (fun i=>i≤6) (fun i=>6-i) 0 (by omega) ?_ (fun i hi =>?_))
 ·simp only[fS];refine az.bL ?_ ?_ ?_ ?_ <;>simp[aO,bC,bx,aZ,al,aP,b8,I.only,ah.only,bh]
 ·have hc:=vU (nA w a b) i;refine J.seq (J.seq ?_);refine .bK (by decide +kernel) fun K hK =>?_;simp only[Fc,U,simprocAttr];refine .done (hK _ ?_);clear hK K;try simp only[au]
  refine J.bP ?_;simp only[ai,U,simprocAttr];refine ⟨fun h =>?_,fun h =>?_⟩
  ·have hlt:i<6:=by simp at h;omega
   have h1:=qf ha hlt;refine J.skip ?_;try simp only[au,simprocAttr]
   refine J.seq (J.block ?_);refine .aq (by decide +kernel) fun K hK =>?_;simp only[Fe,U,simprocAttr];have k1:(a.g i).toNat<5:=by omega
   try simp only[aX,kZ 1 a hlt rfl,jY a hlt,U,simprocAttr]
   try simp only[aX,pS 1 w h1 rfl,jY w k1,U,simprocAttr]
   try simp only[aX,kZ 1 b hlt rfl,jY b hlt,U,simprocAttr]
   refine .done (hK _ ?_);clear hK K;refine J.bP ?_;simp only[ai,U,simprocAttr];refine ⟨fun h =>?_,fun h =>?_⟩
   ·have hap:nA w a b i=true:=h;refine .bK (by decide +kernel) fun K hK =>?_;simp only[Ff,U,simprocAttr];refine .done (hK _ ?_);clear hK K;try simp only[au,bS]
    refine .bK (by decide +kernel) fun K hK =>?_;simp only[wI,U,simprocAttr];refine .done (hK _ ?_);clear hK K;try simp only[au]
    refine ⟨i+1,by omega,by omega,?_⟩;rw[cL _ (by omega) (by omega),cL _ (by omega) (by omega)];simp only[fS,hap,if_true];refine az.bL ?_ ?_ ?_ ?_ <;>simp[aO,bC,bx,aZ,al,aP,b8,I.only,ah.only,bh]
   ·have hap:nA w a b i=false:=h;refine J.skip ?_;try simp only[au,bS,simprocAttr]
    refine .bK (by decide +kernel) fun K hK =>?_;simp only[wI,U,simprocAttr];refine .done (hK _ ?_);clear hK K;try simp only[au]
    refine ⟨i+1,by omega,by omega,?_⟩;rw[cL _ (by omega) (by omega)];simp only[fS,hap,zz8,if_false];refine az.bL ?_ ?_ ?_ ?_ <;>simp[aO,bC,bx,aZ,al,aP,b8,I.only,ah.only,bh]
  ·have hge:i=6:=by simp at h;omega
   subst hge;refine J.exit ?_;try simp only[au,bS,simprocAttr]
   refine .aq (by decide +kernel) fun K hK =>?_;simp only[Fg,U,simprocAttr];refine .done (hK _ ?_);clear hK K;refine J.ret ?_;simp only[U,simprocAttr];rfl
def kF(r:bG 6 Int):Bool:=(List.range 6).all fun i=>b9 1 31 (r.g i)
theorem zX(m:bG 6 Int):aw Tryz.prog 101 [enc m] (enc (if kF m then (0:Int) else 12)):=Pt m
theorem qa:I.slice 1 []=enc ([]:List Int):=rfl
def Po:bG 6 Int:=⟨List.replicate 6 0,rfl⟩
instance:ox cE:=⟨fun g=>by
 show (I.agg [.int .i64 g.bX,enc g.mark]).c7=true
 simp only[I.c7,I.jq,Ec,zw4]⟩
def gE:cE:=⟨0,Po⟩
theorem wg:I.agg [.int .i64 0,.agg [.int .i64 0,.int .i64 0,.int .i64 0,.int .i64 0,.int .i64 0,.int .i64 0]]=enc gE:=rfl
theorem mS(p:Nat→Bool)(l:List cE):(I.agg (l.map enc)).only p=true:=by simp only[I.only];exact dn p l
theorem amk(l:List cE):(I.agg (l.map enc)).c7=true:=by simp only[I.c7];exact tF l
def iW(k:Nat)(l:List cE)(m:Nat):List (Nat×ah):=[(k,.box (.agg ((l++List.replicate m gE).map enc)))]
def vS(l:List cE):cR:=fun r os'=>(l=[]∧(r=.nils 7∨r=.c0 7)∧os'=[])∨(l≠[]∧∃ m,r=.view 7 [] 7 0 l.length∧os'=iW 7 l m)
theorem Ai(l:List cE)(hl:l.length≤1000):cG Tryz.prog 167 [enc l] [] (vS l):=by
 refine cG.bj Tryz.func167 Tf Vk XF (zz0 rfl) (zz0 rfl) (fun m hm=>by simp[al,ak] at hm) (fun hwf W0 D0 E1 =>?_);simp only[B3,MX,bg];refine .aq (by decide +kernel) fun K hK =>?_;simp only[HS,U,simprocAttr];refine .done (hK _ ?_);clear hK K;refine J.seq (J.seq ?_);by_cases hn:l=[]
 ·subst hn;refine .bK (by decide +kernel) fun K hK =>?_;simp only[xg,U,simprocAttr];simp only[uS,List.isEmpty_nil,qb];refine .any rfl fun b _ =>?_
  try simp only[U,simprocAttr]
  generalize (b==0)=t;cases t
  ·refine .done (hK _ ?_);clear hK K;try simp only[au]
   refine J.bP ?_;simp only[ai,U,simprocAttr];refine ⟨fun h =>?_,fun h =>?_⟩
   ·cases h
   refine J.skip ?_;try simp only[au,simprocAttr]
   refine .aq (by decide +kernel) fun K hK =>?_;simp only[xh,U,simprocAttr]
   try simp only[cK,wg,U,simprocAttr]
   refine .done (hK _ ?_);clear hK K;refine J.ret ?_;simp only[eX];exact ⟨[],[.c0 7],pQ,⟨⟨.c0 7,rfl,.inl ⟨rfl,rfl,rfl⟩⟩,trivial⟩,.inl ⟨rfl,.inr rfl,rfl⟩⟩
  ·refine .done (hK _ ?_);clear hK K;refine J.bP ?_;simp only[ai,U,simprocAttr];refine ⟨fun h =>?_,fun h =>?_⟩
   ·refine .aq (by decide +kernel) fun K hK =>?_;simp only[HT,U,simprocAttr];refine .done (hK _ ?_);clear hK K;refine J.ret ?_;simp only[au,eX];exact ⟨[],[.nils 7],pQ,⟨⟨.nils 7,rfl,.inl ⟨rfl,rfl,rfl⟩⟩,trivial⟩,.inl ⟨rfl,.inl rfl,rfl⟩⟩
   ·cases h
 ·have hu:kl (enc l)=false:=by rw[uS];simpa using hn
  refine .bK (by decide +kernel) fun K hK =>?_;simp only[xg,U,simprocAttr]
  try simp only[hu,Lh _ l hn,U,simprocAttr]
  refine .done (hK _ ?_);clear hK K;try simp only[au]
  refine J.bP ?_;simp only[ai,U,simprocAttr];refine ⟨fun h =>?_,fun h =>?_⟩
  ·cases h
  refine J.skip ?_;try simp only[au,simprocAttr]
  refine .aq (by decide +kernel) fun K hK =>?_;simp only[xh,U,simprocAttr]
  try simp only[cK,wg,U,simprocAttr]
  refine br.oz gE rfl hn rfl (by omega) (by simp only[maxLen];omega) fun m =>?_
  try simp only[U,simprocAttr]
  refine .done (hK _ ?_);clear hK K;refine J.ret ?_;simp only[eX];exact ⟨iW 7 l m,[.view 7 [] 7 0 l.length],jK rfl (fun p=>mS p _),⟨⟨_,rfl,.inl ⟨rfl,rfl,rfl⟩⟩,trivial⟩,.inr ⟨hn,m,rfl,rfl⟩⟩
structure Item where
 eS:Int
 no:Int
 deriving DecidableEq
instance:Enc Item where
 enc x:=.agg [.int .i64 x.eS,.int .i64 x.no]
 sz:=2
 aU:=.ej [.one,.one]
 gb:=true
 done _:=rfl
 size _:=by simp[I.size,I.sizes]
 jT _:=by simp[I.aU,I.cX]
 agg _:=rfl
structure ao where
 cm:Item
 kind:Int
 day:Int
 known:Int
 db:Int
 dY:Int
 eJ:Int
 bX:Int
 bH:bG 6 Int
 iu:Item
instance:Enc ao where
 enc e:=.agg [enc e.cm,.int .i64 e.kind,.int .i64 e.day,.int .i64 e.known,.int .i64 e.db,.int .i64 e.dY,.int .i64 e.eJ,.int .i64 e.bX,enc e.bH,enc e.iu]
 sz:=17
 aU:=.ej [.ej [.one,.one],.one,.one,.one,.one,.one,.one,.one,.ej (List.replicate 6 .one),.ej [.one,.one]]
 gb:=true
 done e:=by simp only[I.done,I.eI,Enc.done,zw4]
 size e:=by simp only[I.size,I.sizes,iD,mJ,mK];rfl
 jT e:=by simp only[I.aU,I.cX,eL,wi,wj];rfl
 agg _:=rfl
structure aH where
 no:Int
 eJ:Int
 dY:Int
 bX:Int
 jH:Int
 born:Int
 dH:Int
 found:Bool
 bH:List (bG 6 Int)
instance:Enc aH where
 enc b:=.agg [.int .i64 b.no,.int .i64 b.eJ,.int .i64 b.dY,.int .i64 b.bX,.int .i64 b.jH,.int .i64 b.born,.int .i64 b.dH,.bool b.found,enc b.bH]
 sz:=9
 aU:=.ej [.one,.one,.one,.one,.one,.one,.one,.one,.one]
 gb:=true
 done e:=by simp only[I.done,I.eI,Enc.done,zw4]
 size e:=by simp only[I.size,I.sizes,iD,qS]
 jT e:=by simp only[I.aU,I.cX,eL,Ed]
 agg _:=rfl
theorem qR:Enc.sz Item=2:=rfl
theorem aam:Enc.sz ao=17:=rfl
theorem Ee:Enc.sz aH=9:=rfl
theorem aak:Enc.gb Item=true:=rfl
theorem aaj:Enc.gb ao=true:=rfl
theorem aai:Enc.gb aH=true:=rfl
theorem alP(fs:List I)(x:I):(x::fs)[0]?=some x:=rfl
theorem alZ(fs:List I)(x:I)(n:Nat):(x::fs)[n+1]?=fs[n]?:=rfl
theorem alQ(fs:List I)(x:I):(x::fs)[1]?=fs[0]?:=rfl
theorem alR(fs:List I)(x:I):(x::fs)[2]?=fs[1]?:=rfl
theorem alS(fs:List I)(x:I):(x::fs)[3]?=fs[2]?:=rfl
theorem alT(fs:List I)(x:I):(x::fs)[4]?=fs[3]?:=rfl
theorem alU(fs:List I)(x:I):(x::fs)[5]?=fs[4]?:=rfl
theorem alV(fs:List I)(x:I):(x::fs)[6]?=fs[5]?:=rfl
theorem alW(fs:List I)(x:I):(x::fs)[7]?=fs[6]?:=rfl
theorem alX(fs:List I)(x:I):(x::fs)[8]?=fs[7]?:=rfl
theorem alY(fs:List I)(x:I):(x::fs)[9]?=fs[8]?:=rfl
theorem anw(x:I)(fs:List I)(v:I):dM (x::fs) 0 0 v=some v:=ma (by simp) (by simp[I.sizes])
theorem n8(a b:Item)(n1 n2 n3 n4 n5 n6 n7:Int)(s:bG 6 Int)(v:I) :
  (dM [enc a,.int .i64 n1,.int .i64 n2,.int .i64 n3,.int .i64 n4,.int .i64 n5,.int .i64 n6,.int .i64 n7,enc s,enc b] 1 2 v=some v) ∧
  (dM [enc a,.int .i64 n1,.int .i64 n2,.int .i64 n3,.int .i64 n4,.int .i64 n5,.int .i64 n6,.int .i64 n7,enc s,enc b] 2 3 v=some v) ∧
  (dM [enc a,.int .i64 n1,.int .i64 n2,.int .i64 n3,.int .i64 n4,.int .i64 n5,.int .i64 n6,.int .i64 n7,enc s,enc b] 3 4 v=some v) ∧
  (dM [enc a,.int .i64 n1,.int .i64 n2,.int .i64 n3,.int .i64 n4,.int .i64 n5,.int .i64 n6,.int .i64 n7,enc s,enc b] 4 5 v=some v) ∧
  (dM [enc a,.int .i64 n1,.int .i64 n2,.int .i64 n3,.int .i64 n4,.int .i64 n5,.int .i64 n6,.int .i64 n7,enc s,enc b] 5 6 v=some v) ∧
  (dM [enc a,.int .i64 n1,.int .i64 n2,.int .i64 n3,.int .i64 n4,.int .i64 n5,.int .i64 n6,.int .i64 n7,enc s,enc b] 6 7 v=some v) ∧
  (dM [enc a,.int .i64 n1,.int .i64 n2,.int .i64 n3,.int .i64 n4,.int .i64 n5,.int .i64 n6,.int .i64 n7,enc s,enc b] 7 8 v=some v) ∧
  (dM [enc a,.int .i64 n1,.int .i64 n2,.int .i64 n3,.int .i64 n4,.int .i64 n5,.int .i64 n6,.int .i64 n7,enc s,enc b] 8 9 v=some v) ∧
  (dM [enc a,.int .i64 n1,.int .i64 n2,.int .i64 n3,.int .i64 n4,.int .i64 n5,.int .i64 n6,.int .i64 n7,enc s,enc b] 9 15 v=some v):=by
 refine ⟨?_,?_,?_,?_,?_,?_,?_,?_,?_⟩ <;>refine ma (zz0 rfl) ?_ <;>simp[I.sizes,I.size,iD,qR,mJ,mK]
theorem anu(n1 n2:Int)(v:I):dM [.int .i64 n1,.int .i64 n2] 1 1 v=some v:=ma (zz0 rfl) (by simp[I.sizes,I.size])
theorem fU(n0 n1 n2 n3 n4 n5 n6:Int)(f:Bool)(x:I)(v:I) :
  (dM [.int .i64 n0,.int .i64 n1,.int .i64 n2,.int .i64 n3,.int .i64 n4,.int .i64 n5,.int .i64 n6,.bool f,x] 1 1 v=some v) ∧
  (dM [.int .i64 n0,.int .i64 n1,.int .i64 n2,.int .i64 n3,.int .i64 n4,.int .i64 n5,.int .i64 n6,.bool f,x] 2 2 v=some v) ∧
  (dM [.int .i64 n0,.int .i64 n1,.int .i64 n2,.int .i64 n3,.int .i64 n4,.int .i64 n5,.int .i64 n6,.bool f,x] 3 3 v=some v) ∧
  (dM [.int .i64 n0,.int .i64 n1,.int .i64 n2,.int .i64 n3,.int .i64 n4,.int .i64 n5,.int .i64 n6,.bool f,x] 4 4 v=some v) ∧
  (dM [.int .i64 n0,.int .i64 n1,.int .i64 n2,.int .i64 n3,.int .i64 n4,.int .i64 n5,.int .i64 n6,.bool f,x] 5 5 v=some v) ∧
  (dM [.int .i64 n0,.int .i64 n1,.int .i64 n2,.int .i64 n3,.int .i64 n4,.int .i64 n5,.int .i64 n6,.bool f,x] 6 6 v=some v) ∧
  (dM [.int .i64 n0,.int .i64 n1,.int .i64 n2,.int .i64 n3,.int .i64 n4,.int .i64 n5,.int .i64 n6,.bool f,x] 7 7 v=some v) ∧
  (dM [.int .i64 n0,.int .i64 n1,.int .i64 n2,.int .i64 n3,.int .i64 n4,.int .i64 n5,.int .i64 n6,.bool f,x] 8 8 v=some v):=by
 refine ⟨?_,?_,?_,?_,?_,?_,?_,?_⟩ <;>refine ma (zz0 rfl) ?_ <;>simp[I.sizes,I.size]
theorem aaE(x:Item):(enc x).du=some [.int .i64 x.eS,.int .i64 x.no]:=rfl
theorem aaD(e:ao):(enc e).du=some [enc e.cm,.int .i64 e.kind,.int .i64 e.day,.int .i64 e.known,.int .i64 e.db,.int .i64 e.dY,.int .i64 e.eJ,.int .i64 e.bX,enc e.bH,enc e.iu]:=rfl
theorem aaC(b:aH):(enc b).du=some [.int .i64 b.no,.int .i64 b.eJ,.int .i64 b.dY,.int .i64 b.bX,.int .i64 b.jH,.int .i64 b.born,.int .i64 b.dH,.bool b.found,enc b.bH]:=rfl
theorem Lv(x:Item):ca (some 2) (enc x)=true:=by simp[gq,aak,qR]
theorem Lu(x:ao):ca (some 17) (enc x)=true:=by simp[gq,aaj,aam]
theorem anF(x:aH):ca (some 9) (enc x)=true:=by simp[gq,aai,Ee]
theorem Lt(x:bG 6 Int):ca (some 6) (enc x)=true:=by simp[gq,wh,mJ,mK]
theorem anG(x:List ao):ca none (enc x)=true:=by simp[kW,nF]
theorem anH(x:List Int):ca none (enc x)=true:=by simp[kW,nF]
theorem anJ(x:List (bG 6 Int)):ca none (enc x)=true:=by simp[kW,nF]
theorem anI(x:List Item):ca none (enc x)=true:=by simp[kW,nF]
theorem lz :
  (∀ x:Item,(enc x).du=some [.int .i64 x.eS,.int .i64 x.no])∧(∀ e:ao,(enc e).du=some [enc e.cm,.int .i64 e.kind,.int .i64 e.day,.int .i64 e.known,.int .i64 e.db,.int .i64 e.dY,.int .i64 e.eJ,.int .i64 e.bX,enc e.bH,enc e.iu]) ∧
  (∀ b:aH,(enc b).du=some [.int .i64 b.no,.int .i64 b.eJ,.int .i64 b.dY,.int .i64 b.bX,.int .i64 b.jH,.int .i64 b.born,.int .i64 b.dH,.bool b.found,enc b.bH]) ∧
  (∀ (x:I) fs v,dM (x::fs) 0 0 v=some v)∧(∀ n1 n2 v,dM [.int .i64 n1,.int .i64 n2] 1 1 v=some v) ∧
  (∀ x:Item,ca (some 2) (enc x)=true)∧(∀ x:ao,ca (some 17) (enc x)=true)∧(∀ x:aH,ca (some 9) (enc x)=true)∧(∀ x:bG 6 Int,ca (some 6) (enc x)=true)∧(∀ x:List ao,ca none (enc x)=true)∧(∀ x:List Int,ca none (enc x)=true) ∧
  (∀ x:List (bG 6 Int),ca none (enc x)=true)∧(∀ x:List Item,ca none (enc x)=true) ∧
  (∀ (fs:List I) x,(x::fs)[0]?=some x)∧(∀ (fs:List I) x n,(x::fs)[n+1]?=fs[n]?)∧(∀ (fs:List I) x,(x::fs)[1]?=fs[0]?)∧(∀ (fs:List I) x,(x::fs)[2]?=fs[1]?)∧(∀ (fs:List I) x,(x::fs)[3]?=fs[2]?)∧(∀ (fs:List I) x,(x::fs)[4]?=fs[3]?) ∧
  (∀ (fs:List I) x,(x::fs)[5]?=fs[4]?)∧(∀ (fs:List I) x,(x::fs)[6]?=fs[5]?)∧(∀ (fs:List I) x,(x::fs)[7]?=fs[6]?)∧(∀ (fs:List I) x,(x::fs)[8]?=fs[7]?)∧(∀ (fs:List I) x,(x::fs)[9]?=fs[8]?) :=
 ⟨aaE,aaD,aaC,fun x fs v=>anw x fs v,anu,Lv,Lu,anF,Lt,anG,anH,anJ,anI,alP,alZ,alQ,alR,alS,alT,alU,alV,alW,alX,alY⟩
theorem Item.Er(a b:Item):a=b↔a.eS=b.eS∧a.no=b.no:=by cases a;cases b;simp
theorem qT(x y:Item):cn (.bA [.i .i64,.i .i64]) (enc x) (enc y)=some (decide (x=y)):=by
 show cn (.bA [.i .i64,.i .i64]) (.agg [.int .i64 x.eS,.int .i64 x.no]) (.agg [.int .i64 y.eS,.int .i64 y.no])=_
 simp[cn,jf,iM,Item.Er];rfl
theorem Aj(x:Int):aw Tryz.prog 194 [enc x] (enc false):=by
 refine aw.bj Tryz.func194 Ts Vy XT (zz0 rfl) (fun hwf W0 D0 E1 =>?_);simp only[Ch,Nc,bg];refine .aq (by decide +kernel) fun K hK =>?_;simp only[Ig,U,simprocAttr];refine .done (hK _ ?_);clear hK K;refine .aq (by decide +kernel) fun K hK =>?_;simp only[Ih,U,simprocAttr];refine .done (hK _ ?_);clear hK K;refine J.ret ?_;simp only[U,simprocAttr];simp
def jI(x y:Int):Int:=if x<y then -1 else if y<x then 1 else 0
theorem Ag(x y:Int):aw Tryz.prog 159 [enc x,enc y] (enc (jI x y)):=by
 refine aw.bj Tryz.func159 S6 Vb Xw (zz0 rfl) (fun hwf W0 D0 E1 =>?_);simp only[BS,MO,bg,zz3];refine .aq (by decide +kernel) fun K hK =>?_;simp only[Hm,U,simprocAttr];refine .done (hK _ ?_);clear hK K;refine .aq (by decide +kernel) fun K hK =>?_;simp only[Hn,U,simprocAttr];refine .flat _ (Aj x) rfl ?_
 try simp only[U,simprocAttr]
 refine .done (hK _ ?_);clear hK K;refine .aq (by decide +kernel) fun K hK =>?_;simp only[Hs,U,simprocAttr];refine .flat _ (Aj y) rfl ?_
 try simp only[U,simprocAttr]
 refine .done (hK _ ?_);clear hK K;refine J.seq ?_;refine .aq (by decide +kernel) fun K hK =>?_;simp only[Ht,U,simprocAttr];refine .done (hK _ ?_);clear hK K;refine J.bP ?_;simp only[ai,U,simprocAttr];refine ⟨fun h =>?_,fun h =>?_⟩
 ·cases h
 refine J.skip ?_;try simp only[au,simprocAttr]
 refine J.seq ?_;refine .aq (by decide +kernel) fun K hK =>?_;simp only[Hu,U,simprocAttr];refine .done (hK _ ?_);clear hK K;refine J.bP ?_;simp only[ai,U,simprocAttr];refine ⟨fun h =>?_,fun h =>?_⟩
 ·cases h
 refine J.skip ?_;try simp only[au,simprocAttr]
 refine J.seq ?_;refine .aq (by decide +kernel) fun K hK =>?_;simp only[Hv,U,simprocAttr];refine .done (hK _ ?_);clear hK K;refine J.bP ?_;simp only[ai,U,simprocAttr];refine ⟨fun h =>?_,fun h =>?_⟩
 ·refine .aq (by decide +kernel) fun K hK =>?_;simp only[Ho,U,simprocAttr];refine .done (hK _ ?_);clear hK K;refine J.ret ?_;simp only[au,U,simprocAttr];have:x<y:=by simpa using h
  simp[jI,this]
 have h1:¬ x<y:=by simpa using h
 refine J.skip ?_;try simp only[au,simprocAttr]
 refine J.seq ?_;refine .aq (by decide +kernel) fun K hK =>?_;simp only[Hp,U,simprocAttr];refine .done (hK _ ?_);clear hK K;refine J.bP ?_;simp only[ai,U,simprocAttr];refine ⟨fun h =>?_,fun h =>?_⟩
 ·refine .aq (by decide +kernel) fun K hK =>?_;simp only[Hq,U,simprocAttr];refine .done (hK _ ?_);clear hK K;refine J.ret ?_;simp only[au,U,simprocAttr];have:y<x:=by simpa using h
  simp[jI,this,h1]
 have h2:¬ y<x:=by simpa using h
 refine J.skip ?_;try simp only[au,simprocAttr]
 refine .aq (by decide +kernel) fun K hK =>?_;simp only[Hr,U,simprocAttr];refine .done (hK _ ?_);clear hK K;refine J.ret ?_;simp only[U,simprocAttr];simp[jI,h1,h2]
theorem AZ(a b:Int):eP [.int .i64 0,.int .i64 0] [(0,.int .i64 a),(1,.int .i64 b)]=some [.int .i64 a,.int .i64 b]:=by simp[eP,I.cu,I.size]
theorem mA(n lo hi:Int):aw Tryz.prog 114 [enc n,enc lo,enc hi] (enc (b9 lo hi n)):=by
 refine aw.bj Tryz.func114 Su Uy WS (zz0 rfl) (fun hwf W0 D0 E1 =>?_);simp only[Bf,Mb,bg,zz3,Nat.reduceAdd];refine .aq (by decide +kernel) fun K hK =>?_;simp only[Fz,U,simprocAttr];refine .done (hK _ ?_);clear hK K;refine .aq (by decide +kernel) fun K hK =>?_;simp only[FA,U,simprocAttr];refine .guard (fun h =>?_) (fun h =>?_)
 ·simp only[U,simprocAttr,h];refine .done (hK _ ?_);clear hK K;refine J.ret ?_;simp only[U,simprocAttr]
  simp_all[b9]
 ·simp only[U,simprocAttr,h];refine .done (hK _ ?_);clear hK K;refine J.ret ?_;simp only[U,simprocAttr];simp at h;simp[b9];omega
theorem ou(n lo hi:Int):aw Tryz.prog 94 [enc n,enc lo,enc hi] (enc (b9 lo hi n)):=qF n lo hi
def mR(x:Item):Bool:=b9 0 5 x.eS&&b9 0 9999 x.no
theorem u6(n:Int):aw Tryz.prog 127 [enc n] (enc (b9 0 100000 n)):=by
 refine aw.bj Tryz.func127 SH UL W7 (zz0 rfl) (fun hwf W0 D0 E1 =>?_);simp only[Bt,Mo,bg];refine .aq (by decide +kernel) fun K hK =>?_;simp only[F5,U,simprocAttr];refine .done (hK _ ?_);clear hK K;refine .aq (by decide +kernel) fun K hK =>?_;simp only[F6,U,simprocAttr];refine .flat _ (mA n 0 100000) rfl ?_
 try simp only[U,simprocAttr]
 refine .done (hK _ ?_);clear hK K;refine J.ret ?_;simp only[U,simprocAttr]
theorem P4(n:Int):aw Tryz.prog 154 [enc n] (enc (b9 1 9999 n)):=by
 refine aw.bj Tryz.func154 S1 U6 Xr (zz0 rfl) (fun hwf W0 D0 E1 =>?_);simp only[BN,MI,bg];refine .aq (by decide +kernel) fun K hK =>?_;simp only[G3,U,simprocAttr];refine .done (hK _ ?_);clear hK K;refine .aq (by decide +kernel) fun K hK =>?_;simp only[G4,U,simprocAttr];refine .flat _ (mA n 1 9999) rfl ?_
 try simp only[U,simprocAttr]
 refine .done (hK _ ?_);clear hK K;refine J.ret ?_;simp only[U,simprocAttr]
theorem P5(n:Int):aw Tryz.prog 155 [enc n] (enc (b9 1 9 n)):=by
 refine aw.bj Tryz.func155 S2 U7 Xs (zz0 rfl) (fun hwf W0 D0 E1 =>?_);simp only[BO,MJ,bg];refine .aq (by decide +kernel) fun K hK =>?_;simp only[G5,U,simprocAttr];refine .done (hK _ ?_);clear hK K;refine .aq (by decide +kernel) fun K hK =>?_;simp only[G6,U,simprocAttr];refine .flat _ (mA n 1 9) rfl ?_
 try simp only[U,simprocAttr]
 refine .done (hK _ ?_);clear hK K;refine J.ret ?_;simp only[U,simprocAttr]
theorem P6(n:Int):aw Tryz.prog 156 [enc n] (enc (b9 1 99 n)):=by
 refine aw.bj Tryz.func156 S3 U8 Xt (zz0 rfl) (fun hwf W0 D0 E1 =>?_);simp only[BP,MK,bg];refine .aq (by decide +kernel) fun K hK =>?_;simp only[G7,U,simprocAttr];refine .done (hK _ ?_);clear hK K;refine .aq (by decide +kernel) fun K hK =>?_;simp only[G8,U,simprocAttr];refine .flat _ (mA n 1 99) rfl ?_
 try simp only[U,simprocAttr]
 refine .done (hK _ ?_);clear hK K;refine J.ret ?_;simp only[U,simprocAttr]
theorem ph(n:Int):aw Tryz.prog 75 [enc n] (enc (b9 0 100000 n)):=by
 refine aw.bj Tryz.func75 T3 V7 Ys (zz0 rfl) (fun hwf W0 D0 E1 =>?_);simp only[CQ,NP,bg];refine .aq (by decide +kernel) fun K hK =>?_;simp only[JY,U,simprocAttr];refine .done (hK _ ?_);clear hK K;refine .aq (by decide +kernel) fun K hK =>?_;simp only[JZ,U,simprocAttr];refine .flat _ (ou n 0 100000) rfl ?_
 try simp only[U,simprocAttr]
 refine .done (hK _ ?_);clear hK K;refine J.ret ?_;simp only[U,simprocAttr]
theorem z6(x:Item):aw Tryz.prog 115 [enc x] (enc (mR x)):=by
 refine aw.bj Tryz.func115 Sv Uz WT (zz0 rfl) (fun hwf W0 D0 E1 =>?_);simp only[Bg,Mc,bg];refine .aq (by decide +kernel) fun K hK =>?_;simp only[FB,U,simprocAttr]
 try simp only[dO,U,simprocAttr]
 refine .done (hK _ ?_);clear hK K;refine .aq (by decide +kernel) fun K hK =>?_;simp only[FC,U,simprocAttr]
 try simp only[lz,U,simprocAttr]
 refine .flat _ (mA x.eS 0 5) rfl ?_
 try simp only[U,simprocAttr]
 cases h1:b9 0 5 x.eS with
 |false =>
  try simp only[U,simprocAttr]
  refine .done (hK _ ?_);clear hK K;refine J.ret ?_;simp only[U,simprocAttr];simp[mR,h1]
 |true =>
  try simp only[lz,U,simprocAttr]
  refine .flat _ (mA x.no 0 9999) rfl ?_
  try simp only[U,simprocAttr]
  refine .done (hK _ ?_);clear hK K;refine J.ret ?_;simp only[U,simprocAttr];simp[mR,h1]
theorem z7(x:Item):aw Tryz.prog 116 [enc x] (enc (mR x)):=by
 refine aw.bj Tryz.func116 Sw UA WU (zz0 rfl) (fun hwf W0 D0 E1 =>?_);simp only[Bh,Md,bg];refine .aq (by decide +kernel) fun K hK =>?_;simp only[FD,U,simprocAttr]
 try simp only[dO,U,simprocAttr]
 refine .done (hK _ ?_);clear hK K;refine .aq (by decide +kernel) fun K hK =>?_;simp only[FE,U,simprocAttr]
 try simp only[lz,U,simprocAttr]
 refine .flat _ (ou x.eS 0 5) rfl ?_
 try simp only[U,simprocAttr]
 cases h1:b9 0 5 x.eS with
 |false =>
  try simp only[U,simprocAttr]
  refine .done (hK _ ?_);clear hK K;refine J.ret ?_;simp only[U,simprocAttr];simp[mR,h1]
 |true =>
  try simp only[lz,U,simprocAttr]
  refine .flat _ (ou x.no 0 9999) rfl ?_
  try simp only[U,simprocAttr]
  refine .done (hK _ ?_);clear hK K;refine J.ret ?_;simp only[U,simprocAttr];simp[mR,h1]
def before(a b:Item):Bool:=decide (a.eS<b.eS)||(decide (a.eS=b.eS)&&decide (a.no<b.no))
theorem z8(a b:Item):aw Tryz.prog 119 [enc a,enc b] (enc (before a b)):=by
 refine aw.bj Tryz.func119 Sz UD WX (zz0 rfl) (fun hwf W0 D0 E1 =>?_);simp only[Bk,Mg,bg,zz3];refine .aq (by decide +kernel) fun K hK =>?_;simp only[FK,U,simprocAttr]
 try simp only[dO,U,simprocAttr]
 refine .done (hK _ ?_);clear hK K;refine .aq (by decide +kernel) fun K hK =>?_;simp only[FL,U,simprocAttr]
 try simp only[lz,U,simprocAttr]
 cases h1:decide (a.eS<b.eS) with
 |true =>
  try simp only[U,simprocAttr]
  refine .done (hK _ ?_);clear hK K;refine J.ret ?_;simp only[U,simprocAttr];simp[before,h1]
 |false =>
  try simp only[lz,U,simprocAttr]
  cases h2:(a.eS==b.eS) with
  |false =>
   try simp only[U,simprocAttr]
   refine .done (hK _ ?_);clear hK K;refine J.ret ?_;simp only[U,simprocAttr];simp at h1 h2;simp[before];omega
  |true =>
   try simp only[lz,U,simprocAttr]
   refine .done (hK _ ?_);clear hK K;refine J.ret ?_;simp only[U,simprocAttr];simp at h1 h2;simp[before,h2]
def me:List Int→Int
 | []=>0
 |x::l=>if x≠0 then x else me l
theorem LL{l:List Int}{i:Nat}(hi:i≤l.length)(h:∀ k,k<i→l.getD k 0=0):me (l.drop i)=me l:=by
 induction i with
 |zero=>simp
 |succ i ih =>
  have hlt:i<l.length:=by omega
  rw[←ih (by omega) (fun k hk=>h k (by omega)),zv4 hlt];have:=h i (by omega);rw[zz2,zy1 hlt] at this;simp at this;simp[me,this]
theorem P7(l:List Int):aw Tryz.prog 158 [enc l] (enc (me l)):=by
 refine aw.bj Tryz.func158 S5 Va Xv (zz0 rfl) (fun hwf W0 D0 E1 =>?_);simp only[BR,MN,bg];have hlen:l.length≤maxLen:=((kL l).1 hwf.1).1;simp only[maxLen] at hlen;refine .aq (by decide +kernel) fun K hK =>?_;simp only[Hd,U,simprocAttr];refine .done (hK _ ?_);clear hK K;refine .aq (by decide +kernel) fun K hK =>?_;simp only[He,U,simprocAttr];refine .done (hK _ ?_);clear hK K;refine J.seq (J.seq ?_);refine .bK (by decide +kernel) fun K hK =>?_;simp only[Hf,U,simprocAttr]
 try simp only[aX,U,simprocAttr]
 refine .done (hK _ ?_);clear hK K;try simp only[au]
 refine J.block (J.loop (fun i:Nat=>ar [(3,.int .i64 0),(6,enc l),(7,.int .i64 l.length),(8,.int .i64 i)] []) (fun i=>i≤l.length∧∀ k,k<i→l.getD k 0=0) (fun i=>l.length-i) 0 ⟨zw8 _,by intro k hk;omega⟩ ?_ (fun i hi =>?_))
 ·refine az.bL ?_ ?_ ?_ ?_ <;>simp[aO,bC,bx,aZ,aP,I.only,bh]
 refine .aq (by decide +kernel) fun K hK =>?_;simp only[Hg,U,simprocAttr];refine .done (hK _ ?_);clear hK K;refine J.seq ?_;refine J.bP ?_;simp only[ai,U,simprocAttr];refine ⟨fun h =>?_,fun h =>?_⟩
 ·have hlt:i<l.length:=by simpa using h
  refine J.skip ?_;try simp only[au,simprocAttr]
  refine J.seq (J.block ?_);refine .aq (by decide +kernel) fun K hK =>?_;simp only[Hh,U,simprocAttr]
  try simp only[eh 1 hlt rfl,U,simprocAttr]
  refine .done (hK _ ?_);clear hK K;refine J.seq ?_;refine .bK (by decide +kernel) fun K hK =>?_;simp only[Hi,U,simprocAttr];refine .done (hK _ ?_);clear hK K;try simp only[au]
  refine J.bP ?_;simp only[ai,U,simprocAttr];refine ⟨fun h =>?_,fun h =>?_⟩
  ·refine .aq (by decide +kernel) fun K hK =>?_;simp only[Hj,U,simprocAttr];refine .done (hK _ ?_);clear hK K;refine J.ret ?_;simp only[bS,au,U,simprocAttr];rw[←LL hi.1 hi.2,zv4 hlt];simp at h;simp[me,h]
  ·refine J.skip ?_;try simp only[au,bS,simprocAttr]
   refine .bK (by decide +kernel) fun K hK =>?_;simp only[Hk,U,simprocAttr];refine .done (hK _ ?_);clear hK K;try simp only[au]
   refine ⟨i+1,⟨by omega,fun k hk =>?_⟩,by omega,?_⟩
   ·by_cases e:k=i
    ·subst e;simp at h;simp[zz2,hlt,h]
    ·exact hi.2 k (by omega)
   ·rw[cL _ (by omega) (by omega)];refine az.bL ?_ ?_ ?_ ?_ <;>simp[aO,bC,bx,aZ,aP,I.only,bh]
 have hie:i=l.length:=by simp at h;omega
 refine J.exit ?_;try simp only[au,bS,simprocAttr]
 refine .aq (by decide +kernel) fun K hK =>?_;simp only[Hl,U,simprocAttr];refine .done (hK _ ?_);clear hK K;refine J.ret ?_;simp only[U,simprocAttr];rw[←LL hi.1 hi.2,hie];simp[me]
def lL(a b:Item):Int:=me [jI a.eS b.eS,jI a.no b.no]
theorem u4(a b:Item):aw Tryz.prog 118 [enc a,enc b] (enc (lL a b)):=by
 refine aw.bj Tryz.func118 Sy UC WW (zz0 rfl) (fun hwf W0 D0 E1 =>?_);simp only[Bj,Mf,bg,zz3];refine .aq (by decide +kernel) fun K hK =>?_;simp only[FI,U,simprocAttr]
 try simp only[dO,U,simprocAttr]
 refine .done (hK _ ?_);clear hK K;refine .aq (by decide +kernel) fun K hK =>?_;simp only[FJ,U,simprocAttr]
 try simp only[lz,U,simprocAttr]
 refine .flat _ (Ag a.eS b.eS) rfl ?_
 try simp only[lz,U,simprocAttr]
 refine .flat _ (Ag a.no b.no) rfl ?_
 try simp only[U,simprocAttr]
 have hb:iC 1 (some [.int .i64 (jI a.eS b.eS),.int .i64 (jI a.no b.no)])=some (enc [jI a.eS b.eS,jI a.no b.no]):=mF (ys:=[jI a.eS b.eS,jI a.no b.no]) 1 rfl
 try simp only[hb,ev,U,simprocAttr]
 refine .flat _ (P7 _) rfl ?_
 try simp only[U,simprocAttr]
 refine .done (hK _ ?_);clear hK K;refine J.ret ?_;simp only[U,simprocAttr];rfl
deriving instance DecidableEq for bG
deriving instance DecidableEq for ao
deriving instance DecidableEq for aH
def iJ:bG 6 Int:=⟨List.replicate 6 0,rfl⟩
instance:Inhabited ao:=⟨⟨⟨0,0⟩,0,0,0,0,0,0,0,iJ,⟨0,0⟩⟩⟩
instance:Inhabited aH:=⟨⟨0,0,0,0,0,0,0,false,[]⟩⟩
def mE(x:ao):ao where
 cm:=x.cm
 kind:=x.kind
 day:=x.day
 known:=x.known
 db:=if x.kind=0 then 0 else x.db
 dY:=if x.kind=1 then x.dY else 0
 eJ:=if x.kind=1∨x.kind=2 then x.eJ else 0
 bX:=if x.kind=1∨x.kind=3∨x.kind=5 then x.bX else 0
 bH:=if x.kind=4 then x.bH else iJ
 iu:=if x.kind=0 then x.iu else ⟨0,0⟩
def ky(x:ao):Bool :=
 if x.kind=0 then (x.day==0)&&(mR x.iu&&((x.iu.eS==x.cm.eS)&&decide (x.iu.no<x.cm.no)))
 else b9 1 9999 x.db&&(
  if x.kind=1 then b9 1 9 x.eJ&&(b9 1 99 x.bX&&(b9 0 9999 x.dY&&(x.dY != x.db)))
  else if x.kind=2 then b9 1 9 x.eJ
  else if x.kind=3∨x.kind=5 then b9 1 99 x.bX
  else if x.kind=4 then kF x.bH
  else decide (x.kind=6))
def iv(x:ao):Bool:=ky x&&(decide (x=mE x)&&(mR x.cm&&(b9 0 100000 x.day&&b9 0 100000 x.known)))
def ab(l:List ao)(i:Nat):ao:=l.getD i default
def iE(l:List ao)(i:Nat):Bool:=iv (ab l i)&&(decide (i=0)||before (ab l (i-1)).cm (ab l i).cm)
def dF(l:List ao):Bool:=decide (l.length≤60)&&(List.range l.length).all (iE l)
def x1(l:List ao)(a:Item):Nat:=l.findIdx fun x=>decide (x.cm=a)
def fL(l:List ao)(a:Item):Nat:=l.findIdx fun x => !before x.cm a
def jh(l:List ao)(a:Item):Bool:=l.any fun x=>decide (x.cm=a)
def eV(known:Int):List ao→List Bool×List Item
 | []=>([],[])
 |x::l =>
  let b:=decide (x.known≤known) && !(eV known l).2.contains x.cm
  (b::(eV known l).1,if b&&decide (x.kind=0) then x.iu::(eV known l).2 else (eV known l).2)
def gR(l:List ao)(known:Int):List Bool:=(eV known l).1
def ij(l:List ao)(known:Int):List Nat:=(List.range l.length).filter fun i=>(gR l known).getD i false
def gF(key:Nat→Int)(i:Nat)(l:List Nat):List Nat:=(l.takeWhile fun k=>decide (key k≤key i))++i::l.dropWhile fun k=>decide (key k≤key i)
def rI(key:Nat→Int)(l:List Nat):List Nat:=l.foldl (fun o i=>gF key i o) []
def j4(l:List ao)(day known:Int):List Nat:=(ij l known).filter fun i=>decide ((ab l i).kind≠0)&&decide ((ab l i).day≤day)
def fV(l:List ao)(day known:Int):List Nat:=rI (fun i=>(ab l i).day) (j4 l day known)
def bY(bs:List aH)(no:Int):Option aH:=bs.find? fun b=>decide (b.no=no)
def nd(bs:List aH)(x:aH):List aH:=bs.map fun b=>if b.no=x.no then x else b
def fu(x:ao):aH:=⟨x.db,x.eJ,x.dY,x.bX,x.bX,x.day,-1,false,[]⟩
def fy(bs:List aH)(x:ao):Bool:=decide (x.dY≤0)||match bY bs x.dY with
 |some d=>decide (d.eJ=x.eJ) && !(decide (0≤d.dH)&&decide (d.dH<x.day))
 |none=>false
def fP(b:aH)(x:ao):Option aH :=
 if x.kind=3 then (if b.dH≥0∨b.bX=0∨b.bX=x.bX then none else some { b with bX:=x.bX })
 else if x.kind=4 then some { b with bH:=b.bH++[x.bH] }
 else if x.kind=5 then some { b with bX:=x.bX,found:=true }
 else (if b.dH≥0 then none else some { b with dH:=x.day })
def dz(add:List aH→aH→List aH)(bs:List aH)(x:ao):Option (List aH) :=
 if x.kind=1∨x.kind=2 then (if bY bs x.db=none∧fy bs x=true then some (add bs (fu x)) else none)
 else match bY bs x.db with
  |none=>none
  |some b=>(fP b x).map (nd bs)
def fQ(bs:List aH)(b:aH):List aH:=bs++[b]
def fw(bs:List aH)(b:aH):List aH:=(bs.takeWhile fun a=>decide (a.no≤b.no))++b::bs.dropWhile fun a=>decide (a.no≤b.no)
def jB(add:List aH→aH→List aH)(l:List ao)(s:List aH×List Nat)(i:Nat):List aH×List Nat:=match dz add s.1 (ab l i) with
 |some bs=>(bs,s.2)
 |none=>(s.1,s.2++[i])
def jv(add:List aH→aH→List aH)(l:List ao)(order:List Nat):List aH×List Nat:=order.foldl (jB add l) ([],[])
theorem ao0(bs:List aH)(x:aH):(nd bs x).map (·.no)=bs.map (·.no):=by
 simp only[nd,List.map_map];refine List.map_congr_left fun b _ =>?_;simp only[Function.comp];split
 ·rename_i h;exact h.symm
 ·rfl
theorem Km{bs:List aH}{no:Int}{b:aH}(h:bY bs no=some b):b∈bs∧b.no=no:=⟨List.mem_of_find?_eq_some h,by simpa using List.find?_some h⟩
theorem tq{bs:List aH}{no:Int} : bY bs no=none↔no∉bs.map (·.no):=by
 simp[bY]
theorem akR{bs:List aH}(hd:(bs.map (·.no)).Nodup){b:aH}(h:b∈bs):bY bs b.no=some b:=by
 induction bs with
 |nil=>cases h
 |cons a bs ih =>
  simp only[bY,List.find?_cons];simp only[zy2,List.nodup_cons] at hd;by_cases e:a.no=b.no
  ·rcases zw2.1 h with rfl | h
   ·simp
   ·exact absurd (zw5.2 ⟨b,h,e.symm⟩) hd.1
  ·rcases zw2.1 h with rfl | h
   ·exact absurd rfl e
   ·simp only[decide_eq_false e];exact ih hd.2 h
theorem xN{bs cs:List aH}(hp:bs.Perm cs)(hd:(bs.map (·.no)).Nodup)(no:Int):bY bs no=bY cs no:=by
 have hd2:(cs.map (·.no)).Nodup:=(hp.map _).nodup_iff.1 hd;cases h:bY bs no with
 |none =>
  refine (tq.2 fun h2=>tq.1 h ?_).symm;exact (hp.map _).mem_iff.2 h2
 |some b =>
  obtain ⟨h1,rfl⟩:=Km h;exact (akR hd2 (hp.mem_iff.1 h1)).symm
theorem ZR{bs cs:List aH}(hp:bs.Perm cs)(hd:(bs.map (·.no)).Nodup)(x:ao):fy bs x=fy cs x:=by
 simp only[fy,xN hp hd]
def kP(add:List aH→aH→List aH):Prop:=∀ bs b,(add bs b).Perm (b::bs)
theorem sw:kP fQ:=fun bs b=>List.perm_append_comm
theorem sx:kP fw:=fun bs b=>by
 have h:(bs.takeWhile fun a=>decide (a.no≤b.no))++(bs.dropWhile fun a=>decide (a.no≤b.no))=bs:=List.takeWhile_append_dropWhile;have:=(List.perm_middle (a:=b) (l₁:=bs.takeWhile fun a=>decide (a.no≤b.no)) (l₂:=bs.dropWhile fun a=>decide (a.no≤b.no)))
 rw[h] at this;exact this
def pk(s t:List aH×List Nat):Prop:=s.1.Perm t.1∧(s.1.map (·.no)).Nodup∧s.2=t.2
theorem AN{add:List aH→aH→List aH}(ha:kP add){bs bs':List aH}{x:ao}(hd:(bs.map (·.no)).Nodup)(h:dz add bs x=some bs'):(bs'.map (·.no)).Nodup:=by
 simp only[dz] at h;split at h
 ·split at h
  ·rename_i h2;simp only[t7] at h;subst h;rw[((ha bs (fu x)).map _).nodup_iff];simp only[zy2,List.nodup_cons];exact ⟨tq.1 h2.1,hd⟩
  ·cases h
 ·split at h
  ·cases h
  ·simp only[zz1] at h;obtain ⟨b',_,rfl⟩:=h;rw[ao0];exact hd
theorem RE{add add':List aH→aH→List aH}(ha:kP add)(ha':kP add'){bs cs:List aH}(hp:bs.Perm cs)(hd:(bs.map (·.no)).Nodup)(x:ao) :
  match dz add bs x,dz add' cs x with
  |some b,some c=>b.Perm c
  |none,none=>True
  |_,_=>False:=by
 simp only[dz,xN hp hd,ZR hp hd];by_cases hk:x.kind=1∨x.kind=2
 ·rw[if_pos hk,if_pos hk];by_cases hc:bY cs x.db=none∧fy cs x=true
  ·rw[if_pos hc,if_pos hc];exact (ha bs _).trans ((hp.cons _).trans (ha' cs _).symm)
  ·rw[if_neg hc,if_neg hc];trivial
 ·rw[if_neg hk,if_neg hk];cases h:bY cs x.db with
  |none=>trivial
  |some b =>
   simp only;cases fP b x with
   |none=>trivial
   |some b'=>exact hp.map _
theorem apv{add add':List aH→aH→List aH}(ha:kP add)(ha':kP add')(l:List ao){s t:List aH×List Nat}(h:pk s t)(i:Nat):pk (jB add l s i) (jB add' l t i):=by
 obtain ⟨h1,h2,h3⟩:=h;have h4:=RE ha ha' h1 h2 (ab l i);have h5:=fun bs'=>AN (bs':=bs') (x:=ab l i) ha h2;simp only[jB];generalize dz add s.1 (ab l i)=u at h4 h5 ⊢;generalize dz add' t.1 (ab l i)=v at h4 ⊢;cases u <;>cases v <;>simp only at h4 ⊢
 ·exact ⟨h1,h2,by rw[h3]⟩
 ·exact ⟨h4,h5 _ rfl,h3⟩
theorem wF{add add':List aH→aH→List aH}(ha:kP add)(ha':kP add')(l:List ao):∀ (o:List Nat) {s t:List aH×List Nat},pk s t→pk (o.foldl (jB add l) s) (o.foldl (jB add' l) t)
 | [],_,_,h=>h
 |i::o,_,_,h=>wF ha ha' l o (apv ha ha' l h i)
theorem LV{add add':List aH→aH→List aH}(ha:kP add)(ha':kP add')(l:List ao)(o:List Nat):pk (jv add l o) (jv add' l o):=wF ha ha' l o ⟨.nil,.nil,rfl⟩
def gJ(l:List Int):Prop:=l.Pairwise (· < ·)
theorem ap1{bs:List aH}{b:aH}(h:gJ (bs.map (·.no)))(hn:b.no∉bs.map (·.no)):gJ ((fw bs b).map (·.no)):=by
 induction bs with
 |nil=>simp[fw,gJ]
 |cons a bs ih =>
  simp only[zy2,gJ,zv8,zw2,not_or] at h hn;by_cases e:a.no≤b.no
  ·have hlt:a.no<b.no:=by omega
   have:fw (a::bs) b=a::fw bs b:=by simp[fw,e]
   rw[this];simp only[zy2,gJ,zv8];refine ⟨fun n hm =>?_,ih h.2 hn.2⟩;obtain ⟨c,hc,rfl⟩:=zw5.1 hm;rcases zw2.1 ((sx bs b).mem_iff.1 hc) with rfl | hc
   ·exact hlt
   ·exact h.1 _ (zw5.2 ⟨c,hc,rfl⟩)
  ·have:fw (a::bs) b=b::a::bs:=by simp[fw,e]
   rw[this];simp only[zy2,gJ,zv8,zw2];refine ⟨fun n hm =>?_,h.1,h.2⟩;rcases hm with rfl | hm
   ·omega
   ·have:=h.1 n hm;omega
theorem zj:∀ {l m:List Int},gJ l→gJ m→(∀ x,x∈l↔x∈m)→l=m
 | [],[],_,_,_=>rfl
 | [],b::m,_,_,h=>by have:=(h b).2 (by simp);cases this
 |a::l,[],_,_,h=>by have:=(h a).1 (by simp);cases this
 |a::l,b::m,h1,h2,h=>by
  simp only[gJ,zv8] at h1 h2;have e:a=b:=by
   rcases zw2.1 ((h a).1 (by simp)) with e | e
   ·exact e
   ·rcases zw2.1 ((h b).2 (by simp)) with e2 | e2
    ·exact e2.symm
    ·have:=h1.1 b e2;have:=h2.1 a e;omega
  subst e
  congr 1
  refine zj h1.2 h2.2 fun x=>⟨fun hx =>?_,fun hx =>?_⟩
  ·rcases zw2.1 ((h x).1 (by simp[hx])) with e | e
   ·have:=h1.1 x hx;omega
   ·exact e
  ·rcases zw2.1 ((h x).2 (by simp[hx])) with e | e
   ·have:=h2.1 x hx;omega
   ·exact e
theorem ao8{n:Nat}{p:List Nat}{sz k total i j:Nat}(h:i≤j)(hj:j≤k)(hk:k≤total):iy n p sz 0 k total (some (.int .i64 i)) (some (.int .i64 j)) (some (.int .i64 k))=some .dg:=by
 simp only[iy,iB];rw[if_pos ⟨by omega,by omega,by omega,by omega⟩]
theorem OL{n:Nat}{p:List Nat}{sz k total i j:Nat}(h:i≤j)(hk:j≤total)(h0:i<total):iy n p sz 0 k total (some (.int .i64 i)) (some (.int .i64 j)) none=some (.view n p sz i (j-i)):=by
 simp only[iy,iB];rw[if_pos ⟨by omega,by omega,by omega⟩,if_neg (by omega)];simp
theorem RA{α:Type}[Enc α]{A:ae}{rest:List aG}{esz bytes:Nat}{d:Option Nat}{e:Nat}(z x:I){n l:Nat}{xs ys:List α}(hx:eE A esz x=some (ys.map enc))(hy:ys≠[])(ho:A.o n=some (.box (.agg (xs.map enc))))(hr:l+ys.length≤xs.length) :
  fR A d e esz bytes z x rest (.view n [] esz 0 l)=aC rest ((A.aR n (.box (.agg ((xs.take l++(ys++xs.drop (l+ys.length))).map enc)))).aS d (.view n [] esz 0 (l+ys.length))):=by
 have h1:=qv (A:=A) (esz:=esz) (lo:=0) (k:=l) ho (by omega);have h2:(I.agg (xs.map (enc (α:=α)))).at []=some (.agg (xs.map enc)):=rfl;have h3:I.cX (ys.map (enc (α:=α)))=I.cX (((xs.map (enc (α:=α))).drop l).take ys.length):=by
  rw[←List.map_drop,←List.map_take];exact OJ (by rw[zy4,zy9];omega)
 simp only[fR,h1,hx,fj];rw[if_neg (by simpa using hy)];simp only[ho,h2,zy3,zz3];rw[if_pos hr,if_pos ⟨rfl,by rw[zy3,zz3];exact h3⟩];simp only[iX,iw,zy3,zx4,List.map_take,List.map_drop]
theorem vr{α:Type}[Enc α]{A:ae}{rest:List aG}{esz bytes:Nat}{d:Option Nat}{e:Nat}(z x:I){n l:Nat}{xs:List α}(hx:eE A esz x=some [])(ho:A.o n=some (.box (.agg (xs.map enc))))(hr:l≤xs.length) :
  fR A d e esz bytes z x rest (.view n [] esz 0 l)=aC rest (A.aS d (.view n [] esz 0 l)):=by
 have h1:=qv (A:=A) (esz:=esz) (lo:=0) (k:=l) ho (by omega);simp only[fR,h1,hx,fj,if_true]
theorem aap(a b:Int):cn (.i .i64) (enc a) (enc b)=some (a==b):=by simp[ga,cn]
theorem EN:∀ (x y:List Int),x.length=y.length→((x.map (enc (α:=Int))).zip (y.map (enc (α:=Int)))).foldr (fun p acc=>iM (cn (.i .i64) p.1 p.2) acc) (some true)=some (decide (x=y))
 | [],[],_=>by simp
 |a::x,b::y,h=>by
  have ih:=EN x y (by simpa using h);rw[zy2,zy2,List.zip_cons_cons,List.foldr_cons,ih,aap];by_cases hab:a=b <;>by_cases hxy:x=y <;>simp[iM,hab,hxy]
theorem sU{n:Nat}(x y:bG n Int):cn (.kq n (.i .i64)) (enc x) (enc y)=some (decide (x.l=y.l)):=by
 change cn (.kq n (.i .i64)) (.agg (x.l.map enc)) (.agg (y.l.map enc))=_
 rw[cn,if_pos ⟨by simp[x.h],by simp[y.h]⟩];exact EN x.l y.l (by rw[x.h,y.h])
theorem Qa(n:Int):aw Tryz.prog 162 [enc n] (enc (!b9 0 4 n)):=by
 refine aw.bj Tryz.func162 Ta Vf XA (zz0 rfl) (fun hwf W0 D0 E1 =>?_);simp only[BW,MS,bg];refine .aq (by decide +kernel) fun K hK =>?_;simp only[HA,U,simprocAttr];refine .done (hK _ ?_);clear hK K;refine .aq (by decide +kernel) fun K hK =>?_;simp only[HB,U,simprocAttr];refine .flat _ (r9 n 0 4) rfl ?_
 try simp only[U,simprocAttr]
 refine .done (hK _ ?_);clear hK K;refine J.ret ?_;simp only[U,simprocAttr]
theorem QD(n:Int):aw Tryz.prog 211 [enc n] (enc (!b9 1 31 n)):=by
 refine aw.bj Tryz.func211 TC VI X3 (zz0 rfl) (fun hwf W0 D0 E1 =>?_);simp only[Cr,Np,bg];refine .aq (by decide +kernel) fun K hK =>?_;simp only[Jk,U,simprocAttr];refine .done (hK _ ?_);clear hK K;refine .aq (by decide +kernel) fun K hK =>?_;simp only[Jl,U,simprocAttr];generalize hz:(n==0)=z;cases z
 ·try simp only[U,simprocAttr]
  refine .flat _ (Ah n) rfl ?_
  try simp only[U,simprocAttr]
  refine .done (hK _ ?_);clear hK K;refine J.ret ?_;simp only[U,simprocAttr];simp at hz;have e:(0≤n)↔(1≤n):=by omega
  simp[b9,e]
 ·try simp only[U,simprocAttr]
  refine .done (hK _ ?_);clear hK K;refine J.ret ?_;simp only[U,simprocAttr];simp at hz;simp[b9,hz]
def ka(p:Int→Bool)(l:List Int):Int:=match l.findIdx? p with
 |some i=>i
 |none=>-1
theorem sZ{α:Type}{p:α→Bool}{l:List α}(h:∀ x∈l,p x=false):l.findIdx? p=none:=by
 rw[List.findIdx?_eq_none_iff];exact h
theorem s7{α:Type}{p:α→Bool}{l:List α}{i:Nat}(hi:i<l.length)(h:∀ x∈l.take i,p x=false)(hp:p l[i]=true):l.findIdx? p=some i:=by
 rw[zv9];refine ⟨hi,hp,fun j hj =>?_⟩;have:l[j]∈l.take i:=by
  rw[List.mem_take_iff_getElem];exact ⟨j,by omega,rfl⟩
 simp[h _ this]
theorem u9(l:List Int)(f:FuncId)(caps:List I)(hcaps:I.eI caps=true)(p:Int→Bool)(hf:∀ x∈l,aw Tryz.prog f (enc x::caps) (enc (p x))):aw Tryz.prog 166 [enc l,.func f caps] (enc (ka p l)):=by
 refine aw.bj Tryz.func166 Te Vj XE (zz0 rfl) (fun hwf W0 D0 E1 =>?_);simp only[B1,MW,bg,zz3];have hlen:l.length≤maxLen:=((kL l).1 hwf.1).1;simp only[maxLen] at hlen;have hcl:I.b6 caps=true:=kv caps hcaps;have hfc:∀ aD A,b7 aD A caps=some caps:=fun aD A=>j7 aD A caps hcaps;have hon:∀ q,I.bW q caps=true:=fun q=>ke q caps hcl;refine .aq (by decide +kernel) fun K hK =>?_;simp only[HK,U,simprocAttr];refine .done (hK _ ?_);clear hK K;refine J.seq ?_;refine J.seq (J.bK (by decide +kernel) fun K hK =>?_)
 try simp only[HL,aX,U,simprocAttr]
 refine .done (hK _ ?_);clear hK K;refine J.block (J.loop (fun i:Nat=>ar [(0,enc l),(1,.func f caps),(7,.int .i64 l.length),(8,.int .i64 i)] []) (fun i=>i≤l.length∧∀ x∈l.take i,p x=false) (fun i=>l.length-i) 0 ⟨zw8 _,by simp⟩ ?_ (fun i hi =>?_))
 ·refine az.bL ?_ ?_ ?_ ?_ <;>simp[aO,bC,bx,aZ,aP,I.only,bh,hon]
 ·refine .aq (by decide +kernel) fun K hK =>?_;simp only[HM,U,simprocAttr];refine .done (hK _ ?_);clear hK K;refine J.seq ?_;refine J.bP ?_;simp only[ai,U,simprocAttr];refine ⟨fun h =>?_,fun h =>?_⟩
  ·have hlt:i<l.length:=by simpa using h
   refine J.skip ?_;try simp only[au,simprocAttr]
   refine J.seq (J.block ?_);refine .aq (by decide +kernel) fun K hK =>?_;simp only[HN,U,simprocAttr];refine .done (hK _ ?_);clear hK K;refine .aq (by decide +kernel) fun K hK =>?_;simp only[HO,U,simprocAttr]
   try simp only[eh 1 hlt rfl,zy0,hfc,U,simprocAttr]
   refine .flat _ (hf _ (zx8 hlt)) rfl ?_
   try simp only[U,simprocAttr]
   refine .done (hK _ ?_);clear hK K;refine J.bP ?_;simp only[ai,U,simprocAttr];refine ⟨fun h =>?_,fun h =>?_⟩
   ·refine .aq (by decide +kernel) fun K hK =>?_;simp only[HP,U,simprocAttr];refine .done (hK _ ?_);clear hK K;refine J.ret ?_;simp only[bS,au,U,simprocAttr];simp[ka,s7 hlt hi.2 h]
   ·refine J.skip ?_;try simp only[au,bS,simprocAttr]
    refine .bK (by decide +kernel) fun K hK =>?_;simp only[HQ,U,simprocAttr];refine .done (hK _ ?_);clear hK K;try simp only[au]
    refine ⟨i+1,⟨by omega,fun x hm =>?_⟩,by omega,?_⟩
    ·rw[zz7 hlt] at hm;rcases zx1.1 hm with hm | hm
     ·exact hi.2 x hm
     ·simp at hm;rw[hm];exact h
    ·rw[cL _ (by omega) (by omega)];refine az.bL ?_ ?_ ?_ ?_ <;>simp[aO,bC,bx,aZ,aP,I.only,bh,hon]
  ·have hge:i=l.length:=by simp at h;omega
   refine J.exit ?_;try simp only[au,bS,simprocAttr]
   refine .aq (by decide +kernel) fun K hK =>?_;simp only[HR,U,simprocAttr];refine .done (hK _ ?_);clear hK K;refine J.ret ?_;simp only[U,simprocAttr];simp[hge] at hi;simp[ka,sZ hi]
theorem Kz(p:Int→Bool)(l:List Int):decide (0≤ka p l)=l.any p:=by
 unfold ka;cases h:l.findIdx? p with
 |none =>
  rw[List.findIdx?_eq_none_iff] at h;have:l.any p=false:=by rw[List.any_eq_false];intro x hx;simp[h x hx]
  simp[this]
 |some i =>
  rw[zv9] at h;obtain ⟨h1,h2,_⟩:=h;have:l.any p=true:=by rw[List.any_eq_true];exact ⟨_,zx8 h1,h2⟩
  rw[this];exact decide_eq_true (Int.natCast_nonneg i)
theorem u5(l:List Int)(f:FuncId)(caps:List I)(hcaps:I.eI caps=true)(p:Int→Bool)(hf:∀ x∈l,aw Tryz.prog f (enc x::caps) (enc (p x))):aw Tryz.prog 125 [enc l,.func f caps] (enc (l.any p)):=by
 refine aw.bj Tryz.func125 SF UJ W5 (zz0 rfl) (fun hwf W0 D0 E1 =>?_);simp only[Bq,Mm,bg,zz3];have hcl:I.b6 caps=true:=kv caps hcaps;have hfc:∀ aD A,b7 aD A caps=some caps:=fun aD A=>j7 aD A caps hcaps;refine .aq (by decide +kernel) fun K hK =>?_;simp only[F3,U,simprocAttr];refine .done (hK _ ?_);clear hK K;refine .aq (by decide +kernel) fun K hK =>?_;simp only[F4,U,simprocAttr]
 try simp only[ev,hfc,U,simprocAttr]
 refine .flat _ (u9 l f caps hcaps p hf) rfl ?_
 try simp only[U,simprocAttr]
 refine .done (hK _ ?_);clear hK K;refine J.ret ?_;simp only[U,simprocAttr];rw[Kz]
theorem Ez{α:Type}[Enc α]{n sz:Nat}(x:bG n α)(hs:Enc.sz α=sz):j6 sz 0 n (some (x.l.map enc))=some (enc x.l):=by
 have h:((x.l.map (enc (α:=α))).drop 0).take n=x.l.map enc:=by
  rw[List.drop_zero,zw1];simp[x.h]
 simp only[j6,h];rw[if_pos (jZ x.l),gB,hs]
theorem Pd{α:Type}[Enc α]{n sz:Nat}(x:bG n α)(hs:Enc.sz α=sz)(h1:n≤maxLen)(h0:n≠0)(y:I):pf n sz (x.l.map enc) y=some y:=by
 simp only[pf];rw[if_pos ⟨wu n sz x.l x.h hs,h1,h0⟩]
theorem AG(p:Int→Bool)(x:bG 6 Int):x.l.any (fun v => !p v) = !(List.range 6).all (fun i=>p (x.g i)):=by
 have h:(List.range 6).all (fun i=>p (x.g i))=x.l.all p:=by
  rw[Bool.eq_iff_iff];simp only[zx9,zv2];constructor
  ·intro h v hv;obtain ⟨i,hi,rfl⟩:=List.getElem_of_mem hv;have:=h i (by rw[x.h] at hi;exact hi)
   rwa [←x.tn (by rw[x.h] at hi;exact hi)] at this
  ·intro h i hi;rw[←x.tn hi];exact h _ (zx8 _)
 rw[h,List.not_all_eq_any_not]
theorem PD(m:bG 6 Int):aw Tryz.prog 123 [enc m] (enc (fD m)):=by
 refine aw.bj Tryz.func123 SD UH W3 (zz0 rfl) (fun hwf W0 D0 E1 =>?_);simp only[Bo,Mk,bg];refine .aq (by decide +kernel) fun K hK =>?_;simp only[FZ,U,simprocAttr];refine .done (hK _ ?_);clear hK K;refine .aq (by decide +kernel) fun K hK =>?_;simp only[F0,U,simprocAttr]
 try simp only[aX,Pd (sz:=1) m rfl (zz0 rfl) (Nat.succ_ne_zero 5),Ez (sz:=1) m rfl,U,simprocAttr]
 refine .flat _ (u5 m.l 162 [] rfl (fun n => !b9 0 4 n) (fun x _=>Qa x)) rfl ?_
 try simp only[U,simprocAttr]
 refine .done (hK _ ?_);clear hK K;refine J.ret ?_;simp only[U,simprocAttr];rw[AG (b9 0 4)];simp[fD]
theorem Qs(m:bG 6 Int):aw Tryz.prog 193 [enc m] (enc (kF m)):=by
 refine aw.bj Tryz.func193 Tr Vx XS (zz0 rfl) (fun hwf W0 D0 E1 =>?_);simp only[Cg,Nb,bg];refine .aq (by decide +kernel) fun K hK =>?_;simp only[Ie,U,simprocAttr];refine .done (hK _ ?_);clear hK K;refine .aq (by decide +kernel) fun K hK =>?_;simp only[If,U,simprocAttr]
 try simp only[aX,Pd (sz:=1) m rfl (zz0 rfl) (Nat.succ_ne_zero 5),Ez (sz:=1) m rfl,U,simprocAttr]
 refine .flat _ (u5 m.l 211 [] rfl (fun n => !b9 1 31 n) (fun x _=>QD x)) rfl ?_
 try simp only[U,simprocAttr]
 refine .done (hK _ ?_);clear hK K;refine J.ret ?_;simp only[U,simprocAttr];rw[AG (b9 1 31)];simp[kF]
theorem PC(n:Int):aw Tryz.prog 122 [enc n] (enc (b9 1 99 n)):=by
 refine aw.bj Tryz.func122 SC UG W2 (zz0 rfl) (fun hwf W0 D0 E1 =>?_);simp only[Bn,Mj,bg];refine .aq (by decide +kernel) fun K hK =>?_;simp only[FX,U,simprocAttr];refine .done (hK _ ?_);clear hK K;refine .aq (by decide +kernel) fun K hK =>?_;simp only[FY,U,simprocAttr];refine .flat _ (r9 n 1 99) rfl ?_
 try simp only[U,simprocAttr]
 refine .done (hK _ ?_);clear hK K;refine J.ret ?_;simp only[U,simprocAttr]
theorem Af(m:bG 6 Int):aw Tryz.prog 157 [enc m] (enc (if kF m then (0:Int) else 12)):=by
 refine aw.bj Tryz.func157 S4 U9 Xu (zz0 rfl) (fun hwf W0 D0 E1 =>?_);simp only[BQ,ML,bg];refine .aq (by decide +kernel) fun K hK =>?_;simp only[G9,U,simprocAttr];refine .done (hK _ ?_);clear hK K;refine J.seq (J.seq ?_);refine .bK (by decide +kernel) fun K hK =>?_;simp only[Ha,U,simprocAttr]
 try simp only[da,ev,U,simprocAttr]
 refine .flat _ (Qs m) rfl ?_;generalize hm:kF m=b;cases b
 ·try simp only[U,simprocAttr]
  refine .done (hK _ ?_);clear hK K;try simp only[au]
  refine J.bP ?_;simp only[ai,U,simprocAttr];refine ⟨fun h =>?_,fun h =>?_⟩
  ·refine .aq (by decide +kernel) fun K hK =>?_;simp only[Hb,U,simprocAttr];refine .done (hK _ ?_);clear hK K;refine J.ret ?_;simp only[au,U,simprocAttr];simp[hm]
  ·cases h
 ·try simp only[U,simprocAttr]
  refine .done (hK _ ?_);clear hK K;refine J.bP ?_;simp only[ai,U,simprocAttr];refine ⟨fun h =>?_,fun h =>?_⟩
  ·cases h
  ·refine J.skip ?_;try simp only[au,simprocAttr]
   refine .aq (by decide +kernel) fun K hK =>?_;simp only[Hc,U,simprocAttr];refine .done (hK _ ?_);clear hK K;refine J.ret ?_;simp only[U,simprocAttr];simp[hm]
def xV(s:Int)(k:Nat):Bool:=oB (s.fdiv (2^min k IntKind.i64.bits)) 1==1
theorem P9(s:Int)(k:Nat):aw Tryz.prog 161 [enc s,enc (k:Int)] (enc (xV s k)):=by
 refine aw.bj Tryz.func161 S9 Ve Xz (zz0 rfl) (fun hwf W0 D0 E1 =>?_);simp only[BV,MR,bg,zz3];refine .aq (by decide +kernel) fun K hK =>?_;simp only[Hy,U,simprocAttr];refine .done (hK _ ?_);clear hK K;refine .aq (by decide +kernel) fun K hK =>?_;simp only[Hz,U,simprocAttr];refine .done (hK _ ?_);clear hK K;refine J.ret ?_;simp only[U,simprocAttr];rfl
theorem aln(s:Int)(h0:0≤s)(h1:s≤31)(k:Nat)(hk:k<5):xV s k=kS s k:=by
 have key:∀ s:Fin 32,∀ k:Fin 5,xV (s.1:Int) k.1=kS (s.1:Int) k.1:=by decide +kernel
 have:=key ⟨s.toNat,by omega⟩ ⟨k,hk⟩;simpa[Int.toNat_of_nonneg h0] using this
theorem PB(m:bG 5 Int):aw Tryz.prog 120 [enc m] (enc (oa m)):=by
 refine aw.bj Tryz.func120 SA UE WY (zz0 rfl) (fun hwf W0 D0 E1 =>?_);simp only[Bl,Mh,bg];refine .aq (by decide +kernel) fun K hK =>?_;simp only[FM,U,simprocAttr];refine .done (hK _ ?_);clear hK K;refine J.seq ?_;refine J.seq (J.bK (by decide +kernel) fun K hK =>?_)
 try simp only[FN,da,U,simprocAttr]
 refine .done (hK _ ?_);clear hK K;refine J.block (J.loop (fun i:Nat=>ar [(2,.bool false),(6,enc m),(7,.int .i64 i)] []) (fun j=>j≤5∧∀ i,i<j→(b9 0 31 (m.g i)&&kS (m.g i) i)=true) (fun i=>5-i) 0 ⟨by omega,fun k h=>by omega⟩ ?_ (fun i hi =>?_))
 ·refine az.bL ?_ ?_ ?_ ?_ <;>simp[aO,bC,bx,aZ,aP,I.only,bh]
 ·refine .aq (by decide +kernel) fun K hK =>?_;simp only[FO,U,simprocAttr];refine .done (hK _ ?_);clear hK K;refine J.seq ?_;refine J.bP ?_;simp only[ai,U,simprocAttr];refine ⟨fun h =>?_,fun h =>?_⟩
  ·have hlt:i<5:=by simp at h;omega
   refine J.skip ?_;try simp only[au,simprocAttr]
   refine J.seq (J.block ?_);refine .aq (by decide +kernel) fun K hK =>?_;simp only[FP,U,simprocAttr]
   try simp only[rn,aX,kZ 1 m hlt rfl,tt m hlt,U,simprocAttr]
   refine .done (hK _ ?_);clear hK K;refine .aq (by decide +kernel) fun K hK =>?_;simp only[FQ,U,simprocAttr];refine .done (hK _ ?_);clear hK K;refine .aq (by decide +kernel) fun K hK =>?_;simp only[FR,U,simprocAttr];refine .flat _ (Ah _) rfl ?_;generalize hb:b9 0 31 (m.g i)=b;cases b
   ·try simp only[U,simprocAttr]
    refine .done (hK _ ?_);clear hK K;refine J.bP ?_;simp only[ai,U,simprocAttr];refine ⟨fun h =>?_,fun h =>?_⟩
    ·refine .aq (by decide +kernel) fun K hK =>?_;simp only[wM,U,simprocAttr];refine .done (hK _ ?_);clear hK K;refine J.ret ?_;simp only[bS,au,U,simprocAttr];rw[oa,kp i hlt];simp[hb]
    ·cases h
   ·have hr:0≤m.g i∧m.g i≤31:=by simpa[b9] using hb
    try simp only[U,simprocAttr]
    refine .flat _ (P9 (m.g i) i) rfl ?_;rw[aln _ hr.1 hr.2 i hlt]
    try simp only[U,simprocAttr]
    refine .done (hK _ ?_);clear hK K;refine J.bP ?_;simp only[ai,U,simprocAttr];refine ⟨fun h =>?_,fun h =>?_⟩
    ·refine .aq (by decide +kernel) fun K hK =>?_;simp only[wM,U,simprocAttr];refine .done (hK _ ?_);clear hK K;refine J.ret ?_;simp only[bS,au,U,simprocAttr];rw[oa,kp i hlt];simp at h;simp[h]
    ·refine J.skip ?_;try simp only[au,bS,simprocAttr]
     refine .bK (by decide +kernel) fun K hK =>?_;simp only[FT,U,simprocAttr];refine .done (hK _ ?_);clear hK K;try simp only[au]
     refine ⟨i+1,⟨by omega,fun k hk =>?_⟩,by omega,?_⟩
     ·by_cases hk':k=i
      ·subst hk';simp at h;simp[hb,h]
      ·exact hi.2 k (by omega)
     ·rw[cL _ (by omega) (by omega)];refine az.bL ?_ ?_ ?_ ?_ <;>simp[aO,bC,bx,aZ,aP,I.only,bh]
  ·have hge:i=5:=by simp at h;omega
   subst hge;refine J.exit ?_;try simp only[au,bS,simprocAttr]
   refine .aq (by decide +kernel) fun K hK =>?_;simp only[FU,U,simprocAttr];refine .done (hK _ ?_);clear hK K;refine J.ret ?_;simp only[U,simprocAttr];rw[oa,lF hi.2]
theorem Al(f:FuncId)(caps:List I)(hcaps:I.eI caps=true)(p:Nat→Bool)(hf:∀ i:Nat,i<6→aw Tryz.prog f (enc (i:Int)::caps) (enc (p i))):aw Tryz.prog 197 [.func f caps] (enc (fS (fun i => !p i) 6:Int)):=by
 refine aw.bj Tryz.func197 Tv VB XW (zz0 rfl) (fun hwf W0 D0 E1 =>?_);simp only[Ck,Ng,bg];have hcl:I.b6 caps=true:=kv caps hcaps;have hfc:∀ aD A,b7 aD A caps=some caps:=fun aD A=>j7 aD A caps hcaps;have hon:∀ q,I.bW q caps=true:=fun q=>ke q caps hcl;refine .aq (by decide +kernel) fun K hK =>?_;simp only[It,U,simprocAttr];refine .done (hK _ ?_);clear hK K;refine .aq (by decide +kernel) fun K hK =>?_;simp only[Iu,U,simprocAttr];refine .done (hK _ ?_);clear hK K;refine J.seq ?_;refine .aq (by decide +kernel) fun K hK =>?_;simp only[Iv,U,simprocAttr];refine .done (hK _ ?_);clear hK K;refine J.block (J.loop (fun i:Nat=>ar [(0,.func f caps),(3,.int .i64 (fS (fun i => !p i) i:Int)),(5,.int .i64 i)] []) (fun i=>i≤6∧fS (fun i => !p i) i≤i) (fun i=>6-i) 0 ⟨by omega,by simp[fS]⟩ ?_ (fun i hi =>?_))
 ·refine az.bL ?_ ?_ ?_ ?_ <;>simp[aO,bC,bx,aZ,aP,I.only,hon,fS]
 ·refine .aq (by decide +kernel) fun K hK =>?_;simp only[Iw,U,simprocAttr];refine .done (hK _ ?_);clear hK K;refine J.seq ?_;refine J.bP ?_;simp only[ai,U,simprocAttr];refine ⟨fun h =>?_,fun h =>?_⟩
  ·have hlt:i<6:=by simp at h;omega
   refine J.skip ?_;try simp only[au,simprocAttr]
   refine J.seq (J.block ?_);refine .aq (by decide +kernel) fun K hK =>?_;simp only[Iy,U,simprocAttr];refine .done (hK _ ?_);clear hK K;refine .aq (by decide +kernel) fun K hK =>?_;simp only[Iz,U,simprocAttr]
   try simp only[zy0,hfc,U,simprocAttr]
   refine .flat _ (hf i hlt) rfl ?_
   try simp only[U,simprocAttr]
   refine .done (hK _ ?_);clear hK K;refine J.bP ?_;simp only[ai,U,simprocAttr];refine ⟨fun h =>?_,fun h =>?_⟩
   ·simp at h;refine .bK (by decide +kernel) fun K hK =>?_;simp only[IA,U,simprocAttr];refine .done (hK _ ?_);clear hK K;try simp only[au,bS]
    refine .bK (by decide +kernel) fun K hK =>?_;simp only[xm,U,simprocAttr];refine .done (hK _ ?_);clear hK K;try simp only[au]
    refine ⟨i+1,⟨by omega,?_⟩,by omega,?_⟩
    ·simp only[fS];split <;>omega
    ·rw[cL _ (by omega) (by omega),cL _ (by omega) (by omega)];refine az.bL ?_ ?_ ?_ ?_ <;>simp[aO,bC,bx,aZ,aP,I.only,hon,fS,h]
   ·simp at h;refine J.skip ?_;try simp only[au,bS,simprocAttr]
    refine .bK (by decide +kernel) fun K hK =>?_;simp only[xm,U,simprocAttr];refine .done (hK _ ?_);clear hK K;try simp only[au]
    refine ⟨i+1,⟨by omega,?_⟩,by omega,?_⟩
    ·simp only[fS];split <;>omega
    ·rw[cL _ (by omega) (by omega)];refine az.bL ?_ ?_ ?_ ?_ <;>simp[aO,bC,bx,aZ,aP,I.only,hon,fS,h]
  ·have hge:i=6:=by simp at h;omega
   subst hge;refine J.exit ?_;try simp only[au,bS,simprocAttr]
   refine .aq (by decide +kernel) fun K hK =>?_;simp only[IB,U,simprocAttr];refine .done (hK _ ?_);clear hK K;refine J.ret ?_;simp only[U,simprocAttr]
theorem QE(w:bG 5 Int)(m r:bG 6 Int)(hm:fD m=true)(i:Nat)(hi:i<6):aw Tryz.prog 212 (enc (i:Int)::[.ref (.func 196 []),.ref (enc w),.ref (enc m),.ref (enc r)]) (enc (!nA w m r i)):=by
 obtain ⟨h0,h5⟩:=qf hm hi;refine aw.bj Tryz.func212 TD VJ X4 (zz0 rfl) (fun hwf W0 D0 E1 =>?_);simp only[Cs,Nq,bg,zz3,Nat.reduceAdd];refine .aq (by decide +kernel) fun K hK =>?_;simp only[Jm,U,simprocAttr];refine .done (hK _ ?_);clear hK K;refine .aq (by decide +kernel) fun K hK =>?_;simp only[Jn,U,simprocAttr]
 try simp only[da,ev,U,simprocAttr]
 refine .flat _ (vc w m i hi h0 h5) rfl ?_
 try simp only[aX,kZ 1 r hi rfl,ri,tt r hi,zx5,U,simprocAttr]
 refine .flat _ (Ak _ _) rfl ?_
 try simp only[U,simprocAttr]
 refine .done (hK _ ?_);clear hK K;refine J.ret ?_;simp only[U,simprocAttr];simp[nA,bne]
theorem Qt(w:bG 5 Int)(a b:bG 6 Int)(ha:fD a=true)(hb:fD b=true)(i:Nat)(hi:i<6):aw Tryz.prog 198 (enc (i:Int)::[.ref (.func 196 []),.ref (enc w),.ref (enc a),.ref (enc b)]) (enc (!lG w a b i)):=by
 obtain ⟨h0,h5⟩:=qf ha hi;obtain ⟨k0,k5⟩:=qf hb hi;refine aw.bj Tryz.func198 Tw VC XX (zz0 rfl) (fun hwf W0 D0 E1 =>?_);simp only[Cl,Nh,bg,zz3,Nat.reduceAdd];refine .aq (by decide +kernel) fun K hK =>?_;simp only[IC,U,simprocAttr];refine .done (hK _ ?_);clear hK K;refine .aq (by decide +kernel) fun K hK =>?_;simp only[ID,U,simprocAttr]
 try simp only[da,ev,U,simprocAttr]
 refine .flat _ (vc w a i hi h0 h5) rfl ?_
 try simp only[da,ev,U,simprocAttr]
 refine .flat _ (vc w b i hi k0 k5) rfl ?_
 try simp only[zx5,U,simprocAttr]
 refine .flat _ (Ak _ _) rfl ?_
 try simp only[U,simprocAttr]
 refine .done (hK _ ?_);clear hK K;refine J.ret ?_;simp only[U,simprocAttr];simp[lG,bne]
theorem OX{A:ae}{n:Nat}{b:I}{f:FuncId}{caps:List I}{rest:List aG} : dx A none n [] b (.func f caps) rest (some .dv)=aC rest (A.aR n (.box (b.dQ [] (.func f caps)))):=eF rfl rfl (by simp[I.aU])
theorem Qx(w:bG 5 Int)(m r:bG 6 Int)(hm:fD m=true):aw Tryz.prog 202 [enc w,enc m,enc r] (enc (kU w m r)):=by
 refine aw.bj Tryz.func202 TA VG X1 (zz0 rfl) (fun hwf W0 D0 E1 =>?_);simp only[Cp,Nl,bg,zz3,Nat.reduceAdd];refine .aq (by decide +kernel) fun K hK =>?_;simp only[IS,U,simprocAttr]
 try simp only[dO,U,simprocAttr]
 refine .done (hK _ ?_);clear hK K;refine .aq (by decide +kernel) fun K hK =>?_;simp only[IT,U,simprocAttr]
 try simp only[OX,U,simprocAttr]
 refine .done (hK _ ?_);clear hK K;refine .aq (by decide +kernel) fun K hK =>?_;simp only[IU,U,simprocAttr]
 try simp only[List.all_cons,List.all_nil,I.cu,zw4,dL,U,simprocAttr]
 refine .flat _ (Al 212 [.ref (.func 196 []),.ref (enc w),.ref (enc m),.ref (enc r)] ?_ (fun i => !nA w m r i) (fun i hi=>QE w m r hm i hi)) rfl ?_
 ·simp only[I.eI,I.done,I.bu,I.b6,dL,zw4]
 try simp only[U,simprocAttr]
 refine .done (hK _ ?_);clear hK K;refine J.ret ?_;simp only[U,simprocAttr];simp only[kU,Bool.not_not]
theorem Qd(w:bG 5 Int)(a b:bG 6 Int)(ha:fD a=true)(hb:fD b=true):aw Tryz.prog 165 [enc w,enc a,enc b] (enc (fS (lG w a b) 6:Int)):=by
 refine aw.bj Tryz.func165 Td Vi XD (zz0 rfl) (fun hwf W0 D0 E1 =>?_);simp only[BZ,MV,bg,zz3,Nat.reduceAdd];refine .aq (by decide +kernel) fun K hK =>?_;simp only[HG,U,simprocAttr]
 try simp only[dO,U,simprocAttr]
 refine .done (hK _ ?_);clear hK K;refine .aq (by decide +kernel) fun K hK =>?_;simp only[HI,U,simprocAttr]
 try simp only[OX,U,simprocAttr]
 refine .done (hK _ ?_);clear hK K;refine .aq (by decide +kernel) fun K hK =>?_;simp only[HJ,U,simprocAttr]
 try simp only[List.all_cons,List.all_nil,I.cu,zw4,dL,U,simprocAttr]
 refine .flat _ (Al 198 [.ref (.func 196 []),.ref (enc w),.ref (enc a),.ref (enc b)] ?_ (fun i => !lG w a b i) (fun i hi=>Qt w a b ha hb i hi)) rfl ?_
 ·simp only[I.eI,I.done,I.bu,I.b6,dL,zw4]
 try simp only[U,simprocAttr]
 refine .done (hK _ ?_);clear hK K;refine J.ret ?_;simp only[U,simprocAttr];simp only[Bool.not_not]
theorem Qc(m:cq)(g:cE)(k:bG 6 Int)(hg:fD g.mark=true)(hk:fD k=true):aw Tryz.prog 164 (enc g::[.ref (enc m),.ref (enc k)]) (enc (iz m g.mark k)):=by
 refine aw.bj Tryz.func164 Tc Vh XC (zz0 rfl) (fun hwf W0 D0 E1 =>?_);simp only[BY,MU,bg,zz3,Nat.reduceAdd];refine .aq (by decide +kernel) fun K hK =>?_;simp only[HE,U,simprocAttr]
 try simp only[dO,U,simprocAttr]
 refine .done (hK _ ?_);clear hK K;refine .aq (by decide +kernel) fun K hK =>?_;simp only[HF,U,simprocAttr]
 try simp only[da,ev,U,simprocAttr]
 refine .flat _ (Qd m.fG g.mark k hg hk) rfl ?_
 try simp only[da,U,simprocAttr]
 refine .done (hK _ ?_);clear hK K;refine J.ret ?_;simp only[U,simprocAttr];rfl
theorem vb(l:List cE)(f:FuncId)(caps:List I)(hcaps:I.eI caps=true)(p:cE→Bool)(hf:∀ x∈l,aw Tryz.prog f (enc x::caps) (enc (p x))):aw Tryz.prog 195 [enc l,.func f caps] (enc (match l.findIdx? p with | some i=>(i:Int) | none=>-1)):=by
 refine aw.bj Tryz.func195 Tt Vz XU (zz0 rfl) (fun hwf W0 D0 E1 =>?_);simp only[Ci,Nd,bg,zz3];have hlen:l.length≤maxLen:=((kL l).1 hwf.1).1;simp only[maxLen] at hlen;have hcl:I.b6 caps=true:=kv caps hcaps;have hfc:∀ aD A,b7 aD A caps=some caps:=fun aD A=>j7 aD A caps hcaps;have hon:∀ q,I.bW q caps=true:=fun q=>ke q caps hcl;refine .aq (by decide +kernel) fun K hK =>?_;simp only[Ii,U,simprocAttr];refine .done (hK _ ?_);clear hK K;refine J.seq ?_;refine J.seq (J.bK (by decide +kernel) fun K hK =>?_)
 try simp only[Ij,aX,U,simprocAttr]
 refine .done (hK _ ?_);clear hK K;refine J.block (J.loop (fun i:Nat=>ar [(0,enc l),(1,.func f caps),(7,.int .i64 l.length),(8,.int .i64 i)] []) (fun i=>i≤l.length∧∀ x∈l.take i,p x=false) (fun i=>l.length-i) 0 ⟨zw8 _,by simp⟩ ?_ (fun i hi =>?_))
 ·refine az.bL ?_ ?_ ?_ ?_ <;>simp[aO,bC,bx,aZ,aP,I.only,bh,hon]
 ·refine .aq (by decide +kernel) fun K hK =>?_;simp only[Ik,U,simprocAttr];refine .done (hK _ ?_);clear hK K;refine J.seq ?_;refine J.bP ?_;simp only[ai,U,simprocAttr];refine ⟨fun h =>?_,fun h =>?_⟩
  ·have hlt:i<l.length:=by simpa using h
   refine J.skip ?_;try simp only[au,simprocAttr]
   refine J.seq (J.block ?_);refine .aq (by decide +kernel) fun K hK =>?_;simp only[Il,U,simprocAttr];refine .done (hK _ ?_);clear hK K;refine .aq (by decide +kernel) fun K hK =>?_;simp only[Im,U,simprocAttr]
   try simp only[eh 7 hlt rfl,da,zy0,hfc,ev,U,simprocAttr]
   refine .flat _ (hf _ (zx8 hlt)) rfl ?_
   try simp only[U,simprocAttr]
   refine .done (hK _ ?_);clear hK K;refine J.bP ?_;simp only[ai,U,simprocAttr];refine ⟨fun h =>?_,fun h =>?_⟩
   ·refine .aq (by decide +kernel) fun K hK =>?_;simp only[Io,U,simprocAttr];refine .done (hK _ ?_);clear hK K;refine J.ret ?_;simp only[bS,au,U,simprocAttr];simp[s7 hlt hi.2 h]
   ·refine J.skip ?_;try simp only[au,bS,simprocAttr]
    refine .bK (by decide +kernel) fun K hK =>?_;simp only[Ip,U,simprocAttr];refine .done (hK _ ?_);clear hK K;try simp only[au]
    refine ⟨i+1,⟨by omega,fun x hm =>?_⟩,by omega,?_⟩
    ·rw[zz7 hlt] at hm;rcases zx1.1 hm with hm | hm
     ·exact hi.2 x hm
     ·simp at hm;rw[hm];exact h
    ·rw[cL _ (by omega) (by omega)];refine az.bL ?_ ?_ ?_ ?_ <;>simp[aO,bC,bx,aZ,aP,I.only,bh,hon]
  ·have hge:i=l.length:=by simp at h;omega
   refine J.exit ?_;try simp only[au,bS,simprocAttr]
   refine .aq (by decide +kernel) fun K hK =>?_;simp only[Iq,U,simprocAttr];refine .done (hK _ ?_);clear hK K;refine J.ret ?_;simp only[U,simprocAttr];simp[hge] at hi;simp[sZ hi]
theorem aaY{α:Type}(p:α→Bool)(l:List α):decide (0≤(match l.findIdx? p with | some i=>(i:Int) | none=>-1))=l.any p:=by
 cases h:l.findIdx? p with
 |none =>
  rw[List.findIdx?_eq_none_iff] at h;have:l.any p=false:=by rw[List.any_eq_false];intro x hx;simp[h x hx]
  simp[this]
 |some i =>
  rw[zv9] at h;obtain ⟨h1,h2,_⟩:=h;have:l.any p=true:=by rw[List.any_eq_true];exact ⟨_,zx8 h1,h2⟩
  rw[this];exact decide_eq_true (Int.natCast_nonneg i)
theorem Qb(l:List cE)(f:FuncId)(caps:List I)(hcaps:I.eI caps=true)(p:cE→Bool)(hf:∀ x∈l,aw Tryz.prog f (enc x::caps) (enc (p x))):aw Tryz.prog 163 [enc l,.func f caps] (enc (l.any p)):=by
 refine aw.bj Tryz.func163 Tb Vg XB (zz0 rfl) (fun hwf W0 D0 E1 =>?_);simp only[BX,MT,bg,zz3];have hcl:I.b6 caps=true:=kv caps hcaps;have hfc:∀ aD A,b7 aD A caps=some caps:=fun aD A=>j7 aD A caps hcaps;refine .aq (by decide +kernel) fun K hK =>?_;simp only[HC,U,simprocAttr];refine .done (hK _ ?_);clear hK K;refine .aq (by decide +kernel) fun K hK =>?_;simp only[HD,U,simprocAttr]
 try simp only[ev,hfc,U,simprocAttr]
 refine .flat _ (vb l f caps hcaps p hf) rfl ?_
 try simp only[U,simprocAttr]
 refine .done (hK _ ?_);clear hK K;refine J.ret ?_;simp only[U,simprocAttr];rw[aaY]
theorem Aa(m:cq)(l:List cE)(k:bG 6 Int)(hl:∀ g∈l,fD g.mark=true)(hk:fD k=true):aw Tryz.prog 124 [enc m,enc l,enc k] (enc (!l.any fun g=>iz m g.mark k)):=by
 refine aw.bj Tryz.func124 SE UI W4 (zz0 rfl) (fun hwf W0 D0 E1 =>?_);simp only[Bp,Ml,bg,zz3,Nat.reduceAdd];refine .aq (by decide +kernel) fun K hK =>?_;simp only[F1,U,simprocAttr]
 try simp only[dO,U,simprocAttr]
 refine .done (hK _ ?_);clear hK K;refine .aq (by decide +kernel) fun K hK =>?_;simp only[F2,U,simprocAttr]
 try simp only[List.all_cons,List.all_nil,I.cu,zw4,dL,ev,U,simprocAttr]
 refine .flat _ (Qb l 164 [.ref (enc m),.ref (enc k)] ?_ (fun g=>iz m g.mark k) (fun g hg=>Qc m g k (hl g hg) hk)) rfl ?_
 ·simp only[I.eI,I.done,dL,zw4]
 try simp only[U,simprocAttr]
 refine .done (hK _ ?_);clear hK K;refine J.ret ?_;simp only[U,simprocAttr]
theorem zD{α:Type}[Enc α]{A:ae}(esz:Nat){l:List α}{i:Nat}(h:i≤l.length)(hs:Enc.sz α=esz):nh A esz none (some (.int .i64 i)) none (enc l)=some (enc (l.take i)):=by
 simp only[nh,gB,hs,if_true,jU,iB,zy3];rw[if_pos ⟨by omega,by omega,by omega,by omega⟩];simp
theorem AI(m:cq)(k:bG 6 Int){i:Nat}(h:i≤m.given.length):(!(m.given.take i).any fun g=>iz m g.mark k)=(List.range i).all (fun j => !iz m (ct m j).mark k):=by
 rw[Bool.eq_iff_iff];simp only[Bool.not_eq_true',List.any_eq_false,zx9,zv2];constructor
 ·intro h1 j hj;have hjl:j<m.given.length:=by omega
  have:=h1 m.given[j] (by rw[List.mem_take_iff_getElem];exact ⟨j,by omega,rfl⟩);rw[j8 hjl] at this;simpa using this
 ·intro h1 g hg;rw[List.mem_take_iff_getElem] at hg;obtain ⟨j,hj,rfl⟩:=hg;have hjl:j<m.given.length:=by omega
  rw[j8 hjl];simpa using h1 j (by omega)
theorem qE(m:cq):aw Tryz.prog 66 [enc m] (enc (if eO m then (0:Int) else 13)):=by
 refine aw.bj Tryz.func66 TS VY Yj (zz0 rfl) (fun hwf W0 D0 E1 =>?_);simp only[CH,NG,bg];refine .aq (by decide +kernel) fun K hK =>?_;simp only[JF,U,simprocAttr]
 try simp only[dO,U,simprocAttr]
 refine .done (hK _ ?_);clear hK K;refine J.seq (J.seq ?_);refine .bK (by decide +kernel) fun K hK =>?_;simp only[JG,U,simprocAttr]
 try simp only[da,ev,U,simprocAttr]
 refine .flat _ (PB m.fG) rfl ?_;generalize hw:oa m.fG=bw;cases bw
 ·try simp only[U,simprocAttr]
  refine .done (hK _ ?_);clear hK K;try simp only[au]
  refine J.bP ?_;simp only[ai,U,simprocAttr];refine ⟨fun h =>?_,fun h =>?_⟩
  ·refine .aq (by decide +kernel) fun K hK =>?_;simp only[tg,U,simprocAttr];refine .done (hK _ ?_);clear hK K;refine J.ret ?_;simp only[au,U,simprocAttr];simp[eO,hw]
  ·cases h
 try simp only[da,U,simprocAttr]
 refine .flat _ (r9 m.gD 0 2) rfl ?_;generalize hf:b9 0 2 m.gD=bf;cases bf
 ·try simp only[U,simprocAttr]
  refine .done (hK _ ?_);clear hK K;refine J.bP ?_;simp only[ai,U,simprocAttr];refine ⟨fun h =>?_,fun h =>?_⟩
  ·refine .aq (by decide +kernel) fun K hK =>?_;simp only[tg,U,simprocAttr];refine .done (hK _ ?_);clear hK K;refine J.ret ?_;simp only[au,U,simprocAttr];simp[eO,hw,hf]
  ·cases h
 try simp only[da,aX,U,simprocAttr]
 refine .done (hK _ ?_);clear hK K;refine J.bP ?_;simp only[ai,U,simprocAttr];refine ⟨fun h =>?_,fun h =>?_⟩
 ·refine .aq (by decide +kernel) fun K hK =>?_;simp only[tg,U,simprocAttr];refine .done (hK _ ?_);clear hK K;refine J.ret ?_;simp only[au,U,simprocAttr];have:¬ m.given.length≤40:=by simp at h;omega
  simp[eO,hw,hf,this]
 have hlen:m.given.length≤40:=by simp at h;omega
 refine J.skip ?_;try simp only[au,simprocAttr]
 refine J.seq (J.seq ?_);refine J.bK (by decide +kernel) fun K hK =>?_
 try simp only[JH,da,aX,U,simprocAttr]
 refine .done (hK _ ?_);clear hK K;refine J.block (J.loop (fun i:Nat=>ar [(1,.ptr 1 []),(22,enc m.given),(23,.int .i64 m.given.length),(24,.int .i64 i)] [(1,.box (enc m))]) (fun i=>i≤m.given.length∧∀ j,j<i→fC m j=true) (fun i=>m.given.length-i) 0 ⟨by omega,fun k h=>by omega⟩ ?_ (fun i hi =>?_))
 ·refine az.bL ?_ ?_ ?_ ?_ <;>simp[aO,bC,bx,aZ,al,aP,b8,I.only,ah.only,bh]
 refine .aq (by decide +kernel) fun K hK =>?_;simp only[JI,U,simprocAttr];refine .done (hK _ ?_);clear hK K;refine J.seq ?_;refine J.bP ?_;simp only[ai,U,simprocAttr];refine ⟨fun h =>?_,fun h =>?_⟩
 case refine_2.refine_2 =>
  have hge:i=m.given.length:=by simp at h;omega
  subst hge;refine J.exit ?_;try simp only[au,bS,simprocAttr]
  refine .aq (by decide +kernel) fun K hK =>?_;simp only[JL,U,simprocAttr];refine .done (hK _ ?_);clear hK K;refine J.ret ?_;simp only[U,simprocAttr];have:(List.range m.given.length).all (fC m)=true:=lF hi.2;simp[eO,hw,hf,this,hlen]
 have hlt:i<m.given.length:=by simpa using h
 refine J.skip ?_;try simp only[au,simprocAttr]
 refine J.seq (J.block ?_);refine .aq (by decide +kernel) fun K hK =>?_;simp only[JJ,U,simprocAttr]
 try simp only[da,nS hlt,U,simprocAttr]
 rw[eF (dO _) (by rw[gq];rfl) ((eL _).trans rfl)]
 try simp only[U,simprocAttr]
 refine .done (hK _ ?_);clear hK K;have iN:∀ b,fC m i=b→b=false→(if eO m then (0:Int) else 13)=13:=fun b h1 h2=>by
  have:(List.range m.given.length).all (fC m)=false:=kp i hlt (by rw[h1,h2]);simp[eO,this]
 have htake:∀ g∈m.given.take i,fD g.mark=true:=fun g hg=>by
  rw[List.mem_take_iff_getElem] at hg;obtain ⟨j,hj,rfl⟩:=hg;have hjl:j<m.given.length:=by omega
  rw[j8 hjl];exact ud (hi.2 j (by omega))
 refine .aq (by decide +kernel) fun K hK =>?_;simp only[JK,U,simprocAttr]
 try simp only[da,U,simprocAttr]
 refine .flat _ (PC (ct m i).bX) rfl ?_;generalize ho:b9 1 99 (ct m i).bX=bo;cases bo
 ·try simp only[U,simprocAttr]
  refine .done (hK _ ?_);clear hK K;refine J.bP ?_;simp only[ai,U,simprocAttr];refine ⟨fun h =>?_,fun h =>?_⟩
  ·refine .aq (by decide +kernel) fun K hK =>?_;simp only[pO,U,simprocAttr];refine .done (hK _ ?_);clear hK K;refine J.ret ?_;simp only[bS,au,U,simprocAttr];rw[iN _ rfl (by simp[fC,ho])]
  ·cases h
 try simp only[da,ev,U,simprocAttr]
 refine .flat _ (PD (ct m i).mark) rfl ?_;generalize hk:fD (ct m i).mark=bk;cases bk
 ·try simp only[U,simprocAttr]
  refine .done (hK _ ?_);clear hK K;refine J.bP ?_;simp only[ai,U,simprocAttr];refine ⟨fun h =>?_,fun h =>?_⟩
  ·refine .aq (by decide +kernel) fun K hK =>?_;simp only[pO,U,simprocAttr];refine .done (hK _ ?_);clear hK K;refine J.ret ?_;simp only[bS,au,U,simprocAttr];rw[iN _ rfl (by simp[fC,ho,hk])]
  ·cases h
 try simp only[U,simprocAttr]
 generalize hz:decide (0<(i:Int))=bz;cases bz
 ·have hprev:(i==0||decide ((ct m (i-1)).bX<(ct m i).bX))=true:=by simp at hz;simp[hz]
  try simp only[da,U,simprocAttr]
  try simp only[da,ev,zD 7 (Nat.le_of_lt hlt) rfl,zu4,U,simprocAttr]
  refine .flat _ (Aa m (m.given.take i) (ct m i).mark htake hk) rfl ?_;rw[AI m (ct m i).mark (Nat.le_of_lt hlt)];generalize hap:(List.range i).all (fun j => !iz m (ct m j).mark (ct m i).mark)=ba;cases ba
  ·try simp only[U,simprocAttr]
   refine .done (hK _ ?_);clear hK K;refine J.bP ?_;simp only[ai,U,simprocAttr];refine ⟨fun h =>?_,fun h =>?_⟩
   ·refine .aq (by decide +kernel) fun K hK =>?_;simp only[pO,U,simprocAttr];refine .done (hK _ ?_);clear hK K;refine J.ret ?_;simp only[bS,au,U,simprocAttr];rw[iN _ rfl (by simp only[fC,hap,Bool.and_false])]
   ·cases h
  ·try simp only[U,simprocAttr]
   refine .done (hK _ ?_);clear hK K;refine J.bP ?_;simp only[ai,U,simprocAttr];refine ⟨fun h =>?_,fun h =>?_⟩
   ·cases h
   refine J.skip ?_;try simp only[au,bS,simprocAttr]
   refine .bK (by decide +kernel) fun K hK =>?_;simp only[xv,U,simprocAttr];refine .done (hK _ ?_);clear hK K;try simp only[au]
   refine ⟨i+1,⟨by omega,fun k hk' =>?_⟩,by omega,?_⟩
   ·by_cases hki:k=i
    ·rw[hki];simp only[fC,ho,hk,hprev,hap,zw4]
    ·exact hi.2 k (by omega)
   ·rw[cL _ (by omega) (by omega)];refine az.bL ?_ ?_ ?_ ?_ <;>simp[aO,bC,bx,aZ,al,aP,b8,I.only,ah.only,bh]
 ·have hpos:0<i:=by simpa using hz
  have hpl:i-1<m.given.length:=by omega
  have hpred:IntKind.i64.wrap ((i:Int)-1)=((i-1:Nat):Int):=by rw[cL _ (by omega) (by omega)];omega
  try simp only[da,hpred,nS hpl,U,simprocAttr]
  generalize hq:decide ((ct m i).bX≤(ct m (i-1)).bX)=bq;cases bq
  ·have hprev:(i==0||decide ((ct m (i-1)).bX<(ct m i).bX))=true:=by simp at hq;simp;omega
   try simp only[da,U,simprocAttr]
   try simp only[da,ev,zD 7 (Nat.le_of_lt hlt) rfl,zu4,U,simprocAttr]
   refine .flat _ (Aa m (m.given.take i) (ct m i).mark htake hk) rfl ?_;rw[AI m (ct m i).mark (Nat.le_of_lt hlt)];generalize hap:(List.range i).all (fun j => !iz m (ct m j).mark (ct m i).mark)=ba;cases ba
   ·try simp only[U,simprocAttr]
    refine .done (hK _ ?_);clear hK K;try simp only[au,bS]
    refine J.bP ?_;simp only[ai,U,simprocAttr];refine ⟨fun h =>?_,fun h =>?_⟩
    ·refine .aq (by decide +kernel) fun K hK =>?_;simp only[pO,U,simprocAttr];refine .done (hK _ ?_);clear hK K;refine J.ret ?_;simp only[bS,au,U,simprocAttr];rw[iN _ rfl (by simp only[fC,hap,Bool.and_false])]
    ·cases h
   ·try simp only[U,simprocAttr]
    refine .done (hK _ ?_);clear hK K;refine J.bP ?_;simp only[ai,U,simprocAttr];refine ⟨fun h =>?_,fun h =>?_⟩
    ·cases h
    refine J.skip ?_;try simp only[au,bS,simprocAttr]
    refine .bK (by decide +kernel) fun K hK =>?_;simp only[xv,U,simprocAttr];refine .done (hK _ ?_);clear hK K;try simp only[au]
    refine ⟨i+1,⟨by omega,fun k hk' =>?_⟩,by omega,?_⟩
    ·by_cases hki:k=i
     ·rw[hki];simp only[fC,ho,hk,hprev,hap,zw4]
     ·exact hi.2 k (by omega)
    ·rw[cL _ (by omega) (by omega)];refine az.bL ?_ ?_ ?_ ?_ <;>simp[aO,bC,bx,aZ,al,aP,b8,I.only,ah.only,bh]
  ·try simp only[U,simprocAttr]
   refine .done (hK _ ?_);clear hK K;try simp only[au,bS]
   refine J.bP ?_;simp only[ai,U,simprocAttr];refine ⟨fun h =>?_,fun h =>?_⟩
   ·refine .aq (by decide +kernel) fun K hK =>?_;simp only[pO,U,simprocAttr];refine .done (hK _ ?_);clear hK K;refine J.ret ?_;simp only[bS,au,U,simprocAttr];have:(i==0||decide ((ct m (i-1)).bX<(ct m i).bX))=false:=by simp at hq;simp;omega
    rw[iN _ rfl (by simp only[fC,this,Bool.and_false,Bool.false_and])]
   ·cases h
theorem Qv(f:FuncId)(caps:List I)(hcaps:I.eI caps=true):aw Tryz.prog 200 [enc ([]:List cE),.func f caps] (enc ([]:List cE)):=by
 refine aw.bj Tryz.func200 Di Dt DS (zz0 rfl) (fun hwf W0 D0 E1 =>?_);simp only[vG,za,bg,zz3];have hcl:I.b6 caps=true:=kv caps hcaps;have hfc:∀ aD A,b7 aD A caps=some caps:=fun aD A=>j7 aD A caps hcaps;refine .aq (by decide +kernel) fun K hK =>?_;simp only[xn,U,simprocAttr];refine .done (hK _ ?_);clear hK K;refine .aq (by decide +kernel) fun K hK =>?_;simp only[xp,U,simprocAttr]
 try simp only[ev,hfc,U,simprocAttr]
 refine .flat _ (vb [] f caps hcaps (fun _=>false) (fun x hx=>by cases hx)) rfl ?_
 try simp only[List.findIdx?_nil,U,simprocAttr]
 refine .done (hK _ ?_);clear hK K;refine J.seq (J.seq ?_);refine .bK (by decide +kernel) fun K hK =>?_;simp only[te,U,simprocAttr];refine .done (hK _ ?_);clear hK K;try simp only[au]
 refine J.bP ?_;simp only[ai,U,simprocAttr];refine ⟨fun h =>?_,fun h =>?_⟩
 ·refine .aq (by decide +kernel) fun K hK =>?_;simp only[xr,U,simprocAttr];refine .done (hK _ ?_);clear hK K;refine J.ret ?_;simp only[au,U,simprocAttr]
  try simp only[ev,U,simprocAttr]
 ·cases h
def gf(p:cE→Bool)(l:List cE):List cE:=l.filter fun x => !p x
def DY(k:Nat)(l:List cE):cR:=fun r os'=>∃ m,r=.view k [] 7 0 l.length∧os'=iW k l m
theorem yQ(p:Nat→Bool)(m:Nat)(x:cE):I.bW p (List.replicate m (enc x))=true:=by
 have:List.replicate m (enc x)=(List.replicate m x).map (enc (α:=cE)):=by simp
 rw[this];exact dn p _
theorem anO(p:Nat→Bool)(xs:List cE)(i:Nat)(v:cE):I.bW p ((xs.map enc).set i (enc v))=true:=by
 rw[←List.map_set];exact dn p _
theorem zl{xs:List cE}{m j:Nat}(h:j<xs.length):((xs++List.replicate m gE).map (enc (α:=cE)))[0+j]?=some (enc xs[j]):=by
 rw[zz3,zw6,zx0 h,zy1 h];rfl
theorem aoR{xs:List cE}{m i:Nat}(h:i<xs.length)(v:cE):((xs++List.replicate m gE).map (enc (α:=cE))).set (0+i) (enc v)=(xs.set i v++List.replicate m gE).map enc:=by
 rw[zz3,←List.map_set,List.set_append_left _ _ h]
theorem zS(l:List cE)(m:Nat):(l++List.replicate m gE).take l.length=l:=List.take_left
theorem wz(p:cE→Bool)(l:List cE){j:Nat}(h:j<l.length):gf p (l.take (j+1))=gf p (l.take j)++(if p l[j] then [] else [l[j]]):=by
 rw[zz7 h];simp only[gf,zu3,zx7,zw9];cases p l[j] <;>simp
theorem Qu(l:List cE)(f:FuncId)(caps:List I)(hcaps:I.eI caps=true)(p:cE→Bool)(hf:∀ x∈l,aw Tryz.prog f (enc x::caps) (enc (p x)))(hlen:l.length≤1000)(m:Nat) :
  cG Tryz.prog 200 [.view 1000000 [] 7 0 l.length,.func f caps] (iW 1000000 l m) (DY 1000000 (gf p l)):=by
 refine cG.bj Tryz.func200 Di Dt DS (zz0 rfl) (zz0 rfl) (fun m hm=>by rw[cH.1 hm];exact zz9 _) (fun hwf W0 D0 E1 =>?_);simp only[vG,za,bg,zz3];have hcl:I.b6 caps=true:=kv caps hcaps;have hfc:∀ aD A,b7 aD A caps=some caps:=fun aD A=>j7 aD A caps hcaps;have hon:∀ q,I.bW q caps=true:=fun q=>ke q caps hcl;simp only[iW];refine .aq (by decide +kernel) fun K hK =>?_;simp only[xn,U,simprocAttr];refine .done (hK _ ?_);clear hK K;refine .aq (by decide +kernel) fun K hK =>?_;simp only[xp,U,simprocAttr]
 try simp only[hfc,qY (α:=cE) (sz:=7) rfl,zS,U,simprocAttr]
 refine .flat _ (vb l f caps hcaps p hf) rfl ?_
 try simp only[U,simprocAttr]
 refine .done (hK _ ?_);clear hK K;generalize hfi:l.findIdx? p=fi;cases fi with
 |none =>
  rw[List.findIdx?_eq_none_iff] at hfi;have hk:gf p l=l:=by
   simp only[gf,List.filter_eq_self];intro x hx;simp[hfi x hx]
  refine J.seq (J.seq ?_);refine .bK (by decide +kernel) fun K hK =>?_;simp only[te,U,simprocAttr];refine .done (hK _ ?_);clear hK K;try simp only[au]
  refine J.bP ?_;simp only[ai,U,simprocAttr];refine ⟨fun h =>?_,fun h =>?_⟩
  ·refine .aq (by decide +kernel) fun K hK =>?_;simp only[xr,U,simprocAttr];refine .done (hK _ ?_);clear hK K;refine J.ret ?_;simp only[au,eX];rw[hk];exact ⟨iW 1000000 l m,[.view 1000000 [] 7 0 l.length],jK rfl (fun p=>mS p _),⟨⟨_,rfl,.inl ⟨rfl,rfl,rfl⟩⟩,trivial⟩,m,rfl,rfl⟩
  ·cases h
 |some i0 =>
  obtain ⟨q1,q2,q3⟩:=zv9.1 hfi;have hstart:l.take i0=gf p (l.take (i0+1)):=by
   rw[wz p l q1,q2];simp only[if_true,zx5,gf]
   symm
   rw[List.filter_eq_self];intro x hx;rw[List.mem_take_iff_getElem] at hx;obtain ⟨j,hj,rfl⟩:=hx;have:=q3 j (by omega);simpa using this
  refine J.seq (J.seq ?_);refine .bK (by decide +kernel) fun K hK =>?_;simp only[te,U,simprocAttr];refine .done (hK _ ?_);clear hK K;try simp only[au]
  refine J.bP ?_;simp only[ai,U,simprocAttr];refine ⟨fun h =>?_,fun h =>?_⟩
  ·simp at h
  refine J.skip ?_;try simp only[au,simprocAttr]
  refine J.seq (J.seq ?_);refine .bK (by decide +kernel) fun K hK =>?_;simp only[II,U,simprocAttr];refine .done (hK _ ?_);clear hK K;try simp only[au]
  refine J.block (J.loop (fun s:List cE×Nat×Nat=>ar [(0,.view 1000000 [] 7 0 l.length),(1,.func f caps),(5,.int .i64 s.2.1),(6,.int .i64 s.2.2)] [(1000000,.box (.agg ((s.1++List.replicate m gE).map enc)))])
   (fun s=>s.1.length=l.length∧s.2.1<s.2.2∧s.2.2≤l.length∧s.1.take s.2.1=gf p (l.take s.2.2)∧s.1.drop s.2.2=l.drop s.2.2) (fun s=>l.length-s.2.2) (l,i0,i0+1) ⟨rfl,by simp only;omega,by simp only;omega,hstart,rfl⟩ ?_ ?_)
  ·rw[cL _ (by omega) (by omega)];refine az.bL ?_ ?_ ?_ ?_ <;>simp[aO,bC,bx,aZ,al,aP,b8,I.only,ah.only,dn,gm,hon,yQ]
  ·rintro ⟨xs,i,j⟩ ⟨c1,c2,c3,gT,jc⟩;simp only at c1 c2 c3 gT jc ⊢;refine J.seq (J.seq ?_);refine .bK (by decide +kernel) fun K hK =>?_;simp only[IJ,U,simprocAttr]
   try simp only[cK,U,simprocAttr]
   refine .done (hK _ ?_);clear hK K;try simp only[au]
   refine J.bP ?_;simp only[ai,U,simprocAttr];refine ⟨fun h =>?_,fun h =>?_⟩
   ·have hj:j<l.length:=by simpa using h
    have hjx:j<xs.length:=by omega
    have hix:i<xs.length:=by omega
    have hxj:xs[j]=l[j]:=by
     have h1:(xs.drop j)[0]?=(l.drop j)[0]?:=by rw[jc]
     simpa[hj,hjx] using h1
    refine J.skip ?_;try simp only[au,simprocAttr]
    refine J.seq (J.block ?_);refine .aq (by decide +kernel) fun K hK =>?_;simp only[IK,U,simprocAttr]
    try simp only[cK,yb (sz:=7) hj,zy5,U,simprocAttr]
    try simp only[zl hjx,hxj,da,U,simprocAttr]
    rw[eF (dO _) (by rw[gq];rfl) ((eL _).trans rfl)]
    try simp only[U,simprocAttr]
    refine .done (hK _ ?_);clear hK K;refine .aq (by decide +kernel) fun K hK =>?_;simp only[IL,U,simprocAttr]
    try simp only[da,ev,hfc,zy0,zy5,U,simprocAttr]
    refine .flat _ (hf _ (zx8 hj)) rfl ?_
    try simp only[U,simprocAttr]
    refine .done (hK _ ?_);clear hK K;refine J.bP ?_;simp only[ai,U,simprocAttr];refine ⟨fun h =>?_,fun h =>?_⟩
    ·have hpj:p l[j]=false:=by simpa using h
     refine .aq (by decide +kernel) fun K hK =>?_;simp only[IM,U,simprocAttr]
     try simp only[da,cK,yb (sz:=7) (show i<l.length by omega),zy5,U,simprocAttr]
     try simp only[zl hix,U,simprocAttr]
     rw[eF (dO _) (by rw[gq];rfl) ((eL _).trans (eL _).symm)]
     try simp only[zl hix,aoR hix,U,simprocAttr]
     refine .done (hK _ ?_);clear hK K;refine .bK (by decide +kernel) fun K hK =>?_;simp only[IN,U,simprocAttr];refine .done (hK _ ?_);clear hK K;try simp only[au,bS]
     refine .bK (by decide +kernel) fun K hK =>?_;simp only[xq,U,simprocAttr];refine .done (hK _ ?_);clear hK K;try simp only[au]
     refine ⟨(xs.set i l[j],i+1,j+1),⟨by simp[c1],by simp only;omega,by simp only;omega,?_,?_⟩,by simp only;omega,?_⟩
     ·simp only;rw[wz p l hj,hpj,←gT];simp only[zz8,if_false];rw[zz7 (by simpa using hix),List.take_set_of_le (zz9 _)];simp
     ·simp only;rw[List.drop_set_of_lt (by omega)];have:(xs.drop j).drop 1=(l.drop j).drop 1:=by rw[jc]
      simpa[List.drop_drop] using this
     ·simp only;rw[cL _ (by omega) (by omega),cL _ (by omega) (by omega)];refine az.bL ?_ ?_ ?_ ?_ <;>simp[aO,bC,bx,aZ,al,aP,b8,I.only,ah.only,gm,hon,yQ,anO]
    ·have hpj:p l[j]=true:=by simpa using h
     refine J.skip ?_;try simp only[au,bS,simprocAttr]
     refine .bK (by decide +kernel) fun K hK =>?_;simp only[xq,U,simprocAttr];refine .done (hK _ ?_);clear hK K;try simp only[au]
     refine ⟨(xs,i,j+1),⟨c1,by simp only;omega,by simp only;omega,?_,?_⟩,by simp only;omega,?_⟩
     ·simp only;rw[wz p l hj,hpj,←gT];simp
     ·simp only;have:(xs.drop j).drop 1=(l.drop j).drop 1:=by rw[jc]
      simpa[List.drop_drop] using this
     ·simp only;rw[cL _ (by omega) (by omega)];refine az.bL ?_ ?_ ?_ ?_ <;>simp[aO,bC,bx,aZ,al,aP,b8,I.only,ah.only,dn,gm,hon,yQ]
   ·have hj:j=l.length:=by simp at h;omega
    subst hj;rw[zv1] at gT;have hlk:(gf p l).length=i:=by rw[←gT,zy4];omega
    have htot:((xs++List.replicate m gE).map (enc (α:=cE))).length=l.length+m:=by simp[c1]
    refine J.exit ?_;try simp only[au,bS,simprocAttr]
    refine .aq (by decide +kernel) fun K hK =>?_;simp only[IG,U,simprocAttr]
    try simp only[cK,htot,zu4,qt (show i≤l.length by omega) (show l.length≤l.length+m by omega) (show i<l.length+m by omega),wg,U,simprocAttr]
    rw[qO gE rfl (by simp[c1];omega)];have hcont:(xs++List.replicate m gE).take i++(List.replicate (l.length-i) gE++(xs++List.replicate m gE).drop (i+(l.length-i)))=gf p l++List.replicate (l.length-i+m) gE:=by
     rw[zx3 (by omega),gT];have e1:i+(l.length-i)=xs.length:=by omega
     rw[e1,List.drop_left,List.replicate_append_replicate]
    rw[hcont]
    try simp only[U,simprocAttr]
    refine .done (hK _ ?_);clear hK K;have htot2:((gf p l++List.replicate (l.length-i+m) gE).map (enc (α:=cE))).length=l.length+m:=by simp[hlk];omega
    refine .aq (by decide +kernel) fun K hK =>?_;simp only[IH,U,simprocAttr]
    try simp only[cK,htot2,zu4,rW (show i≤l.length+m by omega) (show 0<l.length+m by omega),U,simprocAttr]
    refine .done (hK _ ?_);clear hK K;refine J.ret ?_;simp only[eX];exact ⟨iW 1000000 (gf p l) (l.length-i+m),[.view 1000000 [] 7 0 i],jK rfl (fun p=>mS p _),⟨⟨_,rfl,.inl ⟨rfl,rfl,rfl⟩⟩,trivial⟩,l.length-i+m,by rw[hlk];rfl,rfl⟩
def p5(a:Item)(k d kn b:Int):ao:=⟨a,k,d,kn,b,0,0,0,iJ,⟨0,0⟩⟩
theorem Eb:I.agg [.agg [.int .i64 0,.int .i64 0],.int .i64 0,.int .i64 0,.int .i64 0,.int .i64 0,.int .i64 0,.int .i64 0,.int .i64 0,.agg [.int .i64 0,.int .i64 0,.int .i64 0,.int .i64 0,.int .i64 0,.int .i64 0],.agg [.int .i64 0,.int .i64 0]]=enc (p5 ⟨0,0⟩ 0 0 0 0):=rfl
theorem AY(a:Item)(k d kn b:Int):(eP [.agg [.int .i64 0,.int .i64 0],.int .i64 0,.int .i64 0,.int .i64 0,.int .i64 0,.int .i64 0,.int .i64 0,.int .i64 0,.agg [.int .i64 0,.int .i64 0,.int .i64 0,.int .i64 0,.int .i64 0,.int .i64 0],.agg [.int .i64 0,.int .i64 0]] [(0,enc a),(1,.int .i64 k),(2,.int .i64 d),(3,.int .i64 kn),(4,.int .i64 b)]).map .agg=some (enc (p5 a k d kn b)):=by
 simp[eP,I.cu,I.size,I.sizes,iD,qR];rfl
theorem AX(a:Item)(k d kn:Int):(eP [.agg [.int .i64 0,.int .i64 0],.int .i64 0,.int .i64 0,.int .i64 0,.int .i64 0,.int .i64 0,.int .i64 0,.int .i64 0,.agg [.int .i64 0,.int .i64 0,.int .i64 0,.int .i64 0,.int .i64 0,.int .i64 0],.agg [.int .i64 0,.int .i64 0]] [(0,enc a),(1,.int .i64 k),(2,.int .i64 d),(3,.int .i64 kn)]).map .agg=some (enc (p5 a k d kn 0)):=by
 simp[eP,I.cu,I.size,I.sizes,iD,qR];rfl
theorem OS(A:ae)(n:Nat)(b:I)(x y:ao)(rest:List aG):dx A (some 17) n [] b (enc x) rest (some (enc y))=aC rest (A.aR n (.box (enc x))):=eF (dO _) (Lu x) ((eL x).trans (eL y).symm)
theorem pb(A:ae)(n:Nat)(p:List Nat)(b:I)(k:IntKind)(x y:Int)(rest:List aG):dx A none n p b (.int k x) rest (some (.int k y))=aC rest (A.aR n (.box (b.dQ p (.int k x)))):=eF rfl rfl rfl
theorem ape(A:ae)(n:Nat)(p:List Nat)(b:I)(x y:bG 6 Int)(rest:List aG):dx A (some 6) n p b (enc x) rest (some (enc y))=aC rest (A.aR n (.box (b.dQ p (enc x)))):=eF (dO _) (Lt x) ((eL x).trans (eL y).symm)
theorem O0(A:ae)(n:Nat)(p:List Nat)(b:I)(x y:Item)(rest:List aG):dx A (some 2) n p b (enc x) rest (some (enc y))=aC rest (A.aR n (.box (b.dQ p (enc x)))):=eF (dO _) (Lv x) ((eL x).trans (eL y).symm)
theorem OH :
  (∀ (A:ae) (n:Nat) (rest:List aG) (e:ao) v y,dx A (some 2) n [0] (enc e) (enc (v:Item)) rest (some (enc (y:Item)))=aC rest (A.aR n (.box (enc { e with cm:=v })))) ∧
  (∀ (A:ae) (n:Nat) (rest:List aG) (e:ao) v y,dx A none n [1] (enc e) (.int .i64 v) rest (some (.int .i64 y))=aC rest (A.aR n (.box (enc { e with kind:=v })))) ∧
  (∀ (A:ae) (n:Nat) (rest:List aG) (e:ao) v y,dx A none n [2] (enc e) (.int .i64 v) rest (some (.int .i64 y))=aC rest (A.aR n (.box (enc { e with day:=v })))) ∧
  (∀ (A:ae) (n:Nat) (rest:List aG) (e:ao) v y,dx A none n [3] (enc e) (.int .i64 v) rest (some (.int .i64 y))=aC rest (A.aR n (.box (enc { e with known:=v })))) ∧
  (∀ (A:ae) (n:Nat) (rest:List aG) (e:ao) v y,dx A none n [4] (enc e) (.int .i64 v) rest (some (.int .i64 y))=aC rest (A.aR n (.box (enc { e with db:=v })))) ∧
  (∀ (A:ae) (n:Nat) (rest:List aG) (e:ao) v y,dx A none n [5] (enc e) (.int .i64 v) rest (some (.int .i64 y))=aC rest (A.aR n (.box (enc { e with dY:=v })))) ∧
  (∀ (A:ae) (n:Nat) (rest:List aG) (e:ao) v y,dx A none n [6] (enc e) (.int .i64 v) rest (some (.int .i64 y))=aC rest (A.aR n (.box (enc { e with eJ:=v })))) ∧
  (∀ (A:ae) (n:Nat) (rest:List aG) (e:ao) v y,dx A none n [7] (enc e) (.int .i64 v) rest (some (.int .i64 y))=aC rest (A.aR n (.box (enc { e with bX:=v })))) ∧
  (∀ (A:ae) (n:Nat) (rest:List aG) (e:ao) v y,dx A (some 6) n [8] (enc e) (enc (v:bG 6 Int)) rest (some (enc (y:bG 6 Int)))=aC rest (A.aR n (.box (enc { e with bH:=v })))) ∧
  (∀ (A:ae) (n:Nat) (rest:List aG) (e:ao) v y,dx A (some 2) n [9] (enc e) (enc (v:Item)) rest (some (enc (y:Item)))=aC rest (A.aR n (.box (enc { e with iu:=v })))) :=
 ⟨fun _ _ _ _ _ _=>by rw[O0];rfl,fun _ _ _ _ _ _=>by rw[pb];rfl,fun _ _ _ _ _ _=>by rw[pb];rfl,fun _ _ _ _ _ _=>by rw[pb];rfl,fun _ _ _ _ _ _=>by rw[pb];rfl,fun _ _ _ _ _ _=>by rw[pb];rfl,fun _ _ _ _ _ _=>by rw[pb];rfl,fun _ _ _ _ _ _=>by rw[pb];rfl,fun _ _ _ _ _ _=>by rw[ape];rfl,fun _ _ _ _ _ _=>by rw[O0];rfl⟩
theorem Pq(x y:bG 6 Int):x=y↔x.l=y.l:=by cases x;cases y;simp
theorem ap2(p q:Prop)[Decidable p][Decidable q]:iM (some (decide p)) (some (decide q))=some (decide (p∧q)):=by simp[iM]
theorem Ei(a b:Int):cn (.i .i64) (.int .i64 a) (.int .i64 b)=some (decide (a=b)):=by simp[cn];rfl
theorem Eg(x y:ao):cn (.bA [(.bA [(.i .i64),(.i .i64)]),(.i .i64),(.i .i64),(.i .i64),(.i .i64),(.i .i64),(.i .i64),(.i .i64),(.kq 6 (.i .i64)),(.bA [(.i .i64),(.i .i64)])]) (enc x) (enc y)=some (decide (x=y)):=by
 obtain ⟨a1,k1,d1,n1,b1,m1,s1,o1,r1,f1⟩:=x;obtain ⟨a2,k2,d2,n2,b2,m2,s2,o2,ed,f2⟩:=y
 show cn _ (.agg [enc a1,.int .i64 k1,.int .i64 d1,.int .i64 n1,.int .i64 b1,.int .i64 m1,.int .i64 s1,.int .i64 o1,enc r1,enc f1]) (.agg [enc a2,.int .i64 k2,.int .i64 d2,.int .i64 n2,.int .i64 b2,.int .i64 m2,.int .i64 s2,.int .i64 o2,enc ed,enc f2])=_
 have hr:cn (.kq 6 (.i .i64)) (enc r1) (enc ed)=some (decide (r1=ed)):=by
  rw[sU]
  congr 1
  exact decide_eq_decide.2 (Pq r1 ed).symm
 rw[cn];simp only[jf,qT,Ei,hr,ao.mk.injEq];simp[iM]
theorem aJ:(type_of% @lz)∧(type_of% @n8)∧(type_of% @mb)∧(∀ {α:Type} [Enc α] (aD:Bool) (A:ae) (x:α),bl aD A (enc x)=some (enc x))∧(∀ {α:Type} [Enc α] (x:α),(enc x).cu=true)∧(type_of% @Eb)∧(type_of% @AY)∧(type_of% @AX)∧(type_of% @OS) ∧
  (type_of% @OH)∧(type_of% @Eg)∧(type_of% @qT)∧(∀ (a:Nat) l m,(a::l)++m=a::(l++m))∧(∀ b:Bool,((if b=true then (0:Int) else 12)==0)=b)∧(∀ b:Bool,((if b=true then (0:Int) else 12) != 0) = !b) :=
 ⟨lz,n8,mb,@ev,@dO,Eb,AY,AX,OS,OH,Eg,qT,fun _ _ _=>rfl,fun b=>by cases b <;>rfl,fun b=>by cases b <;>rfl⟩
theorem QW(x:ao):aw Tryz.prog 84 [enc x] (enc (mE x)):=by
 refine aw.bj Tryz.func84 Ua We Yz (zz0 rfl) (fun hwf W0 D0 E1 =>?_);simp only[CX,NW,bg];have R:=u8 @aJ @U
 repeat' ((first |(with_reducible refine .guard (fun hb =>?_) (fun hb =>?_) <;>try simp only[hb])|refine J.aE (by decide +kernel) rfl fun K hK =>?_|(refine .ay [0,1,2,3,15,24,25,36,41,47] hK ?_;clear hK K)|(with_reducible refine .done (hK _ ?_);clear hK K)|refine J.of rfl ?_|(with_reducible refine ai.aB (fun h =>?_) (fun h =>?_) <;>try simp only[h])) <;>try simp only[aF,R,simprocAttr])
 all_goals clear R
 all_goals (congr 1;simp_all[mE,p5])
theorem u3(x:ao):aw Tryz.prog 117 [enc x] (enc (iv x)):=by
 refine aw.bj Tryz.func117 Sx UB WV (zz0 rfl) (fun hwf W0 D0 E1 =>?_);simp only[Bi,Me,bg];refine .aq (by decide +kernel) fun K hK =>?_;simp only[FF,U,simprocAttr]
 try simp only[aJ,U,simprocAttr]
 refine .done (hK _ ?_);clear hK K;refine .aq (by decide +kernel) fun K hK =>?_;simp only[FG,U,simprocAttr]
 try simp only[aJ,U,simprocAttr]
 refine .done (hK _ ?_);clear hK K;refine .aq (by decide +kernel) fun K hK =>?_;simp only[FH,U,simprocAttr]
 try simp only[aJ,U,simprocAttr]
 refine .flat _ (P4 _) rfl ?_
 try simp only[U,simprocAttr]
 refine .done (hK _ ?_);clear hK K;refine J.gf [1,2,3,4] ?_;simp only[yd,reduceIte,Nat.reduceBEq];by_cases hk:0≤x.kind∧x.kind≤6
 ·refine J.seq (J.oq (ar [(1,.ptr 1 []),(3,.ptr 3 []),(4,.bool (ky x))] [(1,.box (enc x)),(3,.box (enc (mE x)))]) ?_ fun B hB=>J.sub hB ?_)
  ·clear hwf;obtain hk | hk | hk | hk | hk | hk | hk:x.kind=0∨x.kind=1∨x.kind=2∨x.kind=3∨x.kind=4∨x.kind=5∨x.kind=6:=by omega
   all_goals
    have R:=u8 @hk (u8 @aJ @U)
    repeat' ((first |(with_reducible refine .guard (fun hb =>?_) (fun hb =>?_) <;>try simp only[hb])|refine J.aE (by decide +kernel) rfl fun K hK =>?_|refine .flat _ (z6 _) rfl ?_|refine .flat _ (P5 _) rfl ?_|refine .flat _ (P6 _) rfl ?_|refine .flat _ (mA _ _ _) rfl ?_|refine .flat _ (Af _) rfl ?_|refine .flat _ (u6 _) rfl ?_|(refine J.qm (gs:=wK) [] [(1,[1]),(3,[3]),(23,[1]),(25,[3]),(26,[3])] [0,1,2,3,4,5] (by decide +kernel) (eA.of (by simp[mQ,aP,tL,I.only])) fun K hK =>?_;simp only[lj,wK,List.getD_cons_zero,List.getD_cons_succ,R,simprocAttr])|(refine J.qm (gs:=wL) [] [(1,[1]),(3,[3]),(55,[1]),(57,[1]),(59,[1]),(61,[3]),(62,[3]),(63,[3])] [0,1,2,3,4,5,6,7,8,9,10,11] (by decide +kernel) (eA.of (by simp[mQ,aP,tL,I.only])) fun K hK =>?_;simp only[lj,wL,List.getD_cons_zero,List.getD_cons_succ,R,simprocAttr])|(refine .ay [0,1,2,3,4,20,21,53,87,98,110,122] hK ?_;clear hK K)|(with_reducible refine .done (hK _ ?_);clear hK K)|refine J.of rfl ?_|(with_reducible refine ai.aB (fun h =>?_) (fun h =>?_) <;>try simp only[h])) <;>try simp only[aF,R,simprocAttr])
    all_goals clear R
   all_goals
    refine az.bL ?_ ?_ ?_ ?_ <;>simp[*,aO,bC,bx,aZ,al,aP,b8,I.only,ah.only,bh,ky,mE,p5]
  ·have R:=u8 @aJ @U
   repeat' ((first |(with_reducible refine .guard (fun hb =>?_) (fun hb =>?_) <;>try simp only[hb])|refine J.aE (by decide +kernel) rfl fun K hK =>?_|refine .flat _ (z6 _) rfl ?_|refine .flat _ (u6 _) rfl ?_|(refine .ay [0,1,2,3,4,20,21,53,87,98,110,122] hK ?_;clear hK K)|(with_reducible refine .done (hK _ ?_);clear hK K)|refine J.of rfl ?_|(with_reducible refine ai.aB (fun h =>?_) (fun h =>?_) <;>try simp only[h])) <;>try simp only[aF,R,simprocAttr])
   all_goals clear R
   all_goals simp[iv, *]
 ·have h0:(x.kind==0)=false:=by simp;omega
  have h1:(x.kind==1)=false:=by simp;omega
  have h2:(x.kind==2)=false:=by simp;omega
  have h3:(x.kind==3)=false:=by simp;omega
  have h4:(x.kind==4)=false:=by simp;omega
  have h5:(x.kind==5)=false:=by simp;omega
  have h6:(x.kind==6)=false:=by simp;omega
  have R:=u8 @h0 (u8 @h1 (u8 @h2 (u8 @h3 (u8 @h4 (u8 @h5 (u8 @h6 (u8 @aJ @U)))))))
  repeat' ((first |(with_reducible refine .guard (fun hb =>?_) (fun hb =>?_) <;>try simp only[hb])|refine J.aE (by decide +kernel) rfl fun K hK =>?_|(refine .ay [0,1,2,3,4,20,21,53,87,98,110,122] hK ?_;clear hK K)|(with_reducible refine .done (hK _ ?_);clear hK K)|refine J.of rfl ?_|(with_reducible refine ai.aB (fun h =>?_) (fun h =>?_) <;>try simp only[h])) <;>try simp only[aF,R,simprocAttr])
  all_goals clear R
  simp at h0 h1 h2 h3 h4 h5 h6;simp[iv,ky, *]
def im:ao:=p5 ⟨0,0⟩ 0 0 0 0
theorem sT:I.agg [.agg [.int .i64 0,.int .i64 0],.int .i64 0,.int .i64 0,.int .i64 0,.int .i64 0,.int .i64 0,.int .i64 0,.int .i64 0,.agg [.int .i64 0,.int .i64 0,.int .i64 0,.int .i64 0,.int .i64 0,.int .i64 0],.agg [.int .i64 0,.int .i64 0]]=enc im:=rfl
theorem ym(p:Nat→Bool)(l:List ao):(I.agg (l.map enc)).only p=true:=by simp only[I.only];exact dn p l
def lu(k:Nat)(l:List ao)(m:Nat):List (Nat×ah):=[(k,.box (.agg ((l++List.replicate m im).map enc)))]
def DE(l:List ao):cR:=fun r os'=>(l=[]∧(r=.nils 17∨r=.c0 17)∧os'=[])∨(l≠[]∧∃ m,r=.view 7 [] 17 0 l.length∧os'=lu 7 l m)
theorem PR(l:List ao)(hl:l.length≤1000):cG Tryz.prog 136 [enc l] [] (DE l):=by
 refine cG.bj Tryz.func136 SP UT Xf (zz0 rfl) (zz0 rfl) (fun m hm=>by simp[al,ak] at hm) (fun hwf W0 D0 E1 =>?_);simp only[BB,Mw,bg];refine .aq (by decide +kernel) fun K hK =>?_;simp only[GK,U];refine .done (hK _ ?_);clear hK K;refine J.seq (J.seq ?_);by_cases hn:l=[]
 ·subst hn;refine .bK (by decide +kernel) fun K hK =>?_;simp only[xb,U,Nat.reduceEqDiff,reduceIte];simp only[uS,List.isEmpty_nil,qb];refine .any rfl fun b _ =>?_
  try simp only[U]
  generalize (b==0)=t;cases t
  ·refine .done (hK _ ?_);clear hK K;try simp only[au]
   refine J.bP ?_;simp only[ai,U,Nat.reduceEqDiff,reduceIte];refine ⟨fun h =>?_,fun h =>?_⟩
   ·cases h
   refine J.skip ?_;try simp only[au]
   refine .aq (by decide +kernel) fun K hK =>?_;simp only[xc,U]
   try simp only[cK,sT,U,Nat.reduceEqDiff,reduceIte]
   refine .done (hK _ ?_);clear hK K;refine J.ret ?_;simp only[eX];exact ⟨[],[.c0 17],pQ,⟨⟨.c0 17,rfl,.inl ⟨rfl,rfl,rfl⟩⟩,trivial⟩,.inl ⟨rfl,.inr rfl,rfl⟩⟩
  ·refine .done (hK _ ?_);clear hK K;refine J.bP ?_;simp only[ai,U,Nat.reduceEqDiff,reduceIte];refine ⟨fun h =>?_,fun h =>?_⟩
   ·refine .aq (by decide +kernel) fun K hK =>?_;simp only[GL,U];refine .done (hK _ ?_);clear hK K;refine J.ret ?_;simp only[au,eX];exact ⟨[],[.nils 17],pQ,⟨⟨.nils 17,rfl,.inl ⟨rfl,rfl,rfl⟩⟩,trivial⟩,.inl ⟨rfl,.inl rfl,rfl⟩⟩
   ·cases h
 ·have hu:kl (enc l)=false:=by rw[uS];simpa using hn
  refine .bK (by decide +kernel) fun K hK =>?_;simp only[xb,U,Nat.reduceEqDiff,reduceIte]
  try simp only[hu,Lh _ l hn,U]
  refine .done (hK _ ?_);clear hK K;try simp only[au]
  refine J.bP ?_;simp only[ai,U,Nat.reduceEqDiff,reduceIte];refine ⟨fun h =>?_,fun h =>?_⟩
  ·cases h
  refine J.skip ?_;try simp only[au]
  refine .aq (by decide +kernel) fun K hK =>?_;simp only[xc,U]
  try simp only[cK,sT,U,Nat.reduceEqDiff,reduceIte]
  refine br.oz im rfl hn rfl (by omega) (by simp only[maxLen];omega) fun m =>?_
  try simp only[U,Nat.reduceEqDiff,reduceIte]
  refine .done (hK _ ?_);clear hK K;refine J.ret ?_;simp only[eX];exact ⟨lu 7 l m,[.view 7 [] 17 0 l.length],jK rfl (fun p=>ym p _),⟨⟨_,rfl,.inl ⟨rfl,rfl,rfl⟩⟩,trivial⟩,.inr ⟨hn,m,rfl,rfl⟩⟩
def KK(l:List ao)(i:Nat)(g:ao):List ao:=l.take i++g::l.drop i
theorem ap4(l:List ao)(i k:Nat)(g:ao)(h:i<l.length)(hk:1≤k)(xs:List ao)(hx:xs=l++List.replicate k im)(ys:List ao)(hy:ys=xs.take (i+1)++(((xs.drop i).take (l.length+1-i)).take (l.length-i)++xs.drop (i+1+(l.length-i)))) :
  ys.take i++([g].take 1++ys.drop (i+1))=KK l i g++List.replicate (k-1) im:=by
 have e1:((xs.drop i).take (l.length+1-i)).take (l.length-i)=l.drop i:=by
  rw[List.take_take,Nat.min_eq_left (by omega),hx,List.drop_append_of_le_length (by omega),zx3 (by rw[zy9];omega),zw1 (by rw[zy9];omega)]
 have e2:xs.drop (i+1+(l.length-i))=List.replicate (k-1) im:=by
  rw[hx,List.drop_append,zw3 (by omega),zy5,List.drop_replicate]
  congr 1;omega
 have hl:(xs.take (i+1)).length=i+1:=by rw[zy4,hx,zz5];omega
 have e3:ys.take i=l.take i:=by
  rw[hy,zx3 (by omega),List.take_take,Nat.min_eq_left (by omega),hx,zx3 (by omega)]
 have e4:ys.drop (i+1)=l.drop i++List.replicate (k-1) im:=by
  rw[hy,e1,e2];exact List.drop_left' hl
 rw[e3,e4];simp[KK]
def dq(l:List ao)(i:Nat):List ao:=l.take i++l.drop (i+1)
theorem D4{l:List ao}{i:Nat}(h:i<l.length):(dq l i).length=l.length-1:=by
 simp only[dq,zz5,zy4,zy9];omega
def DX(l:List ao)(i:Nat):cR:=fun r os'=>∃ q,r=.view 1000000 [] 17 0 (l.length-1)∧os'=lu 1000000 (dq l i) q
theorem al8(l:List ao)(i k:Nat)(h:i+1<l.length)(xs:List ao)(hx:xs=l++List.replicate k im)(a:List ao)(ha:a=xs.take i++(l.drop (i+1)++xs.drop (i+(l.drop (i+1)).length))) :
  a.take (l.length-1)++(List.replicate 1 im++a.drop (l.length-1+1))=dq l i++List.replicate (k+1) im:=by
 have e1:xs.take i=l.take i:=by rw[hx,zx3 (by omega)]
 have e0:i+(l.drop (i+1)).length=l.length-1:=by rw[zy9];omega
 have e2:a=dq l i++xs.drop (l.length-1):=by rw[ha,e1,e0,dq,zz6]
 have hl:=D4 (l:=l) (i:=i) (by omega);have e3:a.take (l.length-1)=dq l i:=by rw[e2,←hl,List.take_left]
 have e4:a.drop (l.length-1+1)=List.replicate k im:=by
  rw[e2,List.drop_append,hl,zw3 (by omega),zy5,List.drop_drop];have:l.length-1+(l.length-1+1-(l.length-1))=l.length:=by omega
  rw[this,hx,List.drop_left]
 rw[e3,e4,List.replicate_append_replicate,Nat.add_comm 1 k]
theorem al9(l:List ao)(k:Nat)(i:Nat)(h:i+1=l.length)(xs:List ao)(hx:xs=l++List.replicate k im):xs.take (l.length-1)++(List.replicate 1 im++xs.drop (l.length-1+1))=dq l i++List.replicate (k+1) im:=by
 have e1:l.length-1=i:=by omega
 have e2:xs.drop (l.length-1+1)=List.replicate k im:=by rw[show l.length-1+1=l.length by omega,hx,List.drop_left]
 have e3:xs.take (l.length-1)=dq l i:=by
  rw[e1,hx,zx3 (by omega),dq,zw3 (by omega),zx5]
 rw[e2,e3,List.replicate_append_replicate,Nat.add_comm 1 k]
theorem PQ(l:List ao)(i:Nat)(k:Nat)(hi:i<l.length)(hlen:l.length≤1000) :
  cG Tryz.prog 135 [.view 1000000 [] 17 0 l.length,enc (i:Int),enc ((i+1:Nat):Int)] (lu 1000000 l k) (DX l i):=by
 refine cG.bj Tryz.func135 SO US Xe (zz0 rfl) (zz0 rfl) (fun m hm=>by rw[cH.1 hm];exact zz9 _) (fun hwf W0 D0 E1 =>?_);simp only[BA,Mv,bg,zz3,Nat.reduceAdd];simp only[lu];obtain ⟨xs,hxs⟩:∃ xs,xs=l++List.replicate k im:=⟨_,rfl⟩
 have hxl:xs.length=l.length+k:=by rw[hxs];simp
 have htot:(xs.map (enc (α:=ao))).length=l.length+k:=by rw[zy3];exact hxl
 rw[←hxs];have hA:∀ ts,(ar ts [(1000000,.box (.agg (xs.map (enc (α:=ao)))))]).o 1000000=some (.box (.agg (xs.map enc))):=fun _=>rfl;refine .aq (by decide +kernel) fun K hK =>?_;simp only[GG,U];refine .done (hK _ ?_);clear hK K;refine .aq (by decide +kernel) fun K hK =>?_;simp only[GH,U,Nat.reduceEqDiff,reduceIte]
 try simp only[cK,htot,zy7,ao8 (show i≤i+1 by omega) (show i+1≤l.length by omega) (show l.length≤l.length+k by omega),U,Nat.reduceEqDiff,reduceIte]
 refine .done (hK _ ?_);clear hK K;refine J.seq (J.seq ?_);refine .bK (by decide +kernel) fun K hK =>?_;simp only[GI,U,Nat.reduceEqDiff,reduceIte]
 try simp only[da,aX,mb,ev,U,Nat.reduceEqDiff,reduceIte,Int.reduceBNe,Int.reduceBEq]
 refine .done (hK _ ?_);clear hK K;try simp only[au]
 refine J.bP ?_;simp only[ai,U,Nat.reduceEqDiff,reduceIte];refine ⟨fun h =>?_,fun h =>?_⟩
 ·exfalso
  have:(i:Int)=((i+1:Nat):Int):=by simpa using h
  omega
 refine J.skip ?_;try simp only[au]
 refine .aq (by decide +kernel) fun K hK =>?_;simp only[GJ,U,Nat.reduceEqDiff,reduceIte]
 try simp only[cK,U,Nat.reduceEqDiff,reduceIte]
 refine .done (hK _ ?_);clear hK K;by_cases hl1:i+1<l.length
 ·have hd:(xs.drop (i+1)).take (l.length-(i+1))=l.drop (i+1):=by
   rw[hxs,List.drop_append_of_le_length (by omega),zx3 (by rw[zy9];omega),zw1 (by rw[zy9];omega)]
  have hdl:i+(l.drop (i+1)).length=l.length-1:=by rw[zy9];omega
  obtain ⟨b,hb⟩:∃ b,b=xs.take i++(l.drop (i+1)++xs.drop (i+(l.drop (i+1)).length)):=⟨_,rfl⟩
  have hbl:b.length=l.length+k:=by rw[hb];simp;omega
  have hcont:=al8 l i k hl1 xs hxs b hb;refine .aq (by decide +kernel) fun K hK =>?_;simp only[wZ,U,Nat.reduceEqDiff,reduceIte]
  try simp only[cK,htot,zu4,zy7,rW (show i≤l.length+k by omega) (show 0<l.length+k by omega),qt (show i+1≤l.length by omega) (show l.length≤l.length+k by omega) (show i+1<l.length+k by omega),U,Nat.reduceEqDiff,reduceIte]
  rw[RA (esz:=17) (xs:=xs) (ys:=l.drop (i+1)) _ _ (by rw[qv (xs:=xs) (hA _) (by omega),hd]) (by simp;omega) (hA _) (by rw[zy9];omega)];rw[←hb,hdl]
  try simp only[U,Nat.reduceEqDiff,reduceIte]
  refine .done (hK _ ?_);clear hK K;have htb:(b.map (enc (α:=ao))).length=l.length+k:=by rw[zy3];exact hbl
  have hB:∀ ts os,(ar ts ((1000000,.box (.agg (b.map (enc (α:=ao)))))::os)).o 1000000=some (.box (.agg (b.map enc))):=fun _ _=>rfl;refine .aq (by decide +kernel) fun K hK =>?_;simp only[w0,U,Nat.reduceEqDiff,reduceIte]
  try simp only[cK,htb,zu4,zy7,sT,U,Nat.reduceEqDiff,reduceIte]
  rw[OL (show l.length-1≤l.length by omega) (show l.length≤l.length+k by omega) (by omega)]
  try simp only[cK,U,Nat.reduceEqDiff,reduceIte]
  rw[qO (xs:=b) im (hB _ _) (by omega)];have hone:l.length-(l.length-1)=1:=by omega
  try simp only[hone,hcont,U]
  refine .done (hK _ ?_);clear hK K;refine .aq (by decide +kernel) fun K hK =>?_;simp only[xa,U,Nat.reduceEqDiff,reduceIte];refine .done (hK _ ?_);clear hK K;refine J.ret ?_;simp only[eX];exact ⟨lu 1000000 (dq l i) (k+1),[.view 1000000 [] 17 0 (l.length-1)],jK rfl (fun p=>ym p _),⟨⟨_,rfl,.inl ⟨rfl,rfl,rfl⟩⟩,trivial⟩,k+1,rfl,rfl⟩
 ·have hie:i+1=l.length:=by omega
  obtain ⟨b,hb⟩:∃ b,b=xs:=⟨_,rfl⟩
  have hbl:b.length=l.length+k:=by rw[hb];exact hxl
  have hcont:=al9 l k i hie xs hxs;rw[←hb] at hcont;have hi1:i=l.length-1:=by omega
  obtain ⟨y,hy⟩:=ao7 (n:=1000000) (p:=[]) (sz:=17) (show i+1≤l.length by omega) (show l.length≤l.length+k by omega);have hye:∀ ts,eE (ar ts [(1000000,.box (.agg (xs.map (enc (α:=ao)))))]) 17 y=some []:=fun ts=>by
   by_cases hk:k=0
   ·have:iy 1000000 [] 17 0 l.length (l.length+k) (some (.int .i64 ((i+1:Nat):Int))) none none=some (.c0 17):=by
     simp only[iy,iB];rw[if_pos ⟨by omega,by omega,by omega⟩,if_pos (by omega)]
    rw[this] at hy;cases hy;rfl
   ·rw[qt (show i+1≤l.length by omega) (show l.length≤l.length+k by omega) (by omega)] at hy;cases hy;rw[qv (xs:=xs) (hA _) (by omega),hie];simp
  refine .aq (by decide +kernel) fun K hK =>?_;simp only[wZ,U,Nat.reduceEqDiff,reduceIte]
  try simp only[cK,htot,zu4,zy7,rW (show i≤l.length+k by omega) (show 0<l.length+k by omega),hy,U,Nat.reduceEqDiff,reduceIte]
  rw[vr (esz:=17) (xs:=xs) _ _ (hye _) (hA _) (by omega)];rw[hi1,←hb]
  try simp only[U,Nat.reduceEqDiff,reduceIte]
  refine .done (hK _ ?_);clear hK K;have htb:(b.map (enc (α:=ao))).length=l.length+k:=by rw[zy3];exact hbl
  have hB:∀ ts os,(ar ts ((1000000,.box (.agg (b.map (enc (α:=ao)))))::os)).o 1000000=some (.box (.agg (b.map enc))):=fun _ _=>rfl;refine .aq (by decide +kernel) fun K hK =>?_;simp only[w0,U,Nat.reduceEqDiff,reduceIte]
  try simp only[cK,htb,zu4,zy7,sT,U,Nat.reduceEqDiff,reduceIte]
  rw[OL (show l.length-1≤l.length by omega) (show l.length≤l.length+k by omega) (by omega)]
  try simp only[cK,U,Nat.reduceEqDiff,reduceIte]
  rw[qO (xs:=b) im (hB _ _) (by omega)];have hone:l.length-(l.length-1)=1:=by omega
  try simp only[hone,hcont,U]
  refine .done (hK _ ?_);clear hK K;refine .aq (by decide +kernel) fun K hK =>?_;simp only[xa,U,Nat.reduceEqDiff,reduceIte];refine .done (hK _ ?_);clear hK K;refine J.ret ?_;simp only[eX];exact ⟨lu 1000000 (dq l i) (k+1),[.view 1000000 [] 17 0 (l.length-1)],jK rfl (fun p=>ym p _),⟨⟨_,rfl,.inl ⟨rfl,rfl,rfl⟩⟩,trivial⟩,k+1,rfl,rfl⟩
def eC(b:aH)(s:I):I:=.agg [.agg [.int .i64 b.no,.int .i64 b.eJ,.int .i64 b.dY,.int .i64 b.bX,.int .i64 b.jH,.int .i64 b.born,.int .i64 b.dH,.bool b.found,s]]
structure eK where
 b:aH
instance:Enc eK where
 enc x:=.agg [enc x.b]
 sz:=9
 aU:=.ej [.ej [.one,.one,.one,.one,.one,.one,.one,.one,.one]]
 gb:=true
 done e:=by simp only[I.done,I.eI,Enc.done,zw4]
 size e:=by simp only[I.size,I.sizes,iD,Ee]
 jT e:=by simp only[I.aU,I.cX,eL];rfl
 agg _:=rfl
def fe(B:Nat):Nat→List aH→List (Nat×ah)
 |_,[]=>[]
 |i,b::bs=>(B+2+2*i,.box (eC b (.own (B+3+2*i) b.bH.length)))::(B+3+2*i,.b5 66 6 (b.bH.map enc))::fe B (i+1) bs
def ez(B n:Nat):List I:=(List.range n).map fun i=>.ptr (B+2+2*i) []
def dw(bs:List aH):List I:=(bs.map (·.no)).map enc
def cA(B:Nat)(bs:List aH):List (Nat×ah):=(B,.box (.agg [.mref (B+1)]))::(B+1,.cB (dw bs) (ez B bs.length))::fe B 0 bs
theorem tI(B:Nat):∀ (bs:List aH) (i n:Nat),n<B+2+2*i→ak (fe B i bs) n=none
 | [],_,_,_=>rfl
 |b::bs,i,n,h=>by
  simp only[fe,ak];rw[if_neg (by omega),if_neg (by omega)];exact tI B bs (i+1) n (by omega)
theorem tG(B:Nat):∀ (bs:List aH) (i n:Nat),B+2+2*(i+bs.length)≤n→ak (fe B i bs) n=none
 | [],_,_,_=>rfl
 |b::bs,i,n,h=>by
  simp only[List.length_cons] at h;simp only[fe,ak];rw[if_neg (by omega),if_neg (by omega)];exact tG B bs (i+1) n (by omega)
theorem tH(B:Nat):∀ (bs:List aH) (i k:Nat) (h:k<bs.length),ak (fe B i bs) (B+2+2*(i+k))=some (.box (eC bs[k] (.own (B+3+2*(i+k)) (bs[k]).bH.length)))
 | [],_,_,h=>by simp at h
 |b::bs,i,0,_=>by simp[fe,ak]
 |b::bs,i,k+1,h=>by
  simp only[fe,ak];rw[if_neg (by omega),if_neg (by omega)];have:=tH B bs (i+1) k (by simpa using h);rw[show i+1+k=i+(k+1) by omega] at this;exact this
theorem tJ(B:Nat):∀ (bs:List aH) (i k:Nat) (h:k<bs.length),ak (fe B i bs) (B+3+2*(i+k))=some (.b5 66 6 ((bs[k]).bH.map enc))
 | [],_,_,h=>by simp at h
 |b::bs,i,0,_=>by
  simp only[fe,ak];rw[if_neg (by omega),if_pos (by omega)];rfl
 |b::bs,i,k+1,h=>by
  simp only[fe,ak];rw[if_neg (by omega),if_neg (by omega)];have:=tJ B bs (i+1) k (by simpa using h);rw[show i+1+k=i+(k+1) by omega] at this;exact this
theorem tW(B n m:Nat):n<B∨n=B∨n=B+1∨(∃ k,k<m∧n=B+2+2*k)∨(∃ k,k<m∧n=B+3+2*k)∨B+2+2*m≤n:=by
 by_cases h1:n<B
 ·exact .inl h1
 by_cases h2:n=B
 ·exact .inr (.inl h2)
 by_cases h3:n=B+1
 ·exact .inr (.inr (.inl h3))
 by_cases h4:B+2+2*m≤n
 ·exact .inr (.inr (.inr (.inr (.inr h4))))
 rcases Nat.mod_two_eq_zero_or_one (n-B) with h5 | h5
 ·exact .inr (.inr (.inr (.inl ⟨(n-B-2) / 2,by omega,by omega⟩)))
 ·exact .inr (.inr (.inr (.inr (.inl ⟨(n-B-3) / 2,by omega,by omega⟩))))
section
variable {B:Nat} {bs:List aH}
theorem kC{n:Nat}(h:n<B):ak (cA B bs) n=none:=by
 simp only[cA,ak];rw[if_neg (by omega),if_neg (by omega)];exact tI B bs 0 n (by omega)
theorem tz{n:Nat}(h:B+2+2*bs.length≤n):ak (cA B bs) n=none:=by
 simp only[cA,ak];rw[if_neg (by omega),if_neg (by omega)];exact tG B bs 0 n (by omega)
theorem kB:ak (cA B bs) B=some (.box (.agg [.mref (B+1)])):=by simp[cA,ak]
theorem kX:ak (cA B bs) (B+1)=some (.cB (dw bs) (ez B bs.length)):=by simp[cA,ak]
theorem mO{k:Nat}(h:k<bs.length):ak (cA B bs) (B+2+2*k)=some (.box (eC bs[k] (.own (B+3+2*k) (bs[k]).bH.length))):=by
 simp only[cA,ak];rw[if_neg (by omega),if_neg (by omega)];have:=tH B bs 0 k h
 rwa [zz3] at this
theorem lV{k:Nat}(h:k<bs.length):ak (cA B bs) (B+3+2*k)=some (.b5 66 6 ((bs[k]).bH.map enc)):=by
 simp only[cA,ak];rw[if_neg (by omega),if_neg (by omega)];have:=tJ B bs 0 k h
 rwa [zz3] at this
theorem nO{n:Nat} : al (cA B bs) n=decide (B≤n∧n<B+2+2*bs.length):=by
 rcases tW B n bs.length with h | h | h | ⟨k,hk,h⟩ | ⟨k,hk,h⟩ | h
 ·simp only[al,kC h];simp;omega
 ·subst h;simp only[al,kB];simp;omega
 ·subst h;simp only[al,kX];simp;omega
 ·subst h;simp only[al,mO hk];simp;omega
 ·subst h;simp only[al,lV hk];simp;omega
 ·simp only[al,tz h];simp;omega
theorem yP(p:Nat→Bool){n:Nat}(h:∀ i,i<n→p (B+2+2*i)=true):I.bW p (ez B n)=true:=by
 unfold ez
 induction n with
 |zero=>rfl
 |succ n ih =>
  rw[List.range_succ,zx4,gm,ih fun i hi=>h i (by omega)];simp[I.bW,I.only,h n (by omega)]
theorem fB{n:Nat}{x:ah}(h:ak (cA B bs) n=some x):x.only (al (cA B bs))=true∧x.eZ=true:=by
 rcases tW B n bs.length with h2 | h2 | h2 | ⟨k,hk,h2⟩ | ⟨k,hk,h2⟩ | h2
 ·rw[kC h2] at h;cases h
 ·subst h2;rw[kB] at h;cases h;simp[ah.only,I.only,I.bW,nO,ah.eZ];omega
 ·subst h2;rw[kX] at h;cases h;refine ⟨?_,rfl⟩;simp only[ah.only,zz4];exact ⟨dn _ _,yP _ fun i hi=>by rw[nO];simp;omega⟩
 ·subst h2;rw[mO hk] at h;cases h;simp[ah.only,I.only,I.bW,nO,ah.eZ,eC];omega
 ·subst h2;rw[lV hk] at h;cases h;exact ⟨dn _ _,rfl⟩
 ·rw[tz h2] at h;cases h
theorem Kx{i:Nat}(hi:i<bs.length)(b:aH)(hno:b.no=(bs[i]).no)(n:Nat):ak (cA B (bs.set i b)) n =
  if n=B+2+2*i then some (.box (eC b (.own (B+3+2*i) b.bH.length))) else if n=B+3+2*i then some (.b5 66 6 (b.bH.map enc)) else ak (cA B bs) n:=by
 have hl:(bs.set i b).length=bs.length:=List.length_set;have hnos:dw (bs.set i b)=dw bs:=by
  simp only[dw,List.map_set,hno]
  congr 1
  exact List.ext_getElem (by simp) fun j h1 h2=>by
   simp only[List.getElem_set,List.getElem_map];split
   ·rename_i e;subst e;rfl
   ·rfl
 rcases tW B n bs.length with h2 | h2 | h2 | ⟨k,hk,h2⟩ | ⟨k,hk,h2⟩ | h2
 ·rw[kC h2,kC h2,if_neg (by omega),if_neg (by omega)]
 ·subst h2;rw[kB,kB,if_neg (by omega),if_neg (by omega)]
 ·subst h2;rw[kX,kX,hl,hnos,if_neg (by omega),if_neg (by omega)]
 ·subst h2;rw[mO (by omega),mO hk];by_cases e:k=i
  ·subst e;simp
  ·rw[if_neg (by omega),if_neg (by omega)];simp[Ne.symm e]
 ·subst h2;rw[lV (by omega),lV hk];by_cases e:k=i
  ·subst e;rw[if_neg (by omega),if_pos rfl];simp
  ·rw[if_neg (by omega),if_neg (by omega)];simp[Ne.symm e]
 ·rw[tz (by omega),tz h2,if_neg (by omega),if_neg (by omega)]
end
theorem LZ{B n i:Nat}(h:i<n):(ez B n)[i]?=some (.ptr (B+2+2*i) []):=by simp[ez,h]
theorem wq(a b:Int):cn (.i .i64) (enc a) (enc b)=some (decide (a=b)):=Ei a b
theorem tp{bs:List aH}{no:Int} : match (bs.map (·.no)).findIdx? fun x=>decide (no=x) with
  |some i=>∃ h:i<bs.length,bY bs no=some bs[i]∧(bs[i]).no=no
  |none=>bY bs no=none:=by
 cases h:(bs.map (·.no)).findIdx? fun x=>decide (no=x) with
 |none =>
  rw[List.findIdx?_eq_none_iff] at h;simp only;rw[tq];intro hm;have:=h no hm;simp at this
 |some i =>
  obtain ⟨h1,h2,h3⟩:=zv9.1 h;have hi:i<bs.length:=by simpa using h1
  have hno:(bs[i]).no=no:=by simpa using (of_decide_eq_true h2).symm
  refine ⟨hi,?_,hno⟩;simp only[bY,List.find?_eq_some_iff_getElem];refine ⟨by simpa using hno,i,hi,rfl,fun j hj =>?_⟩;have:=h3 j hj;simp at this;simpa using fun e=>this e.symm
theorem pX(B:Nat)(bs:List aH)(no:Int):(bY bs no=none∧gG (.i .i64) .nilp (.int .i64 no) (dw bs) (ez B bs.length)=some (.nilp,false)) ∨
  ∃ i,∃ h:i<bs.length,bY bs no=some bs[i]∧(bs[i]).no=no∧gG (.i .i64) .nilp (.int .i64 no) (dw bs) (ez B bs.length)=some (.ptr (B+2+2*i) [],true):=by
 have h1:=tp (bs:=bs) (no:=no);have h2:=yg wq .nilp no (bs.map (·.no)) (ez B bs.length);rw[ga] at h2;unfold dw;cases h:(bs.map (·.no)).findIdx? fun x=>decide (no=x) with
 |none=>rw[h] at h1 h2;exact .inl ⟨h1,h2⟩
 |some i =>
  rw[h] at h1 h2;obtain ⟨hi,g1,g2⟩:=h1;refine .inr ⟨i,hi,g1,g2,?_⟩;rw[h2];simp only[LZ hi,zy7]
theorem OF{bs:List aH}(hd:(bs.map (·.no)).Nodup){i:Nat}(hi:i<bs.length){b:aH}(hno:b.no=(bs[i]).no):nd bs b=bs.set i b:=by
 refine List.ext_getElem (by simp[nd]) fun j h1 h2 =>?_;simp only[nd,List.getElem_map,List.getElem_set];have hj:j<bs.length:=by simpa using h2
 by_cases e:i=j
 ·subst e;rw[if_pos hno.symm,if_pos rfl]
 ·rw[if_neg e,if_neg];intro he;have he:=he.trans hno;have:=(List.getElem_inj (h₀:=by simpa using hj) (h₁:=by simpa using hi) hd).1 (by simpa using he);exact e this.symm
theorem Es(x:eK):(enc x).du=some [enc x.b]:=rfl
theorem Et(b:aH)(s:I):(eC b s).du=some [.agg [.int .i64 b.no,.int .i64 b.eJ,.int .i64 b.dY,.int .i64 b.bX,.int .i64 b.jH,.int .i64 b.born,.int .i64 b.dH,.bool b.found,s]]:=rfl
theorem DC(b:aH)(n k:Nat):(eC b (.own n k)).bu=false:=by simp[eC,I.bu,I.b6]
theorem mM{A:ae}{m n:Nat}{b:aH}(ho:A.o n=some (.b5 66 6 (b.bH.map enc))):dD A (m+3) (eC b (.own n b.bH.length))=some (enc (⟨b⟩:eK)):=by
 have h1:dD A (m+1) (.own n b.bH.length)=some (enc b.bH):=by
  simp only[dD,I.bu,zz8,if_false,ho,zy3,jZ,and_self,if_true];rfl
 have hi:∀ (k:IntKind) (v:Int),dD A (m+1) (.int k v)=some (.int k v):=fun _ _=>by simp[dD,I.bu]
 have hb:∀ v:Bool,dD A (m+1) (.bool v)=some (.bool v):=fun _=>by simp[dD,I.bu]
 have h2:dD A (m+2) (.agg [.int .i64 b.no,.int .i64 b.eJ,.int .i64 b.dY,.int .i64 b.bX,.int .i64 b.jH,.int .i64 b.born,.int .i64 b.dH,.bool b.found,.own n b.bH.length])=some (enc b):=by
  rw[dD];simp only[I.bu,I.b6,Bool.and_false,Bool.and_true,zz8,if_false,fT,hi,hb,h1,zy7];rfl
 rw[eC,dD];simp only[I.bu,I.b6,Bool.and_false,Bool.and_true,zz8,if_false,fT,h2,zy7];rfl
theorem OV :
  (∀ (A:ae) n b s (v u:Int) rest,dx A none n [0,3] (eC b s) (.int .i64 v) rest (some (.int .i64 u))=aC rest (A.aR n (.box (eC { b with bX:=v } s)))) ∧
  (∀ (A:ae) n b s (v u:Int) rest,dx A none n [0,6] (eC b s) (.int .i64 v) rest (some (.int .i64 u))=aC rest (A.aR n (.box (eC { b with dH:=v } s)))) ∧
  (∀ (A:ae) n b s (v u:Bool) rest,dx A none n [0,7] (eC b s) (.bool v) rest (some (.bool u))=aC rest (A.aR n (.box (eC { b with found:=v } s)))) ∧
  (∀ (A:ae) n b s m k m' k' rest,dx A none n [0,8] (eC b s) (.own m k) rest (some (.own m' k'))=aC rest (A.aR n (.box (eC b (.own m k))))) :=
 ⟨fun _ _ _ _ v u _=>by rw[eF (s:=none) (v:=.int .i64 v) (old:=.int .i64 u) rfl rfl rfl];rfl,fun _ _ _ _ v u _=>by rw[eF (s:=none) (v:=.int .i64 v) (old:=.int .i64 u) rfl rfl rfl];rfl,
  fun _ _ _ _ v u _=>by rw[eF (s:=none) (v:=.bool v) (old:=.bool u) rfl rfl rfl];rfl,fun _ _ _ _ m k m' k' _=>by rw[eF (s:=none) (v:=.own m k) (old:=.own m' k') rfl rfl rfl];rfl⟩
theorem ik:(type_of% @Es)∧(type_of% @Et)∧(type_of% @DC)∧(type_of% @OV)∧(type_of% @fU)∧(∀ n:Nat,(n=n)=True)∧(∀ rs post A,oe rs post .ret A=lB rs post A):=⟨Es,Et,DC,OV,fU,fun _=>eq_self _,eX⟩
theorem jD(b:aH):aw Tryz.prog 90 [.ref (enc (⟨b⟩:eK))] (enc (decide (0≤b.dH))):=by
 refine aw.bj Tryz.func90 Ue Wi YD (zz0 rfl) (fun hwf W0 D0 E1 =>?_);simp only[C1,N0,bg];have R:=u8 @ik (u8 @eM (u8 @aJ @U))
 repeat' ((first |(with_reducible refine .guard (fun hb =>?_) (fun hb =>?_) <;>try simp only[hb])|refine J.aE (by decide +kernel) rfl fun K hK =>?_|(refine .ay [0,2] hK ?_;clear hK K)|(with_reducible refine .done (hK _ ?_);clear hK K)|refine J.of rfl ?_|(with_reducible refine ai.aB (fun h =>?_) (fun h =>?_) <;>try simp only[h])) <;>try simp only[aF,R,simprocAttr])
 all_goals clear R
def ji(B d:Nat)(bs:List aH)(x:ao):cR:=fun r os'=>match dz fQ bs x with
 |none=>r=.bool false∧os'=cA B bs
 |some bs'=>r=.bool true∧os'=if x.kind=1∨x.kind=2 then (B+1,.cB (dw bs') (ez B bs.length++[.ptr d []]))::(d,.box (eC (fu x) (.nils 6)))::cA B bs else cA B bs'
theorem kY{bs:List aH} : ∀ m,al (cA 1000000 bs) m=true→1000000≤m:=fun m hm=>by rw[nO] at hm;simp at hm;omega
theorem gI{ts:List (Nat×I)}{os os':List (Nat×ah)}{b:Bool}{post:cR}(ht:Abs.bQ ts 4=.bool b)(ho:∀ n,al os' n=true→ak os n=ak os' n)(hg:∀ n x,ak os' n=some x→x.only (al os')=true∧x.eZ=true)(hp:post (.bool b) os'):lB [.tmp 4] post (ar ts os):=by
 refine ⟨os',[.bool b],fun n x hx=>⟨?_,hg n x hx⟩,⟨⟨.bool b,?_,.inl ⟨rfl,rfl,rfl⟩⟩,trivial⟩,hp⟩
 ·show ak os n=some x
  rw[ho n (by simp[al,hx])];exact hx
 ·show some (Abs.bQ ts 4)=some _
  rw[ht]
theorem lW{bs:List aH}{z:ah} : ∀ n,al (cA 1000000 bs) n=true→ak ((3,z)::cA 1000000 bs) n=ak (cA 1000000 bs) n:=fun n h=>by
 have:=kY n h;simp only[ak];rw[if_neg (by omega)]
theorem x0{bs:List aH}{i:Nat}(hi:i<bs.length){b:aH}(hno:b.no=(bs[i]).no)(hs:b.bH=(bs[i]).bH){z:ah}{nl nr:Nat}(hnl:nl=1000000+2+2*i)(hnr:nr=1000000+3+2*i) :
  ∀ n,al (cA 1000000 (bs.set i b)) n=true→ak ((nl,.box (eC b (.own nr (bs[i]).bH.length)))::(3,z)::cA 1000000 bs) n=ak (cA 1000000 (bs.set i b)) n:=fun n h=>by
 have:=kY n h;rw[Kx hi b hno];simp only[ak,hs];subst hnl hnr;rw[if_neg (show ¬ n=3 by omega)];split
 ·rfl
 ·split
  ·rename_i e;subst e;exact lV hi
  ·rfl
theorem j9{B d:Nat}{bs:List aH}{x:ao}(h:dz fQ bs x=none):ji B d bs x (.bool false) (cA B bs):=by simp[ji,h]
theorem tB{B d:Nat}{bs:List aH}{x:ao}(hd:(bs.map (·.no)).Nodup)(hk:¬ (x.kind=1∨x.kind=2)){i:Nat}(hi:i<bs.length)(hg:bY bs x.db=some bs[i]){b:aH}(ht:fP bs[i] x=some b)(hno:b.no=(bs[i]).no) :
  ji B d bs x (.bool true) (cA B (bs.set i b)):=by
 have:dz fQ bs x=some (bs.set i b):=by
  simp only[dz,if_neg hk,hg,ht,zy7,OF hd hi hno]
 simp only[ji,this,if_neg hk,and_self]
theorem sD{bs:List aH}{x:ao}(hk:¬ (x.kind=1∨x.kind=2))(hg:bY bs x.db=none):dz fQ bs x=none:=by
 simp only[dz,if_neg hk,hg]
theorem AP{bs:List aH}{x:ao}(hk:¬ (x.kind=1∨x.kind=2)){b:aH}(hg:bY bs x.db=some b)(ht:fP b x=none):dz fQ bs x=none:=by
 simp only[dz,if_neg hk,hg,ht,zu4]
theorem Qk(bs:List aH)(x:ao)(d:Nat)(hk:x.kind=3)(hd:(bs.map (·.no)).Nodup):cG Tryz.prog 174 [.ptr 1000000 [],enc x] (cA 1000000 bs) (ji 1000000 d bs x):=by
 refine cG.bj Tryz.func174 Tl Vq XL (zz0 rfl) (zz0 rfl) kY (fun hwf W0 D0 E1 =>?_);simp only[B9,M4,bg,zz3];clear hwf;have hk12:¬ (x.kind=1∨x.kind=2):=by omega
 have n3:ak (cA 1000000 bs) 3=none:=kC (by omega);have h0:ak (cA 1000000 bs) 1000000=some (.box (.agg [.mref 1000001])):=kB;have h1:ak (cA 1000000 bs) 1000001=some (.cB (dw bs) (ez 1000000 bs.length)):=kX;rcases pX 1000000 bs x.db with ⟨hg,hlk⟩ | ⟨i,hi,hg,hno,hlk⟩
 ·have R:=u8 @n3 (u8 @h0 (u8 @h1 (u8 @hlk (u8 @cD (u8 @ik (u8 @eM (u8 @aJ @U)))))))
  repeat' ((first |(with_reducible refine .guard (fun hb =>?_) (fun hb =>?_) <;>try simp only[hb])|refine J.aE (by decide +kernel) rfl fun K hK =>?_|refine .flat _ (jD _) rfl ?_|(refine .ay [0,1,3,4,5,36] hK ?_;clear hK K)|(with_reducible refine .done (hK _ ?_);clear hK K)|refine J.of rfl ?_|(with_reducible refine ai.aB (fun h =>?_) (fun h =>?_) <;>try simp only[h])) <;>try simp only[aF,R,simprocAttr])
  all_goals clear R
  exact gI rfl lW (fun n x h=>fB h) (j9 (sD hk12 hg))
 ·have hl:=mO (B:=1000000) hi;have hr:=lV (B:=1000000) hi;obtain ⟨nl,hnl⟩:∃ nl,nl=1000000+2+2*i:=⟨_,rfl⟩
  obtain ⟨nr,hnr⟩:∃ nr,nr=1000000+3+2*i:=⟨_,rfl⟩
  rw[←hnl] at hl hlk;rw[←hnr] at hl hr;have e1:(nl=3)=False:=by simp;omega
  have e2:(nr=3)=False:=by simp;omega
  have e3:(3=nl)=False:=by simp;omega
  have e4:(nr=nl)=False:=by simp;omega
  have e5:(nl=nr)=False:=by simp;omega
  have e6:(3=nr)=False:=by simp;omega
  have R:=u8 @n3 (u8 @h0 (u8 @h1 (u8 @hl (u8 @hr (u8 @e1 (u8 @e2 (u8 @e3 (u8 @hlk (u8 @mM (u8 @cD (u8 @ik (u8 @eM (u8 @aJ @U)))))))))))))
  repeat' ((first |(with_reducible refine .guard (fun hb =>?_) (fun hb =>?_) <;>try simp only[hb])|refine J.aE (by decide +kernel) rfl fun K hK =>?_|refine .flat _ (jD _) rfl ?_|(refine .ay [0,1,3,4,5,36] hK ?_;clear hK K)|(with_reducible refine .done (hK _ ?_);clear hK K)|refine J.of rfl ?_|(with_reducible refine ai.aB (fun h =>?_) (fun h =>?_) <;>try simp only[h])) <;>try simp only[aF,R,simprocAttr])
  all_goals clear R
  all_goals first
   |exact gI rfl lW (fun n x h=>fB h) (j9 (AP hk12 hg (by simp_all[fP])))
   |exact gI rfl (x0 hi (b := { bs[i] with bX:=x.bX }) rfl rfl hnl hnr) (fun n x h=>fB h) (tB hd hk12 hi hg (by simp_all[fP]) rfl)
theorem Qm(bs:List aH)(x:ao)(d:Nat)(hk:x.kind=5)(hd:(bs.map (·.no)).Nodup):cG Tryz.prog 176 [.ptr 1000000 [],enc x] (cA 1000000 bs) (ji 1000000 d bs x):=by
 refine cG.bj Tryz.func176 Tn Vs XN (zz0 rfl) (zz0 rfl) kY (fun hwf W0 D0 E1 =>?_);simp only[Cb,M6,bg,zz3];clear hwf;have hk12:¬ (x.kind=1∨x.kind=2):=by omega
 have n3:ak (cA 1000000 bs) 3=none:=kC (by omega);have h0:ak (cA 1000000 bs) 1000000=some (.box (.agg [.mref 1000001])):=kB;have h1:ak (cA 1000000 bs) 1000001=some (.cB (dw bs) (ez 1000000 bs.length)):=kX;rcases pX 1000000 bs x.db with ⟨hg,hlk⟩ | ⟨i,hi,hg,hno,hlk⟩
 ·have R:=u8 @n3 (u8 @h0 (u8 @h1 (u8 @hlk (u8 @cD (u8 @ik (u8 @eM (u8 @aJ @U)))))))
  repeat' ((first |(with_reducible refine .guard (fun hb =>?_) (fun hb =>?_) <;>try simp only[hb])|refine J.aE (by decide +kernel) rfl fun K hK =>?_|refine .flat _ (jD _) rfl ?_|(refine .ay [0,1,3,4,5,14] hK ?_;clear hK K)|(with_reducible refine .done (hK _ ?_);clear hK K)|refine J.of rfl ?_|(with_reducible refine ai.aB (fun h =>?_) (fun h =>?_) <;>try simp only[h])) <;>try simp only[aF,R,simprocAttr])
  all_goals clear R
  exact gI rfl lW (fun n x h=>fB h) (j9 (sD hk12 hg))
 ·have hl:=mO (B:=1000000) hi;have hr:=lV (B:=1000000) hi;obtain ⟨nl,hnl⟩:∃ nl,nl=1000000+2+2*i:=⟨_,rfl⟩
  obtain ⟨nr,hnr⟩:∃ nr,nr=1000000+3+2*i:=⟨_,rfl⟩
  rw[←hnl] at hl hlk;rw[←hnr] at hl hr;have e1:(nl=3)=False:=by simp;omega
  have e2:(nr=3)=False:=by simp;omega
  have e3:(3=nl)=False:=by simp;omega
  have e4:(nr=nl)=False:=by simp;omega
  have e5:(nl=nr)=False:=by simp;omega
  have e6:(3=nr)=False:=by simp;omega
  have R:=u8 @n3 (u8 @h0 (u8 @h1 (u8 @hl (u8 @hr (u8 @e1 (u8 @e2 (u8 @e3 (u8 @hlk (u8 @mM (u8 @cD (u8 @ik (u8 @eM (u8 @aJ @U)))))))))))))
  repeat' ((first |(with_reducible refine .guard (fun hb =>?_) (fun hb =>?_) <;>try simp only[hb])|refine J.aE (by decide +kernel) rfl fun K hK =>?_|refine .flat _ (jD _) rfl ?_|(refine .ay [0,1,3,4,5,14] hK ?_;clear hK K)|(with_reducible refine .done (hK _ ?_);clear hK K)|refine J.of rfl ?_|(with_reducible refine ai.aB (fun h =>?_) (fun h =>?_) <;>try simp only[h])) <;>try simp only[aF,R,simprocAttr])
  all_goals clear R
  refine gI rfl (fun n h =>?_) (fun n x h=>fB h) (tB hd hk12 hi hg (b := { bs[i] with bX:=x.bX,found:=true }) (by simp[fP,hk]) rfl);rw[←x0 hi (b := { bs[i] with bX:=x.bX,found:=true }) rfl rfl (z:=.box (enc x)) hnl hnr n h];simp only[ak];split <;>rfl
theorem Qn(bs:List aH)(x:ao)(d:Nat)(hk:x.kind=6)(hd:(bs.map (·.no)).Nodup):cG Tryz.prog 177 [.ptr 1000000 [],enc x] (cA 1000000 bs) (ji 1000000 d bs x):=by
 refine cG.bj Tryz.func177 Tp Vt XO (zz0 rfl) (zz0 rfl) kY (fun hwf W0 D0 E1 =>?_);simp only[Cc,M7,bg,zz3];clear hwf;have hk12:¬ (x.kind=1∨x.kind=2):=by omega
 have n3:ak (cA 1000000 bs) 3=none:=kC (by omega);have h0:ak (cA 1000000 bs) 1000000=some (.box (.agg [.mref 1000001])):=kB;have h1:ak (cA 1000000 bs) 1000001=some (.cB (dw bs) (ez 1000000 bs.length)):=kX;rcases pX 1000000 bs x.db with ⟨hg,hlk⟩ | ⟨i,hi,hg,hno,hlk⟩
 ·have R:=u8 @n3 (u8 @h0 (u8 @h1 (u8 @hlk (u8 @cD (u8 @ik (u8 @eM (u8 @aJ @U)))))))
  repeat' ((first |(with_reducible refine .guard (fun hb =>?_) (fun hb =>?_) <;>try simp only[hb])|refine J.aE (by decide +kernel) rfl fun K hK =>?_|refine .flat _ (jD _) rfl ?_|(refine .ay [0,1,3,4,5,18] hK ?_;clear hK K)|(with_reducible refine .done (hK _ ?_);clear hK K)|refine J.of rfl ?_|(with_reducible refine ai.aB (fun h =>?_) (fun h =>?_) <;>try simp only[h])) <;>try simp only[aF,R,simprocAttr])
  all_goals clear R
  exact gI rfl lW (fun n x h=>fB h) (j9 (sD hk12 hg))
 ·have hl:=mO (B:=1000000) hi;have hr:=lV (B:=1000000) hi;obtain ⟨nl,hnl⟩:∃ nl,nl=1000000+2+2*i:=⟨_,rfl⟩
  obtain ⟨nr,hnr⟩:∃ nr,nr=1000000+3+2*i:=⟨_,rfl⟩
  rw[←hnl] at hl hlk;rw[←hnr] at hl hr;have e1:(nl=3)=False:=by simp;omega
  have e2:(nr=3)=False:=by simp;omega
  have e3:(3=nl)=False:=by simp;omega
  have e4:(nr=nl)=False:=by simp;omega
  have e5:(nl=nr)=False:=by simp;omega
  have e6:(3=nr)=False:=by simp;omega
  have R:=u8 @n3 (u8 @h0 (u8 @h1 (u8 @hl (u8 @hr (u8 @e1 (u8 @e2 (u8 @e3 (u8 @hlk (u8 @mM (u8 @cD (u8 @ik (u8 @eM (u8 @aJ @U)))))))))))))
  repeat' ((first |(with_reducible refine .guard (fun hb =>?_) (fun hb =>?_) <;>try simp only[hb])|refine J.aE (by decide +kernel) rfl fun K hK =>?_|refine .flat _ (jD _) rfl ?_|(refine .ay [0,1,3,4,5,18] hK ?_;clear hK K)|(with_reducible refine .done (hK _ ?_);clear hK K)|refine J.of rfl ?_|(with_reducible refine ai.aB (fun h =>?_) (fun h =>?_) <;>try simp only[h])) <;>try simp only[aF,R,simprocAttr])
  all_goals clear R
  all_goals first
   |exact gI rfl lW (fun n x h=>fB h) (j9 (AP hk12 hg (by simp_all[fP])))
   |exact gI rfl (x0 hi (b := { bs[i] with dH:=x.day }) rfl rfl hnl hnr) (fun n x h=>fB h) (tB hd hk12 hi hg (by simp_all[fP]) rfl)
theorem als{bs:List aH}{i:Nat}(hi:i<bs.length){b:aH}(hno:b.no=(bs[i]).no){z:ah}{nl nr:Nat}(hnl:nl=1000000+2+2*i)(hnr:nr=1000000+3+2*i) :
  ∀ n,al (cA 1000000 (bs.set i b)) n=true→ak ((nl,.box (eC b (.own nr b.bH.length)))::(nr,.b5 66 6 (b.bH.map enc))::(3,z)::cA 1000000 bs) n=ak (cA 1000000 (bs.set i b)) n:=fun n h=>by
 have:=kY n h;rw[Kx hi b hno];simp only[ak];subst hnl hnr;rw[if_neg (show ¬ n=3 by omega)]
theorem Ql(bs:List aH)(x:ao)(d:Nat)(hk:x.kind=4)(hd:(bs.map (·.no)).Nodup)(hlen:∀ b∈bs,b.bH.length≤1000):cG Tryz.prog 175 [.ptr 1000000 [],enc x] (cA 1000000 bs) (ji 1000000 d bs x):=by
 refine cG.bj Tryz.func175 Tm Vr XM (zz0 rfl) (zz0 rfl) kY (fun hwf W0 D0 E1 =>?_);simp only[Ca,M5,bg,zz3];clear hwf;have hk12:¬ (x.kind=1∨x.kind=2):=by omega
 have n3:ak (cA 1000000 bs) 3=none:=kC (by omega);have h0:ak (cA 1000000 bs) 1000000=some (.box (.agg [.mref 1000001])):=kB;have h1:ak (cA 1000000 bs) 1000001=some (.cB (dw bs) (ez 1000000 bs.length)):=kX;rcases pX 1000000 bs x.db with ⟨hg,hlk⟩ | ⟨i,hi,hg,hno,hlk⟩
 ·have R:=u8 @n3 (u8 @h0 (u8 @h1 (u8 @hlk (u8 @cD (u8 @ik (u8 @eM (u8 @aJ @U)))))))
  repeat' ((first |(with_reducible refine .guard (fun hb =>?_) (fun hb =>?_) <;>try simp only[hb])|refine J.aE (by decide +kernel) rfl fun K hK =>?_|refine .flat _ (jD _) rfl ?_|(refine .ay [0,1,3,4,5,14] hK ?_;clear hK K)|(with_reducible refine .done (hK _ ?_);clear hK K)|refine J.of rfl ?_|(with_reducible refine ai.aB (fun h =>?_) (fun h =>?_) <;>try simp only[h])) <;>try simp only[aF,R,simprocAttr])
  all_goals clear R
  exact gI rfl lW (fun n x h=>fB h) (j9 (sD hk12 hg))
 ·have hl:=mO (B:=1000000) hi;have hr:=lV (B:=1000000) hi;obtain ⟨nl,hnl⟩:∃ nl,nl=1000000+2+2*i:=⟨_,rfl⟩
  obtain ⟨nr,hnr⟩:∃ nr,nr=1000000+3+2*i:=⟨_,rfl⟩
  rw[←hnl] at hl hlk;rw[←hnr] at hl hr;have e1:(nl=3)=False:=by simp;omega
  have e2:(nr=3)=False:=by simp;omega
  have e3:(3=nl)=False:=by simp;omega
  have e4:(nr=nl)=False:=by simp;omega
  have e5:(nl=nr)=False:=by simp;omega
  have e6:(3=nr)=False:=by simp;omega
  have hle:=hlen _ (zx8 hi);have happ:=fun (A:ae) d rest=>jE (α:=bG 6 Int) (A:=A) (d:=d) 66 6 48 nr (l:=(bs[i]).bH.length) (es:=(bs[i]).bH) (ys:=[x.bH]) (rest:=rest) rfl rfl (by simp) (by simp[maxLen];omega) (by simp;omega);have hbs:=oC 6 x.bH rfl;have R:=u8 @n3 (u8 @h0 (u8 @h1 (u8 @hl (u8 @hr (u8 @e1 (u8 @e2 (u8 @e3 (u8 @e4 (u8 @e5 (u8 @e6 (u8 @hlk (u8 @happ (u8 @hbs (u8 @mM (u8 @cD (u8 @ik (u8 @eM (u8 @aJ @U))))))))))))))))))
  repeat' ((first |(with_reducible refine .guard (fun hb =>?_) (fun hb =>?_) <;>try simp only[hb])|refine J.aE (by decide +kernel) rfl fun K hK =>?_|(refine J.qm (gs:=xl) [] [] [0,1,2,3,4,5,6,7,8,9,10,11,12,13] (by decide +kernel) (eA.of (by simp[mQ])) fun K hK =>?_;simp only[lj,xl,List.getD_cons_zero,List.getD_cons_succ,R,simprocAttr])|(refine .ay [0,1,3,4,5,14] hK ?_;clear hK K)|(with_reducible refine .done (hK _ ?_);clear hK K)|refine J.of rfl ?_|(with_reducible refine ai.aB (fun h =>?_) (fun h =>?_) <;>try simp only[h])) <;>try simp only[aF,R,simprocAttr])
  all_goals clear R
  refine gI rfl (fun n h =>?_) (fun n x h=>fB h) (tB hd hk12 hi hg (b := { bs[i] with bH:=(bs[i]).bH++[x.bH] }) (by simp[fP,hk]) rfl);rw[←als hi (b := { bs[i] with bH:=(bs[i]).bH++[x.bH] }) rfl (z:=.box (enc x)) hnl hnr n h];rfl
def gZ(B d:Nat)(bs:List aH)(b:aH):List (Nat×ah):=(B+1,.cB (dw (bs++[b])) (ez B bs.length++[.ptr d []]))::(d,.box (eC b (.nils 6)))::cA B bs
theorem tA{B d:Nat}{bs:List aH}{x:ao}(hk:x.kind=1∨x.kind=2)(hg:bY bs x.db=none)(hdam:fy bs x=true):ji B d bs x (.bool true) (gZ B d bs (fu x)):=by
 have:dz fQ bs x=some (bs++[fu x]):=by simp only[dz,if_pos hk,hg,hdam,fQ,and_self,if_true]
 simp only[ji,this,if_pos hk,gZ,and_self]
def Ku(B d:Nat)(bs:List aH)(x:ao):cR:=fun r os' =>
 (bY bs x.db≠none∧r=.bool false∧os'=cA B bs)∨(bY bs x.db=none∧r=.bool true∧os'=gZ B d bs (fu x))
theorem Sb(a b c d e f g:Int):(eP [.int .i64 0,.int .i64 0,.int .i64 0,.int .i64 0,.int .i64 0,.int .i64 0,.int .i64 0,.bool false,.nils 6] [(0,.int .i64 a),(1,.int .i64 b),(2,.int .i64 c),(3,.int .i64 d),(4,.int .i64 e),(5,.int .i64 f),(6,.int .i64 g)]).map I.agg=some (I.agg [.int .i64 a,.int .i64 b,.int .i64 c,.int .i64 d,.int .i64 e,.int .i64 f,.int .i64 g,.bool false,.nils 6]):=by
 simp[eP,I.cu,I.size]
theorem Sc(a b c d e f g:Int):(eP [.agg [.int .i64 0,.int .i64 0,.int .i64 0,.int .i64 0,.int .i64 0,.int .i64 0,.int .i64 0,.bool false,.nils 6]] [(0,.agg [.int .i64 a,.int .i64 b,.int .i64 c,.int .i64 d,.int .i64 e,.int .i64 f,.int .i64 g,.bool false,.nils 6])]).map I.agg=some (eC ⟨a,b,c,d,e,f,g,false,[]⟩ (.nils 6)):=by
 simp[eP,I.cu,I.size,I.sizes];rfl
theorem alJ(b:aH)(s:I):(eC b s).cu=true:=rfl
theorem amx(B d:Nat)(bs:List aH)(x:ao)(hg:bY bs x.db=none):gH (.i .i64) (.int .i64 x.db) (.ptr d []) (dw bs) (ez B bs.length)=some (dw (bs++[fu x]),ez B bs.length++[.ptr d []]):=by
 have h2:=Lg wq x.db (.ptr d []) rfl (bs.map (·.no)) (ez B bs.length);rw[ga] at h2;unfold dw;rw[h2];have h1:=tp (bs:=bs) (no:=x.db);cases h:(bs.map (·.no)).findIdx? fun y=>decide (x.db=y) with
 |none=>simp only[zx4,zy2,zx2];rfl
 |some i=>rw[h] at h1;obtain ⟨hi,g,_⟩:=h1;rw[hg] at g;cases g
theorem nL{B d:Nat}{bs:List aH}{b:aH}{n:Nat} : al (gZ B d bs b) n=(decide (n=d)||al (cA B bs) n):=by
 by_cases h1:n=B+1
 ·subst h1;have:al (cA B bs) (B+1)=true:=by simp[al,kX]
  rw[this];simp[gZ,al,ak]
 ·by_cases h2:n=d
  ·subst h2;simp[gZ,al,ak,h1]
  ·simp[gZ,al,ak,h1,h2]
theorem nM{B d:Nat}{bs:List aH}{b:aH}{n:Nat}{x:ah}(h:ak (gZ B d bs b) n=some x):x.only (al (gZ B d bs b))=true∧x.eZ=true:=by
 have cQ:∀ m,al (cA B bs) m=true→al (gZ B d bs b) m=true:=fun m hm=>by rw[nL,hm,Bool.or_true]
 simp only[gZ,ak] at h;split at h
 ·cases h;refine ⟨?_,rfl⟩;simp only[ah.only,zz4,gm];refine ⟨dn _ _,yP _ fun i hi=>cQ _ (by rw[nO];simp;omega),?_⟩;simp[I.bW,I.only,nL]
 ·split at h
  ·cases h;exact ⟨by simp[ah.only,I.only,I.bW,eC],rfl⟩
  ·obtain ⟨k1,k2⟩:=fB h;exact ⟨ah.js cQ _ k1,k2⟩
theorem sd(bs:List aH)(x:ao):cG Tryz.prog 173 [.ptr 1000000 [],enc x] (cA 1000000 bs) (Ku 1000000 33 bs x):=by
 refine cG.bj Tryz.func173 Tk Vp XK (zz0 rfl) (zz0 rfl) kY (fun hwf W0 D0 E1 =>?_);simp only[B8,M3,bg,zz3];clear hwf;have n3:ak (cA 1000000 bs) 3=none:=kC (by omega);have n33:ak (cA 1000000 bs) 33=none:=kC (by omega);have h0:ak (cA 1000000 bs) 1000000=some (.box (.agg [.mref 1000001])):=kB;have h1:ak (cA 1000000 bs) 1000001=some (.cB (dw bs) (ez 1000000 bs.length)):=kX;rcases pX 1000000 bs x.db with ⟨hg,hlk⟩ | ⟨i,hi,hg,hno,hlk⟩
 ·have hup:=amx 1000000 33 bs x hg;have R:=u8 @n3 (u8 @n33 (u8 @h0 (u8 @h1 (u8 @hlk (u8 @hup (u8 @Sb (u8 @Sc (u8 @alJ (u8 @cD (u8 @ik (u8 @eM (u8 @aJ @U))))))))))))
  repeat' ((first |(with_reducible refine .guard (fun hb =>?_) (fun hb =>?_) <;>try simp only[hb])|refine J.aE (by decide +kernel) rfl fun K hK =>?_|(refine .ay [0,1,3,4,12] hK ?_;clear hK K)|(with_reducible refine .done (hK _ ?_);clear hK K)|refine J.of rfl ?_|(with_reducible refine ai.aB (fun h =>?_) (fun h =>?_) <;>try simp only[h])) <;>try simp only[aF,R,simprocAttr])
  all_goals clear R
  refine gI (os':=gZ 1000000 33 bs (fu x)) (b:=true) rfl (fun n h =>?_) (fun n x h=>nM h) (Or.inr ⟨hg,rfl,rfl⟩);rw[nL] at h;simp only[gZ,ak];by_cases e:n=33
  ·subst e;simp;rfl
  ·have:=kY n (by simpa[e] using h);rw[if_neg (show ¬ n=33 by omega),if_neg (show ¬ n=3 by omega),if_neg (show ¬ n=33 by omega)]
 ·have R:=u8 @n3 (u8 @h0 (u8 @h1 (u8 @hlk (u8 @cD (u8 @ik (u8 @eM (u8 @aJ @U)))))))
  repeat' ((first |(with_reducible refine .guard (fun hb =>?_) (fun hb =>?_) <;>try simp only[hb])|refine J.aE (by decide +kernel) rfl fun K hK =>?_|(refine .ay [0,1,3,4,12] hK ?_;clear hK K)|(with_reducible refine .done (hK _ ?_);clear hK K)|refine J.of rfl ?_|(with_reducible refine ai.aB (fun h =>?_) (fun h =>?_) <;>try simp only[h])) <;>try simp only[aF,R,simprocAttr])
  all_goals clear R
  exact gI (b:=false) rfl lW (fun n x h=>fB h) (Or.inl ⟨by rw[hg];simp,rfl,rfl⟩)
theorem br.xY{K:ae→Prop}{f:FuncId}{x:ao}{avs:List I}{a1 a2:Option (List I)}{dst:Option Nat}{rest:List aG}{ts:List (Nat×I)}{z:ah}{bs:List aH}(hc:cG Tryz.prog f [.ptr 1000000 [],enc x] (cA 1000000 bs) (Ku 1000000 33 bs x))(hav:avs=[.ptr 1000000 [],enc x])
  (h1:bY bs x.db≠none→br Tryz.prog iR false K (aC rest ((ar ts (cA 1000000 bs++((3,z)::cA 1000000 bs))).aS dst (.bool false))))
  (h2:bY bs x.db=none→br Tryz.prog iR false K (aC rest ((ar ts (gZ 1000000 33 bs (fu x)++((3,z)::cA 1000000 bs))).aS dst (.bool true)))) :
  br Tryz.prog iR false K (.call f avs a1 a2 dst rest (ar ts ((3,z)::cA 1000000 bs))):=by
 subst hav;refine .bV false [] (cA 1000000 bs) [.ptr 1000000 [],enc x] _ rfl hc ⟨fun m y hy =>?_,fun m m' _ _ h=>h⟩ ⟨.inl ⟨?_,?_,rfl⟩,.inl ⟨(j5 _ _).symm,bh _ _,dO _⟩,trivial⟩ ?_ ?_
 ·have hm:=kY (bs:=bs) m (by simp[al,hy]);rw[ah.mh (ρ:=bJ []) (fun n=>rfl)];refine ⟨?_,fB hy⟩
  show ak ((3,z)::cA 1000000 bs) m=some y
  have h3:¬ m=3:=by omega
  simp only[ak,if_neg h3];exact hy
 ·simp only[I.aQ,bJ]
 ·simp only[I.only];simp[al,kB]
 ·rintro r os' (⟨_,rfl,rfl⟩ | ⟨_,rfl,rfl⟩)
  ·exact ⟨fun m y hy=>⟨(fB hy).1,(fB hy).2,fun h=>by cases h⟩,fun m m' _ _ h=>h,fun m hm=>hm,(fun m a b=>by rw[a] at b;cases b),rfl,(fun h=>by cases h)⟩
  ·refine ⟨fun m y hy=>⟨(nM hy).1,(nM hy).2,fun h=>by cases h⟩,fun m m' _ _ h=>h,fun m hm=>by rw[nL,hm,Bool.or_true],fun m a b =>?_,rfl,fun h=>by cases h⟩;rw[nL,b,Bool.or_false,decide_eq_true_eq] at a;subst a;have h3:¬ (33:Nat)=3:=by omega
   refine ⟨?_,by simp[bJ]⟩
   show ak ((3,z)::cA 1000000 bs) 33=none
   simp only[ak,if_neg h3];exact kC (by omega)
 ·rintro r os' (⟨hg,rfl,rfl⟩ | ⟨hg,rfl,rfl⟩)
  ·rw[uD];exact h1 hg
  ·rw[uD];exact h2 hg
theorem px{os os0:List (Nat×ah)} : ∀ n,al os n=true→ak (os++os0) n=ak os n:=fun n h=>by
 rw[kE];cases hx:ak os n with
 |none=>simp[al,hx] at h
 |some y=>rfl
theorem Qj(bs:List aH)(x:ao)(hk:x.kind=1):cG Tryz.prog 172 [.ptr 1000000 [],enc x] (cA 1000000 bs) (ji 1000000 33 bs x):=by
 refine cG.bj Tryz.func172 Tj Vo XJ (zz0 rfl) (zz0 rfl) kY (fun hwf W0 D0 E1 =>?_);simp only[B7,M2,bg,zz3];clear hwf;have n3:ak (cA 1000000 bs) 3=none:=kC (by omega);have h0:ak (cA 1000000 bs) 1000000=some (.box (.agg [.mref 1000001])):=kB;have h1:ak (cA 1000000 bs) 1000001=some (.cB (dw bs) (ez 1000000 bs.length)):=kX;by_cases hd0:x.dY≤0
 ·have hc:decide (0<x.dY)=false:=by simp;omega
  have hdam:fy bs x=true:=by simp[fy,hd0]
  have R:=u8 @n3 (u8 @h0 (u8 @h1 (u8 @hc (u8 @cD (u8 @ik (u8 @eM (u8 @aJ @U)))))))
  repeat' ((first |(with_reducible refine .guard (fun hb =>?_) (fun hb =>?_) <;>try simp only[hb])|refine J.aE (by decide +kernel) rfl fun K hK =>?_|(refine .ay [0,1,3,4,5,8,41] hK ?_;clear hK K)|(with_reducible refine .done (hK _ ?_);clear hK K)|refine J.of rfl ?_|(with_reducible refine ai.aB (fun h =>?_) (fun h =>?_) <;>try simp only[h])) <;>try simp only[aF,R,simprocAttr])
  all_goals clear R
  refine br.xY (sd bs x) rfl (fun hg =>?_) (fun hg =>?_)
  ·try simp only[U,simprocAttr]
   refine .done (hK _ ?_);clear hK K;refine J.ret ?_;simp only[eX];exact gI (b:=false) rfl px (fun n x h=>fB h) (j9 (by simp[dz,hk,hg]))
  ·try simp only[U,simprocAttr]
   refine .done (hK _ ?_);clear hK K;refine J.ret ?_;simp only[eX];exact gI (b:=true) rfl px (fun n x h=>nM h) (tA (.inl hk) hg hdam)
 have hc:decide (0<x.dY)=true:=by simp;omega
 rcases pX 1000000 bs x.dY with ⟨hg,hlk⟩ | ⟨i,hi,hg,hno,hlk⟩
 ·have hdam:fy bs x=false:=by simp[fy,hg];omega
  have R:=u8 @n3 (u8 @h0 (u8 @h1 (u8 @hc (u8 @hlk (u8 @cD (u8 @ik (u8 @eM (u8 @aJ @U))))))))
  repeat' ((first |(with_reducible refine .guard (fun hb =>?_) (fun hb =>?_) <;>try simp only[hb])|refine J.aE (by decide +kernel) rfl fun K hK =>?_|(refine .ay [0,1,3,4,5,8,41] hK ?_;clear hK K)|(with_reducible refine .done (hK _ ?_);clear hK K)|refine J.of rfl ?_|(with_reducible refine ai.aB (fun h =>?_) (fun h =>?_) <;>try simp only[h])) <;>try simp only[aF,R,simprocAttr])
  all_goals clear R
  exact gI (b:=false) rfl lW (fun n x h=>fB h) (j9 (by simp[dz,hk,hdam]))
 ·have hl:=mO (B:=1000000) hi;have hr:=lV (B:=1000000) hi;obtain ⟨nl,hnl⟩:∃ nl,nl=1000000+2+2*i:=⟨_,rfl⟩
  obtain ⟨nr,hnr⟩:∃ nr,nr=1000000+3+2*i:=⟨_,rfl⟩
  rw[←hnl] at hl hlk;rw[←hnr] at hl hr;have e1:(nl=3)=False:=by simp;omega
  have e2:(nr=3)=False:=by simp;omega
  cases hs:(bs[i]).eJ != x.eJ with
  |true =>
   have hdam:fy bs x=false:=by simp at hs;simp[fy,hg,hs];omega
   have R:=u8 @n3 (u8 @h0 (u8 @h1 (u8 @hl (u8 @hr (u8 @e1 (u8 @e2 (u8 @hc (u8 @hlk (u8 @hs (u8 @mM (u8 @cD (u8 @ik (u8 @eM (u8 @aJ @U))))))))))))))
   repeat' ((first |(with_reducible refine .guard (fun hb =>?_) (fun hb =>?_) <;>try simp only[hb])|refine J.aE (by decide +kernel) rfl fun K hK =>?_|refine .flat _ (jD _) rfl ?_|(refine .ay [0,1,3,4,5,8,41] hK ?_;clear hK K)|(with_reducible refine .done (hK _ ?_);clear hK K)|refine J.of rfl ?_|(with_reducible refine ai.aB (fun h =>?_) (fun h =>?_) <;>try simp only[h])) <;>try simp only[aF,R,simprocAttr])
   all_goals clear R
   exact gI (b:=false) rfl lW (fun n x h=>fB h) (j9 (by simp[dz,hk,hdam]))
  |false =>
   cases hdd:decide (0≤(bs[i]).dH) with
   |false =>
    have hdam:fy bs x=true:=by simp at hs hdd;simp[fy,hg,hs];omega
    have R:=u8 @n3 (u8 @h0 (u8 @h1 (u8 @hl (u8 @hr (u8 @e1 (u8 @e2 (u8 @hc (u8 @hlk (u8 @hs (u8 @hdd (u8 @mM (u8 @cD (u8 @ik (u8 @eM (u8 @aJ @U)))))))))))))))
    repeat' ((first |(with_reducible refine .guard (fun hb =>?_) (fun hb =>?_) <;>try simp only[hb])|refine J.aE (by decide +kernel) rfl fun K hK =>?_|refine .flat _ (jD _) rfl ?_|(refine .ay [0,1,3,4,5,8,41] hK ?_;clear hK K)|(with_reducible refine .done (hK _ ?_);clear hK K)|refine J.of rfl ?_|(with_reducible refine ai.aB (fun h =>?_) (fun h =>?_) <;>try simp only[h])) <;>try simp only[aF,R,simprocAttr])
    all_goals clear R
    refine br.xY (sd bs x) rfl (fun hg =>?_) (fun hg =>?_)
    ·try simp only[U,simprocAttr]
     refine .done (hK _ ?_);clear hK K;refine J.ret ?_;simp only[eX];exact gI (b:=false) rfl px (fun n x h=>fB h) (j9 (by simp[dz,hk,hg]))
    ·try simp only[U,simprocAttr]
     refine .done (hK _ ?_);clear hK K;refine J.ret ?_;simp only[eX];exact gI (b:=true) rfl px (fun n x h=>nM h) (tA (.inl hk) hg hdam)
   |true =>
    cases hdy:decide ((bs[i]).dH<x.day) with
    |true =>
     have hdam:fy bs x=false:=by simp at hs hdd hdy;simp[fy,hg,hs];omega
     have R:=u8 @n3 (u8 @h0 (u8 @h1 (u8 @hl (u8 @hr (u8 @e1 (u8 @e2 (u8 @hc (u8 @hlk (u8 @hs (u8 @hdd (u8 @hdy (u8 @mM (u8 @cD (u8 @ik (u8 @eM (u8 @aJ @U))))))))))))))))
     repeat' ((first |(with_reducible refine .guard (fun hb =>?_) (fun hb =>?_) <;>try simp only[hb])|refine J.aE (by decide +kernel) rfl fun K hK =>?_|refine .flat _ (jD _) rfl ?_|(refine .ay [0,1,3,4,5,8,41] hK ?_;clear hK K)|(with_reducible refine .done (hK _ ?_);clear hK K)|refine J.of rfl ?_|(with_reducible refine ai.aB (fun h =>?_) (fun h =>?_) <;>try simp only[h])) <;>try simp only[aF,R,simprocAttr])
     all_goals clear R
     exact gI (b:=false) rfl lW (fun n x h=>fB h) (j9 (by simp[dz,hk,hdam]))
    |false =>
     have hdam:fy bs x=true:=by simp at hs hdd hdy;simp[fy,hg,hs];omega
     have R:=u8 @n3 (u8 @h0 (u8 @h1 (u8 @hl (u8 @hr (u8 @e1 (u8 @e2 (u8 @hc (u8 @hlk (u8 @hs (u8 @hdd (u8 @hdy (u8 @mM (u8 @cD (u8 @ik (u8 @eM (u8 @aJ @U))))))))))))))))
     repeat' ((first |(with_reducible refine .guard (fun hb =>?_) (fun hb =>?_) <;>try simp only[hb])|refine J.aE (by decide +kernel) rfl fun K hK =>?_|refine .flat _ (jD _) rfl ?_|(refine .ay [0,1,3,4,5,8,41] hK ?_;clear hK K)|(with_reducible refine .done (hK _ ?_);clear hK K)|refine J.of rfl ?_|(with_reducible refine ai.aB (fun h =>?_) (fun h =>?_) <;>try simp only[h])) <;>try simp only[aF,R,simprocAttr])
     all_goals clear R
     refine br.xY (sd bs x) rfl (fun hg =>?_) (fun hg =>?_)
     ·try simp only[U,simprocAttr]
      refine .done (hK _ ?_);clear hK K;refine J.ret ?_;simp only[eX];exact gI (b:=false) rfl px (fun n x h=>fB h) (j9 (by simp[dz,hk,hg]))
     ·try simp only[U,simprocAttr]
      refine .done (hK _ ?_);clear hK K;refine J.ret ?_;simp only[eX];exact gI (b:=true) rfl px (fun n x h=>nM h) (tA (.inl hk) hg hdam)
def kV:I:=.c6 [.int .i64 1,.int .i64 2,.int .i64 3,.int .i64 4,.int .i64 5,.int .i64 6] [.func 172 [],.func 173 [],.func 174 [],.func 175 [],.func 176 [],.func 177 []]
theorem amq:gH (.i .i64) (.int .i64 1) (.func 172 []) [] []=some ([.int .i64 1],[.func 172 []]):=by simp[gH,fm,cn,I.cu]
theorem amr:gH (.i .i64) (.int .i64 2) (.func 173 []) [.int .i64 1] [.func 172 []]=some ([.int .i64 1,.int .i64 2],[.func 172 [],.func 173 []]):=by simp[gH,fm,cn,I.cu]
theorem ams:gH (.i .i64) (.int .i64 3) (.func 174 []) [.int .i64 1,.int .i64 2] [.func 172 [],.func 173 []]=some ([.int .i64 1,.int .i64 2,.int .i64 3],[.func 172 [],.func 173 [],.func 174 []]):=by simp[gH,fm,cn,I.cu]
theorem amt:gH (.i .i64) (.int .i64 4) (.func 175 []) [.int .i64 1,.int .i64 2,.int .i64 3] [.func 172 [],.func 173 [],.func 174 []]=some ([.int .i64 1,.int .i64 2,.int .i64 3,.int .i64 4],[.func 172 [],.func 173 [],.func 174 [],.func 175 []]):=by simp[gH,fm,cn,I.cu]
theorem amu:gH (.i .i64) (.int .i64 5) (.func 176 []) [.int .i64 1,.int .i64 2,.int .i64 3,.int .i64 4] [.func 172 [],.func 173 [],.func 174 [],.func 175 []]=some ([.int .i64 1,.int .i64 2,.int .i64 3,.int .i64 4,.int .i64 5],[.func 172 [],.func 173 [],.func 174 [],.func 175 [],.func 176 []]):=by simp[gH,fm,cn,I.cu]
theorem amv:gH (.i .i64) (.int .i64 6) (.func 177 []) [.int .i64 1,.int .i64 2,.int .i64 3,.int .i64 4,.int .i64 5] [.func 172 [],.func 173 [],.func 174 [],.func 175 [],.func 176 []]=some ([.int .i64 1,.int .i64 2,.int .i64 3,.int .i64 4,.int .i64 5,.int .i64 6],[.func 172 [],.func 173 [],.func 174 [],.func 175 [],.func 176 [],.func 177 []]):=by simp[gH,fm,cn,I.cu]
theorem Ad:aw Tryz.prog 139 [] kV:=by
 refine aw.bj Tryz.func139 SR UW Xh (zz0 rfl) (fun hwf W0 D0 E1 =>?_);simp only[BD,My,bg];refine .aq (by decide +kernel) fun K hK =>?_;simp only[GN,U,simprocAttr];refine .done (hK _ ?_);clear hK K;refine .aq (by decide +kernel) fun K hK =>?_;simp only[GO,U,simprocAttr]
 try simp only[eM,amq,amr,ams,amt,amu,amv,U,simprocAttr]
 refine .done (hK _ ?_);clear hK K;refine J.ret ?_;simp only[U,simprocAttr];simp[kV,bl,ar,b8,dD,fT,I.b6,I.bu,lM,og];rfl
end Go.Proofs.YtcldiigclhgafaaGreat
