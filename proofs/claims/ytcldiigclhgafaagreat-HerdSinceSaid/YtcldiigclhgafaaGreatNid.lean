/-
  A part of the proof that the law HerdSince returns true for every input; conditions: none beyond the statement's own. (part 4 of 7)
-/
import Derived.Test.YtcldiigclhgafaaGreatChecked
import Derived.KernelRfl
import Derived.Test.YtcldiigclhgafaaGreatNic
set_option linter.unusedSimpArgs false
set_option linter.unusedVariables false
set_option maxHeartbeats 16000000
set_option maxRecDepth 100000
namespace Go.Proofs.YtcldiigclhgafaaGreat
open Go Go.Abs Go.Abs.C
def acy:=[o 2 (.mv (.c (.nils 1)))]
def acz:=[m 6 0,o 7 (.len (.t 6)),o 8 (.bin .lss (.t 7) (aj 2))]
def acF:=[m 9 0,m 2 9]
def acG:=[bh 3 1]
def acH:=[m 10 3,m 11 0,o 12 (.len (.t 11)),lt 13 10 12]
def acI:=[m 16 0,m 17 3,o 18 (.is 1 (.t 16) (.t 17)),l 19 18,m 20 0,m 21 3,o 22 (.bin .sub (.t 21) (aj 1)),o 23 (.is 1 (.t 20) (.t 22)),l 24 23,o 25 (.bin .eql (.t 19) (.t 24))]
def aae:=some [[],[],[0,1],[2],[],[],[5],[4,6],[7],[3,8]]
def acJ:=[m 26 0,m 27 3,o 28 (.sl 1 (.t 26) (some (.t 27)) none none),m 4 28]
def acK:=[bh 5 1]
def FY:=[m 29 5,m 30 4,o 31 (.len (.t 30)),lt 32 29 31]
def acL:=[m 35 4,m 36 5,o 37 (.is 1 (.t 35) (.t 36)),l 38 37,m 39 4,m 40 5,o 41 (.bin .sub (.t 40) (aj 1)),o 42 (.is 1 (.t 39) (.t 41)),l 43 42,o 44 (.bin .neq (.t 38) (.t 43))]
def aaf:=some [[],[],[0,1],[2],[],[],[5],[4,6],[7],[3,8]]
def acA:=[m 45 0,m 46 3,m 47 4,m 48 5,o 49 (.is 1 (.t 47) (.t 48)),l 50 49,o 51 (.is 1 (.t 45) (.t 46)),p (.bu none (.t 51) (.t 50))]
def acB:=[m 52 3,ad 53 52 1,m 3 53]
def acC:=[m 33 5,ad 34 33 1,m 5 34]
def FW:=[m 54 0,m 55 3,o 56 (.sl 1 (.t 54) (some (.t 55)) none none),p (.jb 1 (.int .i64 0) (.t 56))]
def FX:=[m 57 0,m 58 3,o 59 (.sl 1 (.t 57) none (some (.t 58)) none),m 2 59]
def acD:=[m 14 3,ad 15 14 1,m 3 15]
def acE:=[m 60 0,m 2 60]
def wm:aR:=(s (r acy) (s (s (r acz) (.cond (.t 8) (s (r acF) .ret) .skip)) (s (s (r acG) (.block 0 (.loop (s (s (r acH) (.cond (.t 13) .skip (.exit 0))) (s (.block 1 (s (.bX aae acI) (.cond (.t 25) (s (r acJ) (s (s (r acK) (.block 2 (.loop (s (s (r FY) (.cond (.t 32) .skip (.exit 2))) (s (.block 3 (s (.bX aaf acL) (.cond (.t 44) (s (r acA) (r acB)) .skip))) (r acC)))))) (s (r FW) (s (r FX) .ret)))) .skip))) (r acD)))))) (s (r acE) .ret))))
def zR:List bj:=[.tmp 2]
theorem Eb:bH Tryz.prog Tryz.f108 wm:=e (by kernel_rfl)
theorem Ev:bI Tryz.prog Tryz.f108 zR:=e (by kernel_rfl)
theorem DV:bG Tryz.prog 108:=e (by kernel_rfl)
def FZ:=[b 3 0,b 4 1,b 5 2,o 6 (.mv (.c (.nils 1)))]
def F0:=[o 7 (.mv (.c (.func 149 [])))]
def xw:=[l 9 4,m 10 7,o 11 (.call 72 [.t 9,.t 10]),l 12 5,m 13 7,o 14 (.call 72 [.t 12,.t 13]),o 15 (.bs 29 1 [.t 11,.t 14]),o 16 (.call 150 [.t 15]),m 8 16]
def aag:=some [[],[],[0,1],[],[],[3,4,2],[2,5],[6,5],[7,7,0,1,2,3,4,5,6,7]]
def F1:=[m 17 8,o 18 (.call 107 [.t 17])]
def F2:=[m 19 8,o 20 (.call 108 [.t 19]),o 21 (.mk 152 [.t 3,.t 4,.t 5]),o 22 (.call 151 [.t 20,.t 21]),m 6 22]
def BY:aR:=(s (r FZ) (s (r F0) (s (.bX aag xw) (s (r F1) (s (r F2) .ret)))))
def NV:List bj:=[.tmp 6]
theorem V2:bH Tryz.prog Tryz.f109 BY:=e (by kernel_rfl)
theorem Yj:bI Tryz.prog Tryz.f109 NV:=e (by kernel_rfl)
theorem T4:bG Tryz.prog 109:=e (by kernel_rfl)
def F3:=[o 4 (.mv (.c (.nils 17))),bh 5 0]
def F4:=[m 11 0,o 12 (.call 136 [.t 11]),m 6 12]
def F5:=[m 13 1,o 14 (.len (.t 13)),bh 15 0]
def acQ:=[lt 16 15 14]
def acR:=[o 17 (.is 17 (.t 13) (.t 15)),ay 18 17 17,o 8 (.alloc (.agg [.agg [.int .i64 0,.int .i64 0],.int .i64 0,.int .i64 0,.int .i64 0,.int .i64 0,.int .i64 0,.int .i64 0,.int .i64 0,.agg [.int .i64 0,.int .i64 0,.int .i64 0,.int .i64 0,.int .i64 0,.int .i64 0],.agg [.int .i64 0,.int .i64 0]])),p (.bu (some 17) (.t 8) (.t 18))]
def acS:=[m 20 6,f 21 0 0 8,ay 22 2 21,o 23 (.call 103 [.t 20,.t 22]),m 19 23,o 24 (.ext (.t 19) 0),o 25 (.ext (.t 19) 1),m 9 24,m 10 25]
def acT:=[m 26 10,m 27 26,di 28 6 27,di 29 9 27,bW 30 (.is 17 (.t 28) (.t 29)) 27,bW 31 (.ld (some 17) (.t 30)) 27,bW 32 (.ld (some 17) (.t 8)) 27,bW 33 (.eqv (.bu [(.bu [(.i .i64),(.i .i64)]),(.i .i64),(.i .i64),(.i .i64),(.i .i64),(.i .i64),(.i .i64),(.i .i64),(.kj 6 (.i .i64)),(.bu [(.i .i64),(.i .i64)])]) true (.t 31) (.t 32)) 27,and 34 27 33]
def aah:=some [[],[0],[1],[1],[2,3,1],[4,1],[1],[5,6,1],[1,7]]
def acU:=[o 4 (.mv (.c (.nils 17))),bh 5 43]
def acV:=[m 35 10,no 36 35]
def acW:=[m 37 6,m 38 9,ay 39 17 8,o 40 (.bs 68 17 [.t 39]),o 41 (.call 153 [.t 37,.t 38,.t 40]),m 6 41]
def acM:=[ad 42 15 1,m 15 42]
def acN:=[m 43 6,o 44 (.len (.t 43)),o 45 (.bin .gtr (.t 44) (aj 60))]
def acO:=[o 4 (.mv (.c (.nils 17))),bh 5 2]
def acP:=[m 46 6,m 4 46,bh 5 0]
def BZ:aR:=(s (r F3) (s (r F4) (s (s (r F5) (.block 0 (.loop (s (r acQ) (s (.cond (.t 16) .skip (.exit 0)) (s (.block 1 (s (r acR) (s (r acS) (s (s (.bX aah acT) (.cond (.t 34) (s (r acU) .ret) .skip)) (s (r acV) (.cond (.t 36) (r acW) .skip)))))) (r acM))))))) (s (s (r acN) (.cond (.t 45) (s (r acO) .ret) .skip)) (s (r acP) .ret)))))
def NW:List bj:=[.tmp 4,.tmp 5]
theorem V3:bH Tryz.prog Tryz.f112 BZ:=e (by kernel_rfl)
theorem Yk:bI Tryz.prog Tryz.f112 NW:=e (by kernel_rfl)
theorem T5:bG Tryz.prog 112:=e (by kernel_rfl)
def F6:=[o 6 (.mv bB)]
def F7:=[m 7 1,m 8 0,o 9 (.bin .leq (.t 7) (.t 8)),m 10 9,di 11 0 10,di 12 2 10,bW 13 (.bin .leq (.t 11) (.t 12)) 10,and 14 10 13,m 6 14]
def B1:aR:=(s (r F6) (s (r F7) .ret))
def NX:List bj:=[.tmp 6]
theorem V4:bH Tryz.prog Tryz.f114 B1:=e (by kernel_rfl)
theorem Yl:bI Tryz.prog Tryz.f114 NX:=e (by kernel_rfl)
theorem T6:bG Tryz.prog 114:=e (by kernel_rfl)
def F8:=[b 1 0,o 2 (.mv bB)]
def F9:=[f 3 0 0 1,l 4 3,o 5 (.call 114 [.t 4,(aj 0),(aj 5)]),m 6 5,ef 7 1 1 1 6,e9 8 7 6,bW 9 (.call 114 [.t 8,(aj 0),(aj 9999)]) 6,and 10 6 9,m 2 10]
def B3:aR:=(s (r F8) (s (r F9) .ret))
def NY:List bj:=[.tmp 2]
theorem V5:bH Tryz.prog Tryz.f115 B3:=e (by kernel_rfl)
theorem Ym:bI Tryz.prog Tryz.f115 NY:=e (by kernel_rfl)
theorem T7:bG Tryz.prog 115:=e (by kernel_rfl)
def Ga:=[b 1 0,o 2 (.mv bB)]
def Gb:=[f 5 0 0 1,ay 6 2 5,f 7 1 2 1,l 8 7,f 9 2 3 1,l 10 9,f 11 3 4 1,l 12 11,f 13 4 5 1,l 14 13,o 15 (.bld [.agg [.int .i64 0,.int .i64 0],.int .i64 0,.int .i64 0,.int .i64 0,.int .i64 0,.int .i64 0,.int .i64 0,.int .i64 0,.agg [.int .i64 0,.int .i64 0,.int .i64 0,.int .i64 0,.int .i64 0,.int .i64 0],.agg [.int .i64 0,.int .i64 0]] [(0,(.t 6)),(1,(.t 8)),(2,(.t 10)),(3,(.t 12)),(4,(.t 14))]),o 3 (.alloc (.agg [.agg [.int .i64 0,.int .i64 0],.int .i64 0,.int .i64 0,.int .i64 0,.int .i64 0,.int .i64 0,.int .i64 0,.int .i64 0,.agg [.int .i64 0,.int .i64 0,.int .i64 0,.int .i64 0,.int .i64 0,.int .i64 0],.agg [.int .i64 0,.int .i64 0]])),p (.bu (some 17) (.t 3) (.t 15))]
def Gc:=[f 16 4 5 1,l 17 16,o 18 (.call 154 [.t 17]),m 4 18]
def ada:=[f 19 1 2 1,l 20 19]
def adb:=[o 22 (.bin .eql (.t 20) (aj 0)),m 21 22]
def xy:=[f 23 9 15 1,ay 24 2 23,f 25 4 5 3,p (.bu none (.t 25) (aj 0)),f 26 9 15 3,p (.bu (some 2) (.t 26) (.t 24))]
def aai:=some [[],[0],[],[2],[0,1,2,3],[4,1,3,0,1,2,3]] -- DRAW BAD
def ade:=[f 27 2 3 1,l 28 27,o 29 (.bin .eql (.t 28) (aj 0)),m 30 29,ef 31 9 15 1 30,bW 32 (.ld (some 2) (.t 31)) 30,bW 33 (.call 115 [.t 32]) 30,and 34 30 33,m 35 34,ef 36 9 15 1 35,ef 37 0 0 36 35,e9 38 37 35,ef 39 0 0 1 35,ef 40 0 0 39 35,e9 41 40 35,bW 42 (.bin .eql (.t 38) (.t 41)) 35,and 43 35 42,m 44 43,ef 45 9 15 1 44,ef 46 1 1 45 44,e9 47 46 44,ef 48 0 0 1 44,ef 49 1 1 48 44,e9 50 49 44,bW 51 (.bin .lss (.t 47) (.t 50)) 44,and 52 44 51,m 4 52]
def adf:=[o 54 (.bin .eql (.t 20) (aj 1)),m 53 54]
def xz:=[f 55 6 7 1,l 56 55,f 57 7 8 1,l 58 57,f 59 5 6 1,l 60 59,f 61 6 7 3,p (.bu none (.t 61) (.t 56)),f 62 7 8 3,p (.bu none (.t 62) (.t 58)),f 63 5 6 3,p (.bu none (.t 63) (.t 60))]
def aaj:=some [[],[0],[],[2],[],[4],[0,1],[6,1,0,1],[0,1,2,3,6,7],[8,3,7,0,1,2,3,6,7],[0,1,2,3,4,5,6,7,8,9],[10,5,9,0,1,2,3,4,5,6,7,8,9]] -- DRAW BAD
def adg:=[m 64 4,m 65 64,ef 66 6 7 1 65,e9 67 66 65,bW 68 (.call 155 [.t 67]) 65,and 69 65 68,m 70 69,ef 71 7 8 1 70,e9 72 71 70,bW 73 (.call 156 [.t 72]) 70,and 74 70 73,m 75 74,ef 76 5 6 1 75,e9 77 76 75,bW 78 (.call 114 [.t 77,(aj 0),(aj 9999)]) 75,and 79 75 78,m 80 79,ef 81 5 6 1 80,e9 82 81 80,ef 83 4 5 1 80,e9 84 83 80,bW 85 (.bin .neq (.t 82) (.t 84)) 80,and 86 80 85,m 4 86]
def acX:=[o 88 (.bin .eql (.t 20) (aj 2)),m 87 88]
def acY:=[f 89 6 7 1,l 90 89,f 91 6 7 3,p (.bu none (.t 91) (.t 90))]
def acZ:=[m 92 4,m 93 92,ef 94 6 7 1 93,e9 95 94 93,bW 96 (.call 155 [.t 95]) 93,and 97 93 96,m 4 97]
def ac0:=[o 99 (.bin .eql (.t 20) (aj 3)),m 98 99]
def ac1:=[o 100 (.bin .eql (.t 20) (aj 5)),m 98 100]
def ac2:=[f 101 7 8 1,l 102 101,f 103 7 8 3,p (.bu none (.t 103) (.t 102))]
def ac3:=[m 104 4,m 105 104,ef 106 7 8 1 105,e9 107 106 105,bW 108 (.call 156 [.t 107]) 105,and 109 105 108,m 4 109]
def ac4:=[o 111 (.bin .eql (.t 20) (aj 4)),m 110 111]
def ac5:=[f 112 8 9 1,ay 113 6 112,f 114 8 9 3,p (.bu (some 6) (.t 114) (.t 113))]
def ac6:=[m 115 4,m 116 115,ef 117 8 9 1 116,bW 118 (.ld (some 6) (.t 117)) 116,bW 119 (.call 157 [.t 118]) 116,bW 120 (.bin .eql (.t 119) (aj 0)) 116,and 121 116 120,m 4 121]
def ac7:=[o 123 (.bin .eql (.t 20) (aj 6)),m 122 123]
def ac8:=[o 2 (.mv bB)]
def ac9:=[m 124 4,m 125 124,bW 126 (.ld (some 17) (.t 1)) 125,bW 127 (.ld (some 17) (.t 3)) 125,bW 128 (.eqv (.bu [(.bu [(.i .i64),(.i .i64)]),(.i .i64),(.i .i64),(.i .i64),(.i .i64),(.i .i64),(.i .i64),(.i .i64),(.kj 6 (.i .i64)),(.bu [(.i .i64),(.i .i64)])]) false (.t 126) (.t 127)) 125,and 129 125 128,m 130 129,ef 131 0 0 1 130,bW 132 (.ld (some 2) (.t 131)) 130,bW 133 (.call 115 [.t 132]) 130,and 134 130 133,m 135 134,ef 136 2 3 1 135,e9 137 136 135,bW 138 (.call 127 [.t 137]) 135,and 139 135 138,m 140 139,ef 141 3 4 1 140,e9 142 141 140,bW 143 (.call 127 [.t 142]) 140,and 144 140 143,m 2 144]
def B4:aR:=(s (r Ga) (s (r Gb) (s (r Gc) (s (s (r ada) (.block 0 (s (r adb) (.cond (.t 21) (s (.bX aai xy) (r ade)) (s (r adf) (.cond (.t 53) (s (.bX aaj xz) (r adg)) (s (r acX) (.cond (.t 87) (s (r acY) (r acZ)) (s (s (r ac0) (.cond (.t 98) .skip (r ac1))) (.cond (.t 98) (s (r ac2) (r ac3)) (s (r ac4) (.cond (.t 110) (s (r ac5) (r ac6)) (s (r ac7) (.cond (.t 122) .skip (s (r ac8) .ret))))))))))))))) (s (r ac9) .ret)))))
def NZ:List bj:=[.tmp 2]
theorem V6:bH Tryz.prog Tryz.f117 B4:=e (by kernel_rfl)
theorem Yn:bI Tryz.prog Tryz.f117 NZ:=e (by kernel_rfl)
theorem T8:bG Tryz.prog 117:=e (by kernel_rfl)
def Gd:=[b 2 0,b 3 1,bh 4 0]
def Ge:=[f 5 0 0 2,l 6 5,f 7 0 0 3,l 8 7,o 9 (.call 159 [.t 6,.t 8]),f 10 1 1 2,l 11 10,f 12 1 1 3,l 13 12,o 14 (.call 159 [.t 11,.t 13]),o 15 (.bs 3 1 [.t 9,.t 14]),o 16 (.call 158 [.t 15]),m 4 16]
def aak:=some [[],[0],[],[2],[1,3],[],[5],[],[7],[6,8,4],[4,9],[10,9],[11,11,0,1,2,3,4,5,6,7,8,9,10,11]]
def B5:aR:=(s (r Gd) (s (.bX aak Ge) .ret))
def N0:List bj:=[.tmp 4]
theorem V7:bH Tryz.prog Tryz.f118 B5:=e (by kernel_rfl)
theorem Yo:bI Tryz.prog Tryz.f118 N0:=e (by kernel_rfl)
theorem T9:bG Tryz.prog 118:=e (by kernel_rfl)
def Gf:=[b 1 0,o 2 (.mv bB)]
def Gg:=[ay 6 5 1,bh 7 0]
def Gh:=[o 8 (.bin .lss (.t 7) (aj 5))]
def Gi:=[m 9 7,o 10 (.ix 5 1 none (.t 6) (.t 7)),m 3 9,m 4 10]
def Gj:=[m 11 4,m 5 11]
def Gk:=[m 12 5,o 13 (.call 160 [.t 12]),no 14 13,m 15 14,gW 16 5 15,gW 17 3 15,on 18 (.call 161 [.t 16,.t 17]) 15,on 19 (.un .not (.t 18)) 15,or 20 15 19]
def xA:=[o 2 (.mv bB)]
def Gl:=[ad 21 7 1,m 7 21]
def Gm:=[o 2 (.mv T)]
def B6:aR:=(s (r Gf) (s (s (r Gg) (.block 0 (.loop (s (r Gh) (s (.cond (.t 8) .skip (.exit 0)) (s (.block 1 (s (r Gi) (s (r Gj) (s (r Gk) (.cond (.t 20) (s (r xA) .ret) .skip))))) (r Gl))))))) (s (r Gm) .ret)))
def N1:List bj:=[.tmp 2]
theorem V8:bH Tryz.prog Tryz.f120 B6:=e (by kernel_rfl)
theorem Yp:bI Tryz.prog Tryz.f120 N1:=e (by kernel_rfl)
theorem Ua:bG Tryz.prog 120:=e (by kernel_rfl)
def Gn:=[o 6 (.mv bB)]
def Gp:=[m 7 1,m 8 0,o 9 (.bin .leq (.t 7) (.t 8)),m 10 9,di 11 0 10,di 12 2 10,bW 13 (.bin .leq (.t 11) (.t 12)) 10,and 14 10 13,m 6 14]
def B7:aR:=(s (r Gn) (s (r Gp) .ret))
def N2:List bj:=[.tmp 6]
theorem V9:bH Tryz.prog Tryz.f121 B7:=e (by kernel_rfl)
theorem Yq:bI Tryz.prog Tryz.f121 N2:=e (by kernel_rfl)
theorem Ub:bG Tryz.prog 121:=e (by kernel_rfl)
def Gq:=[o 2 (.mv bB)]
def Gr:=[m 3 0,o 4 (.call 121 [.t 3,(aj 1),(aj 99)]),m 2 4]
def B8:aR:=(s (r Gq) (s (r Gr) .ret))
def N3:List bj:=[.tmp 2]
theorem Wa:bH Tryz.prog Tryz.f122 B8:=e (by kernel_rfl)
theorem Yr:bI Tryz.prog Tryz.f122 N3:=e (by kernel_rfl)
theorem Uc:bG Tryz.prog 122:=e (by kernel_rfl)
def Gs:=[b 1 0,o 2 (.mv bB)]
def Gt:=[o 3 (.va 6 1 (.t 1)),o 4 (.call 125 [.t 3,(.c (.func 162 []))]),no 5 4,m 2 5]
def B9:aR:=(s (r Gs) (s (r Gt) .ret))
def N4:List bj:=[.tmp 2]
theorem Wb:bH Tryz.prog Tryz.f123 B9:=e (by kernel_rfl)
theorem Ys:bI Tryz.prog Tryz.f123 N4:=e (by kernel_rfl)
theorem Ud:bG Tryz.prog 123:=e (by kernel_rfl)
def Gu:=[b 3 0,b 5 2,o 6 (.mv bB)]
def Gv:=[m 7 1,o 8 (.mk 164 [.t 3,.t 5]),o 9 (.call 163 [.t 7,.t 8]),no 10 9,m 6 10]
def Ca:aR:=(s (r Gu) (s (r Gv) .ret))
def N5:List bj:=[.tmp 6]
theorem Wc:bH Tryz.prog Tryz.f124 Ca:=e (by kernel_rfl)
theorem Yt:bI Tryz.prog Tryz.f124 N5:=e (by kernel_rfl)
theorem Ue:bG Tryz.prog 124:=e (by kernel_rfl)
def Gw:=[o 4 (.mv bB)]
def Gx:=[m 5 0,m 6 1,o 7 (.call 166 [.t 5,.t 6]),o 8 (.bin .geq (.t 7) (aj 0)),m 4 8]
def Cb:aR:=(s (r Gw) (s (r Gx) .ret))
def N6:List bj:=[.tmp 4]
theorem Wd:bH Tryz.prog Tryz.f125 Cb:=e (by kernel_rfl)
theorem Yu:bI Tryz.prog Tryz.f125 N6:=e (by kernel_rfl)
theorem Uf:bG Tryz.prog 125:=e (by kernel_rfl)
def adh:=[o 2 (.mv bB)]
def adi:=[m 3 0,o 4 (.call 127 [.t 3]),no 5 4,m 2 5]
def Cc:aR:=(s (r adh) (s (r adi) .ret))
def N7:List bj:=[.tmp 2]
theorem We:bH Tryz.prog Tryz.f126 Cc:=e (by kernel_rfl)
theorem Yv:bI Tryz.prog Tryz.f126 N7:=e (by kernel_rfl)
theorem Ug:bG Tryz.prog 126:=e (by kernel_rfl)
def Gy:=[o 2 (.mv bB)]
def Gz:=[m 3 0,o 4 (.call 114 [.t 3,(aj 0),(aj 100000)]),m 2 4]
def Cd:aR:=(s (r Gy) (s (r Gz) .ret))
def N8:List bj:=[.tmp 2]
theorem Wf:bH Tryz.prog Tryz.f127 Cd:=e (by kernel_rfl)
theorem Yw:bI Tryz.prog Tryz.f127 N8:=e (by kernel_rfl)
theorem Uh:bG Tryz.prog 127:=e (by kernel_rfl)
def GA:=[b 2 0,o 4 (.mv (.c (.nils 1))),bh 5 0]
def GB:=[ay 11 7 2,o 12 (.call 66 [.t 11]),m 6 12]
def xF:=[m 13 6,o 14 (.bin .neq (.t 13) (aj 0))]
def GC:=[m 15 6,o 4 (.mv (.c (.nils 1))),m 5 15]
def GD:=[m 16 1,o 17 (.len (.t 16)),o 18 (.bin .gtr (.t 17) (aj 60))]
def GF:=[o 4 (.mv (.c (.nils 1))),bh 5 2]
def GG:=[f 19 2 6 2,l 20 19,o 21 (.call 167 [.t 20]),m 7 21]
def xG:=[m 22 1,o 23 (.len (.t 22)),bh 24 0]
def xH:=[lt 25 24 23]
def xI:=[o 26 (.is 6 (.t 22) (.t 24)),ay 27 6 26,o 9 (.alloc (.agg [.int .i64 0,.int .i64 0,.int .i64 0,.int .i64 0,.int .i64 0,.int .i64 0])),p (.bu (some 6) (.t 9) (.t 27))]
def xB:=[ay 28 6 9,o 29 (.call 157 [.t 28]),m 10 29]
def tL:=[m 30 10,o 31 (.bin .neq (.t 30) (aj 0))]
def xC:=[m 32 10,o 4 (.mv (.c (.nils 1))),m 5 32]
def xD:=[f 33 0 0 2,ay 34 5 33,f 35 1 5 2,l 36 35,m 37 7,o 38 (.bld [.agg [.int .i64 0,.int .i64 0,.int .i64 0,.int .i64 0,.int .i64 0],.int .i64 0,.nils 7] [(0,(.t 34)),(1,(.t 36)),(2,(.t 37))]),ay 39 6 9,o 40 (.call 168 [.t 38,.t 39]),m 7 40]
def tM:=[ad 41 24 1,m 24 41]
def xE:=[m 42 7,o 43 (.call 169 [.t 42]),m 4 43,bh 5 0]
def Ce:aR:=(s (r GA) (s (s (r GB) (s (r xF) (.cond (.t 14) (s (r GC) .ret) .skip))) (s (s (r GD) (.cond (.t 18) (s (r GF) .ret) .skip)) (s (r GG) (s (s (r xG) (.block 0 (.loop (s (r xH) (s (.cond (.t 25) .skip (.exit 0)) (s (.block 1 (s (r xI) (s (s (r xB) (s (r tL) (.cond (.t 31) (s (r xC) .ret) .skip))) (r xD)))) (r tM))))))) (s (r xE) .ret))))))
def N9:List bj:=[.tmp 4,.tmp 5]
theorem Wg:bH Tryz.prog Tryz.f128 Ce:=e (by kernel_rfl)
theorem Yx:bI Tryz.prog Tryz.f128 N9:=e (by kernel_rfl)
theorem Ui:bG Tryz.prog 128:=e (by kernel_rfl)
def GH:=[b 3 0,b 4 1,b 5 2,bh 6 0]
def GI:=[bh 7 0]
def GJ:=[bh 8 0]
def GK:=[m 9 8,o 10 (.bin .lss (.t 9) (aj 6))]
def GL:=[m 13 8,o 14 (.ia 6 1 (.t 4) (.t 13)),l 15 14,o 16 (.ia 5 1 (.t 3) (.t 15)),l 17 16,m 18 8,o 19 (.ia 6 1 (.t 5) (.t 18)),l 20 19,o 21 (.ia 5 1 (.t 3) (.t 20)),l 22 21,o 23 (.bin .and (.t 17) (.t 22)),o 24 (.bin .eql (.t 23) (aj 0))]
def aal:=some [[],[0],[1],[2],[3],[],[5],[6],[7],[8],[4,9],[10]]
def GM:=[m 25 7,ad 26 25 1,m 7 26]
def xJ:=[m 11 8,ad 12 11 1,m 8 12]
def GN:=[m 27 7,m 6 27]
def Cf:aR:=(s (r GH) (s (r GI) (s (s (r GJ) (.block 0 (.loop (s (s (r GK) (.cond (.t 10) .skip (.exit 0))) (s (.block 1 (s (.bX aal GL) (.cond (.t 24) (r GM) .skip))) (r xJ)))))) (s (r GN) .ret))))
def Oa:List bj:=[.tmp 6]
theorem Wh:bH Tryz.prog Tryz.f129 Cf:=e (by kernel_rfl)
theorem Yy:bI Tryz.prog Tryz.f129 Oa:=e (by kernel_rfl)
theorem Uj:bG Tryz.prog 129:=e (by kernel_rfl)
def adj:=[bh 4 0]
def adk:=[m 6 0,o 7 (.len (.t 6)),bh 8 0]
def adl:=[lt 9 8 7]
def adm:=[m 10 8,m 5 10]
def adn:=[m 11 1,m 12 0,m 13 5,o 14 (.is 1 (.t 12) (.t 13)),l 15 14,o 16 (.bin .eql (.t 11) (.t 15))]
def ado:=[m 17 5,m 4 17]
def adp:=[ad 18 8 1,m 8 18]
def adq:=[bh 4 (-1)]
def Ch:aR:=(s (r adj) (s (s (r adk) (.block 0 (.loop (s (r adl) (s (.cond (.t 9) .skip (.exit 0)) (s (.block 1 (s (r adm) (s (r adn) (.cond (.t 16) (s (r ado) .ret) .skip)))) (r adp))))))) (s (r adq) .ret)))
def Oc:List bj:=[.tmp 4]
theorem Wj:bH Tryz.prog Tryz.f131 Ch:=e (by kernel_rfl)
theorem YA:bI Tryz.prog Tryz.f131 Oc:=e (by kernel_rfl)
theorem Ul:bG Tryz.prog 131:=e (by kernel_rfl)
def adr:=[o 2 (.alloc (.agg [.int .i64 0,.int .i64 0,.int .i64 0,.int .i64 0,.int .i64 0,.int .i64 0,.int .i64 0,.int .i64 0]))]
def ads:=[bh 3 0]
def adt:=[m 4 0,o 5 (.nilC (.t 4)),f 6 0 0 5,f 7 7 7 6,l 8 7]
def adu:=[bh 3 1]
def adv:=[m 9 0,o 10 (.nilC (.t 9)),f 11 0 0 10,f 12 0 0 11,l 13 12,m 14 0,o 15 (.nilC (.t 14)),f 16 0 0 15,f 17 1 1 16,l 18 17,m 19 0,o 20 (.nilC (.t 19)),f 21 0 0 20,f 22 2 2 21,l 23 22,m 24 0,o 25 (.nilC (.t 24)),f 26 0 0 25,f 27 3 3 26,l 28 27,m 29 0,o 30 (.nilC (.t 29)),f 31 0 0 30,f 32 4 4 31,l 33 32,m 34 0,o 35 (.nilC (.t 34)),f 36 0 0 35,f 37 5 5 36,l 38 37,m 39 0,o 40 (.nilC (.t 39)),f 41 0 0 40,f 42 6 6 41,l 43 42,m 44 3,o 45 (.bld [.int .i64 0,.int .i64 0,.int .i64 0,.int .i64 0,.int .i64 0,.int .i64 0,.int .i64 0,.int .i64 0] [(0,(.t 13)),(1,(.t 18)),(2,(.t 23)),(3,(.t 28)),(4,(.t 33)),(5,(.t 38)),(6,(.t 43)),(7,(.t 44))]),p (.bu (some 8) (.t 2) (.t 45))]
def aam:=some [[],[0],[1],[2],[3],[],[5],[6],[7],[8],[],[10],[11],[12],[13],[],[15],[16],[17],[18],[],[20],[21],[22],[23],[],[25],[26],[27],[28],[],[30],[31],[32],[33],[],[4,9,14,19,24,29,34,35],[36,0,1,2,3,4,5,6,7,8,9,10,11,12,13,14,15,16,17,18,19,20,21,22,23,24,25,26,27,28,29,30,31,32,33,34,35,36]]
def Ci:aR:=(s (r adr) (s (r ads) (s (s (r adt) (.cond (.t 8) (r adu) .skip)) (s (.bX aam adv) .ret))))
def Od:List bj:=[.cell 2 (some 8)]
theorem Wk:bH Tryz.prog Tryz.f133 Ci:=e (by kernel_rfl)
theorem YB:bI Tryz.prog Tryz.f133 Od:=e (by kernel_rfl)
theorem Um:bG Tryz.prog 133:=e (by kernel_rfl)
def adw:=[o 4 (.mv bB)]
def adx:=[m 6 0,o 7 (.len (.t 6)),m 8 1,o 9 (.len (.t 8)),o 10 (.bin .neq (.t 7) (.t 9))]
def ady:=[o 4 (.mv bB)]
def adz:=[m 11 0,o 12 (.len (.t 11)),bh 13 0]
def adA:=[lt 14 13 12]
def adB:=[m 15 13,m 5 15]
def adC:=[m 16 0,m 17 5,o 18 (.is 1 (.t 16) (.t 17)),l 19 18,m 20 1,m 21 5,o 22 (.is 1 (.t 20) (.t 21)),l 23 22,o 24 (.bin .neq (.t 19) (.t 23))]
def aan:=some [[],[],[0,1],[2],[],[],[4,5],[6],[3,7]]
def adD:=[o 4 (.mv bB)]
def adE:=[ad 25 13 1,m 13 25]
def adF:=[o 4 (.mv T)]
def Cj:aR:=(s (r adw) (s (s (r adx) (.cond (.t 10) (s (r ady) .ret) .skip)) (s (s (r adz) (.block 0 (.loop (s (r adA) (s (.cond (.t 14) .skip (.exit 0)) (s (.block 1 (s (r adB) (s (.bX aan adC) (.cond (.t 24) (s (r adD) .ret) .skip)))) (r adE))))))) (s (r adF) .ret))))
def Oe:List bj:=[.tmp 4]
theorem Wl:bH Tryz.prog Tryz.f134 Cj:=e (by kernel_rfl)
theorem YC:bI Tryz.prog Tryz.f134 Oe:=e (by kernel_rfl)
theorem Un:bG Tryz.prog 134:=e (by kernel_rfl)
def GO:=[o 6 (.mv (.c (.nils 17)))]
def GP:=[m 8 0,m 9 1,m 10 2,m 11 0,o 12 (.len (.t 11)),o 13 (.sl 17 (.t 8) (some (.t 9)) (some (.t 10)) (some (.t 12)))]
def GQ:=[m 14 1,m 15 2,o 16 (.bin .eql (.t 14) (.t 15))]
def adG:=[m 17 0,m 6 17]
def GR:=[m 18 0,o 19 (.len (.t 18)),m 7 19]
def xK:=[m 20 0,m 21 1,o 22 (.sl 17 (.t 20) none (some (.t 21)) none),m 23 0,m 24 2,o 25 (.sl 17 (.t 23) (some (.t 24)) none none),o 26 (.dH 68 17 136 (.agg [.agg [.int .i64 0,.int .i64 0],.int .i64 0,.int .i64 0,.int .i64 0,.int .i64 0,.int .i64 0,.int .i64 0,.int .i64 0,.agg [.int .i64 0,.int .i64 0,.int .i64 0,.int .i64 0,.int .i64 0,.int .i64 0],.agg [.int .i64 0,.int .i64 0]]) (.t 22) (.t 25)),m 0 26]
def aao:=some [[],[],[0,1],[],[],[3,4],[2,5],[6,6,0,1,2,3,4,5,6]]
def xL:=[m 27 0,m 28 0,o 29 (.len (.t 28)),m 30 7,o 31 (.sl 17 (.t 27) (some (.t 29)) (some (.t 30)) none),p (.jb 17 (.agg [.agg [.int .i64 0,.int .i64 0],.int .i64 0,.int .i64 0,.int .i64 0,.int .i64 0,.int .i64 0,.int .i64 0,.int .i64 0,.agg [.int .i64 0,.int .i64 0,.int .i64 0,.int .i64 0,.int .i64 0,.int .i64 0],.agg [.int .i64 0,.int .i64 0]]) (.t 31))]
def xM:=[m 32 0,m 6 32]
def Ck:aR:=(s (r GO) (s (r GP) (s (s (r GQ) (.cond (.t 16) (s (r adG) .ret) .skip)) (s (r GR) (s (.bX aao xK) (s (r xL) (s (r xM) .ret)))))))
def Of:List bj:=[.tmp 6]
theorem Wm:bH Tryz.prog Tryz.f135 Ck:=e (by kernel_rfl)
theorem YD:bI Tryz.prog Tryz.f135 Of:=e (by kernel_rfl)
theorem Uo:bG Tryz.prog 135:=e (by kernel_rfl)
def GS:=[o 2 (.mv (.c (.nils 17)))]
def xN:=[m 3 0,o 4 (.nilS false (.t 3))]
def GU:=[o 2 (.mv (.c (.nils 17)))]
def xO:=[o 5 (.bs0 17),m 6 0,o 7 (.dH 68 17 136 (.agg [.agg [.int .i64 0,.int .i64 0],.int .i64 0,.int .i64 0,.int .i64 0,.int .i64 0,.int .i64 0,.int .i64 0,.int .i64 0,.agg [.int .i64 0,.int .i64 0,.int .i64 0,.int .i64 0,.int .i64 0,.int .i64 0],.agg [.int .i64 0,.int .i64 0]]) (.t 5) (.t 6)),m 2 7]
def Cl:aR:=(s (r GS) (s (s (r xN) (.cond (.t 4) (s (r GU) .ret) .skip)) (s (r xO) .ret)))
def Og:List bj:=[.tmp 2]
theorem Wn:bH Tryz.prog Tryz.f136 Cl:=e (by kernel_rfl)
theorem YE:bI Tryz.prog Tryz.f136 Og:=e (by kernel_rfl)
theorem Up:bG Tryz.prog 136:=e (by kernel_rfl)
def GV:=[m 4 0,m 5 0,o 6 (.len (.t 5)),m 7 1,o 8 (.call 171 [.t 4,.t 6,.t 7])]
def wo:aR:=(r GV)
def zS:List bj:=[]
theorem Ec:bH Tryz.prog Tryz.f137 wo:=e (by kernel_rfl)
theorem Ew:bI Tryz.prog Tryz.f137 zS:=e (by kernel_rfl)
theorem DW:bG Tryz.prog 137:=e (by kernel_rfl)
def adH:=[bh 5 0]
def adI:=[l 6 2,m 7 0,o 8 (.is 17 (.t 6) (.t 7)),f 9 2 3 8,l 10 9,l 11 2,m 12 1,o 13 (.is 17 (.t 11) (.t 12)),f 14 2 3 13,l 15 14,o 16 (.bin .sub (.t 10) (.t 15)),m 5 16]
def aap:=some [[],[],[0,1],[2],[3],[],[],[5,6],[7],[8],[4,9],[10,0,1,2,3,4,5,6,7,8,9,10]]
def Cm:aR:=(s (r adH) (s (.bX aap adI) .ret))
def Oh:List bj:=[.tmp 5]
theorem Wo:bH Tryz.prog Tryz.f138 Cm:=e (by kernel_rfl)
theorem YF:bI Tryz.prog Tryz.f138 Oh:=e (by kernel_rfl)
theorem Uq:bG Tryz.prog 138:=e (by kernel_rfl)
def GW:=[o 0 (.mv (.c (.raw (.map none))))]
def GX:=[o 1 (.kz),p (.ir (.i .i64) (.t 1) (aj 1) (.c (.func 172 []))),p (.ir (.i .i64) (.t 1) (aj 2) (.c (.func 173 []))),p (.ir (.i .i64) (.t 1) (aj 3) (.c (.func 174 []))),p (.ir (.i .i64) (.t 1) (aj 4) (.c (.func 175 []))),p (.ir (.i .i64) (.t 1) (aj 5) (.c (.func 176 []))),p (.ir (.i .i64) (.t 1) (aj 6) (.c (.func 177 []))),m 2 1,m 0 2]
def Cn:aR:=(s (r GW) (s (r GX) .ret))
def Oi:List bj:=[.tmp 0]
theorem Wp:bH Tryz.prog Tryz.f139 Cn:=e (by kernel_rfl)
theorem YG:bI Tryz.prog Tryz.f139 Oi:=e (by kernel_rfl)
theorem Ur:bG Tryz.prog 139:=e (by kernel_rfl)
def GY:=[o 2 (.mv (.c (.nils 1)))]
def GZ:=[o 3 (.mv (.c (.nils 1)))]
def G0:=[bh 4 0]
def G1:=[m 5 4,o 6 (.bin .lss (.t 5) (aj 5))]
def G2:=[m 9 0,m 10 4,o 11 (.bin .shl (aj 1) (.t 10)),o 12 (.bin .and (.t 9) (.t 11)),o 13 (.bin .neq (.t 12) (aj 0))]
def G3:=[m 14 3,m 15 4,o 16 (.bs 3 1 [.t 15]),o 17 (.dH 3 1 8 (.int .i64 0) (.t 14) (.t 16)),m 3 17]
def xP:=[m 7 4,ad 8 7 1,m 4 8]
def G4:=[m 18 3,m 2 18]
def Cp:aR:=(s (r GY) (s (r GZ) (s (s (r G0) (.block 0 (.loop (s (s (r G1) (.cond (.t 6) .skip (.exit 0))) (s (.block 1 (s (r G2) (.cond (.t 13) (r G3) .skip))) (r xP)))))) (s (r G4) .ret))))
def Ol:List bj:=[.tmp 2]
theorem Wr:bH Tryz.prog Tryz.f141 Cp:=e (by kernel_rfl)
theorem YI:bI Tryz.prog Tryz.f141 Ol:=e (by kernel_rfl)
theorem Ut:bG Tryz.prog 141:=e (by kernel_rfl)
def aeu:=[b 4 1,bh 6 0,o 7 (.mv bB)]
def aev:=[m 12 0,o 13 (.len (.t 12)),m 8 13]
def aew:=[m 14 8,bh 9 0,m 10 14]
def aex:=[m 15 9,m 16 10,lt 17 15 16]
def aey:=[m 18 9,m 19 10,o 20 (.bin .add (.t 18) (.t 19)),o 21 (.conv .u64 (.t 20)),o 22 (.bin .shr (.t 21) (.c (.int .u64 1))),o 23 (.conv .i64 (.t 22)),m 11 23]
def aez:=[m 24 2,m 25 0,m 26 11,o 27 (.is 17 (.t 25) (.t 26)),ay 28 17 27,ay 29 2 4,o 30 (.eM (.t 24) [.t 28,.t 29]),o 31 (.bin .lss (.t 30) (aj 0))]
def aar:=some [[],[],[],[1,2],[3],[],[0,4,5],[6]]
def aeA:=[m 32 11,ad 33 32 1,m 9 33]
def aeB:=[m 34 11,m 10 34]
def aeC:=[m 35 9,m 36 9,m 37 8,lt 38 36 37,m 39 38,di 40 2 39,di 41 0 39,di 42 9 39,bW 43 (.is 17 (.t 41) (.t 42)) 39,bW 44 (.ld (some 17) (.t 43)) 39,bW 45 (.ld (some 2) (.t 4)) 39,bW 46 (.eM (.t 40) [.t 44,.t 45]) 39,bW 47 (.bin .eql (.t 46) (aj 0)) 39,and 48 39 47,m 6 35,m 7 48]
def aas:=some [[],[],[],[1,2],[3],[4],[4],[4],[6,7,4],[8,4],[4],[5,9,10,4,4],[11,4],[4,12],[0,11,0],[13,14,0,1,2,3,4,5,6,7,8,9,10,11,12,13,14]]
def Cq:aR:=(s (r aeu) (s (r aev) (s (r aew) (s (.block 0 (.loop (s (s (r aex) (.cond (.t 17) .skip (.exit 0))) (.block 1 (s (r aey) (s (.bX aar aez) (.cond (.t 31) (r aeA) (r aeB)))))))) (s (.bX aas aeC) .ret)))))
def Om:List bj:=[.tmp 6,.tmp 7]
theorem Ws:bH Tryz.prog Tryz.f142 Cq:=e (by kernel_rfl)
theorem YJ:bI Tryz.prog Tryz.f142 Om:=e (by kernel_rfl)
theorem Uu:bG Tryz.prog 142:=e (by kernel_rfl)
def aeD:=[b 2 0,b 3 1,bh 4 0]
def aeE:=[f 5 0 0 2,ay 6 2 5,ay 7 2 3,o 8 (.call 118 [.t 6,.t 7]),m 4 8]
def Cr:aR:=(s (r aeD) (s (r aeE) .ret))
def On:List bj:=[.tmp 4]
theorem Wt:bH Tryz.prog Tryz.f143 Cr:=e (by kernel_rfl)
theorem YK:bI Tryz.prog Tryz.f143 On:=e (by kernel_rfl)
theorem Uv:bG Tryz.prog 143:=e (by kernel_rfl)
def G5:=[b 2 0,o 4 (.mv (.c (.nils 1)))]
def G6:=[m 6 1]
def aeF:=[m 5 7]
def aeG:=[l 8 2,m 9 5,o 10 (.bs 3 1 [.t 9]),o 11 (.dH 3 1 8 (.int .i64 0) (.t 8) (.t 10)),p (.bu none (.t 2) (.t 11))]
def aeH:=[l 12 2,m 4 12]
def Cs:aR:=(s (r G5) (s (s (r G6) (.block 0 (.kF (.t 6) [7] (r aeF) (.block 1 (r aeG))))) (s (r aeH) .ret)))
def Oo:List bj:=[.tmp 4]
theorem Wu:bH Tryz.prog Tryz.f144 Cs:=e (by kernel_rfl)
theorem YL:bI Tryz.prog Tryz.f144 Oo:=e (by kernel_rfl)
theorem Uw:bG Tryz.prog 144:=e (by kernel_rfl)
def aeI:=[b 1 0,o 2 (.mv (.c (.dz)))]
def aeJ:=[o 3 (.mk 178 [.t 1]),m 2 3]
def Ct:aR:=(s (r aeI) (s (r aeJ) .ret))
def Oq:List bj:=[.tmp 2]
theorem Wv:bH Tryz.prog Tryz.f145 Ct:=e (by kernel_rfl)
theorem YM:bI Tryz.prog Tryz.f145 Oq:=e (by kernel_rfl)
theorem Ux:bG Tryz.prog 145:=e (by kernel_rfl)
def G7:=[l 5 1,o 6 (.len (.t 5)),bh 7 0]
def G8:=[lt 8 7 6]
def G9:=[m 9 7,m 4 9]
def xQ:=[l 10 2,m 11 4,o 12 (.is 1 (.t 10) (.t 11)),l 13 12,m 14 13,di 15 0 14,di 16 4 14,bW 17 (.eM (.t 15) [.t 16]) 14,bW 18 (.un .not (.t 17)) 14,and 19 14 18]
def xR:=[ad 20 7 1,m 7 20]
def Cu:aR:=(s (r G7) (.block 0 (.loop (s (r G8) (s (.cond (.t 8) .skip (.exit 0)) (s (.block 1 (s (r G9) (s (r xQ) (.cond (.t 19) .ret .skip)))) (r xR)))))))
def Ot:List bj:=[]
theorem Ww:bH Tryz.prog Tryz.f146 Cu:=e (by kernel_rfl)
theorem YN:bI Tryz.prog Tryz.f146 Ot:=e (by kernel_rfl)
theorem wC:bG Tryz.prog 146:=e (by kernel_rfl)
def aeK:=[o 2 (.mv bB)]
def aeL:=[o 2 (.mv T)]
def Cv:aR:=(s (r aeK) (s (r aeL) .ret))
def Ou:List bj:=[.tmp 2]
theorem Wx:bH Tryz.prog Tryz.f149 Cv:=e (by kernel_rfl)
theorem YO:bI Tryz.prog Tryz.f149 Ou:=e (by kernel_rfl)
theorem Uy:bG Tryz.prog 149:=e (by kernel_rfl)
def aeX:=[o 2 (.mv (.c (.nils 1)))]
def aeY:=[bh 3 0]
def ae4:=[m 9 0,o 10 (.len (.t 9)),bh 11 0]
def ae5:=[lt 12 11 10]
def ae6:=[o 13 (.is 1 (.t 9) (.t 11)),l 14 13,m 5 14]
def ae7:=[m 15 3,m 16 5,o 17 (.len (.t 16)),o 18 (.bin .add (.t 15) (.t 17)),m 3 18]
def ae8:=[m 19 3,o 20 (.bin .lss (.t 19) (aj 0))]
def ae9:=[ad 22 11 1,m 11 22]
def afa:=[m 23 3,o 24 (.call 190 [(.c (.nils 1)),.t 23]),m 6 24]
def afb:=[m 25 0,o 26 (.len (.t 25)),bh 27 0]
def aeZ:=[lt 28 27 26]
def ae0:=[o 29 (.is 1 (.t 25) (.t 27)),l 30 29,m 8 30]
def ae1:=[m 31 6,m 32 8,o 33 (.dH 3 1 8 (.int .i64 0) (.t 31) (.t 32)),m 6 33]
def ae2:=[ad 34 27 1,m 27 34]
def ae3:=[m 35 6,m 2 35]
def wq:aR:=(s (r aeX) (s (r aeY) (s (s (r ae4) (.block 0 (.loop (s (r ae5) (s (.cond (.t 12) .skip (.exit 0)) (s (.block 1 (s (r ae6) (s (r ae7) (s (r ae8) (.cond (.t 20) .l6 .skip))))) (r ae9))))))) (s (r afa) (s (s (r afb) (.block 2 (.loop (s (r aeZ) (s (.cond (.t 28) .skip (.exit 2)) (s (.block 3 (s (r ae0) (r ae1))) (r ae2))))))) (s (r ae3) .ret))))))
def zT:List bj:=[.tmp 2]
theorem Ed:bH Tryz.prog Tryz.f150 wq:=e (by kernel_rfl)
theorem Ey:bI Tryz.prog Tryz.f150 zT:=e (by kernel_rfl)
theorem DX:bG Tryz.prog 150:=e (by kernel_rfl)
def afc:=[o 4 (.mv (.c (.nils 1)))]
def afd:=[m 8 0,m 9 1,o 10 (.call 166 [.t 8,.t 9]),m 5 10]
def aff:=[m 11 5,o 12 (.bin .eql (.t 11) (.c (.int .i64 (-1))))]
def afg:=[m 13 0,m 4 13]
def afh:=[m 14 5,ad 15 14 1,m 6 15]
def Hc:=[m 16 6,m 17 0,o 18 (.len (.t 17)),lt 19 16 18]
def afi:=[m 22 0,m 23 6,o 24 (.is 1 (.t 22) (.t 23)),l 25 24,m 7 25]
def afj:=[m 26 1,m 27 7,o 28 (.eM (.t 26) [.t 27]),no 29 28]
def afk:=[m 30 0,m 31 5,m 32 7,o 33 (.is 1 (.t 30) (.t 31)),p (.bu none (.t 33) (.t 32))]
def afl:=[m 34 5,ad 35 34 1,m 5 35]
def afe:=[m 20 6,ad 21 20 1,m 6 21]
def Ha:=[m 36 0,m 37 5,o 38 (.sl 1 (.t 36) (some (.t 37)) none none),p (.jb 1 (.int .i64 0) (.t 38))]
def Hb:=[m 39 0,m 40 5,o 41 (.sl 1 (.t 39) none (some (.t 40)) none),m 4 41]
def wu:aR:=(s (r afc) (s (r afd) (s (s (r aff) (.cond (.t 12) (s (r afg) .ret) .skip)) (s (s (r afh) (.block 0 (.loop (s (s (r Hc) (.cond (.t 19) .skip (.exit 0))) (s (.block 1 (s (r afi) (s (r afj) (.cond (.t 29) (s (r afk) (r afl)) .skip)))) (r afe)))))) (s (r Ha) (s (r Hb) .ret))))))
def zU:List bj:=[.tmp 4]
theorem Ee:bH Tryz.prog Tryz.f151 wu:=e (by kernel_rfl)
theorem Ez:bI Tryz.prog Tryz.f151 zU:=e (by kernel_rfl)
theorem DY:bG Tryz.prog 151:=e (by kernel_rfl)
def afm:=[o 5 (.mv bB)]
def afn:=[ay 6 7 1,l 7 2,o 8 (.nilC (.t 7)),f 9 0 0 8,l 10 9,m 11 0,o 12 (.lk (.i .i64) (.nilp) false (.t 10) (.t 11)),l 13 3,o 14 (.nilC (.t 13)),f 15 0 0 14,l 16 15,m 17 0,o 18 (.lk (.i .i64) (.nilp) false (.t 16) (.t 17)),o 19 (.call 77 [.t 6,.t 12,.t 18]),m 5 19]
def aat:=some [[],[],[1],[2],[3],[],[4,5],[],[7],[8],[9],[],[10,11],[0,6,12],[13,13,0,1,2,3,4,5,6,7,8,9,10,11,12,13]]
def Cw:aR:=(s (r afm) (s (.bX aat afn) .ret))
def Ov:List bj:=[.tmp 5]
theorem Wy:bH Tryz.prog Tryz.f152 Cw:=e (by kernel_rfl)
theorem YP:bI Tryz.prog Tryz.f152 Ov:=e (by kernel_rfl)
theorem Uz:bG Tryz.prog 152:=e (by kernel_rfl)
def tN:=[o 6 (.mv (.c (.nils 17)))]
def tO:=[m 10 0,m 11 1,o 12 (.sl 17 (.t 10) (some (.t 11)) none none)]
def tP:=[m 13 2,o 14 (.len (.t 13)),m 7 14]
def tQ:=[m 15 7,o 16 (.bin .eql (.t 15) (aj 0))]
def afr:=[m 17 0,m 6 17]
def tT:=[m 18 0,o 19 (.len (.t 18)),m 8 19]
def tU:=[m 20 1,m 21 8,o 22 (.bin .eql (.t 20) (.t 21))]
def rY:=[m 23 0,m 24 2,o 25 (.dH 68 17 136 (.agg [.agg [.int .i64 0,.int .i64 0],.int .i64 0,.int .i64 0,.int .i64 0,.int .i64 0,.int .i64 0,.int .i64 0,.int .i64 0,.agg [.int .i64 0,.int .i64 0,.int .i64 0,.int .i64 0,.int .i64 0,.int .i64 0],.agg [.int .i64 0,.int .i64 0]]) (.t 23) (.t 24)),m 6 25]
def Hl:=[m 26 8,m 27 7,o 28 (.bin .add (.t 26) (.t 27)),m 29 0,o 30 (.cap (.t 29)),o 31 (.bin .gtr (.t 28) (.t 30))]
def Hm:=[m 32 0,m 33 1,o 34 (.sl 17 (.t 32) none (some (.t 33)) none),m 35 8,m 36 7,o 37 (.bin .add (.t 35) (.t 36)),m 38 1,o 39 (.bin .sub (.t 37) (.t 38)),o 40 (.kO 68 17 136 (.agg [.agg [.int .i64 0,.int .i64 0],.int .i64 0,.int .i64 0,.int .i64 0,.int .i64 0,.int .i64 0,.int .i64 0,.int .i64 0,.agg [.int .i64 0,.int .i64 0,.int .i64 0,.int .i64 0,.int .i64 0,.int .i64 0],.agg [.int .i64 0,.int .i64 0]]) (.t 34) (.t 39)),m 9 40]
def Hd:=[m 41 9,m 42 1,o 43 (.sl 17 (.t 41) (some (.t 42)) none none),m 44 2,o 45 (.jc 17 (.t 43) (.t 44))]
def He:=[m 46 9,m 47 1,m 48 7,o 49 (.bin .add (.t 47) (.t 48)),o 50 (.sl 17 (.t 46) (some (.t 49)) none none),m 51 0,m 52 1,o 53 (.sl 17 (.t 51) (some (.t 52)) none none),o 54 (.jc 17 (.t 50) (.t 53))]
def aau:=some [[],[],[],[1,2],[0,3],[],[],[5,6],[4,7]]
def Hf:=[m 55 9,m 6 55]
def Hg:=[m 56 0,m 57 8,m 58 7,o 59 (.bin .add (.t 57) (.t 58)),o 60 (.sl 17 (.t 56) none (some (.t 59)) none),m 0 60]
def Hh:=[m 61 2,m 62 0,m 63 1,m 64 7,o 65 (.bin .add (.t 63) (.t 64)),o 66 (.sl 17 (.t 62) (some (.t 65)) none none),o 67 (.jR 191 [.t 61,.t 66]),no 68 67]
def Hi:=[m 69 0,m 70 1,m 71 7,o 72 (.bin .add (.t 70) (.t 71)),o 73 (.sl 17 (.t 69) (some (.t 72)) none none),m 74 0,m 75 1,o 76 (.sl 17 (.t 74) (some (.t 75)) none none),o 77 (.jc 17 (.t 73) (.t 76))]
def aav:=some [[],[],[],[1,2],[0,3],[],[],[5,6],[4,7]]
def Hj:=[m 78 0,m 79 1,o 80 (.sl 17 (.t 78) (some (.t 79)) none none),m 81 2,o 82 (.jc 17 (.t 80) (.t 81))]
def Hk:=[m 83 0,m 6 83]
def afo:=[m 84 0,m 85 8,o 86 (.sl 17 (.t 84) (some (.t 85)) none none),m 87 2,o 88 (.jc 17 (.t 86) (.t 87))]
def afp:=[m 89 0,m 90 1,o 91 (.sl 17 (.t 89) (some (.t 90)) none none),m 92 7,o 93 (.call 192 [.t 91,.t 92])]
def afq:=[m 94 0,m 6 94]
def tr:aR:=(s (r tN) (s (r tO) (s (r tP) (s (s (r tQ) (.cond (.t 16) (s (r afr) .ret) .skip)) (s (r tT) (s (s (r tU) (.cond (.t 22) (s (r rY) .ret) .skip)) (s (s (r Hl) (.cond (.t 31) (s (r Hm) (s (r Hd) (s (.bX aau He) (s (r Hf) .ret)))) .skip)) (s (r Hg) (s (s (r Hh) (.cond (.t 68) (s (.bX aav Hi) (s (r Hj) (s (r Hk) .ret))) .skip)) (s (r afo) (s (r afp) (s (r afq) .ret))))))))))))
def u5:List bj:=[.tmp 6]
theorem wG:bH Tryz.prog Tryz.f153 tr:=e (by kernel_rfl)
theorem wT:bI Tryz.prog Tryz.f153 u5:=e (by kernel_rfl)
theorem wD:bG Tryz.prog 153:=e (by kernel_rfl)
def Hn:=[o 2 (.mv bB)]
def Ho:=[m 3 0,o 4 (.call 114 [.t 3,(aj 1),(aj 9999)]),m 2 4]
def Cx:aR:=(s (r Hn) (s (r Ho) .ret))
def Ow:List bj:=[.tmp 2]
theorem Wz:bH Tryz.prog Tryz.f154 Cx:=e (by kernel_rfl)
theorem YQ:bI Tryz.prog Tryz.f154 Ow:=e (by kernel_rfl)
theorem UA:bG Tryz.prog 154:=e (by kernel_rfl)
def Hp:=[o 2 (.mv bB)]
def Hq:=[m 3 0,o 4 (.call 114 [.t 3,(aj 1),(aj 9)]),m 2 4]
def Cy:aR:=(s (r Hp) (s (r Hq) .ret))
def Ox:List bj:=[.tmp 2]
theorem WA:bH Tryz.prog Tryz.f155 Cy:=e (by kernel_rfl)
theorem YR:bI Tryz.prog Tryz.f155 Ox:=e (by kernel_rfl)
theorem UB:bG Tryz.prog 155:=e (by kernel_rfl)
def Hr:=[o 2 (.mv bB)]
def Hs:=[m 3 0,o 4 (.call 114 [.t 3,(aj 1),(aj 99)]),m 2 4]
def Cz:aR:=(s (r Hr) (s (r Hs) .ret))
def Oy:List bj:=[.tmp 2]
theorem WB:bH Tryz.prog Tryz.f156 Cz:=e (by kernel_rfl)
theorem YS:bI Tryz.prog Tryz.f156 Oy:=e (by kernel_rfl)
theorem UC:bG Tryz.prog 156:=e (by kernel_rfl)
def Ht:=[b 1 0,bh 2 0]
def Hu:=[ay 3 6 1,o 4 (.call 193 [.t 3]),no 5 4]
def Hv:=[bh 2 12]
def Hw:=[bh 2 0]
def CA:aR:=(s (r Ht) (s (s (r Hu) (.cond (.t 5) (s (r Hv) .ret) .skip)) (s (r Hw) .ret)))
def Oz:List bj:=[.tmp 2]
theorem WC:bH Tryz.prog Tryz.f157 CA:=e (by kernel_rfl)
theorem YT:bI Tryz.prog Tryz.f157 Oz:=e (by kernel_rfl)
theorem UD:bG Tryz.prog 157:=e (by kernel_rfl)
def Hx:=[bh 2 0]
def Hy:=[bh 3 0]
def Hz:=[m 6 0,o 7 (.len (.t 6)),bh 8 0]
def HA:=[lt 9 8 7]
def HB:=[o 10 (.is 1 (.t 6) (.t 8)),l 11 10,m 5 11]
def HC:=[m 12 5,m 13 3,o 14 (.bin .neq (.t 12) (.t 13))]
def HD:=[m 15 5,m 2 15]
def HE:=[ad 16 8 1,m 8 16]
def HF:=[m 17 3,m 2 17]
def CB:aR:=(s (r Hx) (s (r Hy) (s (s (r Hz) (.block 0 (.loop (s (r HA) (s (.cond (.t 9) .skip (.exit 0)) (s (.block 1 (s (r HB) (s (r HC) (.cond (.t 14) (s (r HD) .ret) .skip)))) (r HE))))))) (s (r HF) .ret))))
def OA:List bj:=[.tmp 2]
theorem WD:bH Tryz.prog Tryz.f158 CB:=e (by kernel_rfl)
theorem YU:bI Tryz.prog Tryz.f158 OA:=e (by kernel_rfl)
theorem UE:bG Tryz.prog 158:=e (by kernel_rfl)
def HG:=[bh 4 0]
def HI:=[m 7 0,o 8 (.call 194 [.t 7]),m 5 8]
def HN:=[m 9 1,o 10 (.call 194 [.t 9]),m 6 10]
def HO:=[m 11 5]
def afs:=[m 12 6]
def aft:=[bh 4 0]
def afu:=[bh 4 (-1)]
def HP:=[m 13 6]
def afv:=[bh 4 1]
def HQ:=[m 14 0,m 15 1,lt 16 14 15]
def HJ:=[bh 4 (-1)]
def HK:=[m 17 0,m 18 1,o 19 (.bin .gtr (.t 17) (.t 18))]
def HL:=[bh 4 1]
def HM:=[bh 4 0]
def CC:aR:=(s (r HG) (s (r HI) (s (r HN) (s (s (r HO) (.cond (.t 11) (s (s (r afs) (.cond (.t 12) (s (r aft) .ret) .skip)) (s (r afu) .ret)) .skip)) (s (s (r HP) (.cond (.t 13) (s (r afv) .ret) .skip)) (s (s (r HQ) (.cond (.t 16) (s (r HJ) .ret) .skip)) (s (s (r HK) (.cond (.t 19) (s (r HL) .ret) .skip)) (s (r HM) .ret))))))))
def OB:List bj:=[.tmp 4]
theorem WE:bH Tryz.prog Tryz.f159 CC:=e (by kernel_rfl)
theorem YV:bI Tryz.prog Tryz.f159 OB:=e (by kernel_rfl)
theorem UF:bG Tryz.prog 159:=e (by kernel_rfl)
def HR:=[o 2 (.mv bB)]
def HS:=[m 3 0,o 4 (.call 121 [.t 3,(aj 0),(aj 31)]),m 2 4]
def CE:aR:=(s (r HR) (s (r HS) .ret))
def OD:List bj:=[.tmp 2]
theorem WH:bH Tryz.prog Tryz.f160 CE:=e (by kernel_rfl)
theorem YX:bI Tryz.prog Tryz.f160 OD:=e (by kernel_rfl)
theorem UH:bG Tryz.prog 160:=e (by kernel_rfl)
def HT:=[o 4 (.mv bB)]
def HU:=[m 5 0,m 6 1,o 7 (.bin .shr (.t 5) (.t 6)),o 8 (.bin .and (.t 7) (aj 1)),o 9 (.bin .eql (.t 8) (aj 1)),m 4 9]
def CF:aR:=(s (r HT) (s (r HU) .ret))
def OE:List bj:=[.tmp 4]
theorem WI:bH Tryz.prog Tryz.f161 CF:=e (by kernel_rfl)
theorem YY:bI Tryz.prog Tryz.f161 OE:=e (by kernel_rfl)
theorem UI:bG Tryz.prog 161:=e (by kernel_rfl)
def HV:=[o 2 (.mv bB)]
def HW:=[m 3 0,o 4 (.call 121 [.t 3,(aj 0),(aj 4)]),no 5 4,m 2 5]
def CG:aR:=(s (r HV) (s (r HW) .ret))
def OF:List bj:=[.tmp 2]
theorem WJ:bH Tryz.prog Tryz.f162 CG:=e (by kernel_rfl)
theorem YZ:bI Tryz.prog Tryz.f162 OF:=e (by kernel_rfl)
theorem UJ:bG Tryz.prog 162:=e (by kernel_rfl)
def HX:=[o 4 (.mv bB)]
def HY:=[m 5 0,m 6 1,o 7 (.call 195 [.t 5,.t 6]),o 8 (.bin .geq (.t 7) (aj 0)),m 4 8]
def CH:aR:=(s (r HX) (s (r HY) .ret))
def OG:List bj:=[.tmp 4]
theorem WK:bH Tryz.prog Tryz.f163 CH:=e (by kernel_rfl)
theorem Y0:bI Tryz.prog Tryz.f163 OG:=e (by kernel_rfl)
theorem UK:bG Tryz.prog 163:=e (by kernel_rfl)
def HZ:=[b 3 0,o 4 (.mv bB)]
def H0:=[f 5 0 0 1,ay 6 5 5,f 7 1 1 3,ay 8 6 7,ay 9 6 2,o 10 (.call 165 [.t 6,.t 8,.t 9]),f 11 1 5 1,l 12 11,o 13 (.bin .mul (aj 2) (.t 12)),o 14 (.bin .leq (.t 10) (.t 13)),m 4 14]
def aaw:=some [[],[0],[],[2],[],[1,3,4],[],[6],[7],[5,8],[9,5,0,1,2,3,4,5,6,7,8,9]]
def CI:aR:=(s (r HZ) (s (.bX aaw H0) .ret))
def OH:List bj:=[.tmp 4]
theorem WL:bH Tryz.prog Tryz.f164 CI:=e (by kernel_rfl)
theorem Y1:bI Tryz.prog Tryz.f164 OH:=e (by kernel_rfl)
theorem UL:bG Tryz.prog 164:=e (by kernel_rfl)
def H2:=[b 3 0,b 4 1,b 5 2,bh 6 0]
def H3:=[o 7 (.alloc (.dz)),p (.bu none (.t 7) (.c (.func 196 [])))]
def H4:=[o 8 (.mk 198 [.t 7,.t 3,.t 4,.t 5]),o 9 (.call 197 [.t 8]),m 6 9]
def CJ:aR:=(s (r H2) (s (r H3) (s (r H4) .ret)))
def OI:List bj:=[.tmp 6]
theorem WM:bH Tryz.prog Tryz.f165 CJ:=e (by kernel_rfl)
theorem Y2:bI Tryz.prog Tryz.f165 OI:=e (by kernel_rfl)
theorem UM:bG Tryz.prog 165:=e (by kernel_rfl)
def H5:=[bh 4 0]
def H6:=[m 6 0,o 7 (.len (.t 6)),bh 8 0]
def H7:=[lt 9 8 7]
def H8:=[m 10 8,m 5 10]
def H9:=[m 11 1,m 12 0,m 13 5,o 14 (.is 1 (.t 12) (.t 13)),l 15 14,o 16 (.eM (.t 11) [.t 15])]
def Ia:=[m 17 5,m 4 17]
def Ib:=[ad 18 8 1,m 8 18]
def Ic:=[bh 4 (-1)]
def CK:aR:=(s (r H5) (s (s (r H6) (.block 0 (.loop (s (r H7) (s (.cond (.t 9) .skip (.exit 0)) (s (.block 1 (s (r H8) (s (r H9) (.cond (.t 16) (s (r Ia) .ret) .skip)))) (r Ib))))))) (s (r Ic) .ret)))
def OJ:List bj:=[.tmp 4]
theorem WN:bH Tryz.prog Tryz.f166 CK:=e (by kernel_rfl)
theorem Y3:bI Tryz.prog Tryz.f166 OJ:=e (by kernel_rfl)
theorem UN:bG Tryz.prog 166:=e (by kernel_rfl)
def Ie:=[o 2 (.mv (.c (.nils 7)))]
def xS:=[m 3 0,o 4 (.nilS false (.t 3))]
def If:=[o 2 (.mv (.c (.nils 7)))]
def xT:=[o 5 (.bs0 7),m 6 0,o 7 (.dH 63 7 56 (.agg [.int .i64 0,.agg [.int .i64 0,.int .i64 0,.int .i64 0,.int .i64 0,.int .i64 0,.int .i64 0]]) (.t 5) (.t 6)),m 2 7]
def CL:aR:=(s (r Ie) (s (s (r xS) (.cond (.t 4) (s (r If) .ret) .skip)) (s (r xT) .ret)))
def OK:List bj:=[.tmp 2]
theorem WO:bH Tryz.prog Tryz.f167 CL:=e (by kernel_rfl)
theorem Y4:bI Tryz.prog Tryz.f167 OK:=e (by kernel_rfl)
theorem UO:bG Tryz.prog 167:=e (by kernel_rfl)
def Ig:=[b 2 0,b 3 1,o 4 (.mv (.c (.nils 7)))]
def Ih:=[f 5 2 6 2,l 6 5,o 7 (.call 167 [.t 6]),o 8 (.mk 201 [.t 2,.t 3]),o 9 (.call 200 [.t 7,.t 8]),m 4 9]
def CM:aR:=(s (r Ig) (s (r Ih) .ret))
def OL:List bj:=[.tmp 4]
theorem WQ:bH Tryz.prog Tryz.f168 CM:=e (by kernel_rfl)
theorem Y5:bI Tryz.prog Tryz.f168 OL:=e (by kernel_rfl)
theorem UP:bG Tryz.prog 168:=e (by kernel_rfl)
def Ii:=[o 2 (.mv (.c (.nils 1)))]
def Ij:=[o 3 (.mv (.c (.nils 1)))]
def Ik:=[m 6 0,o 7 (.len (.t 6)),bh 8 0]
def Il:=[lt 9 8 7]
def Im:=[o 10 (.is 7 (.t 6) (.t 8)),ay 11 7 10,o 5 (.alloc (.agg [.int .i64 0,.agg [.int .i64 0,.int .i64 0,.int .i64 0,.int .i64 0,.int .i64 0,.int .i64 0]])),p (.bu (some 7) (.t 5) (.t 11))]
def Io:=[m 12 3,f 13 0 0 5,l 14 13,o 15 (.bs 3 1 [.t 14]),o 16 (.dH 3 1 8 (.int .i64 0) (.t 12) (.t 15)),m 3 16]
def Ip:=[ad 17 8 1,m 8 17]
def Iq:=[m 18 3,m 2 18]
def CN:aR:=(s (r Ii) (s (r Ij) (s (s (r Ik) (.block 0 (.loop (s (r Il) (s (.cond (.t 9) .skip (.exit 0)) (s (.block 1 (s (r Im) (r Io))) (r Ip))))))) (s (r Iq) .ret))))
def OM:List bj:=[.tmp 2]
theorem WR:bH Tryz.prog Tryz.f169 CN:=e (by kernel_rfl)
theorem Y6:bI Tryz.prog Tryz.f169 OM:=e (by kernel_rfl)
theorem UQ:bG Tryz.prog 169:=e (by kernel_rfl)
def xU:=[bh 6 20]
def xV:=[m 10 6,bh 7 0,m 8 10]
def Ir:=[m 11 8,m 12 1,o 13 (.bin .leq (.t 11) (.t 12))]
def afL:=[m 14 0,m 15 7,m 16 8,m 17 2,o 18 (.call 203 [.t 14,.t 15,.t 16,.t 17])]
def afM:=[m 19 8,m 7 19]
def afN:=[m 20 8,m 21 6,o 22 (.bin .add (.t 20) (.t 21)),m 8 22]
def Is:=[m 23 0,m 24 7,m 25 1,m 26 2,o 27 (.call 203 [.t 23,.t 24,.t 25,.t 26])]
def xW:=[m 28 6,m 29 1,lt 30 28 29]
def It:=[m 31 6,o 32 (.bin .mul (aj 2) (.t 31)),bh 7 0,m 8 32]
def Iu:=[m 33 8,m 34 1,o 35 (.bin .leq (.t 33) (.t 34))]
def afE:=[m 36 0,m 37 7,m 38 7,m 39 6,o 40 (.bin .add (.t 38) (.t 39)),m 41 8,m 42 2,o 43 (.call 204 [.t 36,.t 37,.t 40,.t 41,.t 42])]
def afF:=[m 44 8,m 7 44]
def afG:=[m 45 8,m 46 6,o 47 (.bin .mul (aj 2) (.t 46)),o 48 (.bin .add (.t 45) (.t 47)),m 8 48]
def afH:=[m 49 7,m 50 6,o 51 (.bin .add (.t 49) (.t 50)),m 9 51]
def afI:=[m 52 9,m 53 1,lt 54 52 53]
def afJ:=[m 55 0,m 56 7,m 57 9,m 58 1,m 59 2,o 60 (.call 204 [.t 55,.t 56,.t 57,.t 58,.t 59])]
def afK:=[m 61 6,o 62 (.bin .mul (.t 61) (aj 2)),m 6 62]
def wv:aR:=(s (r xU) (s (r xV) (s (.block 0 (.loop (s (s (r Ir) (.cond (.t 13) .skip (.exit 0))) (.block 1 (s (r afL) (s (r afM) (r afN))))))) (s (r Is) (.block 2 (.loop (s (s (r xW) (.cond (.t 30) .skip (.exit 2))) (.block 3 (s (r It) (s (.block 4 (.loop (s (s (r Iu) (.cond (.t 35) .skip (.exit 4))) (.block 5 (s (r afE) (s (r afF) (r afG))))))) (s (s (r afH) (s (r afI) (.cond (.t 54) (r afJ) .skip))) (r afK))))))))))))
def zV:List bj:=[]
theorem Ef:bH Tryz.prog Tryz.f171 wv:=e (by kernel_rfl)
theorem EA:bI Tryz.prog Tryz.f171 zV:=e (by kernel_rfl)
theorem DZ:bG Tryz.prog 171:=e (by kernel_rfl)
def afO:=[b 3 1,o 4 (.mv bB)]
def afP:=[f 6 5 6 3,l 7 6,o 8 (.bin .gtr (.t 7) (aj 0))]
def afQ:=[m 9 0,o 10 (.nilC (.t 9)),f 11 0 0 10,l 12 11,f 13 5 6 3,l 14 13,o 15 (.lk (.i .i64) (.nilp) false (.t 12) (.t 14)),m 5 15]
def aax:=some [[],[0],[1],[2],[],[4],[3,5],[6,0,1,2,3,4,5,6]]
def afR:=[m 16 5,o 17 (.ptrE false (.t 16) (.c (.nilp))),m 18 17,gW 19 5 18,on 20 (.nilC (.t 19)) 18,fn 21 0 0 20 18,fn 22 1 1 21 18,fY 23 22 18,fn 24 6 7 3 18,fY 25 24 18,on 26 (.bin .neq (.t 23) (.t 25)) 18,or 27 18 26,m 28 27,gW 29 5 28,on 30 (.call 90 [.t 29]) 28,gW 31 30 28,di 32 5 31,bW 33 (.nilC (.t 32)) 31,ef 34 0 0 33 31,ef 35 6 6 34 31,e9 36 35 31,ef 37 2 3 3 31,e9 38 37 31,bW 39 (.bin .lss (.t 36) (.t 38)) 31,on 40 (.pick (.t 31) (.t 39) bB) 28,or 41 28 40]
def aay:=some [[],[0],[1],[2],[3,2],[4,2],[5,2],[6,2],[2],[8,2],[7,9,2],[2,10],[11,2],[12],[13,12,12],[14,14,12],[15],[16,15],[17,15],[18,15],[19,15],[15],[21,15],[20,22,15],[15,23,12],[12,24]]
def afS:=[o 4 (.mv bB)]
def afT:=[m 42 0,ay 43 17 3,o 44 (.call 173 [.t 42,.t 43]),m 4 44]
def CO:aR:=(s (r afO) (s (s (r afP) (.cond (.t 8) (s (.bX aax afQ) (s (.bX aay afR) (.cond (.t 41) (s (r afS) .ret) .skip))) .skip)) (s (r afT) .ret)))
def ON:List bj:=[.tmp 4]
theorem WS:bH Tryz.prog Tryz.f172 CO:=e (by kernel_rfl)
theorem Y7:bI Tryz.prog Tryz.f172 ON:=e (by kernel_rfl)
theorem UR:bG Tryz.prog 172:=e (by kernel_rfl)
def afU:=[b 3 1,o 4 (.mv bB)]
def afV:=[m 5 0,o 6 (.nilC (.t 5)),f 7 0 0 6,l 8 7,f 9 4 5 3,l 10 9,o 11 (.lk (.i .i64) (.nilp) false (.t 8) (.t 10)),o 12 (.ptrE true (.t 11) (.c (.nilp)))]
def aaz:=some [[],[0],[1],[2],[],[4],[3,5],[6]]
def afW:=[o 4 (.mv bB)]
def afX:=[m 13 0,o 14 (.nilC (.t 13)),f 15 0 0 14,l 16 15,f 17 4 5 3,l 18 17,f 19 4 5 3,l 20 19,f 21 6 7 3,l 22 21,f 23 5 6 3,l 24 23,f 25 7 8 3,l 26 25,f 27 7 8 3,l 28 27,f 29 2 3 3,l 30 29,o 31 (.bld [.int .i64 0,.int .i64 0,.int .i64 0,.int .i64 0,.int .i64 0,.int .i64 0,.int .i64 0,.bool false,.nils 6] [(0,(.t 20)),(1,(.t 22)),(2,(.t 24)),(3,(.t 26)),(4,(.t 28)),(5,(.t 30)),(6,(.c (.int .i64 (-1))))]),o 32 (.bld [.agg [.int .i64 0,.int .i64 0,.int .i64 0,.int .i64 0,.int .i64 0,.int .i64 0,.int .i64 0,.bool false,.nils 6]] [(0,(.t 31))]),b 33 32,p (.ir (.i .i64) (.t 16) (.t 18) (.t 33))]
def aaA:=some [[],[0],[1],[2],[],[4],[],[6],[],[8],[],[10],[],[12],[],[14],[],[16],[7,9,11,13,15,17],[18],[19],[3,5,20,0,1,2,3,4,5,6,7,8,9,10,11,12,13,14,15,16,17,18,19,20]]
def afY:=[o 4 (.mv T)]
def CP:aR:=(s (r afU) (s (s (.bX aaz afV) (.cond (.t 12) (s (r afW) .ret) .skip)) (s (.bX aaA afX) (s (r afY) .ret))))
def OO:List bj:=[.tmp 4]
theorem WT:bH Tryz.prog Tryz.f173 CP:=e (by kernel_rfl)
theorem Y8:bI Tryz.prog Tryz.f173 OO:=e (by kernel_rfl)
theorem US:bG Tryz.prog 173:=e (by kernel_rfl)
def afZ:=[b 3 1,o 4 (.mv bB)]
def af0:=[m 6 0,o 7 (.nilC (.t 6)),f 8 0 0 7,l 9 8,f 10 4 5 3,l 11 10,o 12 (.lk (.i .i64) (.nilp) false (.t 9) (.t 11)),m 5 12]
def aaB:=some [[],[0],[1],[2],[],[4],[3,5],[6,0,1,2,3,4,5,6]]
def af1:=[m 13 5,o 14 (.ptrE false (.t 13) (.c (.nilp))),m 15 14,gW 16 5 15,on 17 (.call 90 [.t 16]) 15,or 18 15 17,m 19 18,gW 20 5 19,on 21 (.nilC (.t 20)) 19,fn 22 0 0 21 19,fn 23 3 3 22 19,fY 24 23 19,on 25 (.bin .eql (.t 24) (aj 0)) 19,or 26 19 25,m 27 26,gW 28 5 27,on 29 (.nilC (.t 28)) 27,fn 30 0 0 29 27,fn 31 3 3 30 27,fY 32 31 27,fn 33 7 8 3 27,fY 34 33 27,on 35 (.bin .eql (.t 32) (.t 34)) 27,or 36 27 35]
def aaC:=some [[],[0],[1],[2],[3,2,2],[2,4],[5,4],[6],[7,6],[8,6],[9,6],[10,6],[11,6],[6,12],[13,6],[14],[15,14],[16,14],[17,14],[18,14],[14],[20,14],[19,21,14],[14,22]]
def af2:=[o 4 (.mv bB)]
def af3:=[m 37 5,f 38 7 8 3,l 39 38,o 40 (.nilC (.t 37)),f 41 0 0 40,f 42 3 3 41,p (.bu none (.t 42) (.t 39))]
def af4:=[o 4 (.mv T)]
def CQ:aR:=(s (r afZ) (s (.bX aaB af0) (s (s (.bX aaC af1) (.cond (.t 36) (s (r af2) .ret) .skip)) (s (r af3) (s (r af4) .ret)))))
def OP:List bj:=[.tmp 4]
theorem WU:bH Tryz.prog Tryz.f174 CQ:=e (by kernel_rfl)
theorem Y9:bI Tryz.prog Tryz.f174 OP:=e (by kernel_rfl)
theorem UT:bG Tryz.prog 174:=e (by kernel_rfl)
def af5:=[b 3 1,o 4 (.mv bB)]
def af6:=[m 6 0,o 7 (.nilC (.t 6)),f 8 0 0 7,l 9 8,f 10 4 5 3,l 11 10,o 12 (.lk (.i .i64) (.nilp) false (.t 9) (.t 11)),m 5 12]
def aaD:=some [[],[0],[1],[2],[],[4],[3,5],[6,0,1,2,3,4,5,6]]
def af7:=[m 13 5,o 14 (.ptrE false (.t 13) (.c (.nilp)))]
def af8:=[o 4 (.mv bB)]
def xX:=[m 15 5,m 16 5,o 17 (.nilC (.t 16)),f 18 0 0 17,f 19 8 8 18,l 20 19,f 21 8 9 3,ay 22 6 21,o 23 (.bs 66 6 [.t 22]),o 24 (.dH 66 6 48 (.agg [.int .i64 0,.int .i64 0,.int .i64 0,.int .i64 0,.int .i64 0,.int .i64 0]) (.t 20) (.t 23)),o 25 (.nilC (.t 15)),f 26 0 0 25,f 27 8 8 26,p (.bu none (.t 27) (.t 24))]
def aaE:=some [[],[],[1],[2],[3],[4],[],[6],[7],[5,8],[0,0,1,2,3,4,5,6,7,8,9],[10,0,1,2,3,4,5,6,7,8,9],[11,0,1,2,3,4,5,6,7,8,9],[12,9,9,0,1,2,3,4,5,6,7,8,9]] -- DRAW BAD
def af9:=[o 4 (.mv T)]
def CR:aR:=(s (r af5) (s (.bX aaD af6) (s (s (r af7) (.cond (.t 14) (s (r af8) .ret) .skip)) (s (.bX aaE xX) (s (r af9) .ret)))))
def OQ:List bj:=[.tmp 4]
theorem WV:bH Tryz.prog Tryz.f175 CR:=e (by kernel_rfl)
theorem Za:bI Tryz.prog Tryz.f175 OQ:=e (by kernel_rfl)
theorem UU:bG Tryz.prog 175:=e (by kernel_rfl)
def aga:=[b 3 1,o 4 (.mv bB)]
def agb:=[m 6 0,o 7 (.nilC (.t 6)),f 8 0 0 7,l 9 8,f 10 4 5 3,l 11 10,o 12 (.lk (.i .i64) (.nilp) false (.t 9) (.t 11)),m 5 12]
def aaF:=some [[],[0],[1],[2],[],[4],[3,5],[6,0,1,2,3,4,5,6]]
def agc:=[m 13 5,o 14 (.ptrE false (.t 13) (.c (.nilp)))]
def agd:=[o 4 (.mv bB)]
def age:=[m 15 5,m 16 5,f 17 7 8 3,l 18 17,o 19 (.nilC (.t 15)),f 20 0 0 19,f 21 3 3 20,p (.bu none (.t 21) (.t 18)),o 22 (.nilC (.t 16)),f 23 0 0 22,f 24 7 7 23,p (.bu none (.t 24) T)]
def agf:=[o 4 (.mv T)]
def CS:aR:=(s (r aga) (s (.bX aaF agb) (s (s (r agc) (.cond (.t 14) (s (r agd) .ret) .skip)) (s (r age) (s (r agf) .ret)))))
def OR:List bj:=[.tmp 4]
theorem WW:bH Tryz.prog Tryz.f176 CS:=e (by kernel_rfl)
theorem Zb:bI Tryz.prog Tryz.f176 OR:=e (by kernel_rfl)
theorem UW:bG Tryz.prog 176:=e (by kernel_rfl)
def agh:=[b 3 1,o 4 (.mv bB)]
def agi:=[m 6 0,o 7 (.nilC (.t 6)),f 8 0 0 7,l 9 8,f 10 4 5 3,l 11 10,o 12 (.lk (.i .i64) (.nilp) false (.t 9) (.t 11)),m 5 12]
def aaG:=some [[],[0],[1],[2],[],[4],[3,5],[6,0,1,2,3,4,5,6]]
def agj:=[m 13 5,o 14 (.ptrE false (.t 13) (.c (.nilp))),m 15 14,gW 16 5 15,on 17 (.call 90 [.t 16]) 15,or 18 15 17]
def agk:=[o 4 (.mv bB)]
def agl:=[m 19 5,f 20 2 3 3,l 21 20,o 22 (.nilC (.t 19)),f 23 0 0 22,f 24 6 6 23,p (.bu none (.t 24) (.t 21))]
def agm:=[o 4 (.mv T)]
def CT:aR:=(s (r agh) (s (.bX aaG agi) (s (s (r agj) (.cond (.t 18) (s (r agk) .ret) .skip)) (s (r agl) (s (r agm) .ret)))))
def OS:List bj:=[.tmp 4]
theorem WX:bH Tryz.prog Tryz.f177 CT:=e (by kernel_rfl)
theorem Zc:bI Tryz.prog Tryz.f177 OS:=e (by kernel_rfl)
theorem UX:bG Tryz.prog 177:=e (by kernel_rfl)
def Iv:=[l 4 1,o 5 (.len (.t 4)),o 6 (.bin .sub (.t 5) (aj 1)),m 3 6]
def Iw:=[m 7 3,o 8 (.bin .geq (.t 7) (aj 0))]
def Iy:=[m 11 0,m 12 3,l 13 1,m 14 3,o 15 (.is 17 (.t 13) (.t 14)),ay 16 17 15,o 17 (.eM (.t 11) [.t 12,.t 16]),no 18 17]
def Iz:=[m 9 3,o 10 (.bin .sub (.t 9) (aj 1)),m 3 10]
def CU:aR:=(s (r Iv) (.block 0 (.loop (s (s (r Iw) (.cond (.t 8) .skip (.exit 0))) (s (.block 1 (s (r Iy) (.cond (.t 18) .ret .skip))) (r Iz))))))
def OT:List bj:=[]
theorem WY:bH Tryz.prog Tryz.f178 CU:=e (by kernel_rfl)
theorem Zd:bI Tryz.prog Tryz.f178 OT:=e (by kernel_rfl)
theorem D4:bG Tryz.prog 178:=e (by kernel_rfl)
def agA:=[o 4 (.mv (.c (.nils 1)))]
def agB:=[m 5 1,o 6 (.bin .lss (.t 5) (aj 0))]
def agC:=[m 8 1,m 9 0,o 10 (.cap (.t 9)),m 11 0,o 12 (.len (.t 11)),o 13 (.bin .sub (.t 10) (.t 12)),o 14 (.bin .sub (.t 8) (.t 13)),m 1 14]
def agD:=[m 15 1,o 16 (.bin .gtr (.t 15) (aj 0))]
def agE:=[m 17 0,m 18 0,o 19 (.cap (.t 18)),o 20 (.sl 1 (.t 17) none (some (.t 19)) none),m 21 1,o 22 (.kO 3 1 8 (.int .i64 0) (.t 20) (.t 21)),m 23 0,o 24 (.len (.t 23)),o 25 (.sl 1 (.t 22) none (some (.t 24)) none),m 0 25]
def agF:=[m 26 0,m 4 26]
def CW:aR:=(s (r agA) (s (s (r agB) (.cond (.t 6) .l6 .skip)) (s (s (r agC) (s (r agD) (.cond (.t 16) (r agE) .skip))) (s (r agF) .ret))))
def OV:List bj:=[.tmp 4]
theorem W2:bH Tryz.prog Tryz.f190 CW:=e (by kernel_rfl)
theorem Zf:bI Tryz.prog Tryz.f190 OV:=e (by kernel_rfl)
theorem D5:bG Tryz.prog 190:=e (by kernel_rfl)
def IA:=[b 1 0,o 2 (.mv bB)]
def IB:=[o 3 (.va 6 1 (.t 1)),o 4 (.call 125 [.t 3,(.c (.func 211 []))]),no 5 4,m 2 5]
def CX:aR:=(s (r IA) (s (r IB) .ret))
def OW:List bj:=[.tmp 2]
theorem W3:bH Tryz.prog Tryz.f193 CX:=e (by kernel_rfl)
theorem Zg:bI Tryz.prog Tryz.f193 OW:=e (by kernel_rfl)
theorem UZ:bG Tryz.prog 193:=e (by kernel_rfl)
def IC:=[o 2 (.mv bB)]
def ID:=[m 3 0,m 4 0,o 5 (.bin .neq (.t 3) (.t 4)),m 2 5]
def CY:aR:=(s (r IC) (s (r ID) .ret))
def OX:List bj:=[.tmp 2]
theorem W4:bH Tryz.prog Tryz.f194 CY:=e (by kernel_rfl)
theorem Zh:bI Tryz.prog Tryz.f194 OX:=e (by kernel_rfl)
theorem U0:bG Tryz.prog 194:=e (by kernel_rfl)
def IE:=[bh 4 0]
def IF:=[m 6 0,o 7 (.len (.t 6)),bh 8 0]
def IG:=[lt 9 8 7]
def IH:=[m 10 8,m 5 10]
def II:=[m 11 1,m 12 0,m 13 5,o 14 (.is 7 (.t 12) (.t 13)),ay 15 7 14,o 16 (.eM (.t 11) [.t 15])]
def IJ:=[m 17 5,m 4 17]
def IK:=[ad 18 8 1,m 8 18]
def IL:=[bh 4 (-1)]
def CZ:aR:=(s (r IE) (s (s (r IF) (.block 0 (.loop (s (r IG) (s (.cond (.t 9) .skip (.exit 0)) (s (.block 1 (s (r IH) (s (r II) (.cond (.t 16) (s (r IJ) .ret) .skip)))) (r IK))))))) (s (r IL) .ret)))
def OY:List bj:=[.tmp 4]
theorem W5:bH Tryz.prog Tryz.f195 CZ:=e (by kernel_rfl)
theorem Zi:bI Tryz.prog Tryz.f195 OY:=e (by kernel_rfl)
theorem U1:bG Tryz.prog 195:=e (by kernel_rfl)
def IM:=[o 4 (.mv bB)]
def IN:=[m 5 0,m 6 1,o 7 (.bin .and (.t 5) (.t 6)),o 8 (.bin .neq (.t 7) (aj 0)),m 4 8]
def C0:aR:=(s (r IM) (s (r IN) .ret))
def OZ:List bj:=[.tmp 4]
theorem W6:bH Tryz.prog Tryz.f196 C0:=e (by kernel_rfl)
theorem Zj:bI Tryz.prog Tryz.f196 OZ:=e (by kernel_rfl)
theorem U2:bG Tryz.prog 196:=e (by kernel_rfl)
def IP:=[bh 2 0]
def IQ:=[bh 3 0]
def IS:=[bh 5 0]
def IT:=[o 6 (.bin .lss (.t 5) (aj 6))]
def IU:=[m 7 5,m 4 7]
def IV:=[m 8 0,m 9 4,o 10 (.eM (.t 8) [.t 9]),no 11 10]
def IW:=[m 12 3,ad 13 12 1,m 3 13]
def xY:=[ad 14 5 1,m 5 14]
def IX:=[m 15 3,m 2 15]
def C1:aR:=(s (r IP) (s (r IQ) (s (s (r IS) (.block 0 (.loop (s (r IT) (s (.cond (.t 6) .skip (.exit 0)) (s (.block 1 (s (r IU) (s (r IV) (.cond (.t 11) (r IW) .skip)))) (r xY))))))) (s (r IX) .ret))))
def O0:List bj:=[.tmp 2]
theorem W7:bH Tryz.prog Tryz.f197 C1:=e (by kernel_rfl)
theorem Zk:bI Tryz.prog Tryz.f197 O0:=e (by kernel_rfl)
theorem U3:bG Tryz.prog 197:=e (by kernel_rfl)
def IY:=[o 6 (.mv bB)]
def IZ:=[l 7 1,ay 8 5 2,ay 9 6 3,m 10 0,o 11 (.call 199 [.t 8,.t 9,.t 10]),ay 12 5 2,ay 13 6 4,m 14 0,o 15 (.call 199 [.t 12,.t 13,.t 14]),o 16 (.eM (.t 7) [.t 11,.t 15]),m 6 16]
def aaI:=some [[],[],[],[],[1,2,3],[],[],[],[5,6,7,4],[0,4,8,8],[9,9,0,1,2,3,4,5,6,7,8,9]]
def C2:aR:=(s (r IY) (s (.bX aaI IZ) .ret))
def O1:List bj:=[.tmp 6]
theorem W8:bH Tryz.prog Tryz.f198 C2:=e (by kernel_rfl)
theorem Zl:bI Tryz.prog Tryz.f198 O1:=e (by kernel_rfl)
theorem U4:bG Tryz.prog 198:=e (by kernel_rfl)
def I0:=[b 3 0,b 4 1,bh 6 0]
def I1:=[m 7 2,o 8 (.ia 6 1 (.t 4) (.t 7)),l 9 8,o 10 (.ia 5 1 (.t 3) (.t 9)),l 11 10,m 6 11]
def C3:aR:=(s (r I0) (s (r I1) .ret))
def O2:List bj:=[.tmp 6]
theorem W9:bH Tryz.prog Tryz.f199 C3:=e (by kernel_rfl)
theorem Zm:bI Tryz.prog Tryz.f199 O2:=e (by kernel_rfl)
theorem U5:bG Tryz.prog 199:=e (by kernel_rfl)
def xZ:=[o 4 (.mv (.c (.nils 7)))]
def x4:=[m 8 0,m 9 1,o 10 (.call 195 [.t 8,.t 9]),m 5 10]
def tV:=[m 11 5,o 12 (.bin .eql (.t 11) (.c (.int .i64 (-1))))]
def x6:=[m 13 0,m 4 13]
def I4:=[m 14 5,ad 15 14 1,m 6 15]
def I5:=[m 16 6,m 17 0,o 18 (.len (.t 17)),lt 19 16 18]
def I6:=[m 22 0,m 23 6,o 24 (.is 7 (.t 22) (.t 23)),ay 25 7 24,o 7 (.alloc (.agg [.int .i64 0,.agg [.int .i64 0,.int .i64 0,.int .i64 0,.int .i64 0,.int .i64 0,.int .i64 0]])),p (.bu (some 7) (.t 7) (.t 25))]
def I7:=[m 26 1,ay 27 7 7,o 28 (.eM (.t 26) [.t 27]),no 29 28]
def I8:=[m 30 0,m 31 5,ay 32 7 7,o 33 (.is 7 (.t 30) (.t 31)),p (.bu (some 7) (.t 33) (.t 32))]
def I9:=[m 34 5,ad 35 34 1,m 5 35]
def x5:=[m 20 6,ad 21 20 1,m 6 21]
def I2:=[m 36 0,m 37 5,o 38 (.sl 7 (.t 36) (some (.t 37)) none none),p (.jb 7 (.agg [.int .i64 0,.agg [.int .i64 0,.int .i64 0,.int .i64 0,.int .i64 0,.int .i64 0,.int .i64 0]]) (.t 38))]
def I3:=[m 39 0,m 40 5,o 41 (.sl 7 (.t 39) none (some (.t 40)) none),m 4 41]
def wy:aR:=(s (r xZ) (s (r x4) (s (s (r tV) (.cond (.t 12) (s (r x6) .ret) .skip)) (s (s (r I4) (.block 0 (.loop (s (s (r I5) (.cond (.t 19) .skip (.exit 0))) (s (.block 1 (s (r I6) (s (r I7) (.cond (.t 29) (s (r I8) (r I9)) .skip)))) (r x5)))))) (s (r I2) (s (r I3) .ret))))))
def zW:List bj:=[.tmp 4]
theorem Eg:bH Tryz.prog Tryz.f200 wy:=e (by kernel_rfl)
theorem EB:bI Tryz.prog Tryz.f200 zW:=e (by kernel_rfl)
theorem D6:bG Tryz.prog 200:=e (by kernel_rfl)
def Ja:=[b 3 0,o 4 (.mv bB)]
def Jb:=[f 5 0 0 1,ay 6 5 5,f 7 1 1 3,ay 8 6 7,ay 9 6 2,o 10 (.call 202 [.t 6,.t 8,.t 9]),f 11 1 5 1,l 12 11,o 13 (.bin .gtr (.t 10) (.t 12)),m 4 13]
def aaJ:=some [[],[0],[],[2],[],[1,3,4],[],[6],[5,7],[8,5,0,1,2,3,4,5,6,7,8]]
def C5:aR:=(s (r Ja) (s (.bX aaJ Jb) .ret))
def O4:List bj:=[.tmp 4]
theorem Xb:bH Tryz.prog Tryz.f201 C5:=e (by kernel_rfl)
theorem Zo:bI Tryz.prog Tryz.f201 O4:=e (by kernel_rfl)
theorem U7:bG Tryz.prog 201:=e (by kernel_rfl)
def Jc:=[b 3 0,b 4 1,b 5 2,bh 6 0]
def Jd:=[o 7 (.alloc (.dz)),p (.bu none (.t 7) (.c (.func 196 [])))]
def Je:=[o 8 (.mk 212 [.t 7,.t 3,.t 4,.t 5]),o 9 (.call 197 [.t 8]),m 6 9]
def C6:aR:=(s (r Jc) (s (r Jd) (s (r Je) .ret)))
def O5:List bj:=[.tmp 6]
theorem Xc:bH Tryz.prog Tryz.f202 C6:=e (by kernel_rfl)
theorem Zp:bI Tryz.prog Tryz.f202 O5:=e (by kernel_rfl)
theorem U8:bG Tryz.prog 202:=e (by kernel_rfl)
def x7:=[m 10 1,ad 11 10 1,m 8 11]
def Jf:=[m 12 8,m 13 2,lt 14 12 13]
def Jg:=[m 17 8,m 9 17]
def agG:=[m 18 9,m 19 1,o 20 (.bin .gtr (.t 18) (.t 19)),m 21 20,di 22 3 21,di 23 0 21,di 24 9 21,bW 25 (.is 1 (.t 23) (.t 24)) 21,e9 26 25 21,di 27 0 21,di 28 9 21,bW 29 (.bin .sub (.t 28) (aj 1)) 21,bW 30 (.is 1 (.t 27) (.t 29)) 21,e9 31 30 21,bW 32 (.eM (.t 22) [.t 26,.t 31]) 21,bW 33 (.bin .lss (.t 32) (aj 0)) 21,and 34 21 33]
def aaK:=some [[],[],[0,1],[2],[3],[3],[3],[5,6,3],[7,3],[3],[3],[10,3],[9,11,3],[12,3],[4,8,13,3,3],[14,3],[3,15]]
def agH:=[m 37 0,m 38 9,m 39 0,m 40 9,o 41 (.bin .sub (.t 40) (aj 1)),m 42 0,m 43 9,o 44 (.bin .sub (.t 43) (aj 1)),o 45 (.is 1 (.t 42) (.t 44)),l 46 45,m 47 0,m 48 9,o 49 (.is 1 (.t 47) (.t 48)),l 50 49,o 51 (.is 1 (.t 37) (.t 38)),p (.bu none (.t 51) (.t 46)),o 52 (.is 1 (.t 39) (.t 41)),p (.bu none (.t 52) (.t 50))]
def aaL:=some [[],[],[],[],[3],[],[],[6],[5,7],[8],[],[],[10,11],[12],[0,1,0,1,5,6,7,8,9,13],[14,9,0,1,5,6,7,8,9,13],[2,4,0,1,2,3,4,5,6,7,8,9,10,11,12,13,14,15],[16,13,15,0,1,2,3,4,5,6,7,8,9,10,11,12,13,14,15]]
def agI:=[m 35 9,o 36 (.bin .sub (.t 35) (aj 1)),m 9 36]
def agJ:=[m 15 8,ad 16 15 1,m 8 16]
def wz:aR:=(s (r x7) (.block 0 (.loop (s (s (r Jf) (.cond (.t 14) .skip (.exit 0))) (s (.block 1 (s (r Jg) (.block 2 (.loop (s (s (.bX aaK agG) (.cond (.t 34) .skip (.exit 2))) (s (.block 3 (.bX aaL agH)) (r agI))))))) (r agJ))))))
def zX:List bj:=[]
theorem Ei:bH Tryz.prog Tryz.f203 wz:=e (by kernel_rfl)
theorem EC:bI Tryz.prog Tryz.f203 zX:=e (by kernel_rfl)
theorem D7:bG Tryz.prog 203:=e (by kernel_rfl)
def tW:=[m 25 2,m 26 1,o 27 (.bin .sub (.t 25) (.t 26)),o 28 (.bin .eql (.t 27) (aj 1))]
def Jh:=[m 29 2,m 10 29]
def Jl:=[m 30 3,m 11 30]
def Jq:=[m 31 10,m 32 11,lt 33 31 32]
def ag3:=[m 34 10,m 35 11,o 36 (.bin .add (.t 34) (.t 35)),o 37 (.conv .u64 (.t 36)),o 38 (.bin .shr (.t 37) (.c (.int .u64 1))),o 39 (.conv .i64 (.t 38)),m 12 39]
def ag9:=[m 40 4,m 41 0,m 42 12,o 43 (.is 1 (.t 41) (.t 42)),l 44 43,m 45 0,m 46 1,o 47 (.is 1 (.t 45) (.t 46)),l 48 47,o 49 (.eM (.t 40) [.t 44,.t 48]),o 50 (.bin .lss (.t 49) (aj 0))]
def aaQ:=some [[],[],[],[1,2],[3],[],[],[5,6],[7],[0,4,8],[9]]
def aha:=[m 51 12,ad 52 51 1,m 10 52]
def ahb:=[m 53 12,m 11 53]
def Ju:=[m 54 1,m 13 54]
def ahc:=[m 55 13,m 56 10,o 57 (.bin .sub (.t 56) (aj 1)),lt 58 55 57]
def agK:=[m 61 0,m 62 13,m 63 0,m 64 13,ad 65 64 1,m 66 0,m 67 13,ad 68 67 1,o 69 (.is 1 (.t 66) (.t 68)),l 70 69,m 71 0,m 72 13,o 73 (.is 1 (.t 71) (.t 72)),l 74 73,o 75 (.is 1 (.t 61) (.t 62)),p (.bu none (.t 75) (.t 70)),o 76 (.is 1 (.t 63) (.t 65)),p (.bu none (.t 76) (.t 74))]
def aaM:=some [[],[],[],[],[3],[],[],[6],[5,7],[8],[],[],[10,11],[12],[0,1,0,1,5,6,7,8,9,13],[14,9,0,1,5,6,7,8,9,13],[2,4,0,1,2,3,4,5,6,7,8,9,10,11,12,13,14,15],[16,13,15,0,1,2,3,4,5,6,7,8,9,10,11,12,13,14,15]]
def agL:=[m 59 13,ad 60 59 1,m 13 60]
def x8:=[m 77 3,m 78 2,o 79 (.bin .sub (.t 77) (.t 78)),o 80 (.bin .eql (.t 79) (aj 1))]
def Ji:=[m 81 1,m 14 81]
def Jj:=[m 82 2,m 15 82]
def Jk:=[m 83 14,m 84 15,lt 85 83 84]
def agM:=[m 86 14,m 87 15,o 88 (.bin .add (.t 86) (.t 87)),o 89 (.conv .u64 (.t 88)),o 90 (.bin .shr (.t 89) (.c (.int .u64 1))),o 91 (.conv .i64 (.t 90)),m 16 91]
def agN:=[m 92 4,m 93 0,m 94 2,o 95 (.is 1 (.t 93) (.t 94)),l 96 95,m 97 0,m 98 16,o 99 (.is 1 (.t 97) (.t 98)),l 100 99,o 101 (.eM (.t 92) [.t 96,.t 100]),o 102 (.bin .lss (.t 101) (aj 0)),no 103 102]
def aaN:=some [[],[],[],[1,2],[3],[],[],[5,6],[7],[0,4,8],[9],[10]]
def agO:=[m 104 16,ad 105 104 1,m 14 105]
def agP:=[m 106 16,m 15 106]
def Jm:=[m 107 2,m 17 107]
def agQ:=[m 108 17,m 109 14,o 110 (.bin .gtr (.t 108) (.t 109))]
def agR:=[m 113 0,m 114 17,m 115 0,m 116 17,o 117 (.bin .sub (.t 116) (aj 1)),m 118 0,m 119 17,o 120 (.bin .sub (.t 119) (aj 1)),o 121 (.is 1 (.t 118) (.t 120)),l 122 121,m 123 0,m 124 17,o 125 (.is 1 (.t 123) (.t 124)),l 126 125,o 127 (.is 1 (.t 113) (.t 114)),p (.bu none (.t 127) (.t 122)),o 128 (.is 1 (.t 115) (.t 117)),p (.bu none (.t 128) (.t 126))]
def aaO:=some [[],[],[],[],[3],[],[],[6],[5,7],[8],[],[],[10,11],[12],[0,1,0,1,5,6,7,8,9,13],[14,9,0,1,5,6,7,8,9,13],[2,4,0,1,2,3,4,5,6,7,8,9,10,11,12,13,14,15],[16,13,15,0,1,2,3,4,5,6,7,8,9,10,11,12,13,14,15]]
def agS:=[m 111 17,o 112 (.bin .sub (.t 111) (aj 1)),m 17 112]
def Jn:=[m 129 1,m 130 3,o 131 (.bin .add (.t 129) (.t 130)),o 132 (.conv .u64 (.t 131)),o 133 (.bin .shr (.t 132) (.c (.int .u64 1))),o 134 (.conv .i64 (.t 133)),m 18 134]
def Jo:=[m 135 18,m 136 2,o 137 (.bin .add (.t 135) (.t 136)),m 19 137]
def Jp:=[bh 20 0,bh 21 0]
def agT:=[m 138 2,m 139 18,o 140 (.bin .gtr (.t 138) (.t 139))]
def agU:=[m 141 19,m 142 3,o 143 (.bin .sub (.t 141) (.t 142)),m 20 143]
def agV:=[m 144 18,m 21 144]
def agW:=[m 145 1,m 20 145]
def agX:=[m 146 2,m 21 146]
def Jr:=[m 147 19,o 148 (.bin .sub (.t 147) (aj 1)),m 22 148]
def Js:=[m 149 20,m 150 21,lt 151 149 150]
def agY:=[m 152 20,m 153 21,o 154 (.bin .add (.t 152) (.t 153)),o 155 (.conv .u64 (.t 154)),o 156 (.bin .shr (.t 155) (.c (.int .u64 1))),o 157 (.conv .i64 (.t 156)),m 23 157]
def agZ:=[m 158 4,m 159 0,m 160 22,m 161 23,o 162 (.bin .sub (.t 160) (.t 161)),o 163 (.is 1 (.t 159) (.t 162)),l 164 163,m 165 0,m 166 23,o 167 (.is 1 (.t 165) (.t 166)),l 168 167,o 169 (.eM (.t 158) [.t 164,.t 168]),o 170 (.bin .lss (.t 169) (aj 0)),no 171 170]
def aaP:=some [[],[],[],[],[2,3],[1,4],[5],[],[],[7,8],[9],[0,6,10],[11],[12]]
def ag0:=[m 172 23,ad 173 172 1,m 20 173]
def ag1:=[m 174 23,m 21 174]
def Jt:=[m 175 19,m 176 20,o 177 (.bin .sub (.t 175) (.t 176)),m 24 177]
def ag2:=[m 178 20,m 179 2,lt 180 178 179,m 181 180,di 182 2 181,di 183 24 181,bW 184 (.bin .lss (.t 182) (.t 183)) 181,and 185 181 184]
def ag4:=[m 186 0,m 187 20,m 188 2,m 189 24,m 190 4,o 191 (.call 213 [.t 186,.t 187,.t 188,.t 189,.t 190])]
def ag5:=[m 192 1,m 193 20,lt 194 192 193,m 195 194,di 196 20 195,di 197 18 195,bW 198 (.bin .lss (.t 196) (.t 197)) 195,and 199 195 198]
def ag6:=[m 200 0,m 201 1,m 202 20,m 203 18,m 204 4,o 205 (.call 204 [.t 200,.t 201,.t 202,.t 203,.t 204])]
def ag7:=[m 206 18,m 207 24,lt 208 206 207,m 209 208,di 210 24 209,di 211 3 209,bW 212 (.bin .lss (.t 210) (.t 211)) 209,and 213 209 212]
def ag8:=[m 214 0,m 215 18,m 216 24,m 217 3,m 218 4,o 219 (.call 204 [.t 214,.t 215,.t 216,.t 217,.t 218])]
def tt:aR:=(s (s (r tW) (.cond (.t 28) (s (r Jh) (s (r Jl) (s (.block 0 (.loop (s (s (r Jq) (.cond (.t 33) .skip (.exit 0))) (.block 1 (s (r ag3) (s (.bX aaQ ag9) (.cond (.t 50) (r aha) (r ahb)))))))) (s (s (r Ju) (.block 2 (.loop (s (s (r ahc) (.cond (.t 58) .skip (.exit 2))) (s (.block 3 (.bX aaM agK)) (r agL)))))) .ret)))) .skip)) (s (s (r x8) (.cond (.t 80) (s (r Ji) (s (r Jj) (s (.block 4 (.loop (s (s (r Jk) (.cond (.t 85) .skip (.exit 4))) (.block 5 (s (r agM) (s (.bX aaN agN) (.cond (.t 103) (r agO) (r agP)))))))) (s (s (r Jm) (.block 6 (.loop (s (s (r agQ) (.cond (.t 110) .skip (.exit 6))) (s (.block 7 (.bX aaO agR)) (r agS)))))) .ret)))) .skip)) (s (r Jn) (s (r Jo) (s (r Jp) (s (s (r agT) (.cond (.t 140) (s (r agU) (r agV)) (s (r agW) (r agX)))) (s (r Jr) (s (.block 8 (.loop (s (s (r Js) (.cond (.t 151) .skip (.exit 8))) (.block 9 (s (r agY) (s (.bX aaP agZ) (.cond (.t 171) (r ag0) (r ag1)))))))) (s (r Jt) (s (s (r ag2) (.cond (.t 185) (r ag4) .skip)) (s (s (r ag5) (.cond (.t 199) (r ag6) .skip)) (s (r ag7) (.cond (.t 213) (r ag8) .skip)))))))))))))
def u6:List bj:=[]
theorem wH:bH Tryz.prog Tryz.f204 tt:=e (by kernel_rfl)
theorem wU:bI Tryz.prog Tryz.f204 u6:=e (by kernel_rfl)
theorem wE:bG Tryz.prog 204:=e (by kernel_rfl)
def JE:=[o 2 (.mv bB)]
def JF:=[m 3 0,o 4 (.bin .eql (.t 3) (aj 0)),m 5 4,gW 6 0 5,on 7 (.call 160 [.t 6]) 5,on 8 (.un .not (.t 7)) 5,or 9 5 8,m 2 9]
def C8:aR:=(s (r JE) (s (r JF) .ret))
def O7:List bj:=[.tmp 2]
theorem Xe:bH Tryz.prog Tryz.f211 C8:=e (by kernel_rfl)
theorem Zr:bI Tryz.prog Tryz.f211 O7:=e (by kernel_rfl)
theorem Va:bG Tryz.prog 211:=e (by kernel_rfl)
def JG:=[o 6 (.mv bB)]
def JH:=[l 7 1,ay 8 5 2,ay 9 6 3,m 10 0,o 11 (.call 199 [.t 8,.t 9,.t 10]),m 12 0,o 13 (.ia 6 1 (.t 4) (.t 12)),l 14 13,o 15 (.eM (.t 7) [.t 11,.t 14]),m 6 15]
def aaS:=some [[],[],[],[],[1,2,3],[],[5],[6],[0,4,7,4],[8,8,0,1,2,3,4,5,6,7,8]]
def C9:aR:=(s (r JG) (s (.bX aaS JH) .ret))
def O8:List bj:=[.tmp 6]
theorem Xf:bH Tryz.prog Tryz.f212 C9:=e (by kernel_rfl)
theorem Zs:bI Tryz.prog Tryz.f212 O8:=e (by kernel_rfl)
theorem Vb:bG Tryz.prog 212:=e (by kernel_rfl)
def JI:=[m 12 2,m 13 1,o 14 (.bin .sub (.t 12) (.t 13)),m 10 14]
def JJ:=[m 15 3,m 16 2,o 17 (.bin .sub (.t 15) (.t 16)),m 11 17]
def JK:=[m 18 10,m 19 11,o 20 (.bin .neq (.t 18) (.t 19))]
def JL:=[m 21 10,m 22 11,o 23 (.bin .gtr (.t 21) (.t 22))]
def JM:=[m 24 0,m 25 2,m 26 10,o 27 (.bin .sub (.t 25) (.t 26)),m 28 2,m 29 11,m 30 4,o 31 (.call 216 [.t 24,.t 27,.t 28,.t 29,.t 30])]
def JN:=[m 32 10,m 33 11,o 34 (.bin .sub (.t 32) (.t 33)),m 10 34]
def JO:=[m 35 0,m 36 2,m 37 10,o 38 (.bin .sub (.t 36) (.t 37)),m 39 2,m 40 11,o 41 (.bin .add (.t 39) (.t 40)),m 42 10,o 43 (.bin .sub (.t 41) (.t 42)),m 44 10,m 45 4,o 46 (.call 216 [.t 35,.t 38,.t 43,.t 44,.t 45])]
def JP:=[m 47 11,m 48 10,o 49 (.bin .sub (.t 47) (.t 48)),m 11 49]
def JQ:=[m 50 0,m 51 2,m 52 10,o 53 (.bin .sub (.t 51) (.t 52)),m 54 2,m 55 10,m 56 4,o 57 (.call 216 [.t 50,.t 53,.t 54,.t 55,.t 56])]
def Da:aR:=(s (r JI) (s (r JJ) (s (.block 0 (.loop (s (s (r JK) (.cond (.t 20) .skip (.exit 0))) (.block 1 (s (r JL) (.cond (.t 23) (s (r JM) (r JN)) (s (r JO) (r JP)))))))) (r JQ))))
def O9:List bj:=[]
theorem Xg:bH Tryz.prog Tryz.f213 Da:=e (by kernel_rfl)
theorem Zt:bI Tryz.prog Tryz.f213 O9:=e (by kernel_rfl)
theorem Vc:bG Tryz.prog 213:=e (by kernel_rfl)
def JR:=[bh 10 0]
def ahd:=[m 11 10,m 12 3,lt 13 11 12]
def ahe:=[m 16 0,m 17 1,m 18 10,o 19 (.bin .add (.t 17) (.t 18)),m 20 0,m 21 2,m 22 10,o 23 (.bin .add (.t 21) (.t 22)),m 24 0,m 25 2,m 26 10,o 27 (.bin .add (.t 25) (.t 26)),o 28 (.is 1 (.t 24) (.t 27)),l 29 28,m 30 0,m 31 1,m 32 10,o 33 (.bin .add (.t 31) (.t 32)),o 34 (.is 1 (.t 30) (.t 33)),l 35 34,o 36 (.is 1 (.t 16) (.t 19)),p (.bu none (.t 36) (.t 29)),o 37 (.is 1 (.t 20) (.t 23)),p (.bu none (.t 37) (.t 35))]
def aaT:=some [[],[],[],[1,2],[],[],[],[5,6],[],[],[],[9,10],[8,11],[12],[],[],[],[15,16],[14,17],[18],[0,3,0,1,2,3,8,9,10,11,12,13,19],[20,13,0,1,2,3,8,9,10,11,12,13,19],[4,7,0,1,2,3,4,5,6,7,8,9,10,11,12,13,14,15,16,17,18,19,20,21],[22,19,21,0,1,2,3,4,5,6,7,8,9,10,11,12,13,14,15,16,17,18,19,20,21]]
def ahf:=[m 14 10,ad 15 14 1,m 10 15]
def Db:aR:=(s (r JR) (.block 0 (.loop (s (s (r ahd) (.cond (.t 13) .skip (.exit 0))) (s (.block 1 (.bX aaT ahe)) (r ahf))))))
def Pa:List bj:=[]
theorem Xh:bH Tryz.prog Tryz.f216 Db:=e (by kernel_rfl)
theorem Zu:bI Tryz.prog Tryz.f216 Pa:=e (by kernel_rfl)
theorem Vd:bG Tryz.prog 216:=e (by kernel_rfl)
end Go.Proofs.YtcldiigclhgafaaGreat
namespace Go.Proofs.YtcldiigclhgafaaGreat
open Go Go.Abs
open Go.Abs.Enc (enc)
theorem Bq(n lo hi:Int):aA Tryz.prog 94 [enc n,enc lo,enc hi] (enc (decide (lo≤n)&&decide (n≤hi))):=by
 refine aA.bp Tryz.func94 VQ XU Z7 (t7 rfl) (fun hwf W0 D0 E1 =>?_);simp only[DR,PO,bl,zz4,Nat.reduceAdd];refine .ar (by decide +kernel) fun K hK =>?_;simp only[Lj,ab,simprocAttr];refine .done (hK _ ?_);clear hK K;refine .ar (by decide +kernel) fun K hK =>?_;simp only[Lk,ab,simprocAttr];refine .guard (fun h =>?_) (fun h =>?_)
 ·simp only[ab,simprocAttr,h];refine .done (hK _ ?_);clear hK K;refine U.ret ?_;simp only[ab,simprocAttr]
  simp_all
 ·simp only[ab,simprocAttr,h];refine .done (hK _ ?_);clear hK K;refine U.ret ?_;simp only[ab,simprocAttr];simp at h;simp;omega
theorem aqL(l:List Int)(n:Int):aA Tryz.prog 36 [enc l,enc n] (enc (decide (n∈l))):=by
 refine aA.bp Tryz.func36 Vn Xr ZE (t7 rfl) (fun hwf W0 D0 E1 =>?_);simp only[Dm,Pl,bl,zz4];have hlen:l.length≤maxLen:=((kL l).1 hwf.1).1;simp only[maxLen] at hlen;refine .ar (by decide +kernel) fun K hK =>?_;simp only[Kj,ab,simprocAttr];refine .done (hK _ ?_);clear hK K;refine U.seq ?_;refine .ar (by decide +kernel) fun K hK =>?_;simp only[Kk,ab,simprocAttr];refine .done (hK _ ?_);clear hK K;refine U.block (U.loop (fun i:Nat=>aw [(0,enc l),(1,.int .i64 n),(4,.bool false),(5,.int .i64 i)] []) (fun i=>i≤l.length∧n∉l.take i) (fun i=>l.length-i) 0 ⟨zw3 _,by simp⟩ ?_ (fun i hi =>?_))
 ·refine aB.bE ?_ ?_ ?_ ?_ <;>simp[aQ,bt,br,aY,aS,I.only,bg]
 ·refine U.seq (U.seq ?_);refine .bx (by decide +kernel) fun K hK =>?_;simp only[Kl,ab,simprocAttr]
  try simp only[aZ,ab,simprocAttr]
  refine .done (hK _ ?_);clear hK K;try simp only[au]
  refine U.bL ?_;simp only[al,ab,simprocAttr];refine ⟨fun h =>?_,fun h =>?_⟩
  ·have hlt:i<l.length:=by simpa using h
   refine U.skip ?_;try simp only[au,simprocAttr]
   refine U.seq (U.block ?_);refine .ar (by decide +kernel) fun K hK =>?_;simp only[Km,ab,simprocAttr]
   try simp only[fm 1 hlt rfl,ab,simprocAttr]
   refine .done (hK _ ?_);clear hK K;refine U.bL ?_;simp only[al,ab,simprocAttr];refine ⟨fun h =>?_,fun h =>?_⟩
   ·refine .ar (by decide +kernel) fun K hK =>?_;simp only[Kn,ab,simprocAttr];refine .done (hK _ ?_);clear hK K;refine U.ret ?_;simp only[bP,au,ab,simprocAttr];simp at h;simp[←h]
   ·refine U.skip ?_;try simp only[au,bP,simprocAttr]
    refine .bx (by decide +kernel) fun K hK =>?_;simp only[Ko,ab,simprocAttr];refine .done (hK _ ?_);clear hK K;try simp only[au]
    refine ⟨i+1,⟨by omega,fun hm =>?_⟩,by omega,?_⟩
    ·rw[zz8 hlt] at hm;rcases zy5.1 hm with hm | hm
     ·exact hi.2 hm
     ·simp at h hm;exact h hm.symm
    ·rw[cG _ (by omega) (by omega)];refine aB.bE ?_ ?_ ?_ ?_ <;>simp[aQ,bt,br,aY,aS,I.only,bg]
  ·have hge:i=l.length:=by simp at h;omega
   refine U.exit ?_;try simp only[au,bP,simprocAttr]
   refine .ar (by decide +kernel) fun K hK =>?_;simp only[Kp,ab,simprocAttr];refine .done (hK _ ?_);clear hK K;refine U.ret ?_;simp only[ab,simprocAttr];simp[hge] at hi;simp[hi]
theorem AG(n d:Int)(h0:0<d)(h1:d≤4611686018427387904):IntKind.i64.wrap (n.tmod d+d)=n.tmod d+d∧(n.tmod d+d).tmod d=n%d:=by
 have a1:n.tmod d<d:=Int.tmod_lt_of_pos n h0;have a2:-d<n.tmod d:=by
  have:=Int.tmod_lt_of_pos (-n) h0;rw[Int.neg_tmod] at this;omega
 refine ⟨cG _ (by omega) (by omega),?_⟩;rw[Int.tmod_eq_emod_of_nonneg (by omega),Int.add_emod_right];rw[Int.tmod_def,Int.sub_mul_emod_self_left]
theorem gQ(n d:Int)(h0:0<d)(h1:d≤4611686018427387904):aA Tryz.prog 25 [enc n,enc d] (enc (n%d)):=by
 refine aA.bp Tryz.func25 Vh Xl Zy (t7 rfl) (fun hwf W0 D0 E1 =>?_);simp only[Df,Pe,bl,zz4];have hd:¬ d=0:=by omega
 refine .ar (by decide +kernel) fun K hK =>?_;simp only[J1,ab,simprocAttr];refine .done (hK _ ?_);clear hK K;refine .ar (by decide +kernel) fun K hK =>?_;simp only[J2,ab,simprocAttr]
 try simp only[hd,ab,simprocAttr]
 refine .done (hK _ ?_);clear hK K;refine U.ret ?_;simp only[ab,simprocAttr];rw[(AG n d h0 h1).1,(AG n d h0 h1).2]
def bd(c:List Int)(i:Int):Int:=if c=[] then 0 else c.getD (i%c.length).toNat 0
theorem m0(c:List Int)(i:Int)(hc:c.length≤4611686018427387904):aA Tryz.prog 34 [enc c,enc i] (enc (bd c i)):=by
 refine aA.bp Tryz.func34 Vl Xp ZC (t7 rfl) (fun hwf W0 D0 E1 =>?_);simp only[Dk,Pj,bl,zz4];refine .ar (by decide +kernel) fun K hK =>?_;simp only[J3,ab,simprocAttr];refine .done (hK _ ?_);clear hK K;refine U.seq (U.seq ?_);refine .bx (by decide +kernel) fun K hK =>?_;simp only[J4,ab,simprocAttr]
 try simp only[aZ,ab,simprocAttr]
 refine .done (hK _ ?_);clear hK K;try simp only[au]
 refine U.bL ?_;simp only[al,ab,simprocAttr];refine ⟨fun h =>?_,fun h =>?_⟩
 ·refine .ar (by decide +kernel) fun K hK =>?_;simp only[J5,ab,simprocAttr];refine .done (hK _ ?_);clear hK K;refine U.ret ?_;simp only[au,ab,simprocAttr];simp at h;simp[bd,h]
 ·simp at h;have hpos:0<c.length:=List.length_pos_iff.2 h;have k1:0≤i%(c.length:Int):=zv1 _ (by omega);have k2:i%(c.length:Int)<c.length:=zv7 _ (by omega);have k3:(i%(c.length:Int)).toNat<c.length:=by omega
  refine U.skip ?_;try simp only[au,simprocAttr]
  refine .ar (by decide +kernel) fun K hK =>?_;simp only[J6,ab,simprocAttr]
  try simp only[aZ,zy2,zx1,ab,simprocAttr]
  refine .flat _ (gQ i c.length (by omega) (by omega)) rfl ?_
  try simp only[ab,simprocAttr]
  try simp only[L6 1 ⟨k1,k3⟩ rfl,ab,simprocAttr]
  refine .done (hK _ ?_);clear hK K;refine U.ret ?_;simp only[ab,simprocAttr];simp[bd,h,zz0,k3]
def b7(lo hi n:Int):Bool:=decide (lo≤n)&&decide (n≤hi)
def oZ(a b:Int):Int:=IntKind.i64.wrap ((BitVec.ofInt IntKind.i64.bits a &&& BitVec.ofInt IntKind.i64.bits b).toNat:Int)
def shl(a:Int)(k:Nat):Int:=IntKind.i64.wrap (a*2^min k IntKind.i64.bits)
theorem Rf(m:aX 6 Int):aA Tryz.prog 100 [enc m] (enc (if (List.range 6).all (fun i=>b7 0 4 (m.g i)) then (0:Int) else 10)):=by
 refine aA.bp Tryz.func100 TY VY Yf (t7 rfl) (fun hwf W0 D0 E1 =>?_);simp only[BU,NR,bl];refine .ar (by decide +kernel) fun K hK =>?_;simp only[FD,ab,simprocAttr];refine .done (hK _ ?_);clear hK K;refine U.seq ?_;refine .ar (by decide +kernel) fun K hK =>?_;simp only[FE,ab,simprocAttr];refine .done (hK _ ?_);clear hK K;refine U.block (U.loop (fun i:Nat=>aw [(1,.ptr 1 []),(2,.int .i64 0),(3,.int .i64 i)] [(1,.box (enc m))]) (fun j=>j≤6∧∀ i,i<j→b7 0 4 (m.g i)=true) (fun i=>6-i) 0 ⟨by omega,fun k h=>by omega⟩ ?_ (fun i hi =>?_))
 ·refine aB.bE ?_ ?_ ?_ ?_ <;>simp[aQ,bt,br,aY,aq,aS,bT,I.only,ah.only,bg]
 ·refine U.seq (U.seq ?_);refine .bx (by decide +kernel) fun K hK =>?_;simp only[FF,ab,simprocAttr];refine .done (hK _ ?_);clear hK K;try simp only[au]
  refine U.bL ?_;simp only[al,ab,simprocAttr];refine ⟨fun h =>?_,fun h =>?_⟩
  ·have hlt:i<6:=by simp at h;omega
   refine U.skip ?_;try simp only[au,simprocAttr]
   refine U.seq (U.block ?_);refine .ar (by decide +kernel) fun K hK =>?_;simp only[FG,ab,simprocAttr]
   try simp only[aZ,jZ 1 m hlt rfl,eL m hlt,ab,simprocAttr]
   refine .flat _ (Bq _ 0 4) rfl ?_
   try simp only[ab,simprocAttr]
   refine .done (hK _ ?_);clear hK K;refine U.bL ?_;simp only[al,ab,simprocAttr];refine ⟨fun h =>?_,fun h =>?_⟩
   ·refine .ar (by decide +kernel) fun K hK =>?_;simp only[FH,ab,simprocAttr];refine .done (hK _ ?_);clear hK K;refine U.ret ?_;simp only[bP,au,ab,simprocAttr];rw[oX i hlt]
    ·simp
    ·simp at h;simp[b7];omega
   ·refine U.skip ?_;try simp only[au,bP,simprocAttr]
    refine .bx (by decide +kernel) fun K hK =>?_;simp only[FI,ab,simprocAttr];refine .done (hK _ ?_);clear hK K;try simp only[au]
    refine ⟨i+1,⟨by omega,fun k hk =>?_⟩,by omega,?_⟩
    ·by_cases hk':k=i
     ·subst hk';simpa[b7] using h
     ·exact hi.2 k (by omega)
    ·rw[cG _ (by omega) (by omega)];refine aB.bE ?_ ?_ ?_ ?_ <;>simp[aQ,bt,br,aY,aq,aS,bT,I.only,ah.only,bg]
  ·have hge:i=6:=by simp at h;omega
   subst hge;refine U.exit ?_;try simp only[au,bP,simprocAttr]
   refine .ar (by decide +kernel) fun K hK =>?_;simp only[FJ,ab,simprocAttr];refine .done (hK _ ?_);clear hK K;refine U.ret ?_;simp only[ab,simprocAttr];rw[rF hi.2];simp
structure cu where
 bU:Int
 mark:aX 6 Int
instance:Enc cu where
 enc g:=.agg [.int .i64 g.bU,enc g.mark]
 sz:=7
 aV:=.ez [.one,.ez (List.replicate 6 .one)]
 gM:=true
 done g:=by simp only[I.done,I.eY,Enc.done,zw7]
 size g:=by simp only[I.size,I.sizes,gG,lE,lF]
 lp g:=by simp only[I.aV,I.cT,eT,tE,tF]
 agg _:=rfl
structure bY where
 fb:aX 5 Int
 e7:Int
 given:List cu
instance:Enc bY where
 enc m:=.agg [enc m.fb,.int .i64 m.e7,enc m.given]
 sz:=7
 aV:=.ez [.ez (List.replicate 5 .one),.one,.one]
 gM:=true
 done m:=by simp only[I.done,I.eY,Enc.done,zw7]
 size m:=by simp only[I.size,I.sizes,gG,lE,lF,xc]
 lp m:=by simp only[I.aV,I.cT,eT,tE,tF,EX]
 agg _:=rfl
theorem mH{fs:List I}{f off:Nat}{v:I}(h1:f<fs.length)(h:I.sizes (fs.take f)=off):er fs f off v=some v:=by simp[er,h,h1]
theorem cI :
  (∀ m:bY,(enc m).dD=some [enc m.fb,.int .i64 m.e7,enc m.given])∧(∀ g:cu,(enc g).dD=some [.int .i64 g.bU,enc g.mark]) ∧
  (∀ (w:aX 5 Int) (n:Int) (g:List cu) v,er [enc w,.int .i64 n,enc g] 0 0 v=some v)∧(∀ (w:aX 5 Int) (n:Int) (g:List cu) v,er [enc w,.int .i64 n,enc g] 1 5 v=some v)∧(∀ (w:aX 5 Int) (n:Int) (g:List cu) v,er [enc w,.int .i64 n,enc g] 2 6 v=some v) ∧
  (∀ (n:Int) (m:aX 6 Int) v,er [.int .i64 n,enc m] 0 0 v=some v)∧(∀ (n:Int) (m:aX 6 Int) v,er [.int .i64 n,enc m] 1 1 v=some v) ∧
  (∀ (g:List cu),cj none (enc g)=true)∧(∀ (g:List Int),cj none (enc g)=true)∧(∀ (g:aX 5 Int),cj (some 5) (enc g)=true)∧(∀ (g:aX 6 Int),cj (some 6) (enc g)=true)∧(∀ (g:cu),cj (some 7) (enc g)=true)∧(∀ (g:bY),cj (some 7) (enc g)=true) ∧
  (∀ (fs:List I) x,(x::fs)[0]?=some x)∧(∀ (fs:List I) x n,(x::fs)[n+1]?=fs[n]?)∧(∀ (fs:List I) x,(x::fs)[1]?=fs[0]?)∧(∀ (fs:List I) x,(x::fs)[2]?=fs[1]?) :=
 ⟨fun _=>rfl,fun _=>rfl,fun _ _ _ _=>mH (t7 rfl) rfl,fun w n g v=>mH (t7 rfl) (by simp[I.sizes,gG,lE,lF]),fun w n g v=>mH (t7 rfl) (by simp[I.sizes,I.size,gG,lE,lF]),fun _ _ _=>mH (t7 rfl) rfl,fun _ _ _=>mH (t7 rfl) (by simp[I.sizes,I.size]),
  fun _=>by simp[nj,oa],fun _=>by simp[nj,oa],fun _=>by simp[fW,xb,lE,lF],fun _=>by simp[fW,xb,lE,lF],fun _=>by rw[fW];rfl,fun _=>by rw[fW];rfl,
  fun _ _=>rfl,fun _ _ _=>rfl,fun _ _=>rfl,fun _ _=>rfl⟩
theorem sV(n lo hi:Int):aA Tryz.prog 121 [enc n,enc lo,enc hi] (enc (b7 lo hi n)):=by
 refine aA.bp Tryz.func121 Ub V9 Yq (t7 rfl) (fun hwf W0 D0 E1 =>?_);simp only[B7,N2,bl,zz4,Nat.reduceAdd];refine .ar (by decide +kernel) fun K hK =>?_;simp only[Gn,ab,simprocAttr];refine .done (hK _ ?_);clear hK K;refine .ar (by decide +kernel) fun K hK =>?_;simp only[Gp,ab,simprocAttr];refine .guard (fun h =>?_) (fun h =>?_)
 ·simp only[ab,simprocAttr,h];refine .done (hK _ ?_);clear hK K;refine U.ret ?_;simp only[ab,simprocAttr]
  simp_all[b7]
 ·simp only[ab,simprocAttr,h];refine .done (hK _ ?_);clear hK K;refine U.ret ?_;simp only[ab,simprocAttr];simp at h;simp[b7];omega
theorem A7(n:Int):aA Tryz.prog 160 [enc n] (enc (b7 0 31 n)):=by
 refine aA.bp Tryz.func160 UH WH YX (t7 rfl) (fun hwf W0 D0 E1 =>?_);simp only[CE,OD,bl];refine .ar (by decide +kernel) fun K hK =>?_;simp only[HR,ab,simprocAttr];refine .done (hK _ ?_);clear hK K;refine .ar (by decide +kernel) fun K hK =>?_;simp only[HS,ab,simprocAttr];refine .flat _ (sV n 0 31) rfl ?_
 try simp only[ab,simprocAttr]
 refine .done (hK _ ?_);clear hK K;refine U.ret ?_;simp only[ab,simprocAttr]
theorem Ba(a b:Int):aA Tryz.prog 196 [enc a,enc b] (enc (oZ a b != 0)):=by
 refine aA.bp Tryz.func196 U2 W6 Zj (t7 rfl) (fun hwf W0 D0 E1 =>?_);simp only[C0,OZ,bl,zz4];refine .ar (by decide +kernel) fun K hK =>?_;simp only[IM,ab,simprocAttr];refine .done (hK _ ?_);clear hK K;refine .ar (by decide +kernel) fun K hK =>?_;simp only[IN,ab,simprocAttr];refine .done (hK _ ?_);clear hK K;refine U.ret ?_;simp only[ab,simprocAttr];rfl
theorem vR(w:aX 5 Int)(m:aX 6 Int)(i:Nat)(hi:i<6)(h0:0≤m.g i)(h5:m.g i<5):aA Tryz.prog 199 [enc w,enc m,enc (i:Int)] (enc (w.g (m.g i).toNat)):=by
 refine aA.bp Tryz.func199 U5 W9 Zm (t7 rfl) (fun hwf W0 D0 E1 =>?_);simp only[C3,O2,bl,zz4,Nat.reduceAdd];refine .ar (by decide +kernel) fun K hK =>?_;simp only[I0,ab,simprocAttr];refine .done (hK _ ?_);clear hK K;refine .ar (by decide +kernel) fun K hK =>?_;simp only[I1,ab,simprocAttr];have hk:(m.g i).toNat<5:=by omega
 try simp only[aZ,jZ 1 m hi rfl,eL m hi,ab,simprocAttr]
 try simp only[aZ,gh 1 w ⟨h0,h5⟩ rfl,eL w hk,ab,simprocAttr]
 refine .done (hK _ ?_);clear hK K;refine U.ret ?_;simp only[ab,simprocAttr]
def eX(p:Nat→Bool):Nat→Nat
 |0=>0
 |n+1=>eX p n+if p n then 1 else 0
theorem wQ(p:Nat→Bool):∀ n,eX p n≤n
 |0=>zz7 _
 |n+1=>by have:=wQ p n;simp only[eX];split <;>omega
def js(w:aX 5 Int)(a b:aX 6 Int)(i:Nat):Bool:=oZ (w.g (a.g i).toNat) (w.g (b.g i).toNat)==0
def ee(m:aX 6 Int):Bool:=(List.range 6).all fun i=>b7 0 4 (m.g i)
theorem oJ{m:aX 6 Int}(h:ee m=true){i:Nat}(hi:i<6):0≤m.g i∧m.g i<5:=by
 simp only[ee,zx3,zw4] at h;have:=h i hi;simp[b7] at this;omega
theorem Ro(w:aX 5 Int)(a b:aX 6 Int)(ha:ee a=true)(hb:ee b=true):aA Tryz.prog 129 [enc w,enc a,enc b] (enc (eX (js w a b) 6:Int)):=by
 refine aA.bp Tryz.func129 Uj Wh Yy (t7 rfl) (fun hwf W0 D0 E1 =>?_);simp only[Cf,Oa,bl,zz4,Nat.reduceAdd];refine .ar (by decide +kernel) fun K hK =>?_;simp only[GH,ab,simprocAttr];refine .done (hK _ ?_);clear hK K;refine .ar (by decide +kernel) fun K hK =>?_;simp only[GI,ab,simprocAttr];refine .done (hK _ ?_);clear hK K;refine U.seq (U.seq ?_);refine .bx (by decide +kernel) fun K hK =>?_;simp only[GJ,ab,simprocAttr];refine .done (hK _ ?_);clear hK K;try simp only[au]
 refine U.block (U.loop (fun i:Nat=>aw [(3,.ptr 3 []),(4,.ptr 4 []),(5,.ptr 5 []),(7,.int .i64 (eX (js w a b) i)),(8,.int .i64 i)] [(3,.box (enc w)),(4,.box (enc a)),(5,.box (enc b))]) (fun i=>i≤6) (fun i=>6-i) 0 (by omega) ?_ (fun i hi =>?_))
 ·simp only[eX];refine aB.bE ?_ ?_ ?_ ?_ <;>simp[aQ,bt,br,aY,aq,aS,bT,I.only,ah.only,bg]
 ·have hc:=wQ (js w a b) i;refine U.seq (U.seq ?_);refine .bx (by decide +kernel) fun K hK =>?_;simp only[GK,ab,simprocAttr];refine .done (hK _ ?_);clear hK K;try simp only[au]
  refine U.bL ?_;simp only[al,ab,simprocAttr];refine ⟨fun h =>?_,fun h =>?_⟩
  ·have hlt:i<6:=by simp at h;omega
   have h1:=oJ ha hlt;have h2:=oJ hb hlt;refine U.skip ?_;try simp only[au,simprocAttr]
   refine U.seq (U.block ?_);refine .ar (by decide +kernel) fun K hK =>?_;simp only[GL,ab,simprocAttr];have k1:(a.g i).toNat<5:=by omega
   have k2:(b.g i).toNat<5:=by omega
   try simp only[aZ,jZ 1 a hlt rfl,eL a hlt,ab,simprocAttr]
   try simp only[aZ,gh 1 w h1 rfl,eL w k1,ab,simprocAttr]
   try simp only[aZ,jZ 1 b hlt rfl,eL b hlt,ab,simprocAttr]
   try simp only[aZ,gh 1 w h2 rfl,eL w k2,ab,simprocAttr]
   refine .done (hK _ ?_);clear hK K;refine U.bL ?_;simp only[al,ab,simprocAttr];refine ⟨fun h =>?_,fun h =>?_⟩
   ·have hap:js w a b i=true:=h;refine .bx (by decide +kernel) fun K hK =>?_;simp only[GM,ab,simprocAttr];refine .done (hK _ ?_);clear hK K;try simp only[au,bP]
    refine .bx (by decide +kernel) fun K hK =>?_;simp only[xJ,ab,simprocAttr];refine .done (hK _ ?_);clear hK K;try simp only[au]
    refine ⟨i+1,by omega,by omega,?_⟩;rw[cG _ (by omega) (by omega),cG _ (by omega) (by omega)];simp only[eX,hap,if_true];refine aB.bE ?_ ?_ ?_ ?_ <;>simp[aQ,bt,br,aY,aq,aS,bT,I.only,ah.only,bg]
   ·have hap:js w a b i=false:=h;refine U.skip ?_;try simp only[au,bP,simprocAttr]
    refine .bx (by decide +kernel) fun K hK =>?_;simp only[xJ,ab,simprocAttr];refine .done (hK _ ?_);clear hK K;try simp only[au]
    refine ⟨i+1,by omega,by omega,?_⟩;rw[cG _ (by omega) (by omega)];simp only[eX,hap,zz6,if_false];refine aB.bE ?_ ?_ ?_ ?_ <;>simp[aQ,bt,br,aY,aq,aS,bT,I.only,ah.only,bg]
  ·have hge:i=6:=by simp at h;omega
   subst hge;refine U.exit ?_;try simp only[au,bP,simprocAttr]
   refine .ar (by decide +kernel) fun K hK =>?_;simp only[GN,ab,simprocAttr];refine .done (hK _ ?_);clear hK K;refine U.ret ?_;simp only[ab,simprocAttr]
def iB(w:Int)(k:Nat):Bool:=oZ w (shl 1 k) != 0
def iq(w:Int):Nat→List Int
 |0=>[]
 |k+1=>iq w k++if iB w k then [(k:Int)] else []
theorem zd(w:Int):∀ k,(iq w k).length≤k
 |0=>zz7 _
 |k+1=>by
  have:=zd w k;simp only[iq,zz2];split <;>simp <;>omega
theorem Rv(w:Int):aA Tryz.prog 141 [enc w] (enc (iq w 5)):=by
 refine aA.bp Tryz.func141 Ut Wr YI (t7 rfl) (fun hwf W0 D0 E1 =>?_);simp only[Cp,Ol,bl];refine .ar (by decide +kernel) fun K hK =>?_;simp only[GY,ab,simprocAttr];refine .done (hK _ ?_);clear hK K;refine .ar (by decide +kernel) fun K hK =>?_;simp only[GZ,ab,simprocAttr];refine .done (hK _ ?_);clear hK K;refine U.seq (U.seq ?_);refine .bx (by decide +kernel) fun K hK =>?_;simp only[G0,ab,simprocAttr];refine .done (hK _ ?_);clear hK K;try simp only[au]
 refine U.block (U.loop (fun i:Nat=>aw [(0,.int .i64 w),(2,.nils 1),(3,.own 3 (iq w i).length),(4,.int .i64 i)] [(3,.b9 3 1 ((iq w i).map enc))]) (fun i=>i≤5) (fun i=>5-i) 0 (by omega) ?_ (fun i hi =>?_))
 ·refine aB.p9 3 3 3 1 1 ?_ ?_ ?_
  ·simp only[p8,Nat.reduceEqDiff,reduceIte]
  ·simp only[p8]
  ·simp only[iq,zx1,zv0];refine aB.bE ?_ ?_ ?_ ?_ <;>simp[aQ,bt,br,aY,aq,aS,bT,I.only,I.bV,ah.only]
 ·refine U.seq (U.seq ?_);refine .bx (by decide +kernel) fun K hK =>?_;simp only[G1,ab,simprocAttr];refine .done (hK _ ?_);clear hK K;try simp only[au]
  refine U.bL ?_;simp only[al,ab,simprocAttr];refine ⟨fun h =>?_,fun h =>?_⟩
  ·have hlt:i<5:=by simp at h;omega
   have hml:=zd w i;refine U.skip ?_;try simp only[au,simprocAttr]
   refine U.seq (U.block ?_);refine .ar (by decide +kernel) fun K hK =>?_;simp only[G2,ab,simprocAttr];refine .done (hK _ ?_);clear hK K;refine U.bL ?_;simp only[al,ab,simprocAttr];refine ⟨fun h =>?_,fun h =>?_⟩
   ·have hb:iB w i=true:=h;refine .bx (by decide +kernel) fun K hK =>?_;simp only[G3,ab,simprocAttr];rw[m9 3 1 8 3 rfl rfl (by simp) (by simp[maxLen];omega) (by simp;omega)]
    try simp only[ab,simprocAttr]
    refine .done (hK _ ?_);clear hK K;try simp only[au,bP]
    refine .bx (by decide +kernel) fun K hK =>?_;simp only[xP,ab,simprocAttr];refine .done (hK _ ?_);clear hK K;try simp only[au]
    refine ⟨i+1,by omega,by omega,?_⟩;rw[cG _ (by omega) (by omega)];simp only[iq,hb,reduceIte];refine aB.bE ?_ ?_ ?_ ?_ <;>simp[aQ,bt,br,aY,aq,aS,bT,I.only,I.bV,ah.only,c9,fI,ig]
   ·have hb:iB w i=false:=h;refine U.skip ?_;try simp only[au,bP,simprocAttr]
    refine .bx (by decide +kernel) fun K hK =>?_;simp only[xP,ab,simprocAttr];refine .done (hK _ ?_);clear hK K;try simp only[au]
    refine ⟨i+1,by omega,by omega,?_⟩;rw[cG _ (by omega) (by omega)];simp only[iq,hb,reduceIte,zz6,zx6];refine aB.bE ?_ ?_ ?_ ?_ <;>simp[aQ,bt,br,aY,aq,aS,bT,I.only,ah.only,c9]
  ·have hge:i=5:=by simp at h;omega
   subst hge;refine U.exit ?_;try simp only[au,bP,simprocAttr]
   refine .ar (by decide +kernel) fun K hK =>?_;simp only[G4,ab,simprocAttr];refine .done (hK _ ?_);clear hK K;refine U.ret ?_
   try simp only[ab,simprocAttr]
theorem Sx(m:aX 5 Int):aA Tryz.prog 99 [enc m] (enc (if (List.range 5).all (fun i=>b7 0 31 (m.g i)&&iB (m.g i) i) then (0:Int) else 11)):=by
 refine aA.bp Tryz.func99 VS XW Z9 (t7 rfl) (fun hwf W0 D0 E1 =>?_);simp only[DT,PR,bl];refine .ar (by decide +kernel) fun K hK =>?_;simp only[Lx,ab,simprocAttr];refine .done (hK _ ?_);clear hK K;refine U.seq ?_;refine .ar (by decide +kernel) fun K hK =>?_;simp only[Ly,ab,simprocAttr];refine .done (hK _ ?_);clear hK K;refine U.block (U.loop (fun i:Nat=>aw [(1,.ptr 1 []),(2,.int .i64 0),(3,.int .i64 i)] [(1,.box (enc m))]) (fun j=>j≤5∧∀ i,i<j→(b7 0 31 (m.g i)&&iB (m.g i) i)=true) (fun i=>5-i) 0 ⟨by omega,fun k h=>by omega⟩ ?_ (fun i hi =>?_))
 ·refine aB.bE ?_ ?_ ?_ ?_ <;>simp[aQ,bt,br,aY,aq,aS,bT,I.only,ah.only,bg]
 ·refine U.seq (U.seq ?_);refine .bx (by decide +kernel) fun K hK =>?_;simp only[Lz,ab,simprocAttr];refine .done (hK _ ?_);clear hK K;try simp only[au]
  refine U.bL ?_;simp only[al,ab,simprocAttr];refine ⟨fun h =>?_,fun h =>?_⟩
  ·have hlt:i<5:=by simp at h;omega
   refine U.skip ?_;try simp only[au,simprocAttr]
   refine U.seq (U.block ?_);refine .ar (by decide +kernel) fun K hK =>?_;simp only[LA,ab,simprocAttr]
   try simp only[aZ,jZ 1 m hlt rfl,eL m hlt,ab,simprocAttr]
   refine .flat _ (Bq _ 0 31) rfl ?_;generalize hb:(decide (0≤m.g i)&&decide (m.g i≤31))=b;cases b
   ·try simp only[ab,simprocAttr]
    refine .done (hK _ ?_);clear hK K;refine U.bL ?_;simp only[al,ab,simprocAttr];refine ⟨fun h =>?_,fun h =>?_⟩
    ·refine .ar (by decide +kernel) fun K hK =>?_;simp only[yi,ab,simprocAttr];refine .done (hK _ ?_);clear hK K;refine U.ret ?_;simp only[bP,au,ab,simprocAttr];rw[oX i hlt]
     ·simp
     ·simp only[b7,hb,Bool.false_and]
    ·cases h
   ·try simp only[aZ,jZ 1 m hlt rfl,eL m hlt,ab,simprocAttr]
    refine .done (hK _ ?_);clear hK K;refine U.bL ?_;simp only[al,ab,simprocAttr];refine ⟨fun h =>?_,fun h =>?_⟩
    ·refine .ar (by decide +kernel) fun K hK =>?_;simp only[yi,ab,simprocAttr];refine .done (hK _ ?_);clear hK K;refine U.ret ?_;simp only[bP,au,ab,simprocAttr];rw[oX i hlt]
     ·simp
     ·simp only[b7,hb,Bool.true_and,iB,oZ,shl];simpa using h
    ·refine U.skip ?_;try simp only[au,bP,simprocAttr]
     refine .bx (by decide +kernel) fun K hK =>?_;simp only[LB,ab,simprocAttr];refine .done (hK _ ?_);clear hK K;try simp only[au]
     refine ⟨i+1,⟨by omega,fun k hk =>?_⟩,by omega,?_⟩
     ·by_cases hk':k=i
      ·subst hk';simp only[b7,hb,Bool.true_and,iB,oZ,shl];simpa using h
      ·exact hi.2 k (by omega)
     ·rw[cG _ (by omega) (by omega)];refine aB.bE ?_ ?_ ?_ ?_ <;>simp[aQ,bt,br,aY,aq,aS,bT,I.only,ah.only,bg]
  ·have hge:i=5:=by simp at h;omega
   subst hge;refine U.exit ?_;try simp only[au,bP,simprocAttr]
   refine .ar (by decide +kernel) fun K hK =>?_;simp only[LC,ab,simprocAttr];refine .done (hK _ ?_);clear hK K;refine U.ret ?_;simp only[ab,simprocAttr];rw[rF hi.2];simp
theorem Bc(a b:List Int):aA Tryz.prog 20 [enc a,enc b] (enc (decide (a=b))):=by
 refine aA.bp Tryz.func20 U6 Xa Zn (t7 rfl) (fun hwf W0 D0 E1 =>?_);simp only[C4,O3,bl,zz4];have hlen:a.length≤maxLen:=((kL a).1 hwf.1).1;simp only[maxLen] at hlen;refine .ar (by decide +kernel) fun K hK =>?_;simp only[Jv,ab,simprocAttr];refine .done (hK _ ?_);clear hK K;refine U.seq (U.seq ?_);refine .bx (by decide +kernel) fun K hK =>?_;simp only[Jw,ab,simprocAttr]
 try simp only[aZ,ab,simprocAttr]
 refine .done (hK _ ?_);clear hK K;try simp only[au]
 refine U.bL ?_;simp only[al,ab,simprocAttr];refine ⟨fun h =>?_,fun h =>?_⟩
 ·refine .ar (by decide +kernel) fun K hK =>?_;simp only[Jx,ab,simprocAttr];refine .done (hK _ ?_);clear hK K;refine U.ret ?_;simp only[au,ab,simprocAttr];simp at h;have:a≠b:=fun e=>h (by rw[e]);simp[this]
 ·have hab:a.length=b.length:=by simp at h;omega
  refine U.skip ?_;try simp only[au,simprocAttr]
  refine U.seq ?_;refine .ar (by decide +kernel) fun K hK =>?_;simp only[Jy,ab,simprocAttr];refine .done (hK _ ?_);clear hK K;refine U.block (U.loop (fun i:Nat=>aw [(0,enc a),(1,enc b),(5,.int .i64 i)] []) (fun i=>i≤a.length∧a.take i=b.take i) (fun i=>a.length-i) 0 ⟨zw3 _,by simp⟩ ?_ (fun i hi =>?_))
  ·refine aB.bE ?_ ?_ ?_ ?_ <;>simp[aQ,bt,br,aY,aS,I.only,bg]
  ·refine U.seq (U.seq ?_);refine .bx (by decide +kernel) fun K hK =>?_;simp only[Jz,ab,simprocAttr]
   try simp only[aZ,ab,simprocAttr]
   refine .done (hK _ ?_);clear hK K;try simp only[au]
   refine U.bL ?_;simp only[al,ab,simprocAttr];refine ⟨fun h =>?_,fun h =>?_⟩
   ·have hlt:i<a.length:=by simpa using h
    have hlb:i<b.length:=by omega
    refine U.skip ?_;try simp only[au,simprocAttr]
    refine U.seq (U.block ?_);refine .ar (by decide +kernel) fun K hK =>?_;simp only[JA,ab,simprocAttr]
    try simp only[fm 1 hlt rfl,fm 1 hlb rfl,ab,simprocAttr]
    refine .done (hK _ ?_);clear hK K;refine U.bL ?_;simp only[al,ab,simprocAttr];refine ⟨fun h =>?_,fun h =>?_⟩
    ·refine .ar (by decide +kernel) fun K hK =>?_;simp only[JB,ab,simprocAttr];refine .done (hK _ ?_);clear hK K;refine U.ret ?_;simp only[bP,au,ab,simprocAttr];have hne:a≠b:=fun e=>by subst e;simp at h
     simp[hne]
    ·refine U.skip ?_;try simp only[au,bP,simprocAttr]
     refine .bx (by decide +kernel) fun K hK =>?_;simp only[JC,ab,simprocAttr];refine .done (hK _ ?_);clear hK K;try simp only[au]
     refine ⟨i+1,⟨by omega,?_⟩,by omega,?_⟩
     ·rw[zz8 hlt,zz8 hlb,hi.2];simp at h;rw[h]
     ·rw[cG _ (by omega) (by omega)];refine aB.bE ?_ ?_ ?_ ?_ <;>simp[aQ,bt,br,aY,aS,I.only,bg]
   ·have hge:i=a.length:=by simp at h;omega
    refine U.exit ?_;try simp only[au,bP,simprocAttr]
    refine .ar (by decide +kernel) fun K hK =>?_;simp only[JD,ab,simprocAttr];refine .done (hK _ ?_);clear hK K;refine U.ret ?_;simp only[ab,simprocAttr];have:a=b:=by
     have:=hi.2;rw[hge,zu7] at this;rw[hab,zu7] at this;exact this
    simp[this]
def dc(m:bY)(i:Nat):cu:=m.given.getD i ⟨0,⟨List.replicate 6 0,rfl⟩⟩
theorem jY{m:bY}{i:Nat}(h:i<m.given.length):m.given[i]=dc m i:=by simp[dc,zz0,h]
theorem yO{A:af}{m:bY}{i:Nat}(h:i<m.given.length):jh A 7 (i:Int) (enc m.given)=some (.ref (enc (dc m i))):=by
 rw[fm 7 h rfl,jY h]
def iK(w:aX 5 Int):Bool:=(List.range 5).all (fun i=>b7 0 31 (w.g i)&&iB (w.g i) i)
theorem Sy(w:aX 5 Int):aA Tryz.prog 99 [enc w] (enc (if iK w then (0:Int) else 11)):=Sx w
theorem Rg(m:aX 6 Int):aA Tryz.prog 100 [enc m] (enc (if ee m then (0:Int) else 10)):=Rf m
def kJ(m:bY)(a b:aX 6 Int):Bool:=decide ((eX (js m.fb a b) 6:Int)≤IntKind.i64.wrap (2*m.e7))
def iu(m:bY)(i:Nat):Bool:=b7 1 99 (dc m i).bU&&(ee (dc m i).mark&&((i==0||decide ((dc m (i-1)).bU<(dc m i).bU))&&(List.range i).all (fun j => !kJ m (dc m j).mark (dc m i).mark)))
def ed(m:bY):Bool:=iK m.fb&&(b7 0 2 m.e7&&(decide (m.given.length≤40)&&(List.range m.given.length).all (iu m)))
theorem zt{m:bY}{i:Nat}(h:iu m i=true):ee (dc m i).mark=true:=by
 simp only[iu,zz3] at h;exact h.2.1
def nZ(w:aX 5 Int)(a:aX 6 Int)(r:aX 6 Int)(i:Nat):Bool:=oZ (w.g (a.g i).toNat) (r.g i)==0
def mc(w:aX 5 Int)(a r:aX 6 Int):Int:=(eX (nZ w a r) 6:Int)
theorem aqJ(w:aX 5 Int)(a b:aX 6 Int)(ha:ee a=true):aA Tryz.prog 102 [enc w,enc a,enc b] (enc (mc w a b)):=by
 refine aA.bp Tryz.func102 TZ VZ Yg (t7 rfl) (fun hwf W0 D0 E1 =>?_);simp only[BV,NS,bl,zz4,Nat.reduceAdd];refine .ar (by decide +kernel) fun K hK =>?_;simp only[FK,ab,simprocAttr];refine .done (hK _ ?_);clear hK K;refine .ar (by decide +kernel) fun K hK =>?_;simp only[FL,ab,simprocAttr];refine .done (hK _ ?_);clear hK K;refine U.seq (U.seq ?_);refine .bx (by decide +kernel) fun K hK =>?_;simp only[FM,ab,simprocAttr];refine .done (hK _ ?_);clear hK K;try simp only[au]
 refine U.block (U.loop (fun i:Nat=>aw [(3,.ptr 3 []),(4,.ptr 4 []),(5,.ptr 5 []),(7,.int .i64 (eX (nZ w a b) i)),(8,.int .i64 i)] [(3,.box (enc w)),(4,.box (enc a)),(5,.box (enc b))]) (fun i=>i≤6) (fun i=>6-i) 0 (by omega) ?_ (fun i hi =>?_))
 ·simp only[eX];refine aB.bE ?_ ?_ ?_ ?_ <;>simp[aQ,bt,br,aY,aq,aS,bT,I.only,ah.only,bg]
 ·have hc:=wQ (nZ w a b) i;refine U.seq (U.seq ?_);refine .bx (by decide +kernel) fun K hK =>?_;simp only[FN,ab,simprocAttr];refine .done (hK _ ?_);clear hK K;try simp only[au]
  refine U.bL ?_;simp only[al,ab,simprocAttr];refine ⟨fun h =>?_,fun h =>?_⟩
  ·have hlt:i<6:=by simp at h;omega
   have h1:=oJ ha hlt;refine U.skip ?_;try simp only[au,simprocAttr]
   refine U.seq (U.block ?_);refine .ar (by decide +kernel) fun K hK =>?_;simp only[FO,ab,simprocAttr];have k1:(a.g i).toNat<5:=by omega
   try simp only[aZ,jZ 1 a hlt rfl,eL a hlt,ab,simprocAttr]
   try simp only[aZ,gh 1 w h1 rfl,eL w k1,ab,simprocAttr]
   try simp only[aZ,jZ 1 b hlt rfl,eL b hlt,ab,simprocAttr]
   refine .done (hK _ ?_);clear hK K;refine U.bL ?_;simp only[al,ab,simprocAttr];refine ⟨fun h =>?_,fun h =>?_⟩
   ·have hap:nZ w a b i=true:=h;refine .bx (by decide +kernel) fun K hK =>?_;simp only[FP,ab,simprocAttr];refine .done (hK _ ?_);clear hK K;try simp only[au,bP]
    refine .bx (by decide +kernel) fun K hK =>?_;simp only[xv,ab,simprocAttr];refine .done (hK _ ?_);clear hK K;try simp only[au]
    refine ⟨i+1,by omega,by omega,?_⟩;rw[cG _ (by omega) (by omega),cG _ (by omega) (by omega)];simp only[eX,hap,if_true];refine aB.bE ?_ ?_ ?_ ?_ <;>simp[aQ,bt,br,aY,aq,aS,bT,I.only,ah.only,bg]
   ·have hap:nZ w a b i=false:=h;refine U.skip ?_;try simp only[au,bP,simprocAttr]
    refine .bx (by decide +kernel) fun K hK =>?_;simp only[xv,ab,simprocAttr];refine .done (hK _ ?_);clear hK K;try simp only[au]
    refine ⟨i+1,by omega,by omega,?_⟩;rw[cG _ (by omega) (by omega)];simp only[eX,hap,zz6,if_false];refine aB.bE ?_ ?_ ?_ ?_ <;>simp[aQ,bt,br,aY,aq,aS,bT,I.only,ah.only,bg]
  ·have hge:i=6:=by simp at h;omega
   subst hge;refine U.exit ?_;try simp only[au,bP,simprocAttr]
   refine .ar (by decide +kernel) fun K hK =>?_;simp only[FQ,ab,simprocAttr];refine .done (hK _ ?_);clear hK K;refine U.ret ?_;simp only[ab,simprocAttr];rfl
structure zu (m:bY):Prop where
 len:m.given.length≤1099511627776
 mark:∀ g∈m.given,ee g.mark=true
theorem St(m:bY)(k:aX 6 Int)(hm:zu m)(hk:ee k=true):aA Tryz.prog 87 [enc m,enc k] (enc (m.given.any fun g=>decide ((eX (js m.fb g.mark k) 6:Int)≤IntKind.i64.wrap (2*m.e7)))):=by
 refine aA.bp Tryz.func87 VL XP Z2 (t7 rfl) (fun hwf W0 D0 E1 =>?_);simp only[DM,PJ,bl,zz4];have hlen:=hm.len;refine .ar (by decide +kernel) fun K hK =>?_;simp only[K5,ab,simprocAttr];refine .done (hK _ ?_);clear hK K;refine U.seq ?_;refine .ar (by decide +kernel) fun K hK =>?_;simp only[K6,ab,simprocAttr];refine .done (hK _ ?_);clear hK K;refine U.block (U.loop (fun i:Nat=>aw [(2,.ptr 2 []),(3,.ptr 3 []),(5,.int .i64 i)] [(2,.box (enc m)),(3,.box (enc k))]) (fun i=>i≤m.given.length∧∀ j (h:j<m.given.length),j<i→(decide ((eX (js m.fb m.given[j].mark k) 6:Int)≤IntKind.i64.wrap (2*m.e7)))=false) (fun i=>m.given.length-i) 0 ⟨by omega,fun k _ h=>by omega⟩ ?_ (fun i hi =>?_))
 ·refine aB.bE ?_ ?_ ?_ ?_ <;>simp[aQ,bt,br,aY,aq,aS,bT,I.only,ah.only,bg]
 ·refine U.seq (U.seq ?_);refine .bx (by decide +kernel) fun K hK =>?_;simp only[K7,ab,simprocAttr]
  try simp only[cI,aZ,ab,simprocAttr]
  refine .done (hK _ ?_);clear hK K;try simp only[au]
  refine U.bL ?_;simp only[al,ab,simprocAttr];refine ⟨fun h =>?_,fun h =>?_⟩
  ·have hlt:i<m.given.length:=by simpa using h
   refine U.skip ?_;try simp only[au,simprocAttr]
   refine U.seq (U.block ?_);refine .ar (by decide +kernel) fun K hK =>?_;simp only[K8,ab,simprocAttr]
   try simp only[cI,fm 7 hlt rfl,cN,ab,simprocAttr]
   refine .flat _ (Ro m.fb m.given[i].mark k (hm.mark _ (zx5 _)) hk) rfl ?_
   try simp only[cI,ab,simprocAttr]
   refine .done (hK _ ?_);clear hK K;refine U.bL ?_;simp only[al,ab,simprocAttr];refine ⟨fun h =>?_,fun h =>?_⟩
   ·refine .ar (by decide +kernel) fun K hK =>?_;simp only[K9,ab,simprocAttr];refine .done (hK _ ?_);clear hK K;refine U.ret ?_;simp only[bP,au,ab,simprocAttr];have:(m.given.any fun g=>decide ((eX (js m.fb g.mark k) 6:Int)≤IntKind.i64.wrap (2*m.e7)))=true:=List.any_eq_true.2 ⟨_,zx5 hlt,h⟩;rw[this]
   ·refine U.skip ?_;try simp only[au,bP,simprocAttr]
    refine .bx (by decide +kernel) fun K hK =>?_;simp only[La,ab,simprocAttr];refine .done (hK _ ?_);clear hK K;try simp only[au]
    refine ⟨i+1,⟨by omega,fun j hj hji =>?_⟩,by omega,?_⟩
    ·by_cases hj':j=i
     ·subst hj';exact h
     ·exact hi.2 j hj (by omega)
    ·rw[cG _ (by omega) (by omega)];refine aB.bE ?_ ?_ ?_ ?_ <;>simp[aQ,bt,br,aY,aq,aS,bT,I.only,ah.only,bg]
  ·have hge:i=m.given.length:=by simp at h;omega
   refine U.exit ?_;try simp only[au,bP,simprocAttr]
   refine .ar (by decide +kernel) fun K hK =>?_;simp only[Lb,ab,simprocAttr];refine .done (hK _ ?_);clear hK K;refine U.ret ?_;simp only[ab,simprocAttr];have:(m.given.any fun g=>decide ((eX (js m.fb g.mark k) 6:Int)≤IntKind.i64.wrap (2*m.e7)))=false:=by
    rw[List.any_eq_false];intro x hx;obtain ⟨j,hj,rfl⟩:=zu3 hx;simpa using hi.2 j hj (by omega)
   rw[this]
theorem aoi{m:bY}(h:ed m=true):zu m:=by
 simp only[ed,zz3,decide_eq_true_eq,zx3,zw4] at h;refine ⟨by omega,fun g hg =>?_⟩;obtain ⟨i,hi,rfl⟩:=zu3 hg;rw[jY hi];exact zt (h.2.2.2 i hi)
def iJ(r:aX 6 Int):Bool:=(List.range 6).all fun i=>b7 1 31 (r.g i)
theorem zk:I.slice 1 []=enc ([]:List Int):=rfl
def lW:aX 6 Int:=⟨List.replicate 6 0,rfl⟩
theorem o9:I.agg [.int .i64 0,.int .i64 0,.int .i64 0,.int .i64 0,.int .i64 0,.int .i64 0]=enc lW:=rfl
instance:oU cu:=⟨fun g=>by
 show (I.agg [.int .i64 g.bU,enc g.mark]).cY=true
 simp only[I.cY,I.jF,EV,zw7]⟩
def fX:cu:=⟨0,lW⟩
theorem xa:I.agg [.int .i64 0,.agg [.int .i64 0,.int .i64 0,.int .i64 0,.int .i64 0,.int .i64 0,.int .i64 0]]=enc fX:=rfl
theorem nw(p:Nat→Bool)(l:List cu):(I.agg (l.map enc)).only p=true:=by simp only[I.only];exact c9 p l
theorem amP(l:List cu):(I.agg (l.map enc)).cY=true:=by simp only[I.cY];exact uu l
def jo(k:Nat)(l:List cu)(m:Nat):List (Nat×ah):=[(k,.box (.agg ((l++List.replicate m fX).map enc)))]
def wN(l:List cu):cO:=fun r os'=>(l=[]∧(r=.nils 7∨r=.c0 7)∧os'=[])∨(l≠[]∧∃ m,r=.view 7 [] 7 0 l.length∧os'=jo 7 l m)
theorem A8(l:List cu)(hl:l.length≤1000):cF Tryz.prog 167 [enc l] [] (wN l):=by
 refine cF.bp Tryz.func167 UO WO Y4 (t7 rfl) (t7 rfl) (fun m hm=>by simp[aq,ao] at hm) (fun hwf W0 D0 E1 =>?_);simp only[CL,OK,bl];refine .ar (by decide +kernel) fun K hK =>?_;simp only[Ie,ab,simprocAttr];refine .done (hK _ ?_);clear hK K;refine U.seq (U.seq ?_);by_cases hn:l=[]
 ·subst hn;refine .bx (by decide +kernel) fun K hK =>?_;simp only[xS,ab,simprocAttr];simp only[vA,List.isEmpty_nil,qM];refine .any rfl fun b _ =>?_
  try simp only[ab,simprocAttr]
  generalize (b==0)=t;cases t
  ·refine .done (hK _ ?_);clear hK K;try simp only[au]
   refine U.bL ?_;simp only[al,ab,simprocAttr];refine ⟨fun h =>?_,fun h =>?_⟩
   ·cases h
   refine U.skip ?_;try simp only[au,simprocAttr]
   refine .ar (by decide +kernel) fun K hK =>?_;simp only[xT,ab,simprocAttr]
   try simp only[cL,xa,ab,simprocAttr]
   refine .done (hK _ ?_);clear hK K;refine U.ret ?_;simp only[eA];exact ⟨[],[.c0 7],pj,⟨⟨.c0 7,rfl,.inl ⟨rfl,rfl,rfl⟩⟩,trivial⟩,.inl ⟨rfl,.inr rfl,rfl⟩⟩
  ·refine .done (hK _ ?_);clear hK K;refine U.bL ?_;simp only[al,ab,simprocAttr];refine ⟨fun h =>?_,fun h =>?_⟩
   ·refine .ar (by decide +kernel) fun K hK =>?_;simp only[If,ab,simprocAttr];refine .done (hK _ ?_);clear hK K;refine U.ret ?_;simp only[au,eA];exact ⟨[],[.nils 7],pj,⟨⟨.nils 7,rfl,.inl ⟨rfl,rfl,rfl⟩⟩,trivial⟩,.inl ⟨rfl,.inl rfl,rfl⟩⟩
   ·cases h
 ·have hu:kK (enc l)=false:=by rw[vA];simpa using hn
  refine .bx (by decide +kernel) fun K hK =>?_;simp only[xS,ab,simprocAttr]
  try simp only[hu,MN _ l hn,ab,simprocAttr]
  refine .done (hK _ ?_);clear hK K;try simp only[au]
  refine U.bL ?_;simp only[al,ab,simprocAttr];refine ⟨fun h =>?_,fun h =>?_⟩
  ·cases h
  refine U.skip ?_;try simp only[au,simprocAttr]
  refine .ar (by decide +kernel) fun K hK =>?_;simp only[xT,ab,simprocAttr]
  try simp only[cL,xa,ab,simprocAttr]
  refine bn.v8 fX rfl hn rfl (by omega) (by simp only[maxLen];omega) fun m =>?_
  try simp only[ab,simprocAttr]
  refine .done (hK _ ?_);clear hK K;refine U.ret ?_;simp only[eA];exact ⟨jo 7 l m,[.view 7 [] 7 0 l.length],iE rfl (fun p=>nw p _),⟨⟨_,rfl,.inl ⟨rfl,rfl,rfl⟩⟩,trivial⟩,.inr ⟨hn,m,rfl,rfl⟩⟩
def iA{n:Nat}(x:aX n Int)(k:Nat)(v:Int):aX n Int:=⟨x.l.set k v,by simp[x.h]⟩
theorem pg{n:Nat}(x:aX n Int)(k j:Nat)(v:Int)(h:k<n):(iA x k v).g j=if k=j then v else x.g j:=by
 simp only[aX.g,iA,zz0,List.getElem?_set];by_cases hkj:k=j
 ·subst hkj;simp[x.lt h]
 ·simp[hkj]
theorem apD{n k:Nat}(x:aX n Int)(h:k<n)(v:Int):(enc x:I).dS [k] (.int .i64 v)=enc (iA x k v):=by
 have h1:(enc x:I).dD=some (x.l.map enc):=rfl;rw[Qo,h1];simp only[sJ,od x h,vt,fT]
 change I.agg _=I.agg ((x.l.set k v).map enc)
 rw[List.map_set];rfl
theorem pU{A:af}{n m k:Nat}(x:aX m Int)(h:k<m){v u:Int}{rest:List aE} : dT A none n [k] (enc x) (.int .i64 v) rest (some (.int .i64 u))=aF rest (A.aU n (.box (enc (iA x k v)))):=by
 rw[eG (s:=none) (v:=.int .i64 v) (old:=.int .i64 u) rfl rfl rfl,apD x h]
def iH(n:Int):Nat→Int
 |0=>n
 |k+1=>(iH n k).tdiv 5
def kQ(n:Int):Nat→aX 6 Int
 |0=>lW
 |k+1=>iA (kQ n k) (5-k) ((iH n k).tmod 5)
theorem ML(n:Int)(h:-9223372036854775808≤n∧n≤9223372036854775807):∀ k,-9223372036854775808≤iH n k∧iH n k≤9223372036854775807
 |0=>h
 |k+1=>by
  have:=ML n h k;simp only[iH];rcases Int.le_total 0 (iH n k) with h0 | h0
  ·rw[Int.tdiv_eq_ediv_of_nonneg h0];omega
  ·have:(iH n k).tdiv 5=-((-(iH n k)) / 5):=by
    rw[←Int.tdiv_eq_ediv_of_nonneg (by omega),Int.neg_tdiv,Int.neg_neg]
   omega
theorem Ss(n:Int):aA Tryz.prog 86 [enc n] (enc (kQ n 6)):=by
 refine aA.bp Tryz.func86 VK XO Z1 (t7 rfl) (fun hwf W0 D0 E1 =>?_);simp only[DL,PI,bl];have hin:=ML n ((aqt n).1 hwf.1);have h5:¬ (5:Int)=0:=by decide
 refine .ar (by decide +kernel) fun K hK =>?_;simp only[KX,ab,simprocAttr];refine .done (hK _ ?_);clear hK K;refine .ar (by decide +kernel) fun K hK =>?_;simp only[KY,ab,simprocAttr];simp only[o9];refine .done (hK _ ?_);clear hK K;refine U.seq (U.seq ?_);refine .bx (by decide +kernel) fun K hK =>?_;simp only[KZ,ab,simprocAttr];refine .done (hK _ ?_);clear hK K;try simp only[au]
 refine U.block (U.loop (fun k:Nat=>aw [(0,.int .i64 (iH n k)),(2,.ptr 2 []),(3,.ptr 3 []),(4,.int .i64 (5-k))] [(2,.box (enc lW)),(3,.box (enc (kQ n k)))]) (fun k=>k≤6) (fun k=>6-k) 0 (by omega) ?_ (fun k hk =>?_))
 ·refine aB.bE ?_ ?_ ?_ ?_ <;>simp[aQ,bt,br,aY,aq,aS,bT,I.only,ah.only,bg]
  all_goals rfl
 refine U.seq (U.seq ?_);refine .bx (by decide +kernel) fun K hK =>?_;simp only[K0,ab,simprocAttr];refine .done (hK _ ?_);clear hK K;try simp only[au]
 refine U.bL ?_;simp only[al,ab,simprocAttr];refine ⟨fun h =>?_,fun h =>?_⟩
 ·have hlt:k<6:=by simp at h;omega
  have hd:=hin k;have e1:((5:Int)-k).toNat=5-k:=by omega
  have hlt':5-k<6:=by omega
  refine U.skip ?_;try simp only[au,simprocAttr]
  refine U.seq (U.block ?_);refine .ar (by decide +kernel) fun K hK =>?_;simp only[K1,ab,simprocAttr]
  try simp only[aZ,gh 1 (kQ n k) (show (0:Int)≤5-k∧(5:Int)-k<(6:Nat) by omega) rfl,e1,eL (kQ n k) hlt',pU (kQ n k) hlt',ab,simprocAttr]
  refine .done (hK _ ?_);clear hK K;refine .bx (by decide +kernel) fun K hK =>?_;simp only[K2,ab,simprocAttr]
  try simp only[h5,ab,simprocAttr]
  refine .done (hK _ ?_);clear hK K;try simp only[au,bP]
  refine .bx (by decide +kernel) fun K hK =>?_;simp only[K3,ab,simprocAttr];refine .done (hK _ ?_);clear hK K;try simp only[au]
  refine ⟨k+1,by omega,by omega,?_⟩;have hq:=hin (k+1);simp only[iH] at hq;rw[cG _ (by omega) (by omega),cG _ hq.1 hq.2];have e2:(5:Int)-k-1=5-((k+1:Nat):Int):=by omega
  rw[e2];simp only[iH,kQ];refine aB.bE ?_ ?_ ?_ ?_ <;>simp[aQ,bt,br,aY,aq,aS,bT,I.only,ah.only,bg]
 ·have hge:k=6:=by simp at h;omega
  subst hge;refine U.exit ?_;try simp only[au,bP,simprocAttr]
  refine .ar (by decide +kernel) fun K hK =>?_;simp only[K4,ab,simprocAttr]
  try simp only[cI,ab,simprocAttr]
  rw[eG (du _) (by rw[fW];rfl) ((eT _).trans (eT _).symm)]
  try simp only[ab,simprocAttr]
  refine .done (hK _ ?_);clear hK K;refine U.ret ?_;simp only[ab,simprocAttr]
  try simp only[cI,cN,ab,simprocAttr]
theorem yN{A:af}{l:List Int}{i:Nat}(h:i<l.length):jh A 1 (i:Int) (enc l)=some (.ref (.int .i64 (l.getD i 0))):=by
 rw[fm 1 h rfl];simp[zz0,h,ig]
theorem ze{w:Int}{k:Nat}(h:iB w k=true):∀ n,k<n→(k:Int)∈iq w n
 |0,h=>absurd h (by omega)
 |n+1,hk=>by
  simp only[iq,zy5];rcases Nat.lt_or_ge k n with h1 | h1
  ·exact .inl (ze h n h1)
  ·have:k=n:=by omega
   subst this
   right;simp[h]
theorem zc{w:Int} : ∀ n,∀ x∈iq w n,0≤x∧x<n
 |0=>by simp[iq]
 |n+1=>by
  intro x hx;simp only[iq,zy5] at hx;rcases hx with hx | hx
  ·have:=zc n x hx;omega
  ·split at hx
   ·simp only[zu6] at hx;omega
   ·cases hx
theorem Nh{w:aX 5 Int}(h:iK w=true){k:Nat}(hk:k<5):(0≤w.g k∧w.g k≤31)∧iB (w.g k) k=true:=by
 simp only[iK,zx3,zw4,zz3] at h;have:=h k hk;simp only[b7,zz3,decide_eq_true_eq] at this;exact this
def me(cuts:List Int)(i n:Nat):Nat:=if 0<cuts.length then (((cuts.getD (i%cuts.length) 0).tmod n+n).tmod n).toNat else 0
def jN(w:aX 5 Int)(a:aX 6 Int)(i:Nat):List Int:=iq (w.g (a.g i).toNat) 5
def sQ(w:aX 5 Int)(a:aX 6 Int)(cuts:List Int)(i:Nat):Int:=shl 1 ((jN w a i).getD (me cuts i (jN w a i).length) 0).toNat
def kM(w:aX 5 Int)(a:aX 6 Int)(cuts:List Int):Nat→aX 6 Int
 |0=>lW
 |i+1=>iA (kM w a cuts i) i (sQ w a cuts i)
def p5(w:aX 5 Int)(a:aX 6 Int)(cuts:List Int):aX 6 Int×Int:=if iK w then (if ee a then (kM w a cuts 6,0) else (lW,10)) else (lW,11)
theorem EE(cuts:List Int)(i:Nat){n:Nat}(hn:0<n):me cuts i n<n:=by
 unfold me;split
 ·have h1:-(n:Int)<(cuts.getD (i%cuts.length) 0).tmod n:=by
   have:=Int.tmod_lt_of_pos (-(cuts.getD (i%cuts.length) 0)) (show (0:Int)<n by omega);rw[Int.neg_tmod] at this;omega
  have h2:=Int.tmod_lt_of_pos ((cuts.getD (i%cuts.length) 0).tmod n+n) (show (0:Int)<n by omega);have h3:0≤((cuts.getD (i%cuts.length) 0).tmod n+n).tmod n:=Int.tmod_nonneg _ (by omega);omega
 ·exact hn
structure Item where
 fc:Int
 no:Int
 deriving DecidableEq
instance:Enc Item where
 enc x:=.agg [.int .i64 x.fc,.int .i64 x.no]
 sz:=2
 aV:=.ez [.one,.one]
 gM:=true
 done _:=rfl
 size _:=by simp[I.size,I.sizes]
 lp _:=by simp[I.aV,I.cT]
 agg _:=rfl
structure ak where
 bd:Item
 kind:Int
 day:Int
 known:Int
 eD:Int
 fg:Int
 dF:Int
 bU:Int
 bS:aX 6 Int
 kC:Item
instance:Enc ak where
 enc e:=.agg [enc e.bd,.int .i64 e.kind,.int .i64 e.day,.int .i64 e.known,.int .i64 e.eD,.int .i64 e.fg,.int .i64 e.dF,.int .i64 e.bU,enc e.bS,enc e.kC]
 sz:=17
 aV:=.ez [.ez [.one,.one],.one,.one,.one,.one,.one,.one,.one,.ez (List.replicate 6 .one),.ez [.one,.one]]
 gM:=true
 done e:=by simp only[I.done,I.eY,Enc.done,zw7]
 size e:=by simp only[I.size,I.sizes,gG,lE,lF];rfl
 lp e:=by simp only[I.aV,I.cT,eT,tE,tF];rfl
 agg _:=rfl
structure aP where
 no:Int
 dF:Int
 fg:Int
 bU:Int
 ju:Int
 born:Int
 dW:Int
 found:Bool
 bS:List (aX 6 Int)
instance:Enc aP where
 enc b:=.agg [.int .i64 b.no,.int .i64 b.dF,.int .i64 b.fg,.int .i64 b.bU,.int .i64 b.ju,.int .i64 b.born,.int .i64 b.dW,.bool b.found,enc b.bS]
 sz:=9
 aV:=.ez [.one,.one,.one,.one,.one,.one,.one,.one,.one]
 gM:=true
 done e:=by simp only[I.done,I.eY,Enc.done,zw7]
 size e:=by simp only[I.size,I.sizes,gG,xc]
 lp e:=by simp only[I.aV,I.cT,eT,EX]
 agg _:=rfl
theorem qn:Enc.sz Item=2:=rfl
theorem abK:Enc.sz ak=17:=rfl
theorem EY:Enc.sz aP=9:=rfl
theorem abH:Enc.gM Item=true:=rfl
theorem abG:Enc.gM ak=true:=rfl
theorem abF:Enc.gM aP=true:=rfl
theorem amf(fs:List I)(x:I):(x::fs)[0]?=some x:=rfl
theorem amp(fs:List I)(x:I)(n:Nat):(x::fs)[n+1]?=fs[n]?:=rfl
theorem amg(fs:List I)(x:I):(x::fs)[1]?=fs[0]?:=rfl
theorem amh(fs:List I)(x:I):(x::fs)[2]?=fs[1]?:=rfl
theorem ami(fs:List I)(x:I):(x::fs)[3]?=fs[2]?:=rfl
theorem amj(fs:List I)(x:I):(x::fs)[4]?=fs[3]?:=rfl
theorem amk(fs:List I)(x:I):(x::fs)[5]?=fs[4]?:=rfl
theorem aml(fs:List I)(x:I):(x::fs)[6]?=fs[5]?:=rfl
theorem amm(fs:List I)(x:I):(x::fs)[7]?=fs[6]?:=rfl
theorem amn(fs:List I)(x:I):(x::fs)[8]?=fs[7]?:=rfl
theorem amo(fs:List I)(x:I):(x::fs)[9]?=fs[8]?:=rfl
theorem an8(x:I)(fs:List I)(v:I):er (x::fs) 0 0 v=some v:=mH (by simp) (by simp[I.sizes])
theorem MZ(a b:Item)(n1 n2 n3 n4 n5 n6 n7:Int)(s:aX 6 Int)(v:I) :
  (er [enc a,.int .i64 n1,.int .i64 n2,.int .i64 n3,.int .i64 n4,.int .i64 n5,.int .i64 n6,.int .i64 n7,enc s,enc b] 1 2 v=some v) ∧
  (er [enc a,.int .i64 n1,.int .i64 n2,.int .i64 n3,.int .i64 n4,.int .i64 n5,.int .i64 n6,.int .i64 n7,enc s,enc b] 2 3 v=some v) ∧
  (er [enc a,.int .i64 n1,.int .i64 n2,.int .i64 n3,.int .i64 n4,.int .i64 n5,.int .i64 n6,.int .i64 n7,enc s,enc b] 3 4 v=some v) ∧
  (er [enc a,.int .i64 n1,.int .i64 n2,.int .i64 n3,.int .i64 n4,.int .i64 n5,.int .i64 n6,.int .i64 n7,enc s,enc b] 4 5 v=some v) ∧
  (er [enc a,.int .i64 n1,.int .i64 n2,.int .i64 n3,.int .i64 n4,.int .i64 n5,.int .i64 n6,.int .i64 n7,enc s,enc b] 5 6 v=some v) ∧
  (er [enc a,.int .i64 n1,.int .i64 n2,.int .i64 n3,.int .i64 n4,.int .i64 n5,.int .i64 n6,.int .i64 n7,enc s,enc b] 6 7 v=some v) ∧
  (er [enc a,.int .i64 n1,.int .i64 n2,.int .i64 n3,.int .i64 n4,.int .i64 n5,.int .i64 n6,.int .i64 n7,enc s,enc b] 7 8 v=some v) ∧
  (er [enc a,.int .i64 n1,.int .i64 n2,.int .i64 n3,.int .i64 n4,.int .i64 n5,.int .i64 n6,.int .i64 n7,enc s,enc b] 8 9 v=some v) ∧
  (er [enc a,.int .i64 n1,.int .i64 n2,.int .i64 n3,.int .i64 n4,.int .i64 n5,.int .i64 n6,.int .i64 n7,enc s,enc b] 9 15 v=some v):=by
 refine ⟨?_,?_,?_,?_,?_,?_,?_,?_,?_⟩ <;>refine mH (t7 rfl) ?_ <;>simp[I.sizes,I.size,gG,qn,lE,lF]
theorem an7(n1 n2:Int)(v:I):er [.int .i64 n1,.int .i64 n2] 1 1 v=some v:=mH (t7 rfl) (by simp[I.sizes,I.size])
theorem qP(n0 n1 n2 n3 n4 n5 n6:Int)(f:Bool)(x:I)(v:I) :
  (er [.int .i64 n0,.int .i64 n1,.int .i64 n2,.int .i64 n3,.int .i64 n4,.int .i64 n5,.int .i64 n6,.bool f,x] 1 1 v=some v) ∧
  (er [.int .i64 n0,.int .i64 n1,.int .i64 n2,.int .i64 n3,.int .i64 n4,.int .i64 n5,.int .i64 n6,.bool f,x] 2 2 v=some v) ∧
  (er [.int .i64 n0,.int .i64 n1,.int .i64 n2,.int .i64 n3,.int .i64 n4,.int .i64 n5,.int .i64 n6,.bool f,x] 3 3 v=some v) ∧
  (er [.int .i64 n0,.int .i64 n1,.int .i64 n2,.int .i64 n3,.int .i64 n4,.int .i64 n5,.int .i64 n6,.bool f,x] 4 4 v=some v) ∧
  (er [.int .i64 n0,.int .i64 n1,.int .i64 n2,.int .i64 n3,.int .i64 n4,.int .i64 n5,.int .i64 n6,.bool f,x] 5 5 v=some v) ∧
  (er [.int .i64 n0,.int .i64 n1,.int .i64 n2,.int .i64 n3,.int .i64 n4,.int .i64 n5,.int .i64 n6,.bool f,x] 6 6 v=some v) ∧
  (er [.int .i64 n0,.int .i64 n1,.int .i64 n2,.int .i64 n3,.int .i64 n4,.int .i64 n5,.int .i64 n6,.bool f,x] 7 7 v=some v) ∧
  (er [.int .i64 n0,.int .i64 n1,.int .i64 n2,.int .i64 n3,.int .i64 n4,.int .i64 n5,.int .i64 n6,.bool f,x] 8 8 v=some v):=by
 refine ⟨?_,?_,?_,?_,?_,?_,?_,?_⟩ <;>refine mH (t7 rfl) ?_ <;>simp[I.sizes,I.size]
theorem ab1(x:Item):(enc x).dD=some [.int .i64 x.fc,.int .i64 x.no]:=rfl
theorem ab0(e:ak):(enc e).dD=some [enc e.bd,.int .i64 e.kind,.int .i64 e.day,.int .i64 e.known,.int .i64 e.eD,.int .i64 e.fg,.int .i64 e.dF,.int .i64 e.bU,enc e.bS,enc e.kC]:=rfl
theorem abZ(b:aP):(enc b).dD=some [.int .i64 b.no,.int .i64 b.dF,.int .i64 b.fg,.int .i64 b.bU,.int .i64 b.ju,.int .i64 b.born,.int .i64 b.dW,.bool b.found,enc b.bS]:=rfl
theorem Nk(x:Item):cj (some 2) (enc x)=true:=by simp[fW,abH,qn]
theorem Nj(x:ak):cj (some 17) (enc x)=true:=by simp[fW,abG,abK]
theorem aon(x:aP):cj (some 9) (enc x)=true:=by simp[fW,abF,EY]
theorem Ni(x:aX 6 Int):cj (some 6) (enc x)=true:=by simp[fW,xb,lE,lF]
theorem aoo(x:List ak):cj none (enc x)=true:=by simp[nj,oa]
theorem aop(x:List Int):cj none (enc x)=true:=by simp[nj,oa]
theorem aor(x:List (aX 6 Int)):cj none (enc x)=true:=by simp[nj,oa]
theorem aoq(x:List Item):cj none (enc x)=true:=by simp[nj,oa]
theorem ru :
  (∀ x:Item,(enc x).dD=some [.int .i64 x.fc,.int .i64 x.no])∧(∀ e:ak,(enc e).dD=some [enc e.bd,.int .i64 e.kind,.int .i64 e.day,.int .i64 e.known,.int .i64 e.eD,.int .i64 e.fg,.int .i64 e.dF,.int .i64 e.bU,enc e.bS,enc e.kC]) ∧
  (∀ b:aP,(enc b).dD=some [.int .i64 b.no,.int .i64 b.dF,.int .i64 b.fg,.int .i64 b.bU,.int .i64 b.ju,.int .i64 b.born,.int .i64 b.dW,.bool b.found,enc b.bS]) ∧
  (∀ (x:I) fs v,er (x::fs) 0 0 v=some v)∧(∀ n1 n2 v,er [.int .i64 n1,.int .i64 n2] 1 1 v=some v) ∧
  (∀ x:Item,cj (some 2) (enc x)=true)∧(∀ x:ak,cj (some 17) (enc x)=true)∧(∀ x:aP,cj (some 9) (enc x)=true)∧(∀ x:aX 6 Int,cj (some 6) (enc x)=true)∧(∀ x:List ak,cj none (enc x)=true)∧(∀ x:List Int,cj none (enc x)=true) ∧
  (∀ x:List (aX 6 Int),cj none (enc x)=true)∧(∀ x:List Item,cj none (enc x)=true) ∧
  (∀ (fs:List I) x,(x::fs)[0]?=some x)∧(∀ (fs:List I) x n,(x::fs)[n+1]?=fs[n]?)∧(∀ (fs:List I) x,(x::fs)[1]?=fs[0]?)∧(∀ (fs:List I) x,(x::fs)[2]?=fs[1]?)∧(∀ (fs:List I) x,(x::fs)[3]?=fs[2]?)∧(∀ (fs:List I) x,(x::fs)[4]?=fs[3]?) ∧
  (∀ (fs:List I) x,(x::fs)[5]?=fs[4]?)∧(∀ (fs:List I) x,(x::fs)[6]?=fs[5]?)∧(∀ (fs:List I) x,(x::fs)[7]?=fs[6]?)∧(∀ (fs:List I) x,(x::fs)[8]?=fs[7]?)∧(∀ (fs:List I) x,(x::fs)[9]?=fs[8]?) :=
 ⟨ab1,ab0,abZ,fun x fs v=>an8 x fs v,an7,Nk,Nj,aon,Ni,aoo,aop,aor,aoq,amf,amp,amg,amh,ami,amj,amk,aml,amm,amn,amo⟩
theorem Item.xi(a b:Item):a=b↔a.fc=b.fc∧a.no=b.no:=by cases a;cases b;simp
theorem rT(x y:Item):cw (.bu [.i .i64,.i .i64]) (enc x) (enc y)=some (decide (x=y)):=by
 show cw (.bu [.i .i64,.i .i64]) (.agg [.int .i64 x.fc,.int .i64 x.no]) (.agg [.int .i64 y.fc,.int .i64 y.no])=_
 simp[cw,jz,ja,Item.xi];rfl
theorem A9(x:Int):aA Tryz.prog 194 [enc x] (enc false):=by
 refine aA.bp Tryz.func194 U0 W4 Zh (t7 rfl) (fun hwf W0 D0 E1 =>?_);simp only[CY,OX,bl];refine .ar (by decide +kernel) fun K hK =>?_;simp only[IC,ab,simprocAttr];refine .done (hK _ ?_);clear hK K;refine .ar (by decide +kernel) fun K hK =>?_;simp only[ID,ab,simprocAttr];refine .done (hK _ ?_);clear hK K;refine U.ret ?_;simp only[ab,simprocAttr];simp
def jX(x y:Int):Int:=if x<y then -1 else if y<x then 1 else 0
theorem A6(x y:Int):aA Tryz.prog 159 [enc x,enc y] (enc (jX x y)):=by
 refine aA.bp Tryz.func159 UF WE YV (t7 rfl) (fun hwf W0 D0 E1 =>?_);simp only[CC,OB,bl,zz4];refine .ar (by decide +kernel) fun K hK =>?_;simp only[HG,ab,simprocAttr];refine .done (hK _ ?_);clear hK K;refine .ar (by decide +kernel) fun K hK =>?_;simp only[HI,ab,simprocAttr];refine .flat _ (A9 x) rfl ?_
 try simp only[ab,simprocAttr]
 refine .done (hK _ ?_);clear hK K;refine .ar (by decide +kernel) fun K hK =>?_;simp only[HN,ab,simprocAttr];refine .flat _ (A9 y) rfl ?_
 try simp only[ab,simprocAttr]
 refine .done (hK _ ?_);clear hK K;refine U.seq ?_;refine .ar (by decide +kernel) fun K hK =>?_;simp only[HO,ab,simprocAttr];refine .done (hK _ ?_);clear hK K;refine U.bL ?_;simp only[al,ab,simprocAttr];refine ⟨fun h =>?_,fun h =>?_⟩
 ·cases h
 refine U.skip ?_;try simp only[au,simprocAttr]
 refine U.seq ?_;refine .ar (by decide +kernel) fun K hK =>?_;simp only[HP,ab,simprocAttr];refine .done (hK _ ?_);clear hK K;refine U.bL ?_;simp only[al,ab,simprocAttr];refine ⟨fun h =>?_,fun h =>?_⟩
 ·cases h
 refine U.skip ?_;try simp only[au,simprocAttr]
 refine U.seq ?_;refine .ar (by decide +kernel) fun K hK =>?_;simp only[HQ,ab,simprocAttr];refine .done (hK _ ?_);clear hK K;refine U.bL ?_;simp only[al,ab,simprocAttr];refine ⟨fun h =>?_,fun h =>?_⟩
 ·refine .ar (by decide +kernel) fun K hK =>?_;simp only[HJ,ab,simprocAttr];refine .done (hK _ ?_);clear hK K;refine U.ret ?_;simp only[au,ab,simprocAttr];have:x<y:=by simpa using h
  simp[jX,this]
 have h1:¬ x<y:=by simpa using h
 refine U.skip ?_;try simp only[au,simprocAttr]
 refine U.seq ?_;refine .ar (by decide +kernel) fun K hK =>?_;simp only[HK,ab,simprocAttr];refine .done (hK _ ?_);clear hK K;refine U.bL ?_;simp only[al,ab,simprocAttr];refine ⟨fun h =>?_,fun h =>?_⟩
 ·refine .ar (by decide +kernel) fun K hK =>?_;simp only[HL,ab,simprocAttr];refine .done (hK _ ?_);clear hK K;refine U.ret ?_;simp only[au,ab,simprocAttr];have:y<x:=by simpa using h
  simp[jX,this,h1]
 have h2:¬ y<x:=by simpa using h
 refine U.skip ?_;try simp only[au,simprocAttr]
 refine .ar (by decide +kernel) fun K hK =>?_;simp only[HM,ab,simprocAttr];refine .done (hK _ ?_);clear hK K;refine U.ret ?_;simp only[ab,simprocAttr];simp[jX,h1,h2]
theorem BQ(a b:Int):dN [.int .i64 0,.int .i64 0] [(0,.int .i64 a),(1,.int .i64 b)]=some [.int .i64 a,.int .i64 b]:=by simp[dN,I.cq,I.size]
theorem mZ(n lo hi:Int):aA Tryz.prog 114 [enc n,enc lo,enc hi] (enc (b7 lo hi n)):=by
 refine aA.bp Tryz.func114 T6 V4 Yl (t7 rfl) (fun hwf W0 D0 E1 =>?_);simp only[B1,NX,bl,zz4,Nat.reduceAdd];refine .ar (by decide +kernel) fun K hK =>?_;simp only[F6,ab,simprocAttr];refine .done (hK _ ?_);clear hK K;refine .ar (by decide +kernel) fun K hK =>?_;simp only[F7,ab,simprocAttr];refine .guard (fun h =>?_) (fun h =>?_)
 ·simp only[ab,simprocAttr,h];refine .done (hK _ ?_);clear hK K;refine U.ret ?_;simp only[ab,simprocAttr]
  simp_all[b7]
 ·simp only[ab,simprocAttr,h];refine .done (hK _ ?_);clear hK K;refine U.ret ?_;simp only[ab,simprocAttr];simp at h;simp[b7];omega
def ou(x:Item):Bool:=b7 0 5 x.fc&&b7 0 9999 x.no
theorem vN(n:Int):aA Tryz.prog 127 [enc n] (enc (b7 0 100000 n)):=by
 refine aA.bp Tryz.func127 Uh Wf Yw (t7 rfl) (fun hwf W0 D0 E1 =>?_);simp only[Cd,N8,bl];refine .ar (by decide +kernel) fun K hK =>?_;simp only[Gy,ab,simprocAttr];refine .done (hK _ ?_);clear hK K;refine .ar (by decide +kernel) fun K hK =>?_;simp only[Gz,ab,simprocAttr];refine .flat _ (mZ n 0 100000) rfl ?_
 try simp only[ab,simprocAttr]
 refine .done (hK _ ?_);clear hK K;refine U.ret ?_;simp only[ab,simprocAttr]
theorem RF(n:Int):aA Tryz.prog 154 [enc n] (enc (b7 1 9999 n)):=by
 refine aA.bp Tryz.func154 UA Wz YQ (t7 rfl) (fun hwf W0 D0 E1 =>?_);simp only[Cx,Ow,bl];refine .ar (by decide +kernel) fun K hK =>?_;simp only[Hn,ab,simprocAttr];refine .done (hK _ ?_);clear hK K;refine .ar (by decide +kernel) fun K hK =>?_;simp only[Ho,ab,simprocAttr];refine .flat _ (mZ n 1 9999) rfl ?_
 try simp only[ab,simprocAttr]
 refine .done (hK _ ?_);clear hK K;refine U.ret ?_;simp only[ab,simprocAttr]
theorem RG(n:Int):aA Tryz.prog 155 [enc n] (enc (b7 1 9 n)):=by
 refine aA.bp Tryz.func155 UB WA YR (t7 rfl) (fun hwf W0 D0 E1 =>?_);simp only[Cy,Ox,bl];refine .ar (by decide +kernel) fun K hK =>?_;simp only[Hp,ab,simprocAttr];refine .done (hK _ ?_);clear hK K;refine .ar (by decide +kernel) fun K hK =>?_;simp only[Hq,ab,simprocAttr];refine .flat _ (mZ n 1 9) rfl ?_
 try simp only[ab,simprocAttr]
 refine .done (hK _ ?_);clear hK K;refine U.ret ?_;simp only[ab,simprocAttr]
theorem RH(n:Int):aA Tryz.prog 156 [enc n] (enc (b7 1 99 n)):=by
 refine aA.bp Tryz.func156 UC WB YS (t7 rfl) (fun hwf W0 D0 E1 =>?_);simp only[Cz,Oy,bl];refine .ar (by decide +kernel) fun K hK =>?_;simp only[Hr,ab,simprocAttr];refine .done (hK _ ?_);clear hK K;refine .ar (by decide +kernel) fun K hK =>?_;simp only[Hs,ab,simprocAttr];refine .flat _ (mZ n 1 99) rfl ?_
 try simp only[ab,simprocAttr]
 refine .done (hK _ ?_);clear hK K;refine U.ret ?_;simp only[ab,simprocAttr]
theorem AV(x:Item):aA Tryz.prog 115 [enc x] (enc (ou x)):=by
 refine aA.bp Tryz.func115 T7 V5 Ym (t7 rfl) (fun hwf W0 D0 E1 =>?_);simp only[B3,NY,bl];refine .ar (by decide +kernel) fun K hK =>?_;simp only[F8,ab,simprocAttr]
 try simp only[du,ab,simprocAttr]
 refine .done (hK _ ?_);clear hK K;refine .ar (by decide +kernel) fun K hK =>?_;simp only[F9,ab,simprocAttr]
 try simp only[ru,ab,simprocAttr]
 refine .flat _ (mZ x.fc 0 5) rfl ?_
 try simp only[ab,simprocAttr]
 cases h1:b7 0 5 x.fc with
 |false =>
  try simp only[ab,simprocAttr]
  refine .done (hK _ ?_);clear hK K;refine U.ret ?_;simp only[ab,simprocAttr];simp[ou,h1]
 |true =>
  try simp only[ru,ab,simprocAttr]
  refine .flat _ (mZ x.no 0 9999) rfl ?_
  try simp only[ab,simprocAttr]
  refine .done (hK _ ?_);clear hK K;refine U.ret ?_;simp only[ab,simprocAttr];simp[ou,h1]
def before(a b:Item):Bool:=decide (a.fc<b.fc)||(decide (a.fc=b.fc)&&decide (a.no<b.no))
def mI:List Int→Int
 | []=>0
 |x::l=>if x≠0 then x else mI l
theorem Nz{l:List Int}{i:Nat}(hi:i≤l.length)(h:∀ k,k<i→l.getD k 0=0):mI (l.drop i)=mI l:=by
 induction i with
 |zero=>simp
 |succ i ih =>
  have hlt:i<l.length:=by omega
  rw[←ih (by omega) (fun k hk=>h k (by omega)),zv8 hlt];have:=h i (by omega);rw[zz0,zy0 hlt] at this;simp at this;simp[mI,this]
theorem RI(l:List Int):aA Tryz.prog 158 [enc l] (enc (mI l)):=by
 refine aA.bp Tryz.func158 UE WD YU (t7 rfl) (fun hwf W0 D0 E1 =>?_);simp only[CB,OA,bl];have hlen:l.length≤maxLen:=((kL l).1 hwf.1).1;simp only[maxLen] at hlen;refine .ar (by decide +kernel) fun K hK =>?_;simp only[Hx,ab,simprocAttr];refine .done (hK _ ?_);clear hK K;refine .ar (by decide +kernel) fun K hK =>?_;simp only[Hy,ab,simprocAttr];refine .done (hK _ ?_);clear hK K;refine U.seq (U.seq ?_);refine .bx (by decide +kernel) fun K hK =>?_;simp only[Hz,ab,simprocAttr]
 try simp only[aZ,ab,simprocAttr]
 refine .done (hK _ ?_);clear hK K;try simp only[au]
 refine U.block (U.loop (fun i:Nat=>aw [(3,.int .i64 0),(6,enc l),(7,.int .i64 l.length),(8,.int .i64 i)] []) (fun i=>i≤l.length∧∀ k,k<i→l.getD k 0=0) (fun i=>l.length-i) 0 ⟨zw3 _,by intro k hk;omega⟩ ?_ (fun i hi =>?_))
 ·refine aB.bE ?_ ?_ ?_ ?_ <;>simp[aQ,bt,br,aY,aS,I.only,bg]
 refine .ar (by decide +kernel) fun K hK =>?_;simp only[HA,ab,simprocAttr];refine .done (hK _ ?_);clear hK K;refine U.seq ?_;refine U.bL ?_;simp only[al,ab,simprocAttr];refine ⟨fun h =>?_,fun h =>?_⟩
 ·have hlt:i<l.length:=by simpa using h
  refine U.skip ?_;try simp only[au,simprocAttr]
  refine U.seq (U.block ?_);refine .ar (by decide +kernel) fun K hK =>?_;simp only[HB,ab,simprocAttr]
  try simp only[fm 1 hlt rfl,ab,simprocAttr]
  refine .done (hK _ ?_);clear hK K;refine U.seq ?_;refine .bx (by decide +kernel) fun K hK =>?_;simp only[HC,ab,simprocAttr];refine .done (hK _ ?_);clear hK K;try simp only[au]
  refine U.bL ?_;simp only[al,ab,simprocAttr];refine ⟨fun h =>?_,fun h =>?_⟩
  ·refine .ar (by decide +kernel) fun K hK =>?_;simp only[HD,ab,simprocAttr];refine .done (hK _ ?_);clear hK K;refine U.ret ?_;simp only[bP,au,ab,simprocAttr];rw[←Nz hi.1 hi.2,zv8 hlt];simp at h;simp[mI,h]
  ·refine U.skip ?_;try simp only[au,bP,simprocAttr]
   refine .bx (by decide +kernel) fun K hK =>?_;simp only[HE,ab,simprocAttr];refine .done (hK _ ?_);clear hK K;try simp only[au]
   refine ⟨i+1,⟨by omega,fun k hk =>?_⟩,by omega,?_⟩
   ·by_cases e:k=i
    ·subst e;simp at h;simp[zz0,hlt,h]
    ·exact hi.2 k (by omega)
   ·rw[cG _ (by omega) (by omega)];refine aB.bE ?_ ?_ ?_ ?_ <;>simp[aQ,bt,br,aY,aS,I.only,bg]
 have hie:i=l.length:=by simp at h;omega
 refine U.exit ?_;try simp only[au,bP,simprocAttr]
 refine .ar (by decide +kernel) fun K hK =>?_;simp only[HF,ab,simprocAttr];refine .done (hK _ ?_);clear hK K;refine U.ret ?_;simp only[ab,simprocAttr];rw[←Nz hi.1 hi.2,hie];simp[mI]
def ma(a b:Item):Int:=mI [jX a.fc b.fc,jX a.no b.no]
theorem vL(a b:Item):aA Tryz.prog 118 [enc a,enc b] (enc (ma a b)):=by
 refine aA.bp Tryz.func118 T9 V7 Yo (t7 rfl) (fun hwf W0 D0 E1 =>?_);simp only[B5,N0,bl,zz4];refine .ar (by decide +kernel) fun K hK =>?_;simp only[Gd,ab,simprocAttr]
 try simp only[du,ab,simprocAttr]
 refine .done (hK _ ?_);clear hK K;refine .ar (by decide +kernel) fun K hK =>?_;simp only[Ge,ab,simprocAttr]
 try simp only[ru,ab,simprocAttr]
 refine .flat _ (A6 a.fc b.fc) rfl ?_
 try simp only[ru,ab,simprocAttr]
 refine .flat _ (A6 a.no b.no) rfl ?_
 try simp only[ab,simprocAttr]
 have hb:iO 1 (some [.int .i64 (jX a.fc b.fc),.int .i64 (jX a.no b.no)])=some (enc [jX a.fc b.fc,jX a.no b.no]):=nc (ys:=[jX a.fc b.fc,jX a.no b.no]) 1 rfl
 try simp only[hb,cN,ab,simprocAttr]
 refine .flat _ (RI _) rfl ?_
 try simp only[ab,simprocAttr]
 refine .done (hK _ ?_);clear hK K;refine U.ret ?_;simp only[ab,simprocAttr];rfl
deriving instance DecidableEq for aX
deriving instance DecidableEq for ak
deriving instance DecidableEq for aP
def mX:aX 6 Int:=⟨List.replicate 6 0,rfl⟩
instance:Inhabited ak:=⟨⟨⟨0,0⟩,0,0,0,0,0,0,0,mX,⟨0,0⟩⟩⟩
instance:Inhabited aP:=⟨⟨0,0,0,0,0,0,0,false,[]⟩⟩
def jt(x:ak):ak where
 bd:=x.bd
 kind:=x.kind
 day:=x.day
 known:=x.known
 eD:=if x.kind=0 then 0 else x.eD
 fg:=if x.kind=1 then x.fg else 0
 dF:=if x.kind=1∨x.kind=2 then x.dF else 0
 bU:=if x.kind=1∨x.kind=3∨x.kind=5 then x.bU else 0
 bS:=if x.kind=4 then x.bS else mX
 kC:=if x.kind=0 then x.kC else ⟨0,0⟩
def oc(x:ak):Bool :=
 if x.kind=0 then (x.day==0)&&(ou x.kC&&((x.kC.fc==x.bd.fc)&&decide (x.kC.no<x.bd.no)))
 else b7 1 9999 x.eD&&(
  if x.kind=1 then b7 1 9 x.dF&&(b7 1 99 x.bU&&(b7 0 9999 x.fg&&(x.fg != x.eD)))
  else if x.kind=2 then b7 1 9 x.dF
  else if x.kind=3∨x.kind=5 then b7 1 99 x.bU
  else if x.kind=4 then iJ x.bS
  else decide (x.kind=6))
def gB(x:ak):Bool:=oc x&&(decide (x=jt x)&&(ou x.bd&&(b7 0 100000 x.day&&b7 0 100000 x.known)))
def ae(l:List ak)(i:Nat):ak:=l.getD i default
def kZ(l:List ak)(i:Nat):Bool:=gB (ae l i)&&(decide (i=0)||before (ae l (i-1)).bd (ae l i).bd)
def c8(l:List ak):Bool:=decide (l.length≤60)&&(List.range l.length).all (kZ l)
def dQ(l:List ak)(a:Item):Nat:=l.findIdx fun x => !before x.bd a
def jg(l:List ak)(a:Item):Bool:=l.any fun x=>decide (x.bd=a)
def dU(known:Int):List ak→List Bool×List Item
 | []=>([],[])
 |x::l =>
  let b:=decide (x.known≤known) && !(dU known l).2.contains x.bd
  (b::(dU known l).1,if b&&decide (x.kind=0) then x.kC::(dU known l).2 else (dU known l).2)
def gZ(l:List ak)(known:Int):List Bool:=(dU known l).1
def eW(l:List ak)(known:Int):List Nat:=(List.range l.length).filter fun i=>(gZ l known).getD i false
def jC(key:Nat→Int)(i:Nat)(l:List Nat):List Nat:=(l.takeWhile fun k=>decide (key k≤key i))++i::l.dropWhile fun k=>decide (key k≤key i)
def NA(key:Nat→Int)(l:List Nat):List Nat:=l.foldl (fun o i=>jC key i o) []
def jy(l:List ak)(day known:Int):List Nat:=(eW l known).filter fun i=>decide ((ae l i).kind≠0)&&decide ((ae l i).day≤day)
def ka(l:List ak)(day known:Int):List Nat:=NA (fun i=>(ae l i).day) (jy l day known)
def cM(bs:List aP)(no:Int):Option aP:=bs.find? fun b=>decide (b.no=no)
def mR(bs:List aP)(x:aP):List aP:=bs.map fun b=>if b.no=x.no then x else b
def gz(x:ak):aP:=⟨x.eD,x.dF,x.fg,x.bU,x.bU,x.day,-1,false,[]⟩
def jd(bs:List aP)(x:ak):Bool:=decide (x.fg≤0)||match cM bs x.fg with
 |some d=>decide (d.dF=x.dF) && !(decide (0≤d.dW)&&decide (d.dW<x.day))
 |none=>false
def lu(b:aP)(x:ak):Option aP :=
 if x.kind=3 then (if b.dW≥0∨b.bU=0∨b.bU=x.bU then none else some { b with bU:=x.bU })
 else if x.kind=4 then some { b with bS:=b.bS++[x.bS] }
 else if x.kind=5 then some { b with bU:=x.bU,found:=true }
 else (if b.dW≥0 then none else some { b with dW:=x.day })
def eR(add:List aP→aP→List aP)(bs:List aP)(x:ak):Option (List aP) :=
 if x.kind=1∨x.kind=2 then (if cM bs x.eD=none∧jd bs x=true then some (add bs (gz x)) else none)
 else match cM bs x.eD with
  |none=>none
  |some b=>(lu b x).map (mR bs)
def fh(bs:List aP)(b:aP):List aP:=bs++[b]
def nU(bs:List aP)(b:aP):List aP:=(bs.takeWhile fun a=>decide (a.no≤b.no))++b::bs.dropWhile fun a=>decide (a.no≤b.no)
def lV(add:List aP→aP→List aP)(l:List ak)(s:List aP×List Nat)(i:Nat):List aP×List Nat:=match eR add s.1 (ae l i) with
 |some bs=>(bs,s.2)
 |none=>(s.1,s.2++[i])
def sx(add:List aP→aP→List aP)(l:List ak)(order:List Nat):List aP×List Nat:=order.foldl (lV add l) ([],[])
theorem apF(bs:List aP)(x:aP):(mR bs x).map (·.no)=bs.map (·.no):=by
 simp only[mR,List.map_map];refine List.map_congr_left fun b _ =>?_;simp only[Function.comp];split
 ·rename_i h;exact h.symm
 ·rfl
theorem LG{bs:List aP}{no:Int}{b:aP}(h:cM bs no=some b):b∈bs∧b.no=no:=⟨List.mem_of_find?_eq_some h,by simpa using List.find?_some h⟩
theorem LF{bs:List aP}{no:Int} : cM bs no=none↔no∉bs.map (·.no):=by
 simp[cM]
theorem alg{bs:List aP}(hd:(bs.map (·.no)).Nodup){b:aP}(h:b∈bs):cM bs b.no=some b:=by
 induction bs with
 |nil=>cases h
 |cons a bs ih =>
  simp only[cM,List.find?_cons];simp only[zy2,List.nodup_cons] at hd;by_cases e:a.no=b.no
  ·rcases zx2.1 h with rfl | h
   ·simp
   ·exact absurd (zw1.2 ⟨b,h,e.symm⟩) hd.1
  ·rcases zx2.1 h with rfl | h
   ·exact absurd rfl e
   ·simp only[decide_eq_false e];exact ih hd.2 h
def vH(add:List aP→aP→List aP):Prop:=∀ bs b,(add bs b).Perm (b::bs)
theorem SM:vH fh:=fun bs b=>List.perm_append_comm
theorem SN:vH nU:=fun bs b=>by
 have h:(bs.takeWhile fun a=>decide (a.no≤b.no))++(bs.dropWhile fun a=>decide (a.no≤b.no))=bs:=List.takeWhile_append_dropWhile;have:=(List.perm_middle (a:=b) (l₁:=bs.takeWhile fun a=>decide (a.no≤b.no)) (l₂:=bs.dropWhile fun a=>decide (a.no≤b.no)))
 rw[h] at this;exact this
theorem S9{add:List aP→aP→List aP}(ha:vH add){bs bs':List aP}{x:ak}(hd:(bs.map (·.no)).Nodup)(h:eR add bs x=some bs'):(bs'.map (·.no)).Nodup:=by
 simp only[eR] at h;split at h
 ·split at h
  ·rename_i h2;simp only[u8] at h;subst h;rw[((ha bs (gz x)).map _).nodup_iff];simp only[zy2,List.nodup_cons];exact ⟨LF.1 h2.1,hd⟩
  ·cases h
 ·split at h
  ·cases h
  ·simp only[zz1] at h;obtain ⟨b',_,rfl⟩:=h;rw[apF];exact hd
def gD(l:List Int):Prop:=l.Pairwise (· < ·)
theorem aqN{bs:List aP}{b:aP}(h:gD (bs.map (·.no)))(hn:b.no∉bs.map (·.no)):gD ((nU bs b).map (·.no)):=by
 induction bs with
 |nil=>simp[nU,gD]
 |cons a bs ih =>
  simp only[zy2,gD,zw6,zx2,not_or] at h hn;by_cases e:a.no≤b.no
  ·have hlt:a.no<b.no:=by omega
   have:nU (a::bs) b=a::nU bs b:=by simp[nU,e]
   rw[this];simp only[zy2,gD,zw6];refine ⟨fun n hm =>?_,ih h.2 hn.2⟩;obtain ⟨c,hc,rfl⟩:=zw1.1 hm;rcases zx2.1 ((SN bs b).mem_iff.1 hc) with rfl | hc
   ·exact hlt
   ·exact h.1 _ (zw1.2 ⟨c,hc,rfl⟩)
  ·have:nU (a::bs) b=b::a::bs:=by simp[nU,e]
   rw[this];simp only[zy2,gD,zw6,zx2];refine ⟨fun n hm =>?_,h.1,h.2⟩;rcases hm with rfl | hm
   ·omega
   ·have:=h.1 n hm;omega
theorem Aa:∀ {l m:List Int},gD l→gD m→(∀ x,x∈l↔x∈m)→l=m
 | [],[],_,_,_=>rfl
 | [],b::m,_,_,h=>by have:=(h b).2 (by simp);cases this
 |a::l,[],_,_,h=>by have:=(h a).1 (by simp);cases this
 |a::l,b::m,h1,h2,h=>by
  simp only[gD,zw6] at h1 h2;have e:a=b:=by
   rcases zx2.1 ((h a).1 (by simp)) with e | e
   ·exact e
   ·rcases zx2.1 ((h b).2 (by simp)) with e2 | e2
    ·exact e2.symm
    ·have:=h1.1 b e2;have:=h2.1 a e;omega
  subst e
  congr 1
  refine Aa h1.2 h2.2 fun x=>⟨fun hx =>?_,fun hx =>?_⟩
  ·rcases zx2.1 ((h x).1 (by simp[hx])) with e | e
   ·have:=h1.1 x hx;omega
   ·exact e
  ·rcases zx2.1 ((h x).2 (by simp[hx])) with e | e
   ·have:=h2.1 x hx;omega
   ·exact e
theorem LP{A:af}{k k':Nat}{c c':I}(h1:A.o k=some (.box c))(h2:∀ p,c.only p=true)(h1':A.o k'=some (.box c'))(h2':∀ p,c'.only p=true):∀ n x,ao [(k,.box c),(k',.box c')] n=some x→A.o n=some x∧x.only (aq [(k,.box c),(k',.box c')])=true∧x.eZ=true:=fun n x h=>by
 simp only[ao] at h;split at h
 ·rename_i hn;subst hn;simp only[u8] at h;subst h;exact ⟨h1,h2 _,rfl⟩
 ·split at h
  ·rename_i hn;subst hn;simp only[u8] at h;subst h;exact ⟨h1',h2' _,rfl⟩
  ·cases h
theorem apN{n:Nat}{p:List Nat}{sz k total i j:Nat}(h:i≤j)(hj:j≤k)(hk:k≤total):iL n p sz 0 k total (some (.int .i64 i)) (some (.int .i64 j)) (some (.int .i64 k))=some .dx:=by
 simp only[iL,iN];rw[if_pos ⟨by omega,by omega,by omega,by omega⟩]
theorem Qw{n:Nat}{p:List Nat}{sz k total i j:Nat}(h:i≤j)(hk:j≤total)(h0:i<total):iL n p sz 0 k total (some (.int .i64 i)) (some (.int .i64 j)) none=some (.view n p sz i (j-i)):=by
 simp only[iL,iN];rw[if_pos ⟨by omega,by omega,by omega⟩,if_neg (by omega)];simp
theorem S5{α:Type}[Enc α]{A:af}{rest:List aE}{esz bytes:Nat}{d:Option Nat}{e:Nat}(z x:I){n l:Nat}{xs ys:List α}(hx:eB A esz x=some (ys.map enc))(hy:ys≠[])(ho:A.o n=some (.box (.agg (xs.map enc))))(hr:l+ys.length≤xs.length) :
  gE A d e esz bytes z x rest (.view n [] esz 0 l)=aF rest ((A.aU n (.box (.agg ((xs.take l++(ys++xs.drop (l+ys.length))).map enc)))).aT d (.view n [] esz 0 (l+ys.length))):=by
 have h1:=nR (A:=A) (esz:=esz) (lo:=0) (k:=l) ho (by omega);have h2:(I.agg (xs.map (enc (α:=α)))).at []=some (.agg (xs.map enc)):=rfl;have h3:I.cT (ys.map (enc (α:=α)))=I.cT (((xs.map (enc (α:=α))).drop l).take ys.length):=by
  rw[←List.map_drop,←List.map_take];exact Aq (by rw[zy4,zy8];omega)
 simp only[gE,h1,hx,fu];rw[if_neg (by simpa using hy)];simp only[ho,h2,zy1,zz4];rw[if_pos hr,if_pos ⟨rfl,by rw[zy1,zz4];exact h3⟩];simp only[iS,fT,zy1,zx4,List.map_take,List.map_drop]
theorem BF{α:Type}[Enc α]{A:af}{rest:List aE}{esz bytes:Nat}{d:Option Nat}{e:Nat}(z x:I){n l:Nat}{xs:List α}(hx:eB A esz x=some [])(ho:A.o n=some (.box (.agg (xs.map enc))))(hr:l≤xs.length) :
  gE A d e esz bytes z x rest (.view n [] esz 0 l)=aF rest (A.aT d (.view n [] esz 0 l)):=by
 have h1:=nR (A:=A) (esz:=esz) (lo:=0) (k:=l) ho (by omega);simp only[gE,h1,hx,fu,if_true]
theorem abN(a b:Int):cw (.i .i64) (enc a) (enc b)=some (a==b):=by simp[ig,cw]
theorem Fz:∀ (x y:List Int),x.length=y.length→((x.map (enc (α:=Int))).zip (y.map (enc (α:=Int)))).foldr (fun p acc=>ja (cw (.i .i64) p.1 p.2) acc) (some true)=some (decide (x=y))
 | [],[],_=>by simp
 |a::x,b::y,h=>by
  have ih:=Fz x y (by simpa using h);rw[zy2,zy2,List.zip_cons_cons,List.foldr_cons,ih,abN];by_cases hab:a=b <;>by_cases hxy:x=y <;>simp[ja,hab,hxy]
theorem qt{n:Nat}(x y:aX n Int):cw (.kj n (.i .i64)) (enc x) (enc y)=some (decide (x.l=y.l)):=by
 change cw (.kj n (.i .i64)) (.agg (x.l.map enc)) (.agg (y.l.map enc))=_
 rw[cw,if_pos ⟨by simp[x.h],by simp[y.h]⟩];exact Fz x.l y.l (by rw[x.h,y.h])
theorem RL(n:Int):aA Tryz.prog 162 [enc n] (enc (!b7 0 4 n)):=by
 refine aA.bp Tryz.func162 UJ WJ YZ (t7 rfl) (fun hwf W0 D0 E1 =>?_);simp only[CG,OF,bl];refine .ar (by decide +kernel) fun K hK =>?_;simp only[HV,ab,simprocAttr];refine .done (hK _ ?_);clear hK K;refine .ar (by decide +kernel) fun K hK =>?_;simp only[HW,ab,simprocAttr];refine .flat _ (sV n 0 4) rfl ?_
 try simp only[ab,simprocAttr]
 refine .done (hK _ ?_);clear hK K;refine U.ret ?_;simp only[ab,simprocAttr]
theorem Sd(n:Int):aA Tryz.prog 211 [enc n] (enc (!b7 1 31 n)):=by
 refine aA.bp Tryz.func211 Va Xe Zr (t7 rfl) (fun hwf W0 D0 E1 =>?_);simp only[C8,O7,bl];refine .ar (by decide +kernel) fun K hK =>?_;simp only[JE,ab,simprocAttr];refine .done (hK _ ?_);clear hK K;refine .ar (by decide +kernel) fun K hK =>?_;simp only[JF,ab,simprocAttr];generalize hz:(n==0)=z;cases z
 ·try simp only[ab,simprocAttr]
  refine .flat _ (A7 n) rfl ?_
  try simp only[ab,simprocAttr]
  refine .done (hK _ ?_);clear hK K;refine U.ret ?_;simp only[ab,simprocAttr];simp at hz;have e:(0≤n)↔(1≤n):=by omega
  simp[b7,e]
 ·try simp only[ab,simprocAttr]
  refine .done (hK _ ?_);clear hK K;refine U.ret ?_;simp only[ab,simprocAttr];simp at hz;simp[b7,hz]
def ku(p:Int→Bool)(l:List Int):Int:=match l.findIdx? p with
 |some i=>i
 |none=>-1
theorem xq{α:Type}{p:α→Bool}{l:List α}(h:∀ x∈l,p x=false):l.findIdx? p=none:=by
 rw[List.findIdx?_eq_none_iff];exact h
theorem xr{α:Type}{p:α→Bool}{l:List α}{i:Nat}(hi:i<l.length)(h:∀ x∈l.take i,p x=false)(hp:p l[i]=true):l.findIdx? p=some i:=by
 rw[zu0];refine ⟨hi,hp,fun j hj =>?_⟩;have:l[j]∈l.take i:=by
  rw[List.mem_take_iff_getElem];exact ⟨j,by omega,rfl⟩
 simp[h _ this]
theorem vP(l:List Int)(f:FuncId)(caps:List I)(hcaps:I.eY caps=true)(p:Int→Bool)(hf:∀ x∈l,aA Tryz.prog f (enc x::caps) (enc (p x))):aA Tryz.prog 166 [enc l,.func f caps] (enc (ku p l)):=by
 refine aA.bp Tryz.func166 UN WN Y3 (t7 rfl) (fun hwf W0 D0 E1 =>?_);simp only[CK,OJ,bl,zz4];have hlen:l.length≤maxLen:=((kL l).1 hwf.1).1;simp only[maxLen] at hlen;have hcl:I.cg caps=true:=kR caps hcaps;have hfc:∀ aC A,cn aC A caps=some caps:=fun aC A=>kq aC A caps hcaps;have hon:∀ q,I.bV q caps=true:=fun q=>kE q caps hcl;refine .ar (by decide +kernel) fun K hK =>?_;simp only[H5,ab,simprocAttr];refine .done (hK _ ?_);clear hK K;refine U.seq ?_;refine U.seq (U.bx (by decide +kernel) fun K hK =>?_)
 try simp only[H6,aZ,ab,simprocAttr]
 refine .done (hK _ ?_);clear hK K;refine U.block (U.loop (fun i:Nat=>aw [(0,enc l),(1,.func f caps),(7,.int .i64 l.length),(8,.int .i64 i)] []) (fun i=>i≤l.length∧∀ x∈l.take i,p x=false) (fun i=>l.length-i) 0 ⟨zw3 _,by simp⟩ ?_ (fun i hi =>?_))
 ·refine aB.bE ?_ ?_ ?_ ?_ <;>simp[aQ,bt,br,aY,aS,I.only,bg,hon]
 ·refine .ar (by decide +kernel) fun K hK =>?_;simp only[H7,ab,simprocAttr];refine .done (hK _ ?_);clear hK K;refine U.seq ?_;refine U.bL ?_;simp only[al,ab,simprocAttr];refine ⟨fun h =>?_,fun h =>?_⟩
  ·have hlt:i<l.length:=by simpa using h
   refine U.skip ?_;try simp only[au,simprocAttr]
   refine U.seq (U.block ?_);refine .ar (by decide +kernel) fun K hK =>?_;simp only[H8,ab,simprocAttr];refine .done (hK _ ?_);clear hK K;refine .ar (by decide +kernel) fun K hK =>?_;simp only[H9,ab,simprocAttr]
   try simp only[fm 1 hlt rfl,zz9,hfc,ab,simprocAttr]
   refine .flat _ (hf _ (zx5 hlt)) rfl ?_
   try simp only[ab,simprocAttr]
   refine .done (hK _ ?_);clear hK K;refine U.bL ?_;simp only[al,ab,simprocAttr];refine ⟨fun h =>?_,fun h =>?_⟩
   ·refine .ar (by decide +kernel) fun K hK =>?_;simp only[Ia,ab,simprocAttr];refine .done (hK _ ?_);clear hK K;refine U.ret ?_;simp only[bP,au,ab,simprocAttr];simp[ku,xr hlt hi.2 h]
   ·refine U.skip ?_;try simp only[au,bP,simprocAttr]
    refine .bx (by decide +kernel) fun K hK =>?_;simp only[Ib,ab,simprocAttr];refine .done (hK _ ?_);clear hK K;try simp only[au]
    refine ⟨i+1,⟨by omega,fun x hm =>?_⟩,by omega,?_⟩
    ·rw[zz8 hlt] at hm;rcases zy5.1 hm with hm | hm
     ·exact hi.2 x hm
     ·simp at hm;rw[hm];exact h
    ·rw[cG _ (by omega) (by omega)];refine aB.bE ?_ ?_ ?_ ?_ <;>simp[aQ,bt,br,aY,aS,I.only,bg,hon]
  ·have hge:i=l.length:=by simp at h;omega
   refine U.exit ?_;try simp only[au,bP,simprocAttr]
   refine .ar (by decide +kernel) fun K hK =>?_;simp only[Ic,ab,simprocAttr];refine .done (hK _ ?_);clear hK K;refine U.ret ?_;simp only[ab,simprocAttr];simp[hge] at hi;simp[ku,xq hi]
theorem LV(p:Int→Bool)(l:List Int):decide (0≤ku p l)=l.any p:=by
 unfold ku;cases h:l.findIdx? p with
 |none =>
  rw[List.findIdx?_eq_none_iff] at h;have:l.any p=false:=by rw[List.any_eq_false];intro x hx;simp[h x hx]
  simp[this]
 |some i =>
  rw[zu0] at h;obtain ⟨h1,h2,_⟩:=h;have:l.any p=true:=by rw[List.any_eq_true];exact ⟨_,zx5 h1,h2⟩
  rw[this];exact decide_eq_true (Int.natCast_nonneg i)
theorem vM(l:List Int)(f:FuncId)(caps:List I)(hcaps:I.eY caps=true)(p:Int→Bool)(hf:∀ x∈l,aA Tryz.prog f (enc x::caps) (enc (p x))):aA Tryz.prog 125 [enc l,.func f caps] (enc (l.any p)):=by
 refine aA.bp Tryz.func125 Uf Wd Yu (t7 rfl) (fun hwf W0 D0 E1 =>?_);simp only[Cb,N6,bl,zz4];have hcl:I.cg caps=true:=kR caps hcaps;have hfc:∀ aC A,cn aC A caps=some caps:=fun aC A=>kq aC A caps hcaps;refine .ar (by decide +kernel) fun K hK =>?_;simp only[Gw,ab,simprocAttr];refine .done (hK _ ?_);clear hK K;refine .ar (by decide +kernel) fun K hK =>?_;simp only[Gx,ab,simprocAttr]
 try simp only[cN,hfc,ab,simprocAttr]
 refine .flat _ (vP l f caps hcaps p hf) rfl ?_
 try simp only[ab,simprocAttr]
 refine .done (hK _ ?_);clear hK K;refine U.ret ?_;simp only[ab,simprocAttr];rw[LV]
theorem Fi{α:Type}[Enc α]{n sz:Nat}(x:aX n α)(hs:Enc.sz α=sz):lH sz 0 n (some (x.l.map enc))=some (enc x.l):=by
 have h:((x.l.map (enc (α:=α))).drop 0).take n=x.l.map enc:=by
  rw[List.drop_zero,zv6];simp[x.h]
 simp only[lH,h];rw[if_pos (lB x.l),gT,hs]
theorem Q2{α:Type}[Enc α]{n sz:Nat}(x:aX n α)(hs:Enc.sz α=sz)(h1:n≤maxLen)(h0:n≠0)(y:I):pY n sz (x.l.map enc) y=some y:=by
 simp only[pY];rw[if_pos ⟨xg n sz x.l x.h hs,h1,h0⟩]
theorem BA(p:Int→Bool)(x:aX 6 Int):x.l.any (fun v => !p v) = !(List.range 6).all (fun i=>p (x.g i)):=by
 have h:(List.range 6).all (fun i=>p (x.g i))=x.l.all p:=by
  rw[Bool.eq_iff_iff];simp only[zx3,zw4];constructor
  ·intro h v hv;obtain ⟨i,hi,rfl⟩:=zu3 hv;have:=h i (by rw[x.h] at hi;exact hi)
   rwa [←x.ub (by rw[x.h] at hi;exact hi)] at this
  ·intro h i hi;rw[←x.ub hi];exact h _ (zx5 _)
 rw[h,List.not_all_eq_any_not]
theorem Rl(m:aX 6 Int):aA Tryz.prog 123 [enc m] (enc (ee m)):=by
 refine aA.bp Tryz.func123 Ud Wb Ys (t7 rfl) (fun hwf W0 D0 E1 =>?_);simp only[B9,N4,bl];refine .ar (by decide +kernel) fun K hK =>?_;simp only[Gs,ab,simprocAttr];refine .done (hK _ ?_);clear hK K;refine .ar (by decide +kernel) fun K hK =>?_;simp only[Gt,ab,simprocAttr]
 try simp only[aZ,Q2 (sz:=1) m rfl (t7 rfl) (Nat.succ_ne_zero 5),Fi (sz:=1) m rfl,ab,simprocAttr]
 refine .flat _ (vM m.l 162 [] rfl (fun n => !b7 0 4 n) (fun x _=>RL x)) rfl ?_
 try simp only[ab,simprocAttr]
 refine .done (hK _ ?_);clear hK K;refine U.ret ?_;simp only[ab,simprocAttr];rw[BA (b7 0 4)];simp[ee]
theorem R2(m:aX 6 Int):aA Tryz.prog 193 [enc m] (enc (iJ m)):=by
 refine aA.bp Tryz.func193 UZ W3 Zg (t7 rfl) (fun hwf W0 D0 E1 =>?_);simp only[CX,OW,bl];refine .ar (by decide +kernel) fun K hK =>?_;simp only[IA,ab,simprocAttr];refine .done (hK _ ?_);clear hK K;refine .ar (by decide +kernel) fun K hK =>?_;simp only[IB,ab,simprocAttr]
 try simp only[aZ,Q2 (sz:=1) m rfl (t7 rfl) (Nat.succ_ne_zero 5),Fi (sz:=1) m rfl,ab,simprocAttr]
 refine .flat _ (vM m.l 211 [] rfl (fun n => !b7 1 31 n) (fun x _=>Sd x)) rfl ?_
 try simp only[ab,simprocAttr]
 refine .done (hK _ ?_);clear hK K;refine U.ret ?_;simp only[ab,simprocAttr];rw[BA (b7 1 31)];simp[iJ]
theorem Rk(n:Int):aA Tryz.prog 122 [enc n] (enc (b7 1 99 n)):=by
 refine aA.bp Tryz.func122 Uc Wa Yr (t7 rfl) (fun hwf W0 D0 E1 =>?_);simp only[B8,N3,bl];refine .ar (by decide +kernel) fun K hK =>?_;simp only[Gq,ab,simprocAttr];refine .done (hK _ ?_);clear hK K;refine .ar (by decide +kernel) fun K hK =>?_;simp only[Gr,ab,simprocAttr];refine .flat _ (sV n 1 99) rfl ?_
 try simp only[ab,simprocAttr]
 refine .done (hK _ ?_);clear hK K;refine U.ret ?_;simp only[ab,simprocAttr]
theorem A5(m:aX 6 Int):aA Tryz.prog 157 [enc m] (enc (if iJ m then (0:Int) else 12)):=by
 refine aA.bp Tryz.func157 UD WC YT (t7 rfl) (fun hwf W0 D0 E1 =>?_);simp only[CA,Oz,bl];refine .ar (by decide +kernel) fun K hK =>?_;simp only[Ht,ab,simprocAttr];refine .done (hK _ ?_);clear hK K;refine U.seq (U.seq ?_);refine .bx (by decide +kernel) fun K hK =>?_;simp only[Hu,ab,simprocAttr]
 try simp only[cI,cN,ab,simprocAttr]
 refine .flat _ (R2 m) rfl ?_;generalize hm:iJ m=b;cases b
 ·try simp only[ab,simprocAttr]
  refine .done (hK _ ?_);clear hK K;try simp only[au]
  refine U.bL ?_;simp only[al,ab,simprocAttr];refine ⟨fun h =>?_,fun h =>?_⟩
  ·refine .ar (by decide +kernel) fun K hK =>?_;simp only[Hv,ab,simprocAttr];refine .done (hK _ ?_);clear hK K;refine U.ret ?_;simp only[au,ab,simprocAttr];simp[hm]
  ·cases h
 ·try simp only[ab,simprocAttr]
  refine .done (hK _ ?_);clear hK K;refine U.bL ?_;simp only[al,ab,simprocAttr];refine ⟨fun h =>?_,fun h =>?_⟩
  ·cases h
  ·refine U.skip ?_;try simp only[au,simprocAttr]
   refine .ar (by decide +kernel) fun K hK =>?_;simp only[Hw,ab,simprocAttr];refine .done (hK _ ?_);clear hK K;refine U.ret ?_;simp only[ab,simprocAttr];simp[hm]
def yx(s:Int)(k:Nat):Bool:=oZ (s.fdiv (2^min k IntKind.i64.bits)) 1==1
theorem RK(s:Int)(k:Nat):aA Tryz.prog 161 [enc s,enc (k:Int)] (enc (yx s k)):=by
 refine aA.bp Tryz.func161 UI WI YY (t7 rfl) (fun hwf W0 D0 E1 =>?_);simp only[CF,OE,bl,zz4];refine .ar (by decide +kernel) fun K hK =>?_;simp only[HT,ab,simprocAttr];refine .done (hK _ ?_);clear hK K;refine .ar (by decide +kernel) fun K hK =>?_;simp only[HU,ab,simprocAttr];refine .done (hK _ ?_);clear hK K;refine U.ret ?_;simp only[ab,simprocAttr];rfl
theorem alL(s:Int)(h0:0≤s)(h1:s≤31)(k:Nat)(hk:k<5):yx s k=iB s k:=by
 have key:∀ s:Fin 32,∀ k:Fin 5,yx (s.1:Int) k.1=iB (s.1:Int) k.1:=by decide +kernel
 have:=key ⟨s.toNat,by omega⟩ ⟨k,hk⟩;simpa[Int.toNat_of_nonneg h0] using this
theorem Rj(m:aX 5 Int):aA Tryz.prog 120 [enc m] (enc (iK m)):=by
 refine aA.bp Tryz.func120 Ua V8 Yp (t7 rfl) (fun hwf W0 D0 E1 =>?_);simp only[B6,N1,bl];refine .ar (by decide +kernel) fun K hK =>?_;simp only[Gf,ab,simprocAttr];refine .done (hK _ ?_);clear hK K;refine U.seq ?_;refine U.seq (U.bx (by decide +kernel) fun K hK =>?_)
 try simp only[Gg,cI,ab,simprocAttr]
 refine .done (hK _ ?_);clear hK K;refine U.block (U.loop (fun i:Nat=>aw [(2,.bool false),(6,enc m),(7,.int .i64 i)] []) (fun j=>j≤5∧∀ i,i<j→(b7 0 31 (m.g i)&&iB (m.g i) i)=true) (fun i=>5-i) 0 ⟨by omega,fun k h=>by omega⟩ ?_ (fun i hi =>?_))
 ·refine aB.bE ?_ ?_ ?_ ?_ <;>simp[aQ,bt,br,aY,aS,I.only,bg]
 ·refine .ar (by decide +kernel) fun K hK =>?_;simp only[Gh,ab,simprocAttr];refine .done (hK _ ?_);clear hK K;refine U.seq ?_;refine U.bL ?_;simp only[al,ab,simprocAttr];refine ⟨fun h =>?_,fun h =>?_⟩
  ·have hlt:i<5:=by simp at h;omega
   refine U.skip ?_;try simp only[au,simprocAttr]
   refine U.seq (U.block ?_);refine .ar (by decide +kernel) fun K hK =>?_;simp only[Gi,ab,simprocAttr]
   try simp only[r8,aZ,jZ 1 m hlt rfl,od m hlt,ab,simprocAttr]
   refine .done (hK _ ?_);clear hK K;refine .ar (by decide +kernel) fun K hK =>?_;simp only[Gj,ab,simprocAttr];refine .done (hK _ ?_);clear hK K;refine .ar (by decide +kernel) fun K hK =>?_;simp only[Gk,ab,simprocAttr];refine .flat _ (A7 _) rfl ?_;generalize hb:b7 0 31 (m.g i)=b;cases b
   ·try simp only[ab,simprocAttr]
    refine .done (hK _ ?_);clear hK K;refine U.bL ?_;simp only[al,ab,simprocAttr];refine ⟨fun h =>?_,fun h =>?_⟩
    ·refine .ar (by decide +kernel) fun K hK =>?_;simp only[xA,ab,simprocAttr];refine .done (hK _ ?_);clear hK K;refine U.ret ?_;simp only[bP,au,ab,simprocAttr];rw[iK,oX i hlt];simp[hb]
    ·cases h
   ·have hr:0≤m.g i∧m.g i≤31:=by simpa[b7] using hb
    try simp only[ab,simprocAttr]
    refine .flat _ (RK (m.g i) i) rfl ?_;rw[alL _ hr.1 hr.2 i hlt]
    try simp only[ab,simprocAttr]
    refine .done (hK _ ?_);clear hK K;refine U.bL ?_;simp only[al,ab,simprocAttr];refine ⟨fun h =>?_,fun h =>?_⟩
    ·refine .ar (by decide +kernel) fun K hK =>?_;simp only[xA,ab,simprocAttr];refine .done (hK _ ?_);clear hK K;refine U.ret ?_;simp only[bP,au,ab,simprocAttr];rw[iK,oX i hlt];simp at h;simp[h]
    ·refine U.skip ?_;try simp only[au,bP,simprocAttr]
     refine .bx (by decide +kernel) fun K hK =>?_;simp only[Gl,ab,simprocAttr];refine .done (hK _ ?_);clear hK K;try simp only[au]
     refine ⟨i+1,⟨by omega,fun k hk =>?_⟩,by omega,?_⟩
     ·by_cases hk':k=i
      ·subst hk';simp at h;simp[hb,h]
      ·exact hi.2 k (by omega)
     ·rw[cG _ (by omega) (by omega)];refine aB.bE ?_ ?_ ?_ ?_ <;>simp[aQ,bt,br,aY,aS,I.only,bg]
  ·have hge:i=5:=by simp at h;omega
   subst hge;refine U.exit ?_;try simp only[au,bP,simprocAttr]
   refine .ar (by decide +kernel) fun K hK =>?_;simp only[Gm,ab,simprocAttr];refine .done (hK _ ?_);clear hK K;refine U.ret ?_;simp only[ab,simprocAttr];rw[iK,rF hi.2]
theorem Bb(f:FuncId)(caps:List I)(hcaps:I.eY caps=true)(p:Nat→Bool)(hf:∀ i:Nat,i<6→aA Tryz.prog f (enc (i:Int)::caps) (enc (p i))):aA Tryz.prog 197 [.func f caps] (enc (eX (fun i => !p i) 6:Int)):=by
 refine aA.bp Tryz.func197 U3 W7 Zk (t7 rfl) (fun hwf W0 D0 E1 =>?_);simp only[C1,O0,bl];have hcl:I.cg caps=true:=kR caps hcaps;have hfc:∀ aC A,cn aC A caps=some caps:=fun aC A=>kq aC A caps hcaps;have hon:∀ q,I.bV q caps=true:=fun q=>kE q caps hcl;refine .ar (by decide +kernel) fun K hK =>?_;simp only[IP,ab,simprocAttr];refine .done (hK _ ?_);clear hK K;refine .ar (by decide +kernel) fun K hK =>?_;simp only[IQ,ab,simprocAttr];refine .done (hK _ ?_);clear hK K;refine U.seq ?_;refine .ar (by decide +kernel) fun K hK =>?_;simp only[IS,ab,simprocAttr];refine .done (hK _ ?_);clear hK K;refine U.block (U.loop (fun i:Nat=>aw [(0,.func f caps),(3,.int .i64 (eX (fun i => !p i) i:Int)),(5,.int .i64 i)] []) (fun i=>i≤6∧eX (fun i => !p i) i≤i) (fun i=>6-i) 0 ⟨by omega,by simp[eX]⟩ ?_ (fun i hi =>?_))
 ·refine aB.bE ?_ ?_ ?_ ?_ <;>simp[aQ,bt,br,aY,aS,I.only,hon,eX]
 ·refine .ar (by decide +kernel) fun K hK =>?_;simp only[IT,ab,simprocAttr];refine .done (hK _ ?_);clear hK K;refine U.seq ?_;refine U.bL ?_;simp only[al,ab,simprocAttr];refine ⟨fun h =>?_,fun h =>?_⟩
  ·have hlt:i<6:=by simp at h;omega
   refine U.skip ?_;try simp only[au,simprocAttr]
   refine U.seq (U.block ?_);refine .ar (by decide +kernel) fun K hK =>?_;simp only[IU,ab,simprocAttr];refine .done (hK _ ?_);clear hK K;refine .ar (by decide +kernel) fun K hK =>?_;simp only[IV,ab,simprocAttr]
   try simp only[zz9,hfc,ab,simprocAttr]
   refine .flat _ (hf i hlt) rfl ?_
   try simp only[ab,simprocAttr]
   refine .done (hK _ ?_);clear hK K;refine U.bL ?_;simp only[al,ab,simprocAttr];refine ⟨fun h =>?_,fun h =>?_⟩
   ·simp at h;refine .bx (by decide +kernel) fun K hK =>?_;simp only[IW,ab,simprocAttr];refine .done (hK _ ?_);clear hK K;try simp only[au,bP]
    refine .bx (by decide +kernel) fun K hK =>?_;simp only[xY,ab,simprocAttr];refine .done (hK _ ?_);clear hK K;try simp only[au]
    refine ⟨i+1,⟨by omega,?_⟩,by omega,?_⟩
    ·simp only[eX];split <;>omega
    ·rw[cG _ (by omega) (by omega),cG _ (by omega) (by omega)];refine aB.bE ?_ ?_ ?_ ?_ <;>simp[aQ,bt,br,aY,aS,I.only,hon,eX,h]
   ·simp at h;refine U.skip ?_;try simp only[au,bP,simprocAttr]
    refine .bx (by decide +kernel) fun K hK =>?_;simp only[xY,ab,simprocAttr];refine .done (hK _ ?_);clear hK K;try simp only[au]
    refine ⟨i+1,⟨by omega,?_⟩,by omega,?_⟩
    ·simp only[eX];split <;>omega
    ·rw[cG _ (by omega) (by omega)];refine aB.bE ?_ ?_ ?_ ?_ <;>simp[aQ,bt,br,aY,aS,I.only,hon,eX,h]
  ·have hge:i=6:=by simp at h;omega
   subst hge;refine U.exit ?_;try simp only[au,bP,simprocAttr]
   refine .ar (by decide +kernel) fun K hK =>?_;simp only[IX,ab,simprocAttr];refine .done (hK _ ?_);clear hK K;refine U.ret ?_;simp only[ab,simprocAttr]
theorem Se(w:aX 5 Int)(m r:aX 6 Int)(hm:ee m=true)(i:Nat)(hi:i<6):aA Tryz.prog 212 (enc (i:Int)::[.ref (.func 196 []),.ref (enc w),.ref (enc m),.ref (enc r)]) (enc (!nZ w m r i)):=by
 obtain ⟨h0,h5⟩:=oJ hm hi;refine aA.bp Tryz.func212 Vb Xf Zs (t7 rfl) (fun hwf W0 D0 E1 =>?_);simp only[C9,O8,bl,zz4,Nat.reduceAdd];refine .ar (by decide +kernel) fun K hK =>?_;simp only[JG,ab,simprocAttr];refine .done (hK _ ?_);clear hK K;refine .ar (by decide +kernel) fun K hK =>?_;simp only[JH,ab,simprocAttr]
 try simp only[cI,cN,ab,simprocAttr]
 refine .flat _ (vR w m i hi h0 h5) rfl ?_
 try simp only[aZ,jZ 1 r hi rfl,r4,od r hi,zx6,ab,simprocAttr]
 refine .flat _ (Ba _ _) rfl ?_
 try simp only[ab,simprocAttr]
 refine .done (hK _ ?_);clear hK K;refine U.ret ?_;simp only[ab,simprocAttr];simp[nZ,bne]
theorem R3(w:aX 5 Int)(a b:aX 6 Int)(ha:ee a=true)(hb:ee b=true)(i:Nat)(hi:i<6):aA Tryz.prog 198 (enc (i:Int)::[.ref (.func 196 []),.ref (enc w),.ref (enc a),.ref (enc b)]) (enc (!js w a b i)):=by
 obtain ⟨h0,h5⟩:=oJ ha hi;obtain ⟨k0,k5⟩:=oJ hb hi;refine aA.bp Tryz.func198 U4 W8 Zl (t7 rfl) (fun hwf W0 D0 E1 =>?_);simp only[C2,O1,bl,zz4,Nat.reduceAdd];refine .ar (by decide +kernel) fun K hK =>?_;simp only[IY,ab,simprocAttr];refine .done (hK _ ?_);clear hK K;refine .ar (by decide +kernel) fun K hK =>?_;simp only[IZ,ab,simprocAttr]
 try simp only[cI,cN,ab,simprocAttr]
 refine .flat _ (vR w a i hi h0 h5) rfl ?_
 try simp only[cI,cN,ab,simprocAttr]
 refine .flat _ (vR w b i hi k0 k5) rfl ?_
 try simp only[zx6,ab,simprocAttr]
 refine .flat _ (Ba _ _) rfl ?_
 try simp only[ab,simprocAttr]
 refine .done (hK _ ?_);clear hK K;refine U.ret ?_;simp only[ab,simprocAttr];simp[js,bne]
theorem QI{A:af}{n:Nat}{b:I}{f:FuncId}{caps:List I}{rest:List aE} : dT A none n [] b (.func f caps) rest (some .dz)=aF rest (A.aU n (.box (b.dS [] (.func f caps)))):=eG rfl rfl (by simp[I.aV])
theorem R7(w:aX 5 Int)(m r:aX 6 Int)(hm:ee m=true):aA Tryz.prog 202 [enc w,enc m,enc r] (enc (mc w m r)):=by
 refine aA.bp Tryz.func202 U8 Xc Zp (t7 rfl) (fun hwf W0 D0 E1 =>?_);simp only[C6,O5,bl,zz4,Nat.reduceAdd];refine .ar (by decide +kernel) fun K hK =>?_;simp only[Jc,ab,simprocAttr]
 try simp only[du,ab,simprocAttr]
 refine .done (hK _ ?_);clear hK K;refine .ar (by decide +kernel) fun K hK =>?_;simp only[Jd,ab,simprocAttr]
 try simp only[QI,ab,simprocAttr]
 refine .done (hK _ ?_);clear hK K;refine .ar (by decide +kernel) fun K hK =>?_;simp only[Je,ab,simprocAttr]
 try simp only[List.all_cons,List.all_nil,I.cq,zw7,dL,ab,simprocAttr]
 refine .flat _ (Bb 212 [.ref (.func 196 []),.ref (enc w),.ref (enc m),.ref (enc r)] ?_ (fun i => !nZ w m r i) (fun i hi=>Se w m r hm i hi)) rfl ?_
 ·simp only[I.eY,I.done,I.bJ,I.cg,dL,zw7]
 try simp only[ab,simprocAttr]
 refine .done (hK _ ?_);clear hK K;refine U.ret ?_;simp only[ab,simprocAttr];simp only[mc,Bool.not_not]
theorem RO(w:aX 5 Int)(a b:aX 6 Int)(ha:ee a=true)(hb:ee b=true):aA Tryz.prog 165 [enc w,enc a,enc b] (enc (eX (js w a b) 6:Int)):=by
 refine aA.bp Tryz.func165 UM WM Y2 (t7 rfl) (fun hwf W0 D0 E1 =>?_);simp only[CJ,OI,bl,zz4,Nat.reduceAdd];refine .ar (by decide +kernel) fun K hK =>?_;simp only[H2,ab,simprocAttr]
 try simp only[du,ab,simprocAttr]
 refine .done (hK _ ?_);clear hK K;refine .ar (by decide +kernel) fun K hK =>?_;simp only[H3,ab,simprocAttr]
 try simp only[QI,ab,simprocAttr]
 refine .done (hK _ ?_);clear hK K;refine .ar (by decide +kernel) fun K hK =>?_;simp only[H4,ab,simprocAttr]
 try simp only[List.all_cons,List.all_nil,I.cq,zw7,dL,ab,simprocAttr]
 refine .flat _ (Bb 198 [.ref (.func 196 []),.ref (enc w),.ref (enc a),.ref (enc b)] ?_ (fun i => !js w a b i) (fun i hi=>R3 w a b ha hb i hi)) rfl ?_
 ·simp only[I.eY,I.done,I.bJ,I.cg,dL,zw7]
 try simp only[ab,simprocAttr]
 refine .done (hK _ ?_);clear hK K;refine U.ret ?_;simp only[ab,simprocAttr];simp only[Bool.not_not]
theorem RN(m:bY)(g:cu)(k:aX 6 Int)(hg:ee g.mark=true)(hk:ee k=true):aA Tryz.prog 164 (enc g::[.ref (enc m),.ref (enc k)]) (enc (kJ m g.mark k)):=by
 refine aA.bp Tryz.func164 UL WL Y1 (t7 rfl) (fun hwf W0 D0 E1 =>?_);simp only[CI,OH,bl,zz4,Nat.reduceAdd];refine .ar (by decide +kernel) fun K hK =>?_;simp only[HZ,ab,simprocAttr]
 try simp only[du,ab,simprocAttr]
 refine .done (hK _ ?_);clear hK K;refine .ar (by decide +kernel) fun K hK =>?_;simp only[H0,ab,simprocAttr]
 try simp only[cI,cN,ab,simprocAttr]
 refine .flat _ (RO m.fb g.mark k hg hk) rfl ?_
 try simp only[cI,ab,simprocAttr]
 refine .done (hK _ ?_);clear hK K;refine U.ret ?_;simp only[ab,simprocAttr];rfl
theorem vQ(l:List cu)(f:FuncId)(caps:List I)(hcaps:I.eY caps=true)(p:cu→Bool)(hf:∀ x∈l,aA Tryz.prog f (enc x::caps) (enc (p x))):aA Tryz.prog 195 [enc l,.func f caps] (enc (match l.findIdx? p with | some i=>(i:Int) | none=>-1)):=by
 refine aA.bp Tryz.func195 U1 W5 Zi (t7 rfl) (fun hwf W0 D0 E1 =>?_);simp only[CZ,OY,bl,zz4];have hlen:l.length≤maxLen:=((kL l).1 hwf.1).1;simp only[maxLen] at hlen;have hcl:I.cg caps=true:=kR caps hcaps;have hfc:∀ aC A,cn aC A caps=some caps:=fun aC A=>kq aC A caps hcaps;have hon:∀ q,I.bV q caps=true:=fun q=>kE q caps hcl;refine .ar (by decide +kernel) fun K hK =>?_;simp only[IE,ab,simprocAttr];refine .done (hK _ ?_);clear hK K;refine U.seq ?_;refine U.seq (U.bx (by decide +kernel) fun K hK =>?_)
 try simp only[IF,aZ,ab,simprocAttr]
 refine .done (hK _ ?_);clear hK K;refine U.block (U.loop (fun i:Nat=>aw [(0,enc l),(1,.func f caps),(7,.int .i64 l.length),(8,.int .i64 i)] []) (fun i=>i≤l.length∧∀ x∈l.take i,p x=false) (fun i=>l.length-i) 0 ⟨zw3 _,by simp⟩ ?_ (fun i hi =>?_))
 ·refine aB.bE ?_ ?_ ?_ ?_ <;>simp[aQ,bt,br,aY,aS,I.only,bg,hon]
 ·refine .ar (by decide +kernel) fun K hK =>?_;simp only[IG,ab,simprocAttr];refine .done (hK _ ?_);clear hK K;refine U.seq ?_;refine U.bL ?_;simp only[al,ab,simprocAttr];refine ⟨fun h =>?_,fun h =>?_⟩
  ·have hlt:i<l.length:=by simpa using h
   refine U.skip ?_;try simp only[au,simprocAttr]
   refine U.seq (U.block ?_);refine .ar (by decide +kernel) fun K hK =>?_;simp only[IH,ab,simprocAttr];refine .done (hK _ ?_);clear hK K;refine .ar (by decide +kernel) fun K hK =>?_;simp only[II,ab,simprocAttr]
   try simp only[fm 7 hlt rfl,cI,zz9,hfc,cN,ab,simprocAttr]
   refine .flat _ (hf _ (zx5 hlt)) rfl ?_
   try simp only[ab,simprocAttr]
   refine .done (hK _ ?_);clear hK K;refine U.bL ?_;simp only[al,ab,simprocAttr];refine ⟨fun h =>?_,fun h =>?_⟩
   ·refine .ar (by decide +kernel) fun K hK =>?_;simp only[IJ,ab,simprocAttr];refine .done (hK _ ?_);clear hK K;refine U.ret ?_;simp only[bP,au,ab,simprocAttr];simp[xr hlt hi.2 h]
   ·refine U.skip ?_;try simp only[au,bP,simprocAttr]
    refine .bx (by decide +kernel) fun K hK =>?_;simp only[IK,ab,simprocAttr];refine .done (hK _ ?_);clear hK K;try simp only[au]
    refine ⟨i+1,⟨by omega,fun x hm =>?_⟩,by omega,?_⟩
    ·rw[zz8 hlt] at hm;rcases zy5.1 hm with hm | hm
     ·exact hi.2 x hm
     ·simp at hm;rw[hm];exact h
    ·rw[cG _ (by omega) (by omega)];refine aB.bE ?_ ?_ ?_ ?_ <;>simp[aQ,bt,br,aY,aS,I.only,bg,hon]
  ·have hge:i=l.length:=by simp at h;omega
   refine U.exit ?_;try simp only[au,bP,simprocAttr]
   refine .ar (by decide +kernel) fun K hK =>?_;simp only[IL,ab,simprocAttr];refine .done (hK _ ?_);clear hK K;refine U.ret ?_;simp only[ab,simprocAttr];simp[hge] at hi;simp[xq hi]
theorem ack{α:Type}(p:α→Bool)(l:List α):decide (0≤(match l.findIdx? p with | some i=>(i:Int) | none=>-1))=l.any p:=by
 cases h:l.findIdx? p with
 |none =>
  rw[List.findIdx?_eq_none_iff] at h;have:l.any p=false:=by rw[List.any_eq_false];intro x hx;simp[h x hx]
  simp[this]
 |some i =>
  rw[zu0] at h;obtain ⟨h1,h2,_⟩:=h;have:l.any p=true:=by rw[List.any_eq_true];exact ⟨_,zx5 h1,h2⟩
  rw[this];exact decide_eq_true (Int.natCast_nonneg i)
theorem RM(l:List cu)(f:FuncId)(caps:List I)(hcaps:I.eY caps=true)(p:cu→Bool)(hf:∀ x∈l,aA Tryz.prog f (enc x::caps) (enc (p x))):aA Tryz.prog 163 [enc l,.func f caps] (enc (l.any p)):=by
 refine aA.bp Tryz.func163 UK WK Y0 (t7 rfl) (fun hwf W0 D0 E1 =>?_);simp only[CH,OG,bl,zz4];have hcl:I.cg caps=true:=kR caps hcaps;have hfc:∀ aC A,cn aC A caps=some caps:=fun aC A=>kq aC A caps hcaps;refine .ar (by decide +kernel) fun K hK =>?_;simp only[HX,ab,simprocAttr];refine .done (hK _ ?_);clear hK K;refine .ar (by decide +kernel) fun K hK =>?_;simp only[HY,ab,simprocAttr]
 try simp only[cN,hfc,ab,simprocAttr]
 refine .flat _ (vQ l f caps hcaps p hf) rfl ?_
 try simp only[ab,simprocAttr]
 refine .done (hK _ ?_);clear hK K;refine U.ret ?_;simp only[ab,simprocAttr];rw[ack]
theorem AW(m:bY)(l:List cu)(k:aX 6 Int)(hl:∀ g∈l,ee g.mark=true)(hk:ee k=true):aA Tryz.prog 124 [enc m,enc l,enc k] (enc (!l.any fun g=>kJ m g.mark k)):=by
 refine aA.bp Tryz.func124 Ue Wc Yt (t7 rfl) (fun hwf W0 D0 E1 =>?_);simp only[Ca,N5,bl,zz4,Nat.reduceAdd];refine .ar (by decide +kernel) fun K hK =>?_;simp only[Gu,ab,simprocAttr]
 try simp only[du,ab,simprocAttr]
 refine .done (hK _ ?_);clear hK K;refine .ar (by decide +kernel) fun K hK =>?_;simp only[Gv,ab,simprocAttr]
 try simp only[List.all_cons,List.all_nil,I.cq,zw7,dL,cN,ab,simprocAttr]
 refine .flat _ (RM l 164 [.ref (enc m),.ref (enc k)] ?_ (fun g=>kJ m g.mark k) (fun g hg=>RN m g k (hl g hg) hk)) rfl ?_
 ·simp only[I.eY,I.done,dL,zw7]
 try simp only[ab,simprocAttr]
 refine .done (hK _ ?_);clear hK K;refine U.ret ?_;simp only[ab,simprocAttr]
theorem Qu{α:Type}[Enc α]{A:af}(esz:Nat){l:List α}{i:Nat}(h:i≤l.length)(hs:Enc.sz α=esz):mT A esz none (some (.int .i64 i)) none (enc l)=some (enc (l.take i)):=by
 simp only[mT,gT,hs,if_true,ke,iN,zy1];rw[if_pos ⟨by omega,by omega,by omega,by omega⟩];simp
theorem BC(m:bY)(k:aX 6 Int){i:Nat}(h:i≤m.given.length):(!(m.given.take i).any fun g=>kJ m g.mark k)=(List.range i).all (fun j => !kJ m (dc m j).mark k):=by
 rw[Bool.eq_iff_iff];simp only[Bool.not_eq_true',List.any_eq_false,zx3,zw4];constructor
 ·intro h1 j hj;have hjl:j<m.given.length:=by omega
  have:=h1 m.given[j] (by rw[List.mem_take_iff_getElem];exact ⟨j,by omega,rfl⟩);rw[jY hjl] at this;simpa using this
 ·intro h1 g hg;rw[List.mem_take_iff_getElem] at hg;obtain ⟨j,hj,rfl⟩:=hg;have hjl:j<m.given.length:=by omega
  rw[jY hjl];simpa using h1 j (by omega)
theorem sY(m:bY):aA Tryz.prog 66 [enc m] (enc (if ed m then (0:Int) else 13)):=by
 refine aA.bp Tryz.func66 Vx XB ZO (t7 rfl) (fun hwf W0 D0 E1 =>?_);simp only[Dw,Pv,bl];refine .ar (by decide +kernel) fun K hK =>?_;simp only[Kv,ab,simprocAttr]
 try simp only[du,ab,simprocAttr]
 refine .done (hK _ ?_);clear hK K;refine U.seq (U.seq ?_);refine .bx (by decide +kernel) fun K hK =>?_;simp only[Kx,ab,simprocAttr]
 try simp only[cI,cN,ab,simprocAttr]
 refine .flat _ (Rj m.fb) rfl ?_;generalize hw:iK m.fb=bw;cases bw
 ·try simp only[ab,simprocAttr]
  refine .done (hK _ ?_);clear hK K;try simp only[au]
  refine U.bL ?_;simp only[al,ab,simprocAttr];refine ⟨fun h =>?_,fun h =>?_⟩
  ·refine .ar (by decide +kernel) fun K hK =>?_;simp only[tY,ab,simprocAttr];refine .done (hK _ ?_);clear hK K;refine U.ret ?_;simp only[au,ab,simprocAttr];simp[ed,hw]
  ·cases h
 try simp only[cI,ab,simprocAttr]
 refine .flat _ (sV m.e7 0 2) rfl ?_;generalize hf:b7 0 2 m.e7=bf;cases bf
 ·try simp only[ab,simprocAttr]
  refine .done (hK _ ?_);clear hK K;refine U.bL ?_;simp only[al,ab,simprocAttr];refine ⟨fun h =>?_,fun h =>?_⟩
  ·refine .ar (by decide +kernel) fun K hK =>?_;simp only[tY,ab,simprocAttr];refine .done (hK _ ?_);clear hK K;refine U.ret ?_;simp only[au,ab,simprocAttr];simp[ed,hw,hf]
  ·cases h
 try simp only[cI,aZ,ab,simprocAttr]
 refine .done (hK _ ?_);clear hK K;refine U.bL ?_;simp only[al,ab,simprocAttr];refine ⟨fun h =>?_,fun h =>?_⟩
 ·refine .ar (by decide +kernel) fun K hK =>?_;simp only[tY,ab,simprocAttr];refine .done (hK _ ?_);clear hK K;refine U.ret ?_;simp only[au,ab,simprocAttr];have:¬ m.given.length≤40:=by simp at h;omega
  simp[ed,hw,hf,this]
 have hlen:m.given.length≤40:=by simp at h;omega
 refine U.skip ?_;try simp only[au,simprocAttr]
 refine U.seq (U.seq ?_);refine U.bx (by decide +kernel) fun K hK =>?_
 try simp only[Ky,cI,aZ,ab,simprocAttr]
 refine .done (hK _ ?_);clear hK K;refine U.block (U.loop (fun i:Nat=>aw [(1,.ptr 1 []),(22,enc m.given),(23,.int .i64 m.given.length),(24,.int .i64 i)] [(1,.box (enc m))]) (fun i=>i≤m.given.length∧∀ j,j<i→iu m j=true) (fun i=>m.given.length-i) 0 ⟨by omega,fun k h=>by omega⟩ ?_ (fun i hi =>?_))
 ·refine aB.bE ?_ ?_ ?_ ?_ <;>simp[aQ,bt,br,aY,aq,aS,bT,I.only,ah.only,bg]
 refine .ar (by decide +kernel) fun K hK =>?_;simp only[Kz,ab,simprocAttr];refine .done (hK _ ?_);clear hK K;refine U.seq ?_;refine U.bL ?_;simp only[al,ab,simprocAttr];refine ⟨fun h =>?_,fun h =>?_⟩
 case refine_2.refine_2 =>
  have hge:i=m.given.length:=by simp at h;omega
  subst hge;refine U.exit ?_;try simp only[au,bP,simprocAttr]
  refine .ar (by decide +kernel) fun K hK =>?_;simp only[KC,ab,simprocAttr];refine .done (hK _ ?_);clear hK K;refine U.ret ?_;simp only[ab,simprocAttr];have:(List.range m.given.length).all (iu m)=true:=rF hi.2;simp[ed,hw,hf,this,hlen]
 have hlt:i<m.given.length:=by simpa using h
 refine U.skip ?_;try simp only[au,simprocAttr]
 refine U.seq (U.block ?_);refine .ar (by decide +kernel) fun K hK =>?_;simp only[KA,ab,simprocAttr]
 try simp only[cI,yO hlt,ab,simprocAttr]
 rw[eG (du _) (by rw[fW];rfl) ((eT _).trans rfl)]
 try simp only[ab,simprocAttr]
 refine .done (hK _ ?_);clear hK K;have l6:∀ b,iu m i=b→b=false→(if ed m then (0:Int) else 13)=13:=fun b h1 h2=>by
  have:(List.range m.given.length).all (iu m)=false:=oX i hlt (by rw[h1,h2]);simp[ed,this]
 have htake:∀ g∈m.given.take i,ee g.mark=true:=fun g hg=>by
  rw[List.mem_take_iff_getElem] at hg;obtain ⟨j,hj,rfl⟩:=hg;have hjl:j<m.given.length:=by omega
  rw[jY hjl];exact zt (hi.2 j (by omega))
 refine .ar (by decide +kernel) fun K hK =>?_;simp only[KB,ab,simprocAttr]
 try simp only[cI,ab,simprocAttr]
 refine .flat _ (Rk (dc m i).bU) rfl ?_;generalize ho:b7 1 99 (dc m i).bU=bo;cases bo
 ·try simp only[ab,simprocAttr]
  refine .done (hK _ ?_);clear hK K;refine U.bL ?_;simp only[al,ab,simprocAttr];refine ⟨fun h =>?_,fun h =>?_⟩
  ·refine .ar (by decide +kernel) fun K hK =>?_;simp only[qz,ab,simprocAttr];refine .done (hK _ ?_);clear hK K;refine U.ret ?_;simp only[bP,au,ab,simprocAttr];rw[l6 _ rfl (by simp[iu,ho])]
  ·cases h
 try simp only[cI,cN,ab,simprocAttr]
 refine .flat _ (Rl (dc m i).mark) rfl ?_;generalize hk:ee (dc m i).mark=bk;cases bk
 ·try simp only[ab,simprocAttr]
  refine .done (hK _ ?_);clear hK K;refine U.bL ?_;simp only[al,ab,simprocAttr];refine ⟨fun h =>?_,fun h =>?_⟩
  ·refine .ar (by decide +kernel) fun K hK =>?_;simp only[qz,ab,simprocAttr];refine .done (hK _ ?_);clear hK K;refine U.ret ?_;simp only[bP,au,ab,simprocAttr];rw[l6 _ rfl (by simp[iu,ho,hk])]
  ·cases h
 try simp only[ab,simprocAttr]
 generalize hz:decide (0<(i:Int))=bz;cases bz
 ·have hprev:(i==0||decide ((dc m (i-1)).bU<(dc m i).bU))=true:=by simp at hz;simp[hz]
  try simp only[cI,ab,simprocAttr]
  try simp only[cI,cN,Qu 7 (Nat.le_of_lt hlt) rfl,zw5,ab,simprocAttr]
  refine .flat _ (AW m (m.given.take i) (dc m i).mark htake hk) rfl ?_;rw[BC m (dc m i).mark (Nat.le_of_lt hlt)];generalize hap:(List.range i).all (fun j => !kJ m (dc m j).mark (dc m i).mark)=ba;cases ba
  ·try simp only[ab,simprocAttr]
   refine .done (hK _ ?_);clear hK K;refine U.bL ?_;simp only[al,ab,simprocAttr];refine ⟨fun h =>?_,fun h =>?_⟩
   ·refine .ar (by decide +kernel) fun K hK =>?_;simp only[qz,ab,simprocAttr];refine .done (hK _ ?_);clear hK K;refine U.ret ?_;simp only[bP,au,ab,simprocAttr];rw[l6 _ rfl (by simp only[iu,hap,Bool.and_false])]
   ·cases h
  ·try simp only[ab,simprocAttr]
   refine .done (hK _ ?_);clear hK K;refine U.bL ?_;simp only[al,ab,simprocAttr];refine ⟨fun h =>?_,fun h =>?_⟩
   ·cases h
   refine U.skip ?_;try simp only[au,bP,simprocAttr]
   refine .bx (by decide +kernel) fun K hK =>?_;simp only[ya,ab,simprocAttr];refine .done (hK _ ?_);clear hK K;try simp only[au]
   refine ⟨i+1,⟨by omega,fun k hk' =>?_⟩,by omega,?_⟩
   ·by_cases hki:k=i
    ·rw[hki];simp only[iu,ho,hk,hprev,hap,zw7]
    ·exact hi.2 k (by omega)
   ·rw[cG _ (by omega) (by omega)];refine aB.bE ?_ ?_ ?_ ?_ <;>simp[aQ,bt,br,aY,aq,aS,bT,I.only,ah.only,bg]
 ·have hpos:0<i:=by simpa using hz
  have hpl:i-1<m.given.length:=by omega
  have hpred:IntKind.i64.wrap ((i:Int)-1)=((i-1:Nat):Int):=by rw[cG _ (by omega) (by omega)];omega
  try simp only[cI,hpred,yO hpl,ab,simprocAttr]
  generalize hq:decide ((dc m i).bU≤(dc m (i-1)).bU)=bq;cases bq
  ·have hprev:(i==0||decide ((dc m (i-1)).bU<(dc m i).bU))=true:=by simp at hq;simp;omega
   try simp only[cI,ab,simprocAttr]
   try simp only[cI,cN,Qu 7 (Nat.le_of_lt hlt) rfl,zw5,ab,simprocAttr]
   refine .flat _ (AW m (m.given.take i) (dc m i).mark htake hk) rfl ?_;rw[BC m (dc m i).mark (Nat.le_of_lt hlt)];generalize hap:(List.range i).all (fun j => !kJ m (dc m j).mark (dc m i).mark)=ba;cases ba
   ·try simp only[ab,simprocAttr]
    refine .done (hK _ ?_);clear hK K;try simp only[au,bP]
    refine U.bL ?_;simp only[al,ab,simprocAttr];refine ⟨fun h =>?_,fun h =>?_⟩
    ·refine .ar (by decide +kernel) fun K hK =>?_;simp only[qz,ab,simprocAttr];refine .done (hK _ ?_);clear hK K;refine U.ret ?_;simp only[bP,au,ab,simprocAttr];rw[l6 _ rfl (by simp only[iu,hap,Bool.and_false])]
    ·cases h
   ·try simp only[ab,simprocAttr]
    refine .done (hK _ ?_);clear hK K;refine U.bL ?_;simp only[al,ab,simprocAttr];refine ⟨fun h =>?_,fun h =>?_⟩
    ·cases h
    refine U.skip ?_;try simp only[au,bP,simprocAttr]
    refine .bx (by decide +kernel) fun K hK =>?_;simp only[ya,ab,simprocAttr];refine .done (hK _ ?_);clear hK K;try simp only[au]
    refine ⟨i+1,⟨by omega,fun k hk' =>?_⟩,by omega,?_⟩
    ·by_cases hki:k=i
     ·rw[hki];simp only[iu,ho,hk,hprev,hap,zw7]
     ·exact hi.2 k (by omega)
    ·rw[cG _ (by omega) (by omega)];refine aB.bE ?_ ?_ ?_ ?_ <;>simp[aQ,bt,br,aY,aq,aS,bT,I.only,ah.only,bg]
  ·try simp only[ab,simprocAttr]
   refine .done (hK _ ?_);clear hK K;try simp only[au,bP]
   refine U.bL ?_;simp only[al,ab,simprocAttr];refine ⟨fun h =>?_,fun h =>?_⟩
   ·refine .ar (by decide +kernel) fun K hK =>?_;simp only[qz,ab,simprocAttr];refine .done (hK _ ?_);clear hK K;refine U.ret ?_;simp only[bP,au,ab,simprocAttr];have:(i==0||decide ((dc m (i-1)).bU<(dc m i).bU))=false:=by simp at hq;simp;omega
    rw[l6 _ rfl (by simp only[iu,this,Bool.and_false,Bool.false_and])]
   ·cases h
theorem R5(f:FuncId)(caps:List I)(hcaps:I.eY caps=true):aA Tryz.prog 200 [enc ([]:List cu),.func f caps] (enc ([]:List cu)):=by
 refine aA.bp Tryz.func200 D6 Eg EB (t7 rfl) (fun hwf W0 D0 E1 =>?_);simp only[wy,zW,bl,zz4];have hcl:I.cg caps=true:=kR caps hcaps;have hfc:∀ aC A,cn aC A caps=some caps:=fun aC A=>kq aC A caps hcaps;refine .ar (by decide +kernel) fun K hK =>?_;simp only[xZ,ab,simprocAttr];refine .done (hK _ ?_);clear hK K;refine .ar (by decide +kernel) fun K hK =>?_;simp only[x4,ab,simprocAttr]
 try simp only[cN,hfc,ab,simprocAttr]
 refine .flat _ (vQ [] f caps hcaps (fun _=>false) (fun x hx=>by cases hx)) rfl ?_
 try simp only[List.findIdx?_nil,ab,simprocAttr]
 refine .done (hK _ ?_);clear hK K;refine U.seq (U.seq ?_);refine .bx (by decide +kernel) fun K hK =>?_;simp only[tV,ab,simprocAttr];refine .done (hK _ ?_);clear hK K;try simp only[au]
 refine U.bL ?_;simp only[al,ab,simprocAttr];refine ⟨fun h =>?_,fun h =>?_⟩
 ·refine .ar (by decide +kernel) fun K hK =>?_;simp only[x6,ab,simprocAttr];refine .done (hK _ ?_);clear hK K;refine U.ret ?_;simp only[au,ab,simprocAttr]
  try simp only[cN,ab,simprocAttr]
 ·cases h
def gu(p:cu→Bool)(l:List cu):List cu:=l.filter fun x => !p x
def EH(k:Nat)(l:List cu):cO:=fun r os'=>∃ m,r=.view k [] 7 0 l.length∧os'=jo k l m
theorem zF(p:Nat→Bool)(m:Nat)(x:cu):I.bV p (List.replicate m (enc x))=true:=by
 have:List.replicate m (enc x)=(List.replicate m x).map (enc (α:=cu)):=by simp
 rw[this];exact c9 p _
theorem aox(p:Nat→Bool)(xs:List cu)(i:Nat)(v:cu):I.bV p ((xs.map enc).set i (enc v))=true:=by
 rw[←List.map_set];exact c9 p _
theorem Ac{xs:List cu}{m j:Nat}(h:j<xs.length):((xs++List.replicate m fX).map (enc (α:=cu)))[0+j]?=some (enc xs[j]):=by
 rw[zz4,zw8,zy9 h,zy0 h];rfl
theorem apv{xs:List cu}{m i:Nat}(h:i<xs.length)(v:cu):((xs++List.replicate m fX).map (enc (α:=cu))).set (0+i) (enc v)=(xs.set i v++List.replicate m fX).map enc:=by
 rw[zz4,←List.map_set,List.set_append_left _ _ h]
theorem AF(l:List cu)(m:Nat):(l++List.replicate m fX).take l.length=l:=List.take_left
theorem xk(p:cu→Bool)(l:List cu){j:Nat}(h:j<l.length):gu p (l.take (j+1))=gu p (l.take j)++(if p l[j] then [] else [l[j]]):=by
 rw[zz8 h];simp only[gu,List.filter_append,zx8,zu2];cases p l[j] <;>simp
theorem R4(l:List cu)(f:FuncId)(caps:List I)(hcaps:I.eY caps=true)(p:cu→Bool)(hf:∀ x∈l,aA Tryz.prog f (enc x::caps) (enc (p x)))(hlen:l.length≤1000)(m:Nat) :
  cF Tryz.prog 200 [.view 1000000 [] 7 0 l.length,.func f caps] (jo 1000000 l m) (EH 1000000 (gu p l)):=by
 refine cF.bp Tryz.func200 D6 Eg EB (t7 rfl) (t7 rfl) (fun m hm=>by rw[cz.1 hm];exact zz7 _) (fun hwf W0 D0 E1 =>?_);simp only[wy,zW,bl,zz4];have hcl:I.cg caps=true:=kR caps hcaps;have hfc:∀ aC A,cn aC A caps=some caps:=fun aC A=>kq aC A caps hcaps;have hon:∀ q,I.bV q caps=true:=fun q=>kE q caps hcl;simp only[jo];refine .ar (by decide +kernel) fun K hK =>?_;simp only[xZ,ab,simprocAttr];refine .done (hK _ ?_);clear hK K;refine .ar (by decide +kernel) fun K hK =>?_;simp only[x4,ab,simprocAttr]
 try simp only[hfc,pc (α:=cu) (sz:=7) rfl,AF,ab,simprocAttr]
 refine .flat _ (vQ l f caps hcaps p hf) rfl ?_
 try simp only[ab,simprocAttr]
 refine .done (hK _ ?_);clear hK K;generalize hfi:l.findIdx? p=fi;cases fi with
 |none =>
  rw[List.findIdx?_eq_none_iff] at hfi;have hk:gu p l=l:=by
   simp only[gu,List.filter_eq_self];intro x hx;simp[hfi x hx]
  refine U.seq (U.seq ?_);refine .bx (by decide +kernel) fun K hK =>?_;simp only[tV,ab,simprocAttr];refine .done (hK _ ?_);clear hK K;try simp only[au]
  refine U.bL ?_;simp only[al,ab,simprocAttr];refine ⟨fun h =>?_,fun h =>?_⟩
  ·refine .ar (by decide +kernel) fun K hK =>?_;simp only[x6,ab,simprocAttr];refine .done (hK _ ?_);clear hK K;refine U.ret ?_;simp only[au,eA];rw[hk];exact ⟨jo 1000000 l m,[.view 1000000 [] 7 0 l.length],iE rfl (fun p=>nw p _),⟨⟨_,rfl,.inl ⟨rfl,rfl,rfl⟩⟩,trivial⟩,m,rfl,rfl⟩
  ·cases h
 |some i0 =>
  obtain ⟨q1,q2,q3⟩:=zu0.1 hfi;have hstart:l.take i0=gu p (l.take (i0+1)):=by
   rw[xk p l q1,q2];simp only[if_true,zx6,gu]
   symm
   rw[List.filter_eq_self];intro x hx;rw[List.mem_take_iff_getElem] at hx;obtain ⟨j,hj,rfl⟩:=hx;have:=q3 j (by omega);simpa using this
  refine U.seq (U.seq ?_);refine .bx (by decide +kernel) fun K hK =>?_;simp only[tV,ab,simprocAttr];refine .done (hK _ ?_);clear hK K;try simp only[au]
  refine U.bL ?_;simp only[al,ab,simprocAttr];refine ⟨fun h =>?_,fun h =>?_⟩
  ·simp at h
  refine U.skip ?_;try simp only[au,simprocAttr]
  refine U.seq (U.seq ?_);refine .bx (by decide +kernel) fun K hK =>?_;simp only[I4,ab,simprocAttr];refine .done (hK _ ?_);clear hK K;try simp only[au]
  refine U.block (U.loop (fun s:List cu×Nat×Nat=>aw [(0,.view 1000000 [] 7 0 l.length),(1,.func f caps),(5,.int .i64 s.2.1),(6,.int .i64 s.2.2)] [(1000000,.box (.agg ((s.1++List.replicate m fX).map enc)))])
   (fun s=>s.1.length=l.length∧s.2.1<s.2.2∧s.2.2≤l.length∧s.1.take s.2.1=gu p (l.take s.2.2)∧s.1.drop s.2.2=l.drop s.2.2) (fun s=>l.length-s.2.2) (l,i0,i0+1) ⟨rfl,by simp only;omega,by simp only;omega,hstart,rfl⟩ ?_ ?_)
  ·rw[cG _ (by omega) (by omega)];refine aB.bE ?_ ?_ ?_ ?_ <;>simp[aQ,bt,br,aY,aq,aS,bT,I.only,ah.only,c9,fI,hon,zF]
  ·rintro ⟨xs,i,j⟩ ⟨c1,c2,c3,gf,jv⟩;simp only at c1 c2 c3 gf jv ⊢;refine U.seq (U.seq ?_);refine .bx (by decide +kernel) fun K hK =>?_;simp only[I5,ab,simprocAttr]
   try simp only[cL,ab,simprocAttr]
   refine .done (hK _ ?_);clear hK K;try simp only[au]
   refine U.bL ?_;simp only[al,ab,simprocAttr];refine ⟨fun h =>?_,fun h =>?_⟩
   ·have hj:j<l.length:=by simpa using h
    have hjx:j<xs.length:=by omega
    have hix:i<xs.length:=by omega
    have hxj:xs[j]=l[j]:=by
     have h1:(xs.drop j)[0]?=(l.drop j)[0]?:=by rw[jv]
     simpa[hj,hjx] using h1
    refine U.skip ?_;try simp only[au,simprocAttr]
    refine U.seq (U.block ?_);refine .ar (by decide +kernel) fun K hK =>?_;simp only[I6,ab,simprocAttr]
    try simp only[cL,yR (sz:=7) hj,zy3,ab,simprocAttr]
    try simp only[Ac hjx,hxj,cI,ab,simprocAttr]
    rw[eG (du _) (by rw[fW];rfl) ((eT _).trans rfl)]
    try simp only[ab,simprocAttr]
    refine .done (hK _ ?_);clear hK K;refine .ar (by decide +kernel) fun K hK =>?_;simp only[I7,ab,simprocAttr]
    try simp only[cI,cN,hfc,zz9,zy3,ab,simprocAttr]
    refine .flat _ (hf _ (zx5 hj)) rfl ?_
    try simp only[ab,simprocAttr]
    refine .done (hK _ ?_);clear hK K;refine U.bL ?_;simp only[al,ab,simprocAttr];refine ⟨fun h =>?_,fun h =>?_⟩
    ·have hpj:p l[j]=false:=by simpa using h
     refine .ar (by decide +kernel) fun K hK =>?_;simp only[I8,ab,simprocAttr]
     try simp only[cI,cL,yR (sz:=7) (show i<l.length by omega),zy3,ab,simprocAttr]
     try simp only[Ac hix,ab,simprocAttr]
     rw[eG (du _) (by rw[fW];rfl) ((eT _).trans (eT _).symm)]
     try simp only[Ac hix,apv hix,ab,simprocAttr]
     refine .done (hK _ ?_);clear hK K;refine .bx (by decide +kernel) fun K hK =>?_;simp only[I9,ab,simprocAttr];refine .done (hK _ ?_);clear hK K;try simp only[au,bP]
     refine .bx (by decide +kernel) fun K hK =>?_;simp only[x5,ab,simprocAttr];refine .done (hK _ ?_);clear hK K;try simp only[au]
     refine ⟨(xs.set i l[j],i+1,j+1),⟨by simp[c1],by simp only;omega,by simp only;omega,?_,?_⟩,by simp only;omega,?_⟩
     ·simp only;rw[xk p l hj,hpj,←gf];simp only[zz6,if_false];rw[zz8 (by simpa using hix),List.take_set_of_le (zz7 _)];simp
     ·simp only;rw[List.drop_set_of_lt (by omega)];have:(xs.drop j).drop 1=(l.drop j).drop 1:=by rw[jv]
      simpa[List.drop_drop] using this
     ·simp only;rw[cG _ (by omega) (by omega),cG _ (by omega) (by omega)];refine aB.bE ?_ ?_ ?_ ?_ <;>simp[aQ,bt,br,aY,aq,aS,bT,I.only,ah.only,fI,hon,zF,aox]
    ·have hpj:p l[j]=true:=by simpa using h
     refine U.skip ?_;try simp only[au,bP,simprocAttr]
     refine .bx (by decide +kernel) fun K hK =>?_;simp only[x5,ab,simprocAttr];refine .done (hK _ ?_);clear hK K;try simp only[au]
     refine ⟨(xs,i,j+1),⟨c1,by simp only;omega,by simp only;omega,?_,?_⟩,by simp only;omega,?_⟩
     ·simp only;rw[xk p l hj,hpj,←gf];simp
     ·simp only;have:(xs.drop j).drop 1=(l.drop j).drop 1:=by rw[jv]
      simpa[List.drop_drop] using this
     ·simp only;rw[cG _ (by omega) (by omega)];refine aB.bE ?_ ?_ ?_ ?_ <;>simp[aQ,bt,br,aY,aq,aS,bT,I.only,ah.only,c9,fI,hon,zF]
   ·have hj:j=l.length:=by simp at h;omega
    subst hj;rw[zu7] at gf;have hlk:(gu p l).length=i:=by rw[←gf,zy4];omega
    have htot:((xs++List.replicate m fX).map (enc (α:=cu))).length=l.length+m:=by simp[c1]
    refine U.exit ?_;try simp only[au,bP,simprocAttr]
    refine .ar (by decide +kernel) fun K hK =>?_;simp only[I2,ab,simprocAttr]
    try simp only[cL,htot,zw5,kG (show i≤l.length by omega) (show l.length≤l.length+m by omega) (show i<l.length+m by omega),xa,ab,simprocAttr]
    rw[rO fX rfl (by simp[c1];omega)];have hcont:(xs++List.replicate m fX).take i++(List.replicate (l.length-i) fX++(xs++List.replicate m fX).drop (i+(l.length-i)))=gu p l++List.replicate (l.length-i+m) fX:=by
     rw[zx7 (by omega),gf];have e1:i+(l.length-i)=xs.length:=by omega
     rw[e1,List.drop_left,List.replicate_append_replicate]
    rw[hcont]
    try simp only[ab,simprocAttr]
    refine .done (hK _ ?_);clear hK K;have htot2:((gu p l++List.replicate (l.length-i+m) fX).map (enc (α:=cu))).length=l.length+m:=by simp[hlk];omega
    refine .ar (by decide +kernel) fun K hK =>?_;simp only[I3,ab,simprocAttr]
    try simp only[cL,htot2,zw5,pQ (show i≤l.length+m by omega) (show 0<l.length+m by omega),ab,simprocAttr]
    refine .done (hK _ ?_);clear hK K;refine U.ret ?_;simp only[eA];exact ⟨jo 1000000 (gu p l) (l.length-i+m),[.view 1000000 [] 7 0 i],iE rfl (fun p=>nw p _),⟨⟨_,rfl,.inl ⟨rfl,rfl,rfl⟩⟩,trivial⟩,l.length-i+m,by rw[hlk];rfl,rfl⟩
def pz(a:Item)(k d kn b:Int):ak:=⟨a,k,d,kn,b,0,0,0,mX,⟨0,0⟩⟩
theorem ER:I.agg [.agg [.int .i64 0,.int .i64 0],.int .i64 0,.int .i64 0,.int .i64 0,.int .i64 0,.int .i64 0,.int .i64 0,.int .i64 0,.agg [.int .i64 0,.int .i64 0,.int .i64 0,.int .i64 0,.int .i64 0,.int .i64 0],.agg [.int .i64 0,.int .i64 0]]=enc (pz ⟨0,0⟩ 0 0 0 0):=rfl
theorem BP(a:Item)(k d kn b:Int):(dN [.agg [.int .i64 0,.int .i64 0],.int .i64 0,.int .i64 0,.int .i64 0,.int .i64 0,.int .i64 0,.int .i64 0,.int .i64 0,.agg [.int .i64 0,.int .i64 0,.int .i64 0,.int .i64 0,.int .i64 0,.int .i64 0],.agg [.int .i64 0,.int .i64 0]] [(0,enc a),(1,.int .i64 k),(2,.int .i64 d),(3,.int .i64 kn),(4,.int .i64 b)]).map .agg=some (enc (pz a k d kn b)):=by
 simp[dN,I.cq,I.size,I.sizes,gG,qn];rfl
theorem BO(a:Item)(k d kn:Int):(dN [.agg [.int .i64 0,.int .i64 0],.int .i64 0,.int .i64 0,.int .i64 0,.int .i64 0,.int .i64 0,.int .i64 0,.int .i64 0,.agg [.int .i64 0,.int .i64 0,.int .i64 0,.int .i64 0,.int .i64 0,.int .i64 0],.agg [.int .i64 0,.int .i64 0]] [(0,enc a),(1,.int .i64 k),(2,.int .i64 d),(3,.int .i64 kn)]).map .agg=some (enc (pz a k d kn 0)):=by
 simp[dN,I.cq,I.size,I.sizes,gG,qn];rfl
theorem QD(A:af)(n:Nat)(b:I)(x y:ak)(rest:List aE):dT A (some 17) n [] b (enc x) rest (some (enc y))=aF rest (A.aU n (.box (enc x))):=eG (du _) (Nj x) ((eT x).trans (eT y).symm)
theorem pT(A:af)(n:Nat)(p:List Nat)(b:I)(k:IntKind)(x y:Int)(rest:List aE):dT A none n p b (.int k x) rest (some (.int k y))=aF rest (A.aU n (.box (b.dS p (.int k x)))):=eG rfl rfl rfl
theorem apX(A:af)(n:Nat)(p:List Nat)(b:I)(x y:aX 6 Int)(rest:List aE):dT A (some 6) n p b (enc x) rest (some (enc y))=aF rest (A.aU n (.box (b.dS p (enc x)))):=eG (du _) (Ni x) ((eT x).trans (eT y).symm)
theorem QK(A:af)(n:Nat)(p:List Nat)(b:I)(x y:Item)(rest:List aE):dT A (some 2) n p b (enc x) rest (some (enc y))=aF rest (A.aU n (.box (b.dS p (enc x)))):=eG (du _) (Nk x) ((eT x).trans (eT y).symm)
theorem Qq :
  (∀ (A:af) (n:Nat) (rest:List aE) (e:ak) v y,dT A (some 2) n [0] (enc e) (enc (v:Item)) rest (some (enc (y:Item)))=aF rest (A.aU n (.box (enc { e with bd:=v })))) ∧
  (∀ (A:af) (n:Nat) (rest:List aE) (e:ak) v y,dT A none n [1] (enc e) (.int .i64 v) rest (some (.int .i64 y))=aF rest (A.aU n (.box (enc { e with kind:=v })))) ∧
  (∀ (A:af) (n:Nat) (rest:List aE) (e:ak) v y,dT A none n [2] (enc e) (.int .i64 v) rest (some (.int .i64 y))=aF rest (A.aU n (.box (enc { e with day:=v })))) ∧
  (∀ (A:af) (n:Nat) (rest:List aE) (e:ak) v y,dT A none n [3] (enc e) (.int .i64 v) rest (some (.int .i64 y))=aF rest (A.aU n (.box (enc { e with known:=v })))) ∧
  (∀ (A:af) (n:Nat) (rest:List aE) (e:ak) v y,dT A none n [4] (enc e) (.int .i64 v) rest (some (.int .i64 y))=aF rest (A.aU n (.box (enc { e with eD:=v })))) ∧
  (∀ (A:af) (n:Nat) (rest:List aE) (e:ak) v y,dT A none n [5] (enc e) (.int .i64 v) rest (some (.int .i64 y))=aF rest (A.aU n (.box (enc { e with fg:=v })))) ∧
  (∀ (A:af) (n:Nat) (rest:List aE) (e:ak) v y,dT A none n [6] (enc e) (.int .i64 v) rest (some (.int .i64 y))=aF rest (A.aU n (.box (enc { e with dF:=v })))) ∧
  (∀ (A:af) (n:Nat) (rest:List aE) (e:ak) v y,dT A none n [7] (enc e) (.int .i64 v) rest (some (.int .i64 y))=aF rest (A.aU n (.box (enc { e with bU:=v })))) ∧
  (∀ (A:af) (n:Nat) (rest:List aE) (e:ak) v y,dT A (some 6) n [8] (enc e) (enc (v:aX 6 Int)) rest (some (enc (y:aX 6 Int)))=aF rest (A.aU n (.box (enc { e with bS:=v })))) ∧
  (∀ (A:af) (n:Nat) (rest:List aE) (e:ak) v y,dT A (some 2) n [9] (enc e) (enc (v:Item)) rest (some (enc (y:Item)))=aF rest (A.aU n (.box (enc { e with kC:=v })))) :=
 ⟨fun _ _ _ _ _ _=>by rw[QK];rfl,fun _ _ _ _ _ _=>by rw[pT];rfl,fun _ _ _ _ _ _=>by rw[pT];rfl,fun _ _ _ _ _ _=>by rw[pT];rfl,fun _ _ _ _ _ _=>by rw[pT];rfl,fun _ _ _ _ _ _=>by rw[pT];rfl,fun _ _ _ _ _ _=>by rw[pT];rfl,fun _ _ _ _ _ _=>by rw[pT];rfl,fun _ _ _ _ _ _=>by rw[apX];rfl,fun _ _ _ _ _ _=>by rw[QK];rfl⟩
theorem AO(x y:aX 6 Int):x=y↔x.l=y.l:=by cases x;cases y;simp
theorem aqO(p q:Prop)[Decidable p][Decidable q]:ja (some (decide p)) (some (decide q))=some (decide (p∧q)):=by simp[ja]
theorem E4(a b:Int):cw (.i .i64) (.int .i64 a) (.int .i64 b)=some (decide (a=b)):=by simp[cw];rfl
theorem E0(x y:ak):cw (.bu [(.bu [(.i .i64),(.i .i64)]),(.i .i64),(.i .i64),(.i .i64),(.i .i64),(.i .i64),(.i .i64),(.i .i64),(.kj 6 (.i .i64)),(.bu [(.i .i64),(.i .i64)])]) (enc x) (enc y)=some (decide (x=y)):=by
 obtain ⟨a1,k1,d1,n1,b1,m1,s1,o1,r1,f1⟩:=x;obtain ⟨a2,k2,d2,n2,b2,m2,s2,o2,dK,f2⟩:=y
 show cw _ (.agg [enc a1,.int .i64 k1,.int .i64 d1,.int .i64 n1,.int .i64 b1,.int .i64 m1,.int .i64 s1,.int .i64 o1,enc r1,enc f1]) (.agg [enc a2,.int .i64 k2,.int .i64 d2,.int .i64 n2,.int .i64 b2,.int .i64 m2,.int .i64 s2,.int .i64 o2,enc dK,enc f2])=_
 have hr:cw (.kj 6 (.i .i64)) (enc r1) (enc dK)=some (decide (r1=dK)):=by
  rw[qt]
  congr 1
  exact decide_eq_decide.2 (AO r1 dK).symm
 rw[cw];simp only[jz,rT,E4,hr,ak.mk.injEq];simp[ja]
theorem aO:(type_of% @ru)∧(type_of% @MZ)∧(type_of% @iw)∧(∀ {α:Type} [Enc α] (aC:Bool) (A:af) (x:α),bC aC A (enc x)=some (enc x))∧(∀ {α:Type} [Enc α] (x:α),(enc x).cq=true)∧(type_of% @ER)∧(type_of% @BP)∧(type_of% @BO)∧(type_of% @QD) ∧
  (type_of% @Qq)∧(type_of% @E0)∧(type_of% @rT)∧(∀ (a:Nat) l m,(a::l)++m=a::(l++m))∧(∀ b:Bool,((if b=true then (0:Int) else 12)==0)=b)∧(∀ b:Bool,((if b=true then (0:Int) else 12) != 0) = !b) :=
 ⟨ru,MZ,iw,@cN,@du,ER,BP,BO,QD,Qq,E0,rT,fun _ _ _=>rfl,fun b=>by cases b <;>rfl,fun b=>by cases b <;>rfl⟩
theorem s8(x:ak):aA Tryz.prog 84 [enc x] (enc (jt x)):=by
 refine aA.bp Tryz.func84 VI XM ZZ (t7 rfl) (fun hwf W0 D0 E1 =>?_);simp only[DJ,PG,bl];have R:=v6 @aO @ab
 repeat' ((first |refine U.aI (by decide +kernel) rfl fun K hK =>?_|(refine .aD [0,1,2,3,15,24,25,36,41,47] hK ?_;clear hK K)|(with_reducible refine .done (hK _ ?_);clear hK K)|refine U.of rfl ?_|(with_reducible refine al.aH (fun h =>?_) (fun h =>?_) <;>try simp only[h])) <;>try simp only[aJ,R,simprocAttr])
 all_goals clear R
 all_goals (congr 1;simp_all[jt,pz])
theorem vK(x:ak):aA Tryz.prog 117 [enc x] (enc (gB x)):=by
 refine aA.bp Tryz.func117 T8 V6 Yn (t7 rfl) (fun hwf W0 D0 E1 =>?_);simp only[B4,NZ,bl];refine .ar (by decide +kernel) fun K hK =>?_;simp only[Ga,ab,simprocAttr]
 try simp only[aO,ab,simprocAttr]
 refine .done (hK _ ?_);clear hK K;refine .ar (by decide +kernel) fun K hK =>?_;simp only[Gb,ab,simprocAttr]
 try simp only[aO,ab,simprocAttr]
 refine .done (hK _ ?_);clear hK K;refine .ar (by decide +kernel) fun K hK =>?_;simp only[Gc,ab,simprocAttr]
 try simp only[aO,ab,simprocAttr]
 refine .flat _ (RF _) rfl ?_
 try simp only[ab,simprocAttr]
 refine .done (hK _ ?_);clear hK K;refine U.gu [1,2,3,4] ?_;simp only[yV,reduceIte,Nat.reduceBEq];by_cases hk:0≤x.kind∧x.kind≤6
 ·refine U.seq (U.AK (aw [(1,.ptr 1 []),(3,.ptr 3 []),(4,.bool (oc x))] [(1,.box (enc x)),(3,.box (enc (jt x)))]) ?_ fun B hB=>U.sub hB ?_)
  ·clear hwf;obtain hk | hk | hk | hk | hk | hk | hk:x.kind=0∨x.kind=1∨x.kind=2∨x.kind=3∨x.kind=4∨x.kind=5∨x.kind=6:=by omega
   all_goals
    have R:=v6 @hk (v6 @aO @ab)
    repeat' ((first |(with_reducible refine .guard (fun hb =>?_) (fun hb =>?_) <;>try simp only[hb])|refine U.aI (by decide +kernel) rfl fun K hK =>?_|refine .flat _ (AV _) rfl ?_|refine .flat _ (RG _) rfl ?_|refine .flat _ (RH _) rfl ?_|refine .flat _ (mZ _ _ _) rfl ?_|refine .flat _ (A5 _) rfl ?_|refine .flat _ (vN _) rfl ?_|(refine U.sB (gs:=xy) [] [(1,[1]),(3,[3]),(23,[1]),(25,[3]),(26,[3])] [0,1,2,3,4,5] (by decide +kernel) (fq.of (by simp[pt,aS,Mu,I.only])) fun K hK =>?_;simp only[pD,xy,List.getD_cons_zero,List.getD_cons_succ,R,simprocAttr])|(refine U.sB (gs:=xz) [] [(1,[1]),(3,[3]),(55,[1]),(57,[1]),(59,[1]),(61,[3]),(62,[3]),(63,[3])] [0,1,2,3,4,5,6,7,8,9,10,11] (by decide +kernel) (fq.of (by simp[pt,aS,Mu,I.only])) fun K hK =>?_;simp only[pD,xz,List.getD_cons_zero,List.getD_cons_succ,R,simprocAttr])|(refine .aD [0,1,2,3,4,20,21,53,87,98,110,122] hK ?_;clear hK K)|(with_reducible refine .done (hK _ ?_);clear hK K)|refine U.of rfl ?_|(with_reducible refine al.aH (fun h =>?_) (fun h =>?_) <;>try simp only[h])) <;>try simp only[aJ,R,simprocAttr])
    all_goals clear R
   all_goals
    refine aB.bE ?_ ?_ ?_ ?_ <;>simp[*,aQ,bt,br,aY,aq,aS,bT,I.only,ah.only,bg,oc,jt,pz]
  ·have R:=v6 @aO @ab
   repeat' ((first |(with_reducible refine .guard (fun hb =>?_) (fun hb =>?_) <;>try simp only[hb])|refine U.aI (by decide +kernel) rfl fun K hK =>?_|refine .flat _ (AV _) rfl ?_|refine .flat _ (vN _) rfl ?_|(refine .aD [0,1,2,3,4,20,21,53,87,98,110,122] hK ?_;clear hK K)|(with_reducible refine .done (hK _ ?_);clear hK K)|refine U.of rfl ?_|(with_reducible refine al.aH (fun h =>?_) (fun h =>?_) <;>try simp only[h])) <;>try simp only[aJ,R,simprocAttr])
   all_goals clear R
   all_goals simp[gB, *]
 ·have h0:(x.kind==0)=false:=by simp;omega
  have h1:(x.kind==1)=false:=by simp;omega
  have h2:(x.kind==2)=false:=by simp;omega
  have h3:(x.kind==3)=false:=by simp;omega
  have h4:(x.kind==4)=false:=by simp;omega
  have h5:(x.kind==5)=false:=by simp;omega
  have h6:(x.kind==6)=false:=by simp;omega
  have R:=v6 @h0 (v6 @h1 (v6 @h2 (v6 @h3 (v6 @h4 (v6 @h5 (v6 @h6 (v6 @aO @ab)))))))
  repeat' ((first |(with_reducible refine .guard (fun hb =>?_) (fun hb =>?_) <;>try simp only[hb])|refine U.aI (by decide +kernel) rfl fun K hK =>?_|(refine .aD [0,1,2,3,4,20,21,53,87,98,110,122] hK ?_;clear hK K)|(with_reducible refine .done (hK _ ?_);clear hK K)|refine U.of rfl ?_|(with_reducible refine al.aH (fun h =>?_) (fun h =>?_) <;>try simp only[h])) <;>try simp only[aJ,R,simprocAttr])
  all_goals clear R
  simp at h0 h1 h2 h3 h4 h5 h6;simp[gB,oc, *]
def cJ:ak:=pz ⟨0,0⟩ 0 0 0 0
theorem ni:I.agg [.agg [.int .i64 0,.int .i64 0],.int .i64 0,.int .i64 0,.int .i64 0,.int .i64 0,.int .i64 0,.int .i64 0,.int .i64 0,.agg [.int .i64 0,.int .i64 0,.int .i64 0,.int .i64 0,.int .i64 0,.int .i64 0],.agg [.int .i64 0,.int .i64 0]]=enc cJ:=rfl
theorem gj(p:Nat→Bool)(l:List ak):(I.agg (l.map enc)).only p=true:=by simp only[I.only];exact c9 p l
def dR(k:Nat)(l:List ak)(m:Nat):List (Nat×ah):=[(k,.box (.agg ((l++List.replicate m cJ).map enc)))]
def wO(l:List ak):cO:=fun r os'=>(l=[]∧(r=.nils 17∨r=.c0 17)∧os'=[])∨(l≠[]∧∃ m,r=.view 7 [] 17 0 l.length∧os'=dR 7 l m)
theorem AY(l:List ak)(hl:l.length≤1000):cF Tryz.prog 136 [enc l] [] (wO l):=by
 refine cF.bp Tryz.func136 Up Wn YE (t7 rfl) (t7 rfl) (fun m hm=>by simp[aq,ao] at hm) (fun hwf W0 D0 E1 =>?_);simp only[Cl,Og,bl];refine .ar (by decide +kernel) fun K hK =>?_;simp only[GS,ab];refine .done (hK _ ?_);clear hK K;refine U.seq (U.seq ?_);by_cases hn:l=[]
 ·subst hn;refine .bx (by decide +kernel) fun K hK =>?_;simp only[xN,ab,Nat.reduceEqDiff,reduceIte];simp only[vA,List.isEmpty_nil,qM];refine .any rfl fun b _ =>?_
  try simp only[ab]
  generalize (b==0)=t;cases t
  ·refine .done (hK _ ?_);clear hK K;try simp only[au]
   refine U.bL ?_;simp only[al,ab,Nat.reduceEqDiff,reduceIte];refine ⟨fun h =>?_,fun h =>?_⟩
   ·cases h
   refine U.skip ?_;try simp only[au]
   refine .ar (by decide +kernel) fun K hK =>?_;simp only[xO,ab]
   try simp only[cL,ni,ab,Nat.reduceEqDiff,reduceIte]
   refine .done (hK _ ?_);clear hK K;refine U.ret ?_;simp only[eA];exact ⟨[],[.c0 17],pj,⟨⟨.c0 17,rfl,.inl ⟨rfl,rfl,rfl⟩⟩,trivial⟩,.inl ⟨rfl,.inr rfl,rfl⟩⟩
  ·refine .done (hK _ ?_);clear hK K;refine U.bL ?_;simp only[al,ab,Nat.reduceEqDiff,reduceIte];refine ⟨fun h =>?_,fun h =>?_⟩
   ·refine .ar (by decide +kernel) fun K hK =>?_;simp only[GU,ab];refine .done (hK _ ?_);clear hK K;refine U.ret ?_;simp only[au,eA];exact ⟨[],[.nils 17],pj,⟨⟨.nils 17,rfl,.inl ⟨rfl,rfl,rfl⟩⟩,trivial⟩,.inl ⟨rfl,.inl rfl,rfl⟩⟩
   ·cases h
 ·have hu:kK (enc l)=false:=by rw[vA];simpa using hn
  refine .bx (by decide +kernel) fun K hK =>?_;simp only[xN,ab,Nat.reduceEqDiff,reduceIte]
  try simp only[hu,MN _ l hn,ab]
  refine .done (hK _ ?_);clear hK K;try simp only[au]
  refine U.bL ?_;simp only[al,ab,Nat.reduceEqDiff,reduceIte];refine ⟨fun h =>?_,fun h =>?_⟩
  ·cases h
  refine U.skip ?_;try simp only[au]
  refine .ar (by decide +kernel) fun K hK =>?_;simp only[xO,ab]
  try simp only[cL,ni,ab,Nat.reduceEqDiff,reduceIte]
  refine bn.v8 cJ rfl hn rfl (by omega) (by simp only[maxLen];omega) fun m =>?_
  try simp only[ab,Nat.reduceEqDiff,reduceIte]
  refine .done (hK _ ?_);clear hK K;refine U.ret ?_;simp only[eA];exact ⟨dR 7 l m,[.view 7 [] 17 0 l.length],iE rfl (fun p=>gj p _),⟨⟨_,rfl,.inl ⟨rfl,rfl,rfl⟩⟩,trivial⟩,.inr ⟨hn,m,rfl,rfl⟩⟩
def gi(l:List ak)(i:Nat)(g:ak):List ak:=l.take i++g::l.drop i
theorem al3{l:List ak}{i:Nat}(g:ak)(h:i≤l.length):(gi l i g).length=l.length+1:=by
 simp only[gi,zz2,zy4,zu5,zy8];omega
def yK(l:List ak)(i:Nat)(g:ak)(k:Nat):cO:=fun r os' =>
 (∃ q,r=.view 1000000 [] 17 0 (l.length+1)∧os'=dR 1000000 (gi l i g) q)∨∃ d q,(d=25∨d=40)∧r=.view d [] 17 0 (l.length+1)∧os'=dR d (gi l i g) q++dR 1000000 l k
theorem amD(l:List ak)(i q:Nat)(g:ak)(h:i<l.length)(xs:List ak)(hx:xs=l.take i++(List.replicate (l.length+1-i) cJ++List.replicate q cJ))(ys:List ak)(hy:ys=xs.take i++([g].take 1++xs.drop (i+1))) :
  ys.take (i+1)++((((l++List.replicate 0 cJ).drop i).take (l.length-i)).take (l.length-i)++ys.drop (i+1+(l.length-i)))=gi l i g++List.replicate q cJ:=by
 have e1:xs.take i=l.take i:=by rw[hx,zx7 (by rw[zy4];omega),List.take_take,Nat.min_self]
 have e2:xs.drop (i+1)=List.replicate (l.length-i+q) cJ:=by
  have hl:(l.take i).length=i:=by rw[zy4];omega
  rw[hx,List.replicate_append_replicate,List.drop_append,hl,zw9 (by rw[hl];omega),zy3,List.drop_replicate]
  congr 1;omega
 have e3:ys=(l.take i++[g])++List.replicate (l.length-i+q) cJ:=by rw[hy,e1,e2];simp
 have hl2:(l.take i++[g]).length=i+1:=by rw[zz2,zy4];simp;omega
 have e4:ys.take (i+1)=l.take i++[g]:=by rw[e3,←hl2,List.take_left]
 have e5:ys.drop (i+1+(l.length-i))=List.replicate q cJ:=by
  rw[e3,List.drop_append,hl2,zw9 (by rw[hl2];omega),zy3,List.drop_replicate]
  congr 1;omega
 have e6:(((l++List.replicate 0 cJ).drop i).take (l.length-i)).take (l.length-i)=l.drop i:=by
  rw[List.replicate_zero,zx6,List.take_take,Nat.min_self,zv6 (by rw[zy8];omega)]
 rw[e4,e5,e6];simp[gi]
theorem amC(l:List ak)(i k:Nat)(g:ak)(h:i<l.length)(hk:1≤k)(xs:List ak)(hx:xs=l++List.replicate k cJ)(ys:List ak)(hy:ys=xs.take (i+1)++(((xs.drop i).take (l.length+1-i)).take (l.length-i)++xs.drop (i+1+(l.length-i)))) :
  ys.take i++([g].take 1++ys.drop (i+1))=gi l i g++List.replicate (k-1) cJ:=by
 have e1:((xs.drop i).take (l.length+1-i)).take (l.length-i)=l.drop i:=by
  rw[List.take_take,Nat.min_eq_left (by omega),hx,List.drop_append_of_le_length (by omega),zx7 (by rw[zy8];omega),zv6 (by rw[zy8];omega)]
 have e2:xs.drop (i+1+(l.length-i))=List.replicate (k-1) cJ:=by
  rw[hx,List.drop_append,zw9 (by omega),zy3,List.drop_replicate]
  congr 1;omega
 have hl:(xs.take (i+1)).length=i+1:=by rw[zy4,hx,zz2];omega
 have e3:ys.take i=l.take i:=by
  rw[hy,zx7 (by omega),List.take_take,Nat.min_eq_left (by omega),hx,zx7 (by omega)]
 have e4:ys.drop (i+1)=l.drop i++List.replicate (k-1) cJ:=by
  rw[hy,e1,e2];exact List.drop_left' hl
 rw[e3,e4];simp[gi]
theorem RE(l:List ak)(i:Nat)(g:ak)(k:Nat)(hi:i≤l.length)(hn:l≠[])(hlen:l.length≤1000) :
  cF Tryz.prog 153 [.view 1000000 [] 17 0 l.length,enc (i:Int),enc [g]] (dR 1000000 l k) (yK l i g k):=by
 refine cF.bp Tryz.func153 wD wG wT (t7 rfl) (t7 rfl) (fun m hm=>by rw[cz.1 hm];exact zz7 _) (fun hwf W0 D0 E1 =>?_);simp only[tr,u5,bl,zz4,Nat.reduceAdd];simp only[dR];have hl0:0<l.length:=List.length_pos_iff.2 hn;have htot:((l++List.replicate k cJ).map (enc (α:=ak))).length=l.length+k:=by simp
 refine .ar (by decide +kernel) fun K hK =>?_;simp only[tN,ab];refine .done (hK _ ?_);clear hK K;obtain ⟨y,hy⟩:=Qv (n:=1000000) (p:=[]) (sz:=17) hi (show l.length≤l.length+k by omega);refine .ar (by decide +kernel) fun K hK =>?_;simp only[tO,ab,Nat.reduceEqDiff,reduceIte]
 try simp only[cL,htot,zw5,hy,ab,reduceIte]
 refine .done (hK _ ?_);clear hK K;refine .ar (by decide +kernel) fun K hK =>?_;simp only[tP,ab,Nat.reduceEqDiff,reduceIte]
 try simp only[aZ,ab,Nat.reduceEqDiff,reduceIte]
 refine .done (hK _ ?_);clear hK K;refine U.seq (U.seq ?_);refine .bx (by decide +kernel) fun K hK =>?_;simp only[tQ,ab,Nat.reduceEqDiff,reduceIte]
 try simp only[cI,aZ,iw,cN,ab,Nat.reduceEqDiff,reduceIte,Int.reduceBNe,Int.reduceBEq]
 refine .done (hK _ ?_);clear hK K;try simp only[au]
 refine U.bL ?_;simp only[al,ab,Nat.reduceEqDiff,reduceIte];refine ⟨fun h =>?_,fun h =>?_⟩
 ·first | cases h | simp at h
 refine U.skip ?_;try simp only[au]
 refine .ar (by decide +kernel) fun K hK =>?_;simp only[tT,ab,Nat.reduceEqDiff,reduceIte]
 try simp only[cL,ab,Nat.reduceEqDiff,reduceIte]
 refine .done (hK _ ?_);clear hK K;refine U.seq (U.seq ?_);refine .bx (by decide +kernel) fun K hK =>?_;simp only[tU,ab,Nat.reduceEqDiff,reduceIte]
 try simp only[cI,aZ,iw,cN,ab,Nat.reduceEqDiff,reduceIte,Int.reduceBNe,Int.reduceBEq]
 refine .done (hK _ ?_);clear hK K;try simp only[au]
 have hA:∀ ts,(aw ts [(1000000,.box (.agg ((l++List.replicate k cJ).map (enc (α:=ak)))))]).o 1000000=some (.box (.agg ((l++List.replicate k cJ).map enc))):=fun _=>rfl;have hN:∀ ts (d:Nat),d≠1000000→(aw ts [(1000000,.box (.agg ((l++List.replicate k cJ).map (enc (α:=ak)))))]).o d=none:=fun ts d hd=>by
  have:¬ d=1000000:=hd;simp[aw,ao,this]
 refine U.bL ?_;simp only[al,ab,Nat.reduceEqDiff,reduceIte];refine ⟨fun h =>?_,fun h =>?_⟩
 ·have hil:i=l.length:=by
   have:(i:Int)=l.length:=by simpa using h
   omega
  subst hil;by_cases hk:k=0
  ·subst hk;refine .ar (by decide +kernel) fun K hK =>?_;simp only[rY,ab,Nat.reduceEqDiff,reduceIte]
   try simp only[ni]
   refine bn.S0 (esz:=17) cJ rfl (xs:=l++List.replicate 0 cJ) (ys:=[g]) (by simp) (hA _) (by simp) (by simp) (hN _ 25 (by decide)) (by simp;omega) (by simp[maxLen];omega) fun q =>?_;have hc:(l++List.replicate 0 cJ).take l.length++([g]++List.replicate q cJ)=gi l l.length g++List.replicate q cJ:=by simp[gi]
   rw[hc]
   try simp only[zv3,ab,Nat.reduceEqDiff,reduceIte]
   refine .done (hK _ ?_);clear hK K;refine U.ret ?_;simp only[au,eA];exact ⟨dR 25 (gi l l.length g) q++dR 1000000 l 0,[.view 25 [] 17 0 (l.length+1)],LP rfl (fun p=>gj p _) rfl (fun p=>gj p _),⟨⟨_,rfl,.inl ⟨rfl,rfl,rfl⟩⟩,trivial⟩,.inr ⟨25,q,.inl rfl,rfl,rfl⟩⟩
  ·refine .ar (by decide +kernel) fun K hK =>?_;simp only[rY,ab,Nat.reduceEqDiff,reduceIte]
   try simp only[ni]
   rw[BE (esz:=17) _ rfl (xs:=l++List.replicate k cJ) (ys:=[g]) (by simp) (hA _) (by simp;omega)];have hc:(l++List.replicate k cJ).take l.length++([g]++(l++List.replicate k cJ).drop (l.length+[g].length))=gi l l.length g++List.replicate (k-1) cJ:=by
    simp[gi,List.drop_append]
   rw[hc]
   try simp only[zv3,ab,Nat.reduceEqDiff,reduceIte]
   refine .done (hK _ ?_);clear hK K;refine U.ret ?_;simp only[au,eA];exact ⟨dR 1000000 (gi l l.length g) (k-1),[.view 1000000 [] 17 0 (l.length+1)],iE rfl (fun p=>gj p _),⟨⟨_,rfl,.inl ⟨rfl,rfl,rfl⟩⟩,trivial⟩,.inl ⟨k-1,rfl,rfl⟩⟩
 have hlt:i<l.length:=by
  have:¬ (i:Int)=l.length:=by simpa using h
  omega
 refine U.skip ?_;try simp only[au]
 refine U.seq (U.seq ?_);refine .bx (by decide +kernel) fun K hK =>?_;simp only[Hl,ab,Nat.reduceEqDiff,reduceIte]
 try simp only[MU,zv3,ab,Nat.reduceEqDiff,reduceIte]
 rw[VX (xs:=l++List.replicate k cJ) (hA _)]
 try simp only[ab,Nat.reduceEqDiff,reduceIte]
 rw[cG _ (by simp;omega) (by simp;omega)];refine .done (hK _ ?_);clear hK K;try simp only[au]
 have hgt:decide ((((l++List.replicate k cJ).length-0:Nat):Int)<(l.length:Int)+((1:Nat):Int))=decide (k=0):=by
  by_cases hk:k=0 <;>simp[hk] <;>omega
 simp only[hgt];by_cases hk:k=0
 ·subst hk;refine U.bL ?_;simp only[al,ab,Nat.reduceEqDiff,reduceIte];refine ⟨fun h =>?_,fun h =>?_⟩
  ·have htot0:((l++List.replicate 0 cJ).map (enc (α:=ak))).length=l.length:=by simp
   refine .ar (by decide +kernel) fun K hK =>?_;simp only[Hm,ab,Nat.reduceEqDiff,reduceIte]
   try simp only[cL,htot0,zw5,pQ (show i≤l.length by omega) hl0,ni,ans,ab,Nat.reduceEqDiff,reduceIte]
   rw[cG ((l.length:Int)+((1:Nat):Int)) (by omega) (by omega),cG ((l.length:Int)+((1:Nat):Int)-i) (by omega) (by omega)];have hm:(l.length:Int)+((1:Nat):Int)-i=((l.length+1-i:Nat):Int):=by omega
   rw[hm];refine bn.Tb (esz:=17) cJ rfl (xs:=l++List.replicate 0 cJ) (hA _) (by simp;omega) (by omega) (by simp;omega) (hN _ 40 (by decide)) (by omega) (by simp only[maxLen];omega) fun q =>?_;obtain ⟨xs,hxs⟩:∃ xs,xs=l.take i++(List.replicate (l.length+1-i) cJ++List.replicate q cJ):=⟨_,rfl⟩
   have hxs':(l++List.replicate 0 cJ).take i++(List.replicate (l.length+1-i) cJ++List.replicate q cJ)=xs:=by rw[hxs,zx7 (by omega)]
   have hxl:xs.length=l.length+1+q:=by rw[hxs];simp;omega
   have hle:i+(l.length+1-i)=l.length+1:=by omega
   rw[hxs',hle]
   try simp only[ab,Nat.reduceEqDiff,reduceIte]
   refine .done (hK _ ?_);clear hK K;have hxm:(xs.map (enc (α:=ak))).length=l.length+1+q:=by rw[zy1];exact hxl
   have hA2:∀ ts,(aw ts [(40,.box (.agg (xs.map (enc (α:=ak))))),(1000000,.box (.agg ((l++List.replicate 0 cJ).map (enc (α:=ak)))))]).o 40=some (.box (.agg (xs.map enc))):=fun _=>rfl;refine .ar (by decide +kernel) fun K hK =>?_;simp only[Hd,ab,Nat.reduceEqDiff,reduceIte]
   try simp only[cL,hxm,zw5,kG (show i≤l.length+1 by omega) (show l.length+1≤l.length+1+q by omega) (show i<l.length+1+q by omega),uS,ab,Nat.reduceEqDiff,reduceIte]
   rw[pR _ 17 [g] rfl,tx (xs:=xs) (c:=1) (hA2 _) (by omega) (by simp;omega)];obtain ⟨ys,hys⟩:∃ ys,ys=xs.take i++([g].take 1++xs.drop (i+1)):=⟨_,rfl⟩
   have hyl:ys.length=l.length+1+q:=by rw[hys];simp;omega
   rw[←hys]
   try simp only[ab]
   refine .done (hK _ ?_);clear hK K;have hym:(ys.map (enc (α:=ak))).length=l.length+1+q:=by rw[zy1];exact hyl
   have hA3:∀ ts z,(aw ts [(40,.box (.agg (ys.map (enc (α:=ak))))),(40,z),(1000000,.box (.agg ((l++List.replicate 0 cJ).map (enc (α:=ak)))))]).o 40=some (.box (.agg (ys.map enc))):=fun _ _=>rfl;have hA4:∀ ts z,(aw ts [(40,.box (.agg (ys.map (enc (α:=ak))))),(40,z),(1000000,.box (.agg ((l++List.replicate 0 cJ).map (enc (α:=ak)))))]).o 1000000=some (.box (.agg ((l++List.replicate 0 cJ).map enc))):=fun _ _=>rfl;refine .ar (by decide +kernel) fun K hK =>?_;simp only[He,ab,Nat.reduceEqDiff,reduceIte];rw[cG ((i:Int)+((1:Nat):Int)) (by omega) (by omega)];have hi1:(i:Int)+((1:Nat):Int)=((i+1:Nat):Int):=by omega
   try simp only[cL,hym,htot0,hi1,zw5,zy6,kG (show i+1≤l.length+1 by omega) (show l.length+1≤l.length+1+q by omega) (show i+1<l.length+1+q by omega),kG (show i≤l.length by omega) (zz7 l.length) hlt,uS,ab,Nat.reduceEqDiff,reduceIte]
   have hd1:l.length+1-(i+1)=l.length-i:=by omega
   rw[hd1,nR (xs:=l++List.replicate 0 cJ) (hA4 _ _) (by simp;omega),tx (xs:=ys) (c:=l.length-i) (hA3 _ _) (by omega) (by simp)];rw[amD l i q g hlt xs hxs ys hys]
   try simp only[ab]
   refine .done (hK _ ?_);clear hK K;refine .ar (by decide +kernel) fun K hK =>?_;simp only[Hf,ab,Nat.reduceEqDiff,reduceIte];refine .done (hK _ ?_);clear hK K;refine U.ret ?_;simp only[au,eA];exact ⟨dR 40 (gi l i g) q++dR 1000000 l 0,[.view 40 [] 17 0 (l.length+1)],LP rfl (fun p=>gj p _) rfl (fun p=>gj p _),⟨⟨_,rfl,.inl ⟨rfl,rfl,rfl⟩⟩,trivial⟩,.inr ⟨40,q,.inr rfl,rfl,rfl⟩⟩
  ·simp at h
 ·refine U.bL ?_;simp only[al,ab,Nat.reduceEqDiff,reduceIte];refine ⟨fun h =>?_,fun h =>?_⟩
  ·simp at h;omega
  refine U.skip ?_;try simp only[au]
  have hk1:1≤k:=by omega
  have hn1:(l.length:Int)+((1:Nat):Int)=((l.length+1:Nat):Int):=by omega
  refine .ar (by decide +kernel) fun K hK =>?_;simp only[Hg,ab,Nat.reduceEqDiff,reduceIte];rw[cG ((l.length:Int)+((1:Nat):Int)) (by omega) (by omega)]
  try simp only[cL,htot,hn1,zw5,pQ (show l.length+1≤l.length+k by omega) (show 0<l.length+k by omega),ab,Nat.reduceEqDiff,reduceIte]
  refine .done (hK _ ?_);clear hK K;have hi1:(i:Int)+((1:Nat):Int)=((i+1:Nat):Int):=by omega
  have hd1:l.length+1-(i+1)=l.length-i:=by omega
  refine U.seq (U.seq ?_);refine .bx (by decide +kernel) fun K hK =>?_;simp only[Hh,ab,Nat.reduceEqDiff,reduceIte];rw[cG ((i:Int)+((1:Nat):Int)) (by omega) (by omega)]
  try simp only[cL,htot,hi1,hd1,zw5,kG (show i+1≤l.length+1 by omega) (show l.length+1≤l.length+k by omega) (show i+1<l.length+k by omega),an3,ab,Nat.reduceEqDiff,reduceIte]
  refine .ext (.bool false) rfl (aqC (tS:=27) (tR:=4) (e:=68) Tryz.func191 (by kernel_rfl) (by kernel_rfl) (by kernel_rfl) (by kernel_rfl) (by kernel_rfl) (by kernel_rfl) (hA _) rfl ?_ (by decide)) ?_
  ·show I.sizes ((l++List.replicate k cJ).map enc)≠0
   rw[I.iT (sz:=17) _ (fun e he=>by obtain ⟨x,_,rfl⟩:=zw1.1 he;rw[gG];rfl)];rw[htot];omega
  try simp only[ab,Nat.reduceEqDiff,reduceIte]
  refine .done (hK _ ?_);clear hK K;try simp only[au]
  refine U.bL ?_;simp only[al,ab,Nat.reduceEqDiff,reduceIte];refine ⟨fun h =>?_,fun h =>?_⟩
  case neg.refine_2.refine_2.refine_2=>cases h
  have hd2:l.length+1-i=l.length+1-i:=rfl;obtain ⟨xs,hxs⟩:∃ xs,xs=l++List.replicate k cJ:=⟨_,rfl⟩
  have hxl:xs.length=l.length+k:=by rw[hxs];simp
  have hxm:(xs.map (enc (α:=ak))).length=l.length+k:=by rw[zy1];exact hxl
  rw[←hxs];have hB:∀ ts,(aw ts [(1000000,.box (.agg (xs.map (enc (α:=ak)))))]).o 1000000=some (.box (.agg (xs.map enc))):=fun _=>rfl;refine .ar (by decide +kernel) fun K hK =>?_;simp only[Hi,ab,Nat.reduceEqDiff,reduceIte];rw[cG ((i:Int)+((1:Nat):Int)) (by omega) (by omega)]
  try simp only[cL,hxm,hi1,hd1,zw5,zy6,kG (show i+1≤l.length+1 by omega) (show l.length+1≤l.length+k by omega) (show i+1<l.length+k by omega),kG (show i≤l.length+1 by omega) (show l.length+1≤l.length+k by omega) (show i<l.length+k by omega),uS,ab,Nat.reduceEqDiff,reduceIte]
  rw[nR (xs:=xs) (hB _) (by omega),tx (xs:=xs) (c:=l.length-i) (hB _) (by omega) (by simp;omega)];obtain ⟨ys,hys⟩:∃ ys,ys=xs.take (i+1)++(((xs.drop i).take (l.length+1-i)).take (l.length-i)++xs.drop (i+1+(l.length-i))):=⟨_,rfl⟩
  have hyl:ys.length=l.length+k:=by rw[hys];simp;omega
  have hym:(ys.map (enc (α:=ak))).length=l.length+k:=by rw[zy1];exact hyl
  rw[←hys]
  try simp only[ab]
  refine .done (hK _ ?_);clear hK K;have hC:∀ ts z,(aw ts [(1000000,.box (.agg (ys.map (enc (α:=ak))))),(1000000,z)]).o 1000000=some (.box (.agg (ys.map enc))):=fun _ _=>rfl;refine .ar (by decide +kernel) fun K hK =>?_;simp only[Hj,ab,Nat.reduceEqDiff,reduceIte]
  try simp only[cL,hym,zw5,kG (show i≤l.length+1 by omega) (show l.length+1≤l.length+k by omega) (show i<l.length+k by omega),uS,ab,Nat.reduceEqDiff,reduceIte]
  rw[pR _ 17 [g] rfl,tx (xs:=ys) (c:=1) (hC _ _) (by omega) (by simp;omega)];rw[amC l i k g hlt hk1 xs hxs ys hys]
  try simp only[ab]
  refine .done (hK _ ?_);clear hK K;refine .ar (by decide +kernel) fun K hK =>?_;simp only[Hk,ab,Nat.reduceEqDiff,reduceIte];refine .done (hK _ ?_);clear hK K;refine U.ret ?_;simp only[au,eA];exact ⟨dR 1000000 (gi l i g) (k-1),[.view 1000000 [] 17 0 (l.length+1)],iE rfl (fun p=>gj p _),⟨⟨_,rfl,.inl ⟨rfl,rfl,rfl⟩⟩,trivial⟩,.inl ⟨k-1,rfl,rfl⟩⟩
def eO(l:List ak)(i:Nat):List ak:=l.take i++l.drop (i+1)
theorem EI{l:List ak}{i:Nat}(h:i<l.length):(eO l i).length=l.length-1:=by
 simp only[eO,zz2,zy4,zy8];omega
def EG(l:List ak)(i:Nat):cO:=fun r os'=>∃ q,r=.view 1000000 [] 17 0 (l.length-1)∧os'=dR 1000000 (eO l i) q
theorem amA(l:List ak)(i k:Nat)(h:i+1<l.length)(xs:List ak)(hx:xs=l++List.replicate k cJ)(a:List ak)(ha:a=xs.take i++(l.drop (i+1)++xs.drop (i+(l.drop (i+1)).length))) :
  a.take (l.length-1)++(List.replicate 1 cJ++a.drop (l.length-1+1))=eO l i++List.replicate (k+1) cJ:=by
 have e1:xs.take i=l.take i:=by rw[hx,zx7 (by omega)]
 have e0:i+(l.drop (i+1)).length=l.length-1:=by rw[zy8];omega
 have e2:a=eO l i++xs.drop (l.length-1):=by rw[ha,e1,e0,eO,zz5]
 have hl:=EI (l:=l) (i:=i) (by omega);have e3:a.take (l.length-1)=eO l i:=by rw[e2,←hl,List.take_left]
 have e4:a.drop (l.length-1+1)=List.replicate k cJ:=by
  rw[e2,List.drop_append,hl,zw9 (by omega),zy3,List.drop_drop];have:l.length-1+(l.length-1+1-(l.length-1))=l.length:=by omega
  rw[this,hx,List.drop_left]
 rw[e3,e4,List.replicate_append_replicate,Nat.add_comm 1 k]
theorem amB(l:List ak)(k:Nat)(i:Nat)(h:i+1=l.length)(xs:List ak)(hx:xs=l++List.replicate k cJ):xs.take (l.length-1)++(List.replicate 1 cJ++xs.drop (l.length-1+1))=eO l i++List.replicate (k+1) cJ:=by
 have e1:l.length-1=i:=by omega
 have e2:xs.drop (l.length-1+1)=List.replicate k cJ:=by rw[show l.length-1+1=l.length by omega,hx,List.drop_left]
 have e3:xs.take (l.length-1)=eO l i:=by
  rw[e1,hx,zx7 (by omega),eO,zw9 (by omega),zx6]
 rw[e2,e3,List.replicate_append_replicate,Nat.add_comm 1 k]
theorem Rs(l:List ak)(i:Nat)(k:Nat)(hi:i<l.length)(hlen:l.length≤1000) :
  cF Tryz.prog 135 [.view 1000000 [] 17 0 l.length,enc (i:Int),enc ((i+1:Nat):Int)] (dR 1000000 l k) (EG l i):=by
 refine cF.bp Tryz.func135 Uo Wm YD (t7 rfl) (t7 rfl) (fun m hm=>by rw[cz.1 hm];exact zz7 _) (fun hwf W0 D0 E1 =>?_);simp only[Ck,Of,bl,zz4,Nat.reduceAdd];simp only[dR];obtain ⟨xs,hxs⟩:∃ xs,xs=l++List.replicate k cJ:=⟨_,rfl⟩
 have hxl:xs.length=l.length+k:=by rw[hxs];simp
 have htot:(xs.map (enc (α:=ak))).length=l.length+k:=by rw[zy1];exact hxl
 rw[←hxs];have hA:∀ ts,(aw ts [(1000000,.box (.agg (xs.map (enc (α:=ak)))))]).o 1000000=some (.box (.agg (xs.map enc))):=fun _=>rfl;refine .ar (by decide +kernel) fun K hK =>?_;simp only[GO,ab];refine .done (hK _ ?_);clear hK K;refine .ar (by decide +kernel) fun K hK =>?_;simp only[GP,ab,Nat.reduceEqDiff,reduceIte]
 try simp only[cL,htot,zy6,apN (show i≤i+1 by omega) (show i+1≤l.length by omega) (show l.length≤l.length+k by omega),ab,Nat.reduceEqDiff,reduceIte]
 refine .done (hK _ ?_);clear hK K;refine U.seq (U.seq ?_);refine .bx (by decide +kernel) fun K hK =>?_;simp only[GQ,ab,Nat.reduceEqDiff,reduceIte]
 try simp only[cI,aZ,iw,cN,ab,Nat.reduceEqDiff,reduceIte,Int.reduceBNe,Int.reduceBEq]
 refine .done (hK _ ?_);clear hK K;try simp only[au]
 refine U.bL ?_;simp only[al,ab,Nat.reduceEqDiff,reduceIte];refine ⟨fun h =>?_,fun h =>?_⟩
 ·exfalso
  have:(i:Int)=((i+1:Nat):Int):=by simpa using h
  omega
 refine U.skip ?_;try simp only[au]
 refine .ar (by decide +kernel) fun K hK =>?_;simp only[GR,ab,Nat.reduceEqDiff,reduceIte]
 try simp only[cL,ab,Nat.reduceEqDiff,reduceIte]
 refine .done (hK _ ?_);clear hK K;by_cases hl1:i+1<l.length
 ·have hd:(xs.drop (i+1)).take (l.length-(i+1))=l.drop (i+1):=by
   rw[hxs,List.drop_append_of_le_length (by omega),zx7 (by rw[zy8];omega),zv6 (by rw[zy8];omega)]
  have hdl:i+(l.drop (i+1)).length=l.length-1:=by rw[zy8];omega
  obtain ⟨b,hb⟩:∃ b,b=xs.take i++(l.drop (i+1)++xs.drop (i+(l.drop (i+1)).length)):=⟨_,rfl⟩
  have hbl:b.length=l.length+k:=by rw[hb];simp;omega
  have hcont:=amA l i k hl1 xs hxs b hb;refine .ar (by decide +kernel) fun K hK =>?_;simp only[xK,ab,Nat.reduceEqDiff,reduceIte]
  try simp only[cL,htot,zw5,zy6,pQ (show i≤l.length+k by omega) (show 0<l.length+k by omega),kG (show i+1≤l.length by omega) (show l.length≤l.length+k by omega) (show i+1<l.length+k by omega),ab,Nat.reduceEqDiff,reduceIte]
  rw[S5 (esz:=17) (xs:=xs) (ys:=l.drop (i+1)) _ _ (by rw[nR (xs:=xs) (hA _) (by omega),hd]) (by simp;omega) (hA _) (by rw[zy8];omega)];rw[←hb,hdl]
  try simp only[ab,Nat.reduceEqDiff,reduceIte]
  refine .done (hK _ ?_);clear hK K;have htb:(b.map (enc (α:=ak))).length=l.length+k:=by rw[zy1];exact hbl
  have hB:∀ ts os,(aw ts ((1000000,.box (.agg (b.map (enc (α:=ak)))))::os)).o 1000000=some (.box (.agg (b.map enc))):=fun _ _=>rfl;refine .ar (by decide +kernel) fun K hK =>?_;simp only[xL,ab,Nat.reduceEqDiff,reduceIte]
  try simp only[cL,htb,zw5,zy6,ni,ab,Nat.reduceEqDiff,reduceIte]
  rw[Qw (show l.length-1≤l.length by omega) (show l.length≤l.length+k by omega) (by omega)]
  try simp only[cL,ab,Nat.reduceEqDiff,reduceIte]
  rw[rO (xs:=b) cJ (hB _ _) (by omega)];have hone:l.length-(l.length-1)=1:=by omega
  try simp only[hone,hcont,ab]
  refine .done (hK _ ?_);clear hK K;refine .ar (by decide +kernel) fun K hK =>?_;simp only[xM,ab,Nat.reduceEqDiff,reduceIte];refine .done (hK _ ?_);clear hK K;refine U.ret ?_;simp only[eA];exact ⟨dR 1000000 (eO l i) (k+1),[.view 1000000 [] 17 0 (l.length-1)],iE rfl (fun p=>gj p _),⟨⟨_,rfl,.inl ⟨rfl,rfl,rfl⟩⟩,trivial⟩,k+1,rfl,rfl⟩
 ·have hie:i+1=l.length:=by omega
  obtain ⟨b,hb⟩:∃ b,b=xs:=⟨_,rfl⟩
  have hbl:b.length=l.length+k:=by rw[hb];exact hxl
  have hcont:=amB l k i hie xs hxs;rw[←hb] at hcont;have hi1:i=l.length-1:=by omega
  obtain ⟨y,hy⟩:=Qv (n:=1000000) (p:=[]) (sz:=17) (show i+1≤l.length by omega) (show l.length≤l.length+k by omega);have hye:∀ ts,eB (aw ts [(1000000,.box (.agg (xs.map (enc (α:=ak)))))]) 17 y=some []:=fun ts=>by
   by_cases hk:k=0
   ·have:iL 1000000 [] 17 0 l.length (l.length+k) (some (.int .i64 ((i+1:Nat):Int))) none none=some (.c0 17):=by
     simp only[iL,iN];rw[if_pos ⟨by omega,by omega,by omega⟩,if_pos (by omega)]
    rw[this] at hy;cases hy;rfl
   ·rw[kG (show i+1≤l.length by omega) (show l.length≤l.length+k by omega) (by omega)] at hy;cases hy;rw[nR (xs:=xs) (hA _) (by omega),hie];simp
  refine .ar (by decide +kernel) fun K hK =>?_;simp only[xK,ab,Nat.reduceEqDiff,reduceIte]
  try simp only[cL,htot,zw5,zy6,pQ (show i≤l.length+k by omega) (show 0<l.length+k by omega),hy,ab,Nat.reduceEqDiff,reduceIte]
  rw[BF (esz:=17) (xs:=xs) _ _ (hye _) (hA _) (by omega)];rw[hi1,←hb]
  try simp only[ab,Nat.reduceEqDiff,reduceIte]
  refine .done (hK _ ?_);clear hK K;have htb:(b.map (enc (α:=ak))).length=l.length+k:=by rw[zy1];exact hbl
  have hB:∀ ts os,(aw ts ((1000000,.box (.agg (b.map (enc (α:=ak)))))::os)).o 1000000=some (.box (.agg (b.map enc))):=fun _ _=>rfl;refine .ar (by decide +kernel) fun K hK =>?_;simp only[xL,ab,Nat.reduceEqDiff,reduceIte]
  try simp only[cL,htb,zw5,zy6,ni,ab,Nat.reduceEqDiff,reduceIte]
  rw[Qw (show l.length-1≤l.length by omega) (show l.length≤l.length+k by omega) (by omega)]
  try simp only[cL,ab,Nat.reduceEqDiff,reduceIte]
  rw[rO (xs:=b) cJ (hB _ _) (by omega)];have hone:l.length-(l.length-1)=1:=by omega
  try simp only[hone,hcont,ab]
  refine .done (hK _ ?_);clear hK K;refine .ar (by decide +kernel) fun K hK =>?_;simp only[xM,ab,Nat.reduceEqDiff,reduceIte];refine .done (hK _ ?_);clear hK K;refine U.ret ?_;simp only[eA];exact ⟨dR 1000000 (eO l i) (k+1),[.view 1000000 [] 17 0 (l.length-1)],iE rfl (fun p=>gj p _),⟨⟨_,rfl,.inl ⟨rfl,rfl,rfl⟩⟩,trivial⟩,k+1,rfl,rfl⟩
def eJ(b:aP)(s:I):I:=.agg [.agg [.int .i64 b.no,.int .i64 b.dF,.int .i64 b.fg,.int .i64 b.bU,.int .i64 b.ju,.int .i64 b.born,.int .i64 b.dW,.bool b.found,s]]
structure eQ where
 b:aP
instance:Enc eQ where
 enc x:=.agg [enc x.b]
 sz:=9
 aV:=.ez [.ez [.one,.one,.one,.one,.one,.one,.one,.one,.one]]
 gM:=true
 done e:=by simp only[I.done,I.eY,Enc.done,zw7]
 size e:=by simp only[I.size,I.sizes,gG,EY]
 lp e:=by simp only[I.aV,I.cT,eT];rfl
 agg _:=rfl
def fo(B:Nat):Nat→List aP→List (Nat×ah)
 |_,[]=>[]
 |i,b::bs=>(B+2+2*i,.box (eJ b (.own (B+3+2*i) b.bS.length)))::(B+3+2*i,.b9 66 6 (b.bS.map enc))::fo B (i+1) bs
def eE(B n:Nat):List I:=(List.range n).map fun i=>.ptr (B+2+2*i) []
def dA(bs:List aP):List I:=(bs.map (·.no)).map enc
def cB(B:Nat)(bs:List aP):List (Nat×ah):=(B,.box (.agg [.mref (B+1)]))::(B+1,.cE (dA bs) (eE B bs.length))::fo B 0 bs
theorem ux(B:Nat):∀ (bs:List aP) (i n:Nat),n<B+2+2*i→ao (fo B i bs) n=none
 | [],_,_,_=>rfl
 |b::bs,i,n,h=>by
  simp only[fo,ao];rw[if_neg (by omega),if_neg (by omega)];exact ux B bs (i+1) n (by omega)
theorem uv(B:Nat):∀ (bs:List aP) (i n:Nat),B+2+2*(i+bs.length)≤n→ao (fo B i bs) n=none
 | [],_,_,_=>rfl
 |b::bs,i,n,h=>by
  simp only[zu5] at h;simp only[fo,ao];rw[if_neg (by omega),if_neg (by omega)];exact uv B bs (i+1) n (by omega)
theorem uw(B:Nat):∀ (bs:List aP) (i k:Nat) (h:k<bs.length),ao (fo B i bs) (B+2+2*(i+k))=some (.box (eJ bs[k] (.own (B+3+2*(i+k)) (bs[k]).bS.length)))
 | [],_,_,h=>by simp at h
 |b::bs,i,0,_=>by simp[fo,ao]
 |b::bs,i,k+1,h=>by
  simp only[fo,ao];rw[if_neg (by omega),if_neg (by omega)];have:=uw B bs (i+1) k (by simpa using h);rw[show i+1+k=i+(k+1) by omega] at this;exact this
theorem uy(B:Nat):∀ (bs:List aP) (i k:Nat) (h:k<bs.length),ao (fo B i bs) (B+3+2*(i+k))=some (.b9 66 6 ((bs[k]).bS.map enc))
 | [],_,_,h=>by simp at h
 |b::bs,i,0,_=>by
  simp only[fo,ao];rw[if_neg (by omega),if_pos (by omega)];rfl
 |b::bs,i,k+1,h=>by
  simp only[fo,ao];rw[if_neg (by omega),if_neg (by omega)];have:=uy B bs (i+1) k (by simpa using h);rw[show i+1+k=i+(k+1) by omega] at this;exact this
theorem uN(B n m:Nat):n<B∨n=B∨n=B+1∨(∃ k,k<m∧n=B+2+2*k)∨(∃ k,k<m∧n=B+3+2*k)∨B+2+2*m≤n:=by
 by_cases h1:n<B
 ·exact .inl h1
 by_cases h2:n=B
 ·exact .inr (.inl h2)
 by_cases h3:n=B+1
 ·exact .inr (.inr (.inl h3))
 by_cases h4:B+2+2*m≤n
 ·exact .inr (.inr (.inr (.inr (.inr h4))))
 rcases Nat.mod_two_eq_zero_or_one (n-B) with h5 | h5
 ·exact .inr (.inr (.inr (.inl ⟨(n-B-2) / 2,by omega,by omega⟩)))
 ·exact .inr (.inr (.inr (.inr (.inl ⟨(n-B-3) / 2,by omega,by omega⟩))))
section
variable {B:Nat} {bs:List aP}
theorem kV{n:Nat}(h:n<B):ao (cB B bs) n=none:=by
 simp only[cB,ao];rw[if_neg (by omega),if_neg (by omega)];exact ux B bs 0 n (by omega)
theorem uh{n:Nat}(h:B+2+2*bs.length≤n):ao (cB B bs) n=none:=by
 simp only[cB,ao];rw[if_neg (by omega),if_neg (by omega)];exact uv B bs 0 n (by omega)
theorem kU:ao (cB B bs) B=some (.box (.agg [.mref (B+1)])):=by simp[cB,ao]
theorem lI:ao (cB B bs) (B+1)=some (.cE (dA bs) (eE B bs.length)):=by simp[cB,ao]
theorem nt{k:Nat}(h:k<bs.length):ao (cB B bs) (B+2+2*k)=some (.box (eJ bs[k] (.own (B+3+2*k) (bs[k]).bS.length))):=by
 simp only[cB,ao];rw[if_neg (by omega),if_neg (by omega)];have:=uw B bs 0 k h
 rwa [zz4] at this
theorem mw{k:Nat}(h:k<bs.length):ao (cB B bs) (B+3+2*k)=some (.b9 66 6 ((bs[k]).bS.map enc)):=by
 simp only[cB,ao];rw[if_neg (by omega),if_neg (by omega)];have:=uy B bs 0 k h
 rwa [zz4] at this
theorem oq{n:Nat} : aq (cB B bs) n=decide (B≤n∧n<B+2+2*bs.length):=by
 rcases uN B n bs.length with h | h | h | ⟨k,hk,h⟩ | ⟨k,hk,h⟩ | h
 ·simp only[aq,kV h];simp;omega
 ·subst h;simp only[aq,kU];simp;omega
 ·subst h;simp only[aq,lI];simp;omega
 ·subst h;simp only[aq,nt hk];simp;omega
 ·subst h;simp only[aq,mw hk];simp;omega
 ·simp only[aq,uh h];simp;omega
theorem zE(p:Nat→Bool){n:Nat}(h:∀ i,i<n→p (B+2+2*i)=true):I.bV p (eE B n)=true:=by
 unfold eE
 induction n with
 |zero=>rfl
 |succ n ih =>
  rw[List.range_succ,zx4,fI,ih fun i hi=>h i (by omega)];simp[I.bV,I.only,h n (by omega)]
theorem fQ{n:Nat}{x:ah}(h:ao (cB B bs) n=some x):x.only (aq (cB B bs))=true∧x.eZ=true:=by
 rcases uN B n bs.length with h2 | h2 | h2 | ⟨k,hk,h2⟩ | ⟨k,hk,h2⟩ | h2
 ·rw[kV h2] at h;cases h
 ·subst h2;rw[kU] at h;cases h;simp[ah.only,I.only,I.bV,oq,ah.eZ];omega
 ·subst h2;rw[lI] at h;cases h;refine ⟨?_,rfl⟩;simp only[ah.only,zz3];exact ⟨c9 _ _,zE _ fun i hi=>by rw[oq];simp;omega⟩
 ·subst h2;rw[nt hk] at h;cases h;simp[ah.only,I.only,I.bV,oq,ah.eZ,eJ];omega
 ·subst h2;rw[mw hk] at h;cases h;exact ⟨c9 _ _,rfl⟩
 ·rw[uh h2] at h;cases h
theorem LU{i:Nat}(hi:i<bs.length)(b:aP)(hno:b.no=(bs[i]).no)(n:Nat):ao (cB B (bs.set i b)) n =
  if n=B+2+2*i then some (.box (eJ b (.own (B+3+2*i) b.bS.length))) else if n=B+3+2*i then some (.b9 66 6 (b.bS.map enc)) else ao (cB B bs) n:=by
 have hl:(bs.set i b).length=bs.length:=List.length_set;have hnos:dA (bs.set i b)=dA bs:=by
  simp only[dA,List.map_set,hno]
  congr 1
  exact List.ext_getElem (by simp) fun j h1 h2=>by
   simp only[List.getElem_set,List.getElem_map];split
   ·rename_i e;subst e;rfl
   ·rfl
 rcases uN B n bs.length with h2 | h2 | h2 | ⟨k,hk,h2⟩ | ⟨k,hk,h2⟩ | h2
 ·rw[kV h2,kV h2,if_neg (by omega),if_neg (by omega)]
 ·subst h2;rw[kU,kU,if_neg (by omega),if_neg (by omega)]
 ·subst h2;rw[lI,lI,hl,hnos,if_neg (by omega),if_neg (by omega)]
 ·subst h2;rw[nt (by omega),nt hk];by_cases e:k=i
  ·subst e;simp
  ·rw[if_neg (by omega),if_neg (by omega)];simp[Ne.symm e]
 ·subst h2;rw[mw (by omega),mw hk];by_cases e:k=i
  ·subst e;rw[if_neg (by omega),if_pos rfl];simp
  ·rw[if_neg (by omega),if_neg (by omega)];simp[Ne.symm e]
 ·rw[uh (by omega),uh h2,if_neg (by omega),if_neg (by omega)]
end
theorem NO{B n i:Nat}(h:i<n):(eE B n)[i]?=some (.ptr (B+2+2*i) []):=by simp[eE,h]
theorem xf(a b:Int):cw (.i .i64) (enc a) (enc b)=some (decide (a=b)):=E4 a b
theorem yl{bs:List aP}{no:Int} : match (bs.map (·.no)).findIdx? fun x=>decide (no=x) with
  |some i=>∃ h:i<bs.length,cM bs no=some bs[i]∧(bs[i]).no=no
  |none=>cM bs no=none:=by
 cases h:(bs.map (·.no)).findIdx? fun x=>decide (no=x) with
 |none =>
  rw[List.findIdx?_eq_none_iff] at h;simp only;rw[LF];intro hm;have:=h no hm;simp at this
 |some i =>
  obtain ⟨h1,h2,h3⟩:=zu0.1 h;have hi:i<bs.length:=by simpa using h1
  have hno:(bs[i]).no=no:=by simpa using (of_decide_eq_true h2).symm
  refine ⟨hi,?_,hno⟩;simp only[cM,List.find?_eq_some_iff_getElem];refine ⟨by simpa using hno,i,hi,rfl,fun j hj =>?_⟩;have:=h3 j hj;simp at this;simpa using fun e=>this e.symm
theorem qG(B:Nat)(bs:List aP)(no:Int):(cM bs no=none∧gN (.i .i64) .nilp (.int .i64 no) (dA bs) (eE B bs.length)=some (.nilp,false)) ∨
  ∃ i,∃ h:i<bs.length,cM bs no=some bs[i]∧(bs[i]).no=no∧gN (.i .i64) .nilp (.int .i64 no) (dA bs) (eE B bs.length)=some (.ptr (B+2+2*i) [],true):=by
 have h1:=yl (bs:=bs) (no:=no);have h2:=yZ xf .nilp no (bs.map (·.no)) (eE B bs.length);rw[ig] at h2;unfold dA;cases h:(bs.map (·.no)).findIdx? fun x=>decide (no=x) with
 |none=>rw[h] at h1 h2;exact .inl ⟨h1,h2⟩
 |some i =>
  rw[h] at h1 h2;obtain ⟨hi,g1,g2⟩:=h1;refine .inr ⟨i,hi,g1,g2,?_⟩;rw[h2];simp only[NO hi,zy6]
theorem apE{bs:List aP}(hd:(bs.map (·.no)).Nodup){i:Nat}(hi:i<bs.length){b:aP}(hno:b.no=(bs[i]).no):mR bs b=bs.set i b:=by
 refine List.ext_getElem (by simp[mR]) fun j h1 h2 =>?_;simp only[mR,List.getElem_map,List.getElem_set];have hj:j<bs.length:=by simpa using h2
 by_cases e:i=j
 ·subst e;rw[if_pos hno.symm,if_pos rfl]
 ·rw[if_neg e,if_neg];intro he;have he:=he.trans hno;have:=(List.getElem_inj (h₀:=by simpa using hj) (h₁:=by simpa using hi) hd).1 (by simpa using he);exact e this.symm
theorem Fc(x:eQ):(enc x).dD=some [enc x.b]:=rfl
theorem Fe(b:aP)(s:I):(eJ b s).dD=some [.agg [.int .i64 b.no,.int .i64 b.dF,.int .i64 b.fg,.int .i64 b.bU,.int .i64 b.ju,.int .i64 b.born,.int .i64 b.dW,.bool b.found,s]]:=rfl
theorem Eo(b:aP)(n k:Nat):(eJ b (.own n k)).bJ=false:=by simp[eJ,I.bJ,I.cg]
theorem np{A:af}{m n:Nat}{b:aP}(ho:A.o n=some (.b9 66 6 (b.bS.map enc))):ev A (m+3) (eJ b (.own n b.bS.length))=some (enc (⟨b⟩:eQ)):=by
 have h1:ev A (m+1) (.own n b.bS.length)=some (enc b.bS):=by
  simp only[ev,I.bJ,zz6,if_false,ho,zy1,lB,and_self,if_true];rfl
 have hi:∀ (k:IntKind) (v:Int),ev A (m+1) (.int k v)=some (.int k v):=fun _ _=>by simp[ev,I.bJ]
 have hb:∀ v:Bool,ev A (m+1) (.bool v)=some (.bool v):=fun _=>by simp[ev,I.bJ]
 have h2:ev A (m+2) (.agg [.int .i64 b.no,.int .i64 b.dF,.int .i64 b.fg,.int .i64 b.bU,.int .i64 b.ju,.int .i64 b.born,.int .i64 b.dW,.bool b.found,.own n b.bS.length])=some (enc b):=by
  rw[ev];simp only[I.bJ,I.cg,Bool.and_false,Bool.and_true,zz6,if_false,gw,hi,hb,h1,zy6];rfl
 rw[eJ,ev];simp only[I.bJ,I.cg,Bool.and_false,Bool.and_true,zz6,if_false,gw,h2,zy6];rfl
theorem QF :
  (∀ (A:af) n b s (v u:Int) rest,dT A none n [0,3] (eJ b s) (.int .i64 v) rest (some (.int .i64 u))=aF rest (A.aU n (.box (eJ { b with bU:=v } s)))) ∧
  (∀ (A:af) n b s (v u:Int) rest,dT A none n [0,6] (eJ b s) (.int .i64 v) rest (some (.int .i64 u))=aF rest (A.aU n (.box (eJ { b with dW:=v } s)))) ∧
  (∀ (A:af) n b s (v u:Bool) rest,dT A none n [0,7] (eJ b s) (.bool v) rest (some (.bool u))=aF rest (A.aU n (.box (eJ { b with found:=v } s)))) ∧
  (∀ (A:af) n b s m k m' k' rest,dT A none n [0,8] (eJ b s) (.own m k) rest (some (.own m' k'))=aF rest (A.aU n (.box (eJ b (.own m k))))) :=
 ⟨fun _ _ _ _ v u _=>by rw[eG (s:=none) (v:=.int .i64 v) (old:=.int .i64 u) rfl rfl rfl];rfl,fun _ _ _ _ v u _=>by rw[eG (s:=none) (v:=.int .i64 v) (old:=.int .i64 u) rfl rfl rfl];rfl,
  fun _ _ _ _ v u _=>by rw[eG (s:=none) (v:=.bool v) (old:=.bool u) rfl rfl rfl];rfl,fun _ _ _ _ m k m' k' _=>by rw[eG (s:=none) (v:=.own m k) (old:=.own m' k') rfl rfl rfl];rfl⟩
theorem iz:(type_of% @Fc)∧(type_of% @Fe)∧(type_of% @Eo)∧(type_of% @QF)∧(type_of% @qP)∧(∀ n:Nat,(n=n)=True)∧(∀ rs post A,oM rs post .ret A=lY rs post A):=⟨Fc,Fe,Eo,QF,qP,fun _=>eq_self _,eA⟩
theorem jS(b:aP):aA Tryz.prog 90 [.ref (enc (⟨b⟩:eQ))] (enc (decide (0≤b.dW))):=by
 refine aA.bp Tryz.func90 VO XS Z5 (t7 rfl) (fun hwf W0 D0 E1 =>?_);simp only[DP,PM,bl];have R:=v6 @iz (v6 @eU (v6 @aO @ab))
 repeat' ((first |refine U.aI (by decide +kernel) rfl fun K hK =>?_|(refine .aD [0,2] hK ?_;clear hK K)|(with_reducible refine .done (hK _ ?_);clear hK K)|refine U.of rfl ?_|(with_reducible refine al.aH (fun h =>?_) (fun h =>?_) <;>try simp only[h])) <;>try simp only[aJ,R,simprocAttr])
 all_goals clear R
def jB(B d:Nat)(bs:List aP)(x:ak):cO:=fun r os'=>match eR fh bs x with
 |none=>r=.bool false∧os'=cB B bs
 |some bs'=>r=.bool true∧os'=if x.kind=1∨x.kind=2 then (B+1,.cE (dA bs') (eE B bs.length++[.ptr d []]))::(d,.box (eJ (gz x) (.nils 6)))::cB B bs else cB B bs'
theorem lJ{bs:List aP} : ∀ m,aq (cB 1000000 bs) m=true→1000000≤m:=fun m hm=>by rw[oq] at hm;simp at hm;omega
theorem gP{ts:List (Nat×I)}{os os':List (Nat×ah)}{b:Bool}{post:cO}(ht:Abs.cm ts 4=.bool b)(ho:∀ n,aq os' n=true→ao os n=ao os' n)(hg:∀ n x,ao os' n=some x→x.only (aq os')=true∧x.eZ=true)(hp:post (.bool b) os'):lY [.tmp 4] post (aw ts os):=by
 refine ⟨os',[.bool b],fun n x hx=>⟨?_,hg n x hx⟩,⟨⟨.bool b,?_,.inl ⟨rfl,rfl,rfl⟩⟩,trivial⟩,hp⟩
 ·show ao os n=some x
  rw[ho n (by simp[aq,hx])];exact hx
 ·show some (Abs.cm ts 4)=some _
  rw[ht]
theorem my{bs:List aP}{z:ah} : ∀ n,aq (cB 1000000 bs) n=true→ao ((3,z)::cB 1000000 bs) n=ao (cB 1000000 bs) n:=fun n h=>by
 have:=lJ n h;simp only[ao];rw[if_neg (by omega)]
theorem yD{bs:List aP}{i:Nat}(hi:i<bs.length){b:aP}(hno:b.no=(bs[i]).no)(hs:b.bS=(bs[i]).bS){z:ah}{nl nr:Nat}(hnl:nl=1000000+2+2*i)(hnr:nr=1000000+3+2*i) :
  ∀ n,aq (cB 1000000 (bs.set i b)) n=true→ao ((nl,.box (eJ b (.own nr (bs[i]).bS.length)))::(3,z)::cB 1000000 bs) n=ao (cB 1000000 (bs.set i b)) n:=fun n h=>by
 have:=lJ n h;rw[LU hi b hno];simp only[ao,hs];subst hnl hnr;rw[if_neg (show ¬ n=3 by omega)];split
 ·rfl
 ·split
  ·rename_i e;subst e;exact mw hi
  ·rfl
theorem kr{B d:Nat}{bs:List aP}{x:ak}(h:eR fh bs x=none):jB B d bs x (.bool false) (cB B bs):=by simp[jB,h]
theorem uj{B d:Nat}{bs:List aP}{x:ak}(hd:(bs.map (·.no)).Nodup)(hk:¬ (x.kind=1∨x.kind=2)){i:Nat}(hi:i<bs.length)(hg:cM bs x.eD=some bs[i]){b:aP}(ht:lu bs[i] x=some b)(hno:b.no=(bs[i]).no) :
  jB B d bs x (.bool true) (cB B (bs.set i b)):=by
 have:eR fh bs x=some (bs.set i b):=by
  simp only[eR,if_neg hk,hg,ht,zy6,apE hd hi hno]
 simp only[jB,this,if_neg hk,and_self]
theorem tl{bs:List aP}{x:ak}(hk:¬ (x.kind=1∨x.kind=2))(hg:cM bs x.eD=none):eR fh bs x=none:=by
 simp only[eR,if_neg hk,hg]
theorem BH{bs:List aP}{x:ak}(hk:¬ (x.kind=1∨x.kind=2)){b:aP}(hg:cM bs x.eD=some b)(ht:lu b x=none):eR fh bs x=none:=by
 simp only[eR,if_neg hk,hg,ht,zw5]
theorem RU(bs:List aP)(x:ak)(d:Nat)(hk:x.kind=3)(hd:(bs.map (·.no)).Nodup):cF Tryz.prog 174 [.ptr 1000000 [],enc x] (cB 1000000 bs) (jB 1000000 d bs x):=by
 refine cF.bp Tryz.func174 UT WU Y9 (t7 rfl) (t7 rfl) lJ (fun hwf W0 D0 E1 =>?_);simp only[CQ,OP,bl,zz4];clear hwf;have hk12:¬ (x.kind=1∨x.kind=2):=by omega
 have n3:ao (cB 1000000 bs) 3=none:=kV (by omega);have h0:ao (cB 1000000 bs) 1000000=some (.box (.agg [.mref 1000001])):=kU;have h1:ao (cB 1000000 bs) 1000001=some (.cE (dA bs) (eE 1000000 bs.length)):=lI;rcases qG 1000000 bs x.eD with ⟨hg,hlk⟩ | ⟨i,hi,hg,hno,hlk⟩
 ·have R:=v6 @n3 (v6 @h0 (v6 @h1 (v6 @hlk (v6 @dY (v6 @iz (v6 @eU (v6 @aO @ab)))))))
  repeat' ((first |(with_reducible refine .guard (fun hb =>?_) (fun hb =>?_) <;>try simp only[hb])|refine U.aI (by decide +kernel) rfl fun K hK =>?_|refine .flat _ (jS _) rfl ?_|(refine .aD [0,1,3,4,5,36] hK ?_;clear hK K)|(with_reducible refine .done (hK _ ?_);clear hK K)|refine U.of rfl ?_|(with_reducible refine al.aH (fun h =>?_) (fun h =>?_) <;>try simp only[h])) <;>try simp only[aJ,R,simprocAttr])
  all_goals clear R
  exact gP rfl my (fun n x h=>fQ h) (kr (tl hk12 hg))
 ·have hl:=nt (B:=1000000) hi;have hr:=mw (B:=1000000) hi;obtain ⟨nl,hnl⟩:∃ nl,nl=1000000+2+2*i:=⟨_,rfl⟩
  obtain ⟨nr,hnr⟩:∃ nr,nr=1000000+3+2*i:=⟨_,rfl⟩
  rw[←hnl] at hl hlk;rw[←hnr] at hl hr;have e1:(nl=3)=False:=by simp;omega
  have e2:(nr=3)=False:=by simp;omega
  have e3:(3=nl)=False:=by simp;omega
  have e4:(nr=nl)=False:=by simp;omega
  have e5:(nl=nr)=False:=by simp;omega
  have e6:(3=nr)=False:=by simp;omega
  have R:=v6 @n3 (v6 @h0 (v6 @h1 (v6 @hl (v6 @hr (v6 @e1 (v6 @e2 (v6 @e3 (v6 @hlk (v6 @np (v6 @dY (v6 @iz (v6 @eU (v6 @aO @ab)))))))))))))
  repeat' ((first |(with_reducible refine .guard (fun hb =>?_) (fun hb =>?_) <;>try simp only[hb])|refine U.aI (by decide +kernel) rfl fun K hK =>?_|refine .flat _ (jS _) rfl ?_|(refine .aD [0,1,3,4,5,36] hK ?_;clear hK K)|(with_reducible refine .done (hK _ ?_);clear hK K)|refine U.of rfl ?_|(with_reducible refine al.aH (fun h =>?_) (fun h =>?_) <;>try simp only[h])) <;>try simp only[aJ,R,simprocAttr])
  all_goals clear R
  all_goals first
   |exact gP rfl my (fun n x h=>fQ h) (kr (BH hk12 hg (by simp_all[lu])))
   |exact gP rfl (yD hi (b := { bs[i] with bU:=x.bU }) rfl rfl hnl hnr) (fun n x h=>fQ h) (uj hd hk12 hi hg (by simp_all[lu]) rfl)
theorem RW(bs:List aP)(x:ak)(d:Nat)(hk:x.kind=5)(hd:(bs.map (·.no)).Nodup):cF Tryz.prog 176 [.ptr 1000000 [],enc x] (cB 1000000 bs) (jB 1000000 d bs x):=by
 refine cF.bp Tryz.func176 UW WW Zb (t7 rfl) (t7 rfl) lJ (fun hwf W0 D0 E1 =>?_);simp only[CS,OR,bl,zz4];clear hwf;have hk12:¬ (x.kind=1∨x.kind=2):=by omega
 have n3:ao (cB 1000000 bs) 3=none:=kV (by omega);have h0:ao (cB 1000000 bs) 1000000=some (.box (.agg [.mref 1000001])):=kU;have h1:ao (cB 1000000 bs) 1000001=some (.cE (dA bs) (eE 1000000 bs.length)):=lI;rcases qG 1000000 bs x.eD with ⟨hg,hlk⟩ | ⟨i,hi,hg,hno,hlk⟩
 ·have R:=v6 @n3 (v6 @h0 (v6 @h1 (v6 @hlk (v6 @dY (v6 @iz (v6 @eU (v6 @aO @ab)))))))
  repeat' ((first |refine U.aI (by decide +kernel) rfl fun K hK =>?_|refine .flat _ (jS _) rfl ?_|(refine .aD [0,1,3,4,5,14] hK ?_;clear hK K)|(with_reducible refine .done (hK _ ?_);clear hK K)|refine U.of rfl ?_|(with_reducible refine al.aH (fun h =>?_) (fun h =>?_) <;>try simp only[h])) <;>try simp only[aJ,R,simprocAttr])
  all_goals clear R
  exact gP rfl my (fun n x h=>fQ h) (kr (tl hk12 hg))
 ·have hl:=nt (B:=1000000) hi;have hr:=mw (B:=1000000) hi;obtain ⟨nl,hnl⟩:∃ nl,nl=1000000+2+2*i:=⟨_,rfl⟩
  obtain ⟨nr,hnr⟩:∃ nr,nr=1000000+3+2*i:=⟨_,rfl⟩
  rw[←hnl] at hl hlk;rw[←hnr] at hl hr;have e1:(nl=3)=False:=by simp;omega
  have e2:(nr=3)=False:=by simp;omega
  have e3:(3=nl)=False:=by simp;omega
  have e4:(nr=nl)=False:=by simp;omega
  have e5:(nl=nr)=False:=by simp;omega
  have e6:(3=nr)=False:=by simp;omega
  have R:=v6 @n3 (v6 @h0 (v6 @h1 (v6 @hl (v6 @hr (v6 @e1 (v6 @e2 (v6 @e3 (v6 @hlk (v6 @np (v6 @dY (v6 @iz (v6 @eU (v6 @aO @ab)))))))))))))
  repeat' ((first |refine U.aI (by decide +kernel) rfl fun K hK =>?_|refine .flat _ (jS _) rfl ?_|(refine .aD [0,1,3,4,5,14] hK ?_;clear hK K)|(with_reducible refine .done (hK _ ?_);clear hK K)|refine U.of rfl ?_|(with_reducible refine al.aH (fun h =>?_) (fun h =>?_) <;>try simp only[h])) <;>try simp only[aJ,R,simprocAttr])
  all_goals clear R
  refine gP rfl (fun n h =>?_) (fun n x h=>fQ h) (uj hd hk12 hi hg (b := { bs[i] with bU:=x.bU,found:=true }) (by simp[lu,hk]) rfl);rw[←yD hi (b := { bs[i] with bU:=x.bU,found:=true }) rfl rfl (z:=.box (enc x)) hnl hnr n h];simp only[ao];split <;>rfl
theorem RX(bs:List aP)(x:ak)(d:Nat)(hk:x.kind=6)(hd:(bs.map (·.no)).Nodup):cF Tryz.prog 177 [.ptr 1000000 [],enc x] (cB 1000000 bs) (jB 1000000 d bs x):=by
 refine cF.bp Tryz.func177 UX WX Zc (t7 rfl) (t7 rfl) lJ (fun hwf W0 D0 E1 =>?_);simp only[CT,OS,bl,zz4];clear hwf;have hk12:¬ (x.kind=1∨x.kind=2):=by omega
 have n3:ao (cB 1000000 bs) 3=none:=kV (by omega);have h0:ao (cB 1000000 bs) 1000000=some (.box (.agg [.mref 1000001])):=kU;have h1:ao (cB 1000000 bs) 1000001=some (.cE (dA bs) (eE 1000000 bs.length)):=lI;rcases qG 1000000 bs x.eD with ⟨hg,hlk⟩ | ⟨i,hi,hg,hno,hlk⟩
 ·have R:=v6 @n3 (v6 @h0 (v6 @h1 (v6 @hlk (v6 @dY (v6 @iz (v6 @eU (v6 @aO @ab)))))))
  repeat' ((first |(with_reducible refine .guard (fun hb =>?_) (fun hb =>?_) <;>try simp only[hb])|refine U.aI (by decide +kernel) rfl fun K hK =>?_|refine .flat _ (jS _) rfl ?_|(refine .aD [0,1,3,4,5,18] hK ?_;clear hK K)|(with_reducible refine .done (hK _ ?_);clear hK K)|refine U.of rfl ?_|(with_reducible refine al.aH (fun h =>?_) (fun h =>?_) <;>try simp only[h])) <;>try simp only[aJ,R,simprocAttr])
  all_goals clear R
  exact gP rfl my (fun n x h=>fQ h) (kr (tl hk12 hg))
 ·have hl:=nt (B:=1000000) hi;have hr:=mw (B:=1000000) hi;obtain ⟨nl,hnl⟩:∃ nl,nl=1000000+2+2*i:=⟨_,rfl⟩
  obtain ⟨nr,hnr⟩:∃ nr,nr=1000000+3+2*i:=⟨_,rfl⟩
  rw[←hnl] at hl hlk;rw[←hnr] at hl hr;have e1:(nl=3)=False:=by simp;omega
  have e2:(nr=3)=False:=by simp;omega
  have e3:(3=nl)=False:=by simp;omega
  have e4:(nr=nl)=False:=by simp;omega
  have e5:(nl=nr)=False:=by simp;omega
  have e6:(3=nr)=False:=by simp;omega
  have R:=v6 @n3 (v6 @h0 (v6 @h1 (v6 @hl (v6 @hr (v6 @e1 (v6 @e2 (v6 @e3 (v6 @hlk (v6 @np (v6 @dY (v6 @iz (v6 @eU (v6 @aO @ab)))))))))))))
  repeat' ((first |(with_reducible refine .guard (fun hb =>?_) (fun hb =>?_) <;>try simp only[hb])|refine U.aI (by decide +kernel) rfl fun K hK =>?_|refine .flat _ (jS _) rfl ?_|(refine .aD [0,1,3,4,5,18] hK ?_;clear hK K)|(with_reducible refine .done (hK _ ?_);clear hK K)|refine U.of rfl ?_|(with_reducible refine al.aH (fun h =>?_) (fun h =>?_) <;>try simp only[h])) <;>try simp only[aJ,R,simprocAttr])
  all_goals clear R
  all_goals first
   |exact gP rfl my (fun n x h=>fQ h) (kr (BH hk12 hg (by simp_all[lu])))
   |exact gP rfl (yD hi (b := { bs[i] with dW:=x.day }) rfl rfl hnl hnr) (fun n x h=>fQ h) (uj hd hk12 hi hg (by simp_all[lu]) rfl)
theorem alU{bs:List aP}{i:Nat}(hi:i<bs.length){b:aP}(hno:b.no=(bs[i]).no){z:ah}{nl nr:Nat}(hnl:nl=1000000+2+2*i)(hnr:nr=1000000+3+2*i) :
  ∀ n,aq (cB 1000000 (bs.set i b)) n=true→ao ((nl,.box (eJ b (.own nr b.bS.length)))::(nr,.b9 66 6 (b.bS.map enc))::(3,z)::cB 1000000 bs) n=ao (cB 1000000 (bs.set i b)) n:=fun n h=>by
 have:=lJ n h;rw[LU hi b hno];simp only[ao];subst hnl hnr;rw[if_neg (show ¬ n=3 by omega)]
theorem RV(bs:List aP)(x:ak)(d:Nat)(hk:x.kind=4)(hd:(bs.map (·.no)).Nodup)(hlen:∀ b∈bs,b.bS.length≤1000):cF Tryz.prog 175 [.ptr 1000000 [],enc x] (cB 1000000 bs) (jB 1000000 d bs x):=by
 refine cF.bp Tryz.func175 UU WV Za (t7 rfl) (t7 rfl) lJ (fun hwf W0 D0 E1 =>?_);simp only[CR,OQ,bl,zz4];clear hwf;have hk12:¬ (x.kind=1∨x.kind=2):=by omega
 have n3:ao (cB 1000000 bs) 3=none:=kV (by omega);have h0:ao (cB 1000000 bs) 1000000=some (.box (.agg [.mref 1000001])):=kU;have h1:ao (cB 1000000 bs) 1000001=some (.cE (dA bs) (eE 1000000 bs.length)):=lI;rcases qG 1000000 bs x.eD with ⟨hg,hlk⟩ | ⟨i,hi,hg,hno,hlk⟩
 ·have R:=v6 @n3 (v6 @h0 (v6 @h1 (v6 @hlk (v6 @dY (v6 @iz (v6 @eU (v6 @aO @ab)))))))
  repeat' ((first |refine U.aI (by decide +kernel) rfl fun K hK =>?_|refine .flat _ (jS _) rfl ?_|(refine .aD [0,1,3,4,5,14] hK ?_;clear hK K)|(with_reducible refine .done (hK _ ?_);clear hK K)|refine U.of rfl ?_|(with_reducible refine al.aH (fun h =>?_) (fun h =>?_) <;>try simp only[h])) <;>try simp only[aJ,R,simprocAttr])
  all_goals clear R
  exact gP rfl my (fun n x h=>fQ h) (kr (tl hk12 hg))
 ·have hl:=nt (B:=1000000) hi;have hr:=mw (B:=1000000) hi;obtain ⟨nl,hnl⟩:∃ nl,nl=1000000+2+2*i:=⟨_,rfl⟩
  obtain ⟨nr,hnr⟩:∃ nr,nr=1000000+3+2*i:=⟨_,rfl⟩
  rw[←hnl] at hl hlk;rw[←hnr] at hl hr;have e1:(nl=3)=False:=by simp;omega
  have e2:(nr=3)=False:=by simp;omega
  have e3:(3=nl)=False:=by simp;omega
  have e4:(nr=nl)=False:=by simp;omega
  have e5:(nl=nr)=False:=by simp;omega
  have e6:(3=nr)=False:=by simp;omega
  have hle:=hlen _ (zx5 hi);have happ:=fun (A:af) d rest=>m9 (α:=aX 6 Int) (A:=A) (d:=d) 66 6 48 nr (l:=(bs[i]).bS.length) (es:=(bs[i]).bS) (ys:=[x.bS]) (rest:=rest) rfl rfl (by simp) (by simp[maxLen];omega) (by simp;omega);have hbs:=nW 6 x.bS rfl;have R:=v6 @n3 (v6 @h0 (v6 @h1 (v6 @hl (v6 @hr (v6 @e1 (v6 @e2 (v6 @e3 (v6 @e4 (v6 @e5 (v6 @e6 (v6 @hlk (v6 @happ (v6 @hbs (v6 @np (v6 @dY (v6 @iz (v6 @eU (v6 @aO @ab))))))))))))))))))
  repeat' ((first |refine U.aI (by decide +kernel) rfl fun K hK =>?_|(refine U.sB (gs:=xX) [] [] [0,1,2,3,4,5,6,7,8,9,10,11,12,13] (by decide +kernel) (fq.of (by simp[pt])) fun K hK =>?_;simp only[pD,xX,List.getD_cons_zero,List.getD_cons_succ,R,simprocAttr])|(refine .aD [0,1,3,4,5,14] hK ?_;clear hK K)|(with_reducible refine .done (hK _ ?_);clear hK K)|refine U.of rfl ?_|(with_reducible refine al.aH (fun h =>?_) (fun h =>?_) <;>try simp only[h])) <;>try simp only[aJ,R,simprocAttr])
  all_goals clear R
  refine gP rfl (fun n h =>?_) (fun n x h=>fQ h) (uj hd hk12 hi hg (b := { bs[i] with bS:=(bs[i]).bS++[x.bS] }) (by simp[lu,hk]) rfl);rw[←alU hi (b := { bs[i] with bS:=(bs[i]).bS++[x.bS] }) rfl (z:=.box (enc x)) hnl hnr n h];rfl
def ik(B d:Nat)(bs:List aP)(b:aP):List (Nat×ah):=(B+1,.cE (dA (bs++[b])) (eE B bs.length++[.ptr d []]))::(d,.box (eJ b (.nils 6)))::cB B bs
theorem ui{B d:Nat}{bs:List aP}{x:ak}(hk:x.kind=1∨x.kind=2)(hg:cM bs x.eD=none)(hdam:jd bs x=true):jB B d bs x (.bool true) (ik B d bs (gz x)):=by
 have:eR fh bs x=some (bs++[gz x]):=by simp only[eR,if_pos hk,hg,hdam,fh,and_self,if_true]
 simp only[jB,this,if_pos hk,ik,and_self]
def LO(B d:Nat)(bs:List aP)(x:ak):cO:=fun r os' =>
 (cM bs x.eD≠none∧r=.bool false∧os'=cB B bs)∨(cM bs x.eD=none∧r=.bool true∧os'=ik B d bs (gz x))
theorem TL(a b c d e f g:Int):(dN [.int .i64 0,.int .i64 0,.int .i64 0,.int .i64 0,.int .i64 0,.int .i64 0,.int .i64 0,.bool false,.nils 6] [(0,.int .i64 a),(1,.int .i64 b),(2,.int .i64 c),(3,.int .i64 d),(4,.int .i64 e),(5,.int .i64 f),(6,.int .i64 g)]).map I.agg=some (I.agg [.int .i64 a,.int .i64 b,.int .i64 c,.int .i64 d,.int .i64 e,.int .i64 f,.int .i64 g,.bool false,.nils 6]):=by
 simp[dN,I.cq,I.size]
theorem TM(a b c d e f g:Int):(dN [.agg [.int .i64 0,.int .i64 0,.int .i64 0,.int .i64 0,.int .i64 0,.int .i64 0,.int .i64 0,.bool false,.nils 6]] [(0,.agg [.int .i64 a,.int .i64 b,.int .i64 c,.int .i64 d,.int .i64 e,.int .i64 f,.int .i64 g,.bool false,.nils 6])]).map I.agg=some (eJ ⟨a,b,c,d,e,f,g,false,[]⟩ (.nils 6)):=by
 simp[dN,I.cq,I.size,I.sizes];rfl
theorem al9(b:aP)(s:I):(eJ b s).cq=true:=rfl
theorem am9(B d:Nat)(bs:List aP)(x:ak)(hg:cM bs x.eD=none):gO (.i .i64) (.int .i64 x.eD) (.ptr d []) (dA bs) (eE B bs.length)=some (dA (bs++[gz x]),eE B bs.length++[.ptr d []]):=by
 have h2:=MK xf x.eD (.ptr d []) rfl (bs.map (·.no)) (eE B bs.length);rw[ig] at h2;unfold dA;rw[h2];have h1:=yl (bs:=bs) (no:=x.eD);cases h:(bs.map (·.no)).findIdx? fun y=>decide (x.eD=y) with
 |none=>simp only[zx4,zy2,zx1];rfl
 |some i=>rw[h] at h1;obtain ⟨hi,g,_⟩:=h1;rw[hg] at g;cases g
theorem oi{B d:Nat}{bs:List aP}{b:aP}{n:Nat} : aq (ik B d bs b) n=(decide (n=d)||aq (cB B bs) n):=by
 by_cases h1:n=B+1
 ·subst h1;have:aq (cB B bs) (B+1)=true:=by simp[aq,lI]
  rw[this];simp[ik,aq,ao]
 ·by_cases h2:n=d
  ·subst h2;simp[ik,aq,ao,h1]
  ·simp[ik,aq,ao,h1,h2]
theorem oj{B d:Nat}{bs:List aP}{b:aP}{n:Nat}{x:ah}(h:ao (ik B d bs b) n=some x):x.only (aq (ik B d bs b))=true∧x.eZ=true:=by
 have cV:∀ m,aq (cB B bs) m=true→aq (ik B d bs b) m=true:=fun m hm=>by rw[oi,hm,Bool.or_true]
 simp only[ik,ao] at h;split at h
 ·cases h;refine ⟨?_,rfl⟩;simp only[ah.only,zz3,fI];refine ⟨c9 _ _,zE _ fun i hi=>cV _ (by rw[oq];simp;omega),?_⟩;simp[I.bV,I.only,oi]
 ·split at h
  ·cases h;exact ⟨by simp[ah.only,I.only,I.bV,eJ],rfl⟩
  ·obtain ⟨k1,k2⟩:=fQ h;exact ⟨ah.jH cV _ k1,k2⟩
theorem sX(bs:List aP)(x:ak):cF Tryz.prog 173 [.ptr 1000000 [],enc x] (cB 1000000 bs) (LO 1000000 33 bs x):=by
 refine cF.bp Tryz.func173 US WT Y8 (t7 rfl) (t7 rfl) lJ (fun hwf W0 D0 E1 =>?_);simp only[CP,OO,bl,zz4];clear hwf;have n3:ao (cB 1000000 bs) 3=none:=kV (by omega);have n33:ao (cB 1000000 bs) 33=none:=kV (by omega);have h0:ao (cB 1000000 bs) 1000000=some (.box (.agg [.mref 1000001])):=kU;have h1:ao (cB 1000000 bs) 1000001=some (.cE (dA bs) (eE 1000000 bs.length)):=lI;rcases qG 1000000 bs x.eD with ⟨hg,hlk⟩ | ⟨i,hi,hg,hno,hlk⟩
 ·have hup:=am9 1000000 33 bs x hg;have R:=v6 @n3 (v6 @n33 (v6 @h0 (v6 @h1 (v6 @hlk (v6 @hup (v6 @TL (v6 @TM (v6 @al9 (v6 @dY (v6 @iz (v6 @eU (v6 @aO @ab))))))))))))
  repeat' ((first |refine U.aI (by decide +kernel) rfl fun K hK =>?_|(refine .aD [0,1,3,4,12] hK ?_;clear hK K)|(with_reducible refine .done (hK _ ?_);clear hK K)|refine U.of rfl ?_|(with_reducible refine al.aH (fun h =>?_) (fun h =>?_) <;>try simp only[h])) <;>try simp only[aJ,R,simprocAttr])
  all_goals clear R
  refine gP (os':=ik 1000000 33 bs (gz x)) (b:=true) rfl (fun n h =>?_) (fun n x h=>oj h) (Or.inr ⟨hg,rfl,rfl⟩);rw[oi] at h;simp only[ik,ao];by_cases e:n=33
  ·subst e;simp;rfl
  ·have:=lJ n (by simpa[e] using h);rw[if_neg (show ¬ n=33 by omega),if_neg (show ¬ n=3 by omega),if_neg (show ¬ n=33 by omega)]
 ·have R:=v6 @n3 (v6 @h0 (v6 @h1 (v6 @hlk (v6 @dY (v6 @iz (v6 @eU (v6 @aO @ab)))))))
  repeat' ((first |refine U.aI (by decide +kernel) rfl fun K hK =>?_|(refine .aD [0,1,3,4,12] hK ?_;clear hK K)|(with_reducible refine .done (hK _ ?_);clear hK K)|refine U.of rfl ?_|(with_reducible refine al.aH (fun h =>?_) (fun h =>?_) <;>try simp only[h])) <;>try simp only[aJ,R,simprocAttr])
  all_goals clear R
  exact gP (b:=false) rfl my (fun n x h=>fQ h) (Or.inl ⟨by rw[hg];simp,rfl,rfl⟩)
theorem bn.yB{K:af→Prop}{f:FuncId}{x:ak}{avs:List I}{a1 a2:Option (List I)}{dst:Option Nat}{rest:List aE}{ts:List (Nat×I)}{z:ah}{bs:List aP}(hc:cF Tryz.prog f [.ptr 1000000 [],enc x] (cB 1000000 bs) (LO 1000000 33 bs x))(hav:avs=[.ptr 1000000 [],enc x])
  (h1:cM bs x.eD≠none→bn Tryz.prog jk false K (aF rest ((aw ts (cB 1000000 bs++((3,z)::cB 1000000 bs))).aT dst (.bool false))))
  (h2:cM bs x.eD=none→bn Tryz.prog jk false K (aF rest ((aw ts (ik 1000000 33 bs (gz x)++((3,z)::cB 1000000 bs))).aT dst (.bool true)))) :
  bn Tryz.prog jk false K (.call f avs a1 a2 dst rest (aw ts ((3,z)::cB 1000000 bs))):=by
 subst hav;refine .bQ false [] (cB 1000000 bs) [.ptr 1000000 [],enc x] _ rfl hc ⟨fun m y hy =>?_,fun m m' _ _ h=>h⟩ ⟨.inl ⟨?_,?_,rfl⟩,.inl ⟨(ij _ _).symm,bg _ _,du _⟩,trivial⟩ ?_ ?_
 ·have hm:=lJ (bs:=bs) m (by simp[aq,hy]);rw[ah.mM (ρ:=bD []) (fun n=>rfl)];refine ⟨?_,fQ hy⟩
  show ao ((3,z)::cB 1000000 bs) m=some y
  have h3:¬ m=3:=by omega
  simp only[ao,if_neg h3];exact hy
 ·simp only[I.aN,bD]
 ·simp only[I.only];simp[aq,kU]
 ·rintro r os' (⟨_,rfl,rfl⟩ | ⟨_,rfl,rfl⟩)
  ·exact ⟨fun m y hy=>⟨(fQ hy).1,(fQ hy).2,fun h=>by cases h⟩,fun m m' _ _ h=>h,fun m hm=>hm,(fun m a b=>by rw[a] at b;cases b),rfl,(fun h=>by cases h)⟩
  ·refine ⟨fun m y hy=>⟨(oj hy).1,(oj hy).2,fun h=>by cases h⟩,fun m m' _ _ h=>h,fun m hm=>by rw[oi,hm,Bool.or_true],fun m a b =>?_,rfl,fun h=>by cases h⟩;rw[oi,b,Bool.or_false,decide_eq_true_eq] at a;subst a;have h3:¬ (33:Nat)=3:=by omega
   refine ⟨?_,by simp[bD]⟩
   show ao ((3,z)::cB 1000000 bs) 33=none
   simp only[ao,if_neg h3];exact kV (by omega)
 ·rintro r os' (⟨hg,rfl,rfl⟩ | ⟨hg,rfl,rfl⟩)
  ·rw[vi];exact h1 hg
  ·rw[vi];exact h2 hg
theorem qb{os os0:List (Nat×ah)} : ∀ n,aq os n=true→ao (os++os0) n=ao os n:=fun n h=>by
 rw[kW];cases hx:ao os n with
 |none=>simp[aq,hx] at h
 |some y=>rfl
theorem RT(bs:List aP)(x:ak)(hk:x.kind=1):cF Tryz.prog 172 [.ptr 1000000 [],enc x] (cB 1000000 bs) (jB 1000000 33 bs x):=by
 refine cF.bp Tryz.func172 UR WS Y7 (t7 rfl) (t7 rfl) lJ (fun hwf W0 D0 E1 =>?_);simp only[CO,ON,bl,zz4];clear hwf;have n3:ao (cB 1000000 bs) 3=none:=kV (by omega);have h0:ao (cB 1000000 bs) 1000000=some (.box (.agg [.mref 1000001])):=kU;have h1:ao (cB 1000000 bs) 1000001=some (.cE (dA bs) (eE 1000000 bs.length)):=lI;by_cases hd0:x.fg≤0
 ·have hc:decide (0<x.fg)=false:=by simp;omega
  have hdam:jd bs x=true:=by simp[jd,hd0]
  have R:=v6 @n3 (v6 @h0 (v6 @h1 (v6 @hc (v6 @dY (v6 @iz (v6 @eU (v6 @aO @ab)))))))
  repeat' ((first |(with_reducible refine .guard (fun hb =>?_) (fun hb =>?_) <;>try simp only[hb])|refine U.aI (by decide +kernel) rfl fun K hK =>?_|(refine .aD [0,1,3,4,5,8,41] hK ?_;clear hK K)|(with_reducible refine .done (hK _ ?_);clear hK K)|refine U.of rfl ?_|(with_reducible refine al.aH (fun h =>?_) (fun h =>?_) <;>try simp only[h])) <;>try simp only[aJ,R,simprocAttr])
  all_goals clear R
  refine bn.yB (sX bs x) rfl (fun hg =>?_) (fun hg =>?_)
  ·try simp only[ab,simprocAttr]
   refine .done (hK _ ?_);clear hK K;refine U.ret ?_;simp only[eA];exact gP (b:=false) rfl qb (fun n x h=>fQ h) (kr (by simp[eR,hk,hg]))
  ·try simp only[ab,simprocAttr]
   refine .done (hK _ ?_);clear hK K;refine U.ret ?_;simp only[eA];exact gP (b:=true) rfl qb (fun n x h=>oj h) (ui (.inl hk) hg hdam)
 have hc:decide (0<x.fg)=true:=by simp;omega
 rcases qG 1000000 bs x.fg with ⟨hg,hlk⟩ | ⟨i,hi,hg,hno,hlk⟩
 ·have hdam:jd bs x=false:=by simp[jd,hg];omega
  have R:=v6 @n3 (v6 @h0 (v6 @h1 (v6 @hc (v6 @hlk (v6 @dY (v6 @iz (v6 @eU (v6 @aO @ab))))))))
  repeat' ((first |(with_reducible refine .guard (fun hb =>?_) (fun hb =>?_) <;>try simp only[hb])|refine U.aI (by decide +kernel) rfl fun K hK =>?_|(refine .aD [0,1,3,4,5,8,41] hK ?_;clear hK K)|(with_reducible refine .done (hK _ ?_);clear hK K)|refine U.of rfl ?_|(with_reducible refine al.aH (fun h =>?_) (fun h =>?_) <;>try simp only[h])) <;>try simp only[aJ,R,simprocAttr])
  all_goals clear R
  exact gP (b:=false) rfl my (fun n x h=>fQ h) (kr (by simp[eR,hk,hdam]))
 ·have hl:=nt (B:=1000000) hi;have hr:=mw (B:=1000000) hi;obtain ⟨nl,hnl⟩:∃ nl,nl=1000000+2+2*i:=⟨_,rfl⟩
  obtain ⟨nr,hnr⟩:∃ nr,nr=1000000+3+2*i:=⟨_,rfl⟩
  rw[←hnl] at hl hlk;rw[←hnr] at hl hr;have e1:(nl=3)=False:=by simp;omega
  have e2:(nr=3)=False:=by simp;omega
  cases hs:(bs[i]).dF != x.dF with
  |true =>
   have hdam:jd bs x=false:=by simp at hs;simp[jd,hg,hs];omega
   have R:=v6 @n3 (v6 @h0 (v6 @h1 (v6 @hl (v6 @hr (v6 @e1 (v6 @e2 (v6 @hc (v6 @hlk (v6 @hs (v6 @np (v6 @dY (v6 @iz (v6 @eU (v6 @aO @ab))))))))))))))
   repeat' ((first |(with_reducible refine .guard (fun hb =>?_) (fun hb =>?_) <;>try simp only[hb])|refine U.aI (by decide +kernel) rfl fun K hK =>?_|refine .flat _ (jS _) rfl ?_|(refine .aD [0,1,3,4,5,8,41] hK ?_;clear hK K)|(with_reducible refine .done (hK _ ?_);clear hK K)|refine U.of rfl ?_|(with_reducible refine al.aH (fun h =>?_) (fun h =>?_) <;>try simp only[h])) <;>try simp only[aJ,R,simprocAttr])
   all_goals clear R
   exact gP (b:=false) rfl my (fun n x h=>fQ h) (kr (by simp[eR,hk,hdam]))
  |false =>
   cases hdd:decide (0≤(bs[i]).dW) with
   |false =>
    have hdam:jd bs x=true:=by simp at hs hdd;simp[jd,hg,hs];omega
    have R:=v6 @n3 (v6 @h0 (v6 @h1 (v6 @hl (v6 @hr (v6 @e1 (v6 @e2 (v6 @hc (v6 @hlk (v6 @hs (v6 @hdd (v6 @np (v6 @dY (v6 @iz (v6 @eU (v6 @aO @ab)))))))))))))))
    repeat' ((first |(with_reducible refine .guard (fun hb =>?_) (fun hb =>?_) <;>try simp only[hb])|refine U.aI (by decide +kernel) rfl fun K hK =>?_|refine .flat _ (jS _) rfl ?_|(refine .aD [0,1,3,4,5,8,41] hK ?_;clear hK K)|(with_reducible refine .done (hK _ ?_);clear hK K)|refine U.of rfl ?_|(with_reducible refine al.aH (fun h =>?_) (fun h =>?_) <;>try simp only[h])) <;>try simp only[aJ,R,simprocAttr])
    all_goals clear R
    refine bn.yB (sX bs x) rfl (fun hg =>?_) (fun hg =>?_)
    ·try simp only[ab,simprocAttr]
     refine .done (hK _ ?_);clear hK K;refine U.ret ?_;simp only[eA];exact gP (b:=false) rfl qb (fun n x h=>fQ h) (kr (by simp[eR,hk,hg]))
    ·try simp only[ab,simprocAttr]
     refine .done (hK _ ?_);clear hK K;refine U.ret ?_;simp only[eA];exact gP (b:=true) rfl qb (fun n x h=>oj h) (ui (.inl hk) hg hdam)
   |true =>
    cases hdy:decide ((bs[i]).dW<x.day) with
    |true =>
     have hdam:jd bs x=false:=by simp at hs hdd hdy;simp[jd,hg,hs];omega
     have R:=v6 @n3 (v6 @h0 (v6 @h1 (v6 @hl (v6 @hr (v6 @e1 (v6 @e2 (v6 @hc (v6 @hlk (v6 @hs (v6 @hdd (v6 @hdy (v6 @np (v6 @dY (v6 @iz (v6 @eU (v6 @aO @ab))))))))))))))))
     repeat' ((first |(with_reducible refine .guard (fun hb =>?_) (fun hb =>?_) <;>try simp only[hb])|refine U.aI (by decide +kernel) rfl fun K hK =>?_|refine .flat _ (jS _) rfl ?_|(refine .aD [0,1,3,4,5,8,41] hK ?_;clear hK K)|(with_reducible refine .done (hK _ ?_);clear hK K)|refine U.of rfl ?_|(with_reducible refine al.aH (fun h =>?_) (fun h =>?_) <;>try simp only[h])) <;>try simp only[aJ,R,simprocAttr])
     all_goals clear R
     exact gP (b:=false) rfl my (fun n x h=>fQ h) (kr (by simp[eR,hk,hdam]))
    |false =>
     have hdam:jd bs x=true:=by simp at hs hdd hdy;simp[jd,hg,hs];omega
     have R:=v6 @n3 (v6 @h0 (v6 @h1 (v6 @hl (v6 @hr (v6 @e1 (v6 @e2 (v6 @hc (v6 @hlk (v6 @hs (v6 @hdd (v6 @hdy (v6 @np (v6 @dY (v6 @iz (v6 @eU (v6 @aO @ab))))))))))))))))
     repeat' ((first |(with_reducible refine .guard (fun hb =>?_) (fun hb =>?_) <;>try simp only[hb])|refine U.aI (by decide +kernel) rfl fun K hK =>?_|refine .flat _ (jS _) rfl ?_|(refine .aD [0,1,3,4,5,8,41] hK ?_;clear hK K)|(with_reducible refine .done (hK _ ?_);clear hK K)|refine U.of rfl ?_|(with_reducible refine al.aH (fun h =>?_) (fun h =>?_) <;>try simp only[h])) <;>try simp only[aJ,R,simprocAttr])
     all_goals clear R
     refine bn.yB (sX bs x) rfl (fun hg =>?_) (fun hg =>?_)
     ·try simp only[ab,simprocAttr]
      refine .done (hK _ ?_);clear hK K;refine U.ret ?_;simp only[eA];exact gP (b:=false) rfl qb (fun n x h=>fQ h) (kr (by simp[eR,hk,hg]))
     ·try simp only[ab,simprocAttr]
      refine .done (hK _ ?_);clear hK K;refine U.ret ?_;simp only[eA];exact gP (b:=true) rfl qb (fun n x h=>oj h) (ui (.inl hk) hg hdam)
def lC:I:=.c7 [.int .i64 1,.int .i64 2,.int .i64 3,.int .i64 4,.int .i64 5,.int .i64 6] [.func 172 [],.func 173 [],.func 174 [],.func 175 [],.func 176 [],.func 177 []]
theorem am2:gO (.i .i64) (.int .i64 1) (.func 172 []) [] []=some ([.int .i64 1],[.func 172 []]):=by simp[gO,fv,cw,I.cq]
theorem am3:gO (.i .i64) (.int .i64 2) (.func 173 []) [.int .i64 1] [.func 172 []]=some ([.int .i64 1,.int .i64 2],[.func 172 [],.func 173 []]):=by simp[gO,fv,cw,I.cq]
theorem am4:gO (.i .i64) (.int .i64 3) (.func 174 []) [.int .i64 1,.int .i64 2] [.func 172 [],.func 173 []]=some ([.int .i64 1,.int .i64 2,.int .i64 3],[.func 172 [],.func 173 [],.func 174 []]):=by simp[gO,fv,cw,I.cq]
theorem am5:gO (.i .i64) (.int .i64 4) (.func 175 []) [.int .i64 1,.int .i64 2,.int .i64 3] [.func 172 [],.func 173 [],.func 174 []]=some ([.int .i64 1,.int .i64 2,.int .i64 3,.int .i64 4],[.func 172 [],.func 173 [],.func 174 [],.func 175 []]):=by simp[gO,fv,cw,I.cq]
theorem am6:gO (.i .i64) (.int .i64 5) (.func 176 []) [.int .i64 1,.int .i64 2,.int .i64 3,.int .i64 4] [.func 172 [],.func 173 [],.func 174 [],.func 175 []]=some ([.int .i64 1,.int .i64 2,.int .i64 3,.int .i64 4,.int .i64 5],[.func 172 [],.func 173 [],.func 174 [],.func 175 [],.func 176 []]):=by simp[gO,fv,cw,I.cq]
theorem am7:gO (.i .i64) (.int .i64 6) (.func 177 []) [.int .i64 1,.int .i64 2,.int .i64 3,.int .i64 4,.int .i64 5] [.func 172 [],.func 173 [],.func 174 [],.func 175 [],.func 176 []]=some ([.int .i64 1,.int .i64 2,.int .i64 3,.int .i64 4,.int .i64 5,.int .i64 6],[.func 172 [],.func 173 [],.func 174 [],.func 175 [],.func 176 [],.func 177 []]):=by simp[gO,fv,cw,I.cq]
theorem AZ:aA Tryz.prog 139 [] lC:=by
 refine aA.bp Tryz.func139 Ur Wp YG (t7 rfl) (fun hwf W0 D0 E1 =>?_);simp only[Cn,Oi,bl];refine .ar (by decide +kernel) fun K hK =>?_;simp only[GW,ab,simprocAttr];refine .done (hK _ ?_);clear hK K;refine .ar (by decide +kernel) fun K hK =>?_;simp only[GX,ab,simprocAttr]
 try simp only[eU,am2,am3,am4,am5,am6,am7,ab,simprocAttr]
 refine .done (hK _ ?_);clear hK K;refine U.ret ?_;simp only[ab,simprocAttr];simp[lC,bC,aw,bT,ev,gw,I.cg,I.bJ,mb,oN];rfl
end Go.Proofs.YtcldiigclhgafaaGreat
