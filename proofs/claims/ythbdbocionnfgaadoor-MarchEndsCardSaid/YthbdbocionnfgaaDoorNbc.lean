/-
  A part of the proof that the law MarchEnds returns true for every input; three tables of Go's library start as the text lays them (the card ties them); conditions: none beyond the statement's own. (part 3 of 7)
-/
import Derived.Test.YthbdbocionnfgaaDoorChecked
import Derived.KernelRfl
import Derived.RangeFuncIn
import Derived.Laws.Externs
import Derived.RecoverIn
import Derived.ProofKit
import Derived.SizedLaws
import Derived.Test.YthbdbocionnfgaaDoorNbb
set_option linter.unusedSimpArgs false
set_option linter.unusedVariables false
set_option maxHeartbeats 16000000
set_option maxRecDepth 100000
namespace Go.Proofs.YthbdbocionnfgaaDoor
open Go Go.Abs Go.Abs.C
def Us:=[o 2 (.mv aY)]
def Ut:=[m 12 0,o 13 (.call 5 [.t 12,(aq 40)]),m 11 13,o 14 (.ext (.t 11) 0),o 15 (.ext (.t 11) 1),o 3 (.alloc (.agg [.nils 3,.nils 5,.nils 1])),p (.bm (some 3) (.t 3) (.t 14)),m 4 15]
def UE:=[cg 5 0]
def UF:=[m 16 5,o 17 (.bin .lss (.t 16) (aq 4)),m 18 17,dH 19 4 18,and 20 18 19]
def UG:=[aG 24 3 3,o 25 (.call 7 [.t 24]),m 23 25,o 26 (.ext (.t 23) 0),o 27 (.ext (.t 23) 1),p (.bm (some 3) (.t 3) (.t 26)),m 4 27]
def UH:=[cg 6 1]
def UI:=[m 28 6,o 29 (.bin .leq (.t 28) (aq 5))]
def UJ:=[m 32 4,m 33 32,cu 34 (.ld (some 3) (.t 3)) 33,dH 35 6 33,cu 36 (.call 8 [.t 34,.t 35]) 33,and 37 33 36,m 4 37]
def UK:=[m 30 6,ad 31 30 1,m 6 31]
def UL:=[m 21 5,ad 22 21 1,m 5 22]
def Uu:=[m 38 4,no 39 38]
def Uv:=[o 2 (.mv aY)]
def Uw:=[f 40 0 0 3,l 41 40,o 42 (.len (.t 41)),cg 43 0]
def Ux:=[lt 44 43 42]
def Uy:=[o 45 (.is 3 (.t 41) (.t 43)),aG 46 3 45,o 8 (.alloc (.agg [.int .i64 0,.nils 4,.int .i64 0])),p (.bm (some 3) (.t 8) (.t 46))]
def Uz:=[aG 48 3 8,o 49 (.call 9 [.t 48]),m 47 49,o 50 (.ext (.t 47) 0),o 51 (.ext (.t 47) 1),m 9 50,m 10 51]
def UA:=[m 52 10,o 53 (.bin .neq (.t 52) (aq 0)),m 54 53,iA 55 9 54,on 56 (.len (.t 55)) 54,on 57 (.bin .gtr (.t 56) (aq 0)) 54,or 58 54 57]
def UB:=[o 2 (.mv aY)]
def UC:=[ad 59 43 1,m 43 59]
def UD:=[o 60 (.call 6 []),m 2 60]
def lF:bH:=(s (r Us) (s (r Ut) (s (s (r UE) (.block 0 (.loop (s (s (r UF) (.cond (.t 20) .skip (.exit 0))) (s (.block 1 (s (r UG) (s (r UH) (.block 2 (.loop (s (s (r UI) (.cond (.t 29) .skip (.exit 2))) (s (.block 3 (r UJ)) (r UK)))))))) (r UL)))))) (s (s (r Uu) (.cond (.t 39) (s (r Uv) .ret) .skip)) (s (s (r Uw) (.block 4 (.loop (s (r Ux) (s (.cond (.t 44) .skip (.exit 4)) (s (.block 5 (s (r Uy) (s (r Uz) (s (r UA) (.cond (.t 58) (s (r UB) .ret) .skip))))) (r UC))))))) (s (r UD) .ret))))))
def tD:List bR:=[.tmp 2]
theorem L8:cJ Tryd.prog Tryd.f4 lF:=e (by kernel_rfl)
theorem Na:cG Tryd.prog Tryd.f4 tD:=e (by kernel_rfl)
theorem Lc:cD Tryd.prog 4:=e (by kernel_rfl)
def Vr:=[o 4 (.alloc (.agg [.nils 3,.nils 5,.nils 1])),o 5 (.mv aY)]
def Vs:=[o 11 (.call 10 []),m 10 11,o 12 (.ext (.t 10) 0),o 13 (.ext (.t 10) 1),o 6 (.alloc (.agg [.nils 3,.nils 5,.nils 1])),p (.bm (some 3) (.t 6) (.t 12)),m 7 13]
def Vu:=[cg 8 0]
def Vv:=[m 14 8,m 15 0,o 16 (.len (.t 15)),lt 17 14 16,m 18 17,dH 19 8 18,dH 20 1 18,cu 21 (.bin .lss (.t 19) (.t 20)) 18,and 22 18 21,m 23 22,dH 24 7 23,and 25 23 24]
def Vw:=[aG 29 3 6,m 30 0,m 31 8,o 32 (.is 5 (.t 30) (.t 31)),aG 33 5 32,o 34 (.call 11 [.t 29,.t 33]),m 28 34,o 35 (.ext (.t 28) 0),o 36 (.ext (.t 28) 1),p (.bm (some 3) (.t 6) (.t 35)),m 7 36]
def N7:=some [[],[],[],[1,2],[3],[0,4],[5],[6],[6],[7,5,0,1,2,3,4,5,6,7],[8,9,0,1,2,3,4,5,6,7,8,9]]
def Vx:=[cg 9 1]
def Vy:=[m 37 9,o 38 (.bin .leq (.t 37) (aq 5))]
def Vz:=[m 41 7,m 42 41,cu 43 (.ld (some 3) (.t 6)) 42,dH 44 9 42,cu 45 (.call 8 [.t 43,.t 44]) 42,and 46 42 45,m 7 46]
def VA:=[m 39 9,ad 40 39 1,m 9 40]
def VB:=[m 26 8,ad 27 26 1,m 8 27]
def Vt:=[aG 47 3 6,m 48 7,p (.bm (some 3) (.t 4) (.t 47)),m 5 48]
def nc:bH:=(s (r Vr) (s (r Vs) (s (s (r Vu) (.block 0 (.loop (s (s (r Vv) (.cond (.t 25) .skip (.exit 0))) (s (.block 1 (s (.cj N7 Vw) (s (r Vx) (.block 2 (.loop (s (s (r Vy) (.cond (.t 38) .skip (.exit 2))) (s (.block 3 (r Vz)) (r VA)))))))) (r VB)))))) (s (r Vt) .ret))))
def GL:List bR:=[.cell 4 (some 3),.tmp 5]
theorem Mg:cJ Tryd.prog Tryd.f5 nc:=e (by kernel_rfl)
theorem Nk:cG Tryd.prog Tryd.f5 GL:=e (by kernel_rfl)
theorem Ll:cD Tryd.prog 5:=e (by kernel_rfl)
def V7:=[o 0 (.mv aY)]
def V8:=[o 28 (.call 12 [(aq 0)]),m 27 28,o 29 (.ext (.t 27) 0),o 30 (.ext (.t 27) 1),o 1 (.alloc (.agg [.int .i64 0,.nils 4,.int .i64 0])),p (.bm (some 3) (.t 1) (.t 29)),m 2 30]
def Wi:=[o 32 (.call 12 [(aq 1)]),m 31 32,o 33 (.ext (.t 31) 0),o 34 (.ext (.t 31) 1),o 3 (.alloc (.agg [.int .i64 0,.nils 4,.int .i64 0])),p (.bm (some 3) (.t 3) (.t 33)),m 4 34]
def Wj:=[aG 36 3 1,o 37 (.call 13 [.t 36,(aq 7)]),m 35 37,o 38 (.ext (.t 35) 0),o 39 (.ext (.t 35) 1),p (.bm (some 3) (.t 1) (.t 38)),m 5 39]
def Wk:=[aG 41 3 1,o 42 (.call 14 [.t 41]),m 40 42,o 43 (.ext (.t 40) 0),o 44 (.ext (.t 40) 1),p (.bm (some 3) (.t 1) (.t 43)),m 6 44]
def Wl:=[aG 46 3 1,o 47 (.call 15 [.t 46,(aq 7),(aq 1)]),m 45 47,o 48 (.ext (.t 45) 0),o 49 (.ext (.t 45) 1),o 50 (.ext (.t 45) 2),o 7 (.alloc (.agg [.int .i64 0,.int .i64 0,.int .i64 0,.bool false])),p (.bm (some 3) (.t 1) (.t 48)),p (.bm (some 4) (.t 7) (.t 49)),m 8 50]
def Wm:=[aG 52 3 1,o 53 (.call 16 [.t 52,(aq 1)]),m 51 53,o 54 (.ext (.t 51) 0),o 55 (.ext (.t 51) 1),m 9 54,m 10 55]
def Wn:=[aG 57 3 1,o 58 (.call 17 [.t 57]),m 56 58,o 59 (.ext (.t 56) 0),o 60 (.ext (.t 56) 1),m 11 59,m 12 60]
def Wo:=[aG 62 3 1,o 63 (.call 14 [.t 62]),m 61 63,o 64 (.ext (.t 61) 0),o 65 (.ext (.t 61) 1),p (.bm (some 3) (.t 1) (.t 64)),m 13 65]
def Wp:=[aG 67 3 1,o 68 (.call 16 [.t 67,(aq 1)]),m 66 68,o 69 (.ext (.t 66) 0),o 70 (.ext (.t 66) 1),m 14 69,m 15 70]
def V9:=[o 71 (.bld [.int .i64 0,.int .i64 0,.int .i64 0,.int .i64 0,.int .i64 0] [(0,(aq 1)),(2,(aq 1)),(3,(aq 7)),(4,(aq 1))]),o 16 (.alloc (.agg [.int .i64 0,.int .i64 0,.int .i64 0,.int .i64 0,.int .i64 0])),p (.bm (some 5) (.t 16) (.t 71))]
def Wa:=[aG 73 3 3,aG 74 5 16,o 75 (.call 18 [.t 73,.t 74]),m 72 75,o 76 (.ext (.t 72) 0),o 77 (.ext (.t 72) 1),p (.bm (some 3) (.t 3) (.t 76)),m 17 77]
def Wb:=[aG 79 3 1,aG 80 3 3,o 81 (.bs 36 3 [.t 79,.t 80]),o 82 (.call 19 [.t 81,(aq 7)]),m 78 82,o 83 (.ext (.t 78) 0),o 84 (.ext (.t 78) 1),m 18 83,m 19 84]
def Wc:=[aG 86 3 3,o 87 (.call 14 [.t 86]),m 85 87,o 88 (.ext (.t 85) 0),o 89 (.ext (.t 85) 1),p (.bm (some 3) (.t 3) (.t 88)),m 20 89]
def Wd:=[aG 91 3 3,o 92 (.call 16 [.t 91,(aq 0)]),m 90 92,o 93 (.ext (.t 90) 0),o 94 (.ext (.t 90) 1),m 21 93,m 22 94]
def We:=[aG 96 3 1,o 97 (.bld [.int .i64 0,.int .i64 0,.int .i64 0,.int .i64 0,.int .i64 0] [(0,(aq 2)),(1,(aq 1)),(3,(aq 7)),(4,(aq 1))]),o 98 (.call 18 [.t 96,.t 97]),m 95 98,o 99 (.ext (.t 95) 0),o 100 (.ext (.t 95) 1),p (.bm (some 3) (.t 1) (.t 99)),m 23 100]
def Wf:=[aG 102 3 1,o 103 (.call 9 [.t 102]),m 101 103,o 104 (.ext (.t 101) 0),o 105 (.ext (.t 101) 1),m 24 104,m 25 105]
def Wg:=[m 106 2,o 107 (.bin .eql (.t 106) (aq 0)),m 108 107,dH 109 4 108,cu 110 (.bin .eql (.t 109) (aq 0)) 108,and 111 108 110,m 112 111,dH 113 5 112,cu 114 (.bin .eql (.t 113) (aq 0)) 112,and 115 112 114,m 116 115,dH 117 6 116,cu 118 (.bin .eql (.t 117) (aq 0)) 116,and 119 116 118,m 120 119,dH 121 8 120,cu 122 (.bin .eql (.t 121) (aq 0)) 120,and 123 120 122,m 124 123,dH 125 10 124,cu 126 (.bin .eql (.t 125) (aq 0)) 124,and 127 124 126,m 128 127,dH 129 12 128,cu 130 (.bin .eql (.t 129) (aq 0)) 128,and 131 128 130,m 132 131,dH 133 13 132,cu 134 (.bin .eql (.t 133) (aq 0)) 132,and 135 132 134,m 136 135,dH 137 15 136,cu 138 (.bin .eql (.t 137) (aq 0)) 136,and 139 136 138,m 140 139,dH 141 17 140,cu 142 (.bin .eql (.t 141) (aq 0)) 140,and 143 140 142,m 144 143,dH 145 19 144,cu 146 (.bin .eql (.t 145) (aq 0)) 144,and 147 144 146,m 148 147,dH 149 20 148,cu 150 (.bin .eql (.t 149) (aq 0)) 148,and 151 148 150,m 152 151,dH 153 22 152,cu 154 (.bin .eql (.t 153) (aq 0)) 152,and 155 152 154,m 156 155,dH 157 23 156,cu 158 (.bin .eql (.t 157) (aq 0)) 156,and 159 156 158,m 160 159,dH 161 25 160,cu 162 (.bin .eql (.t 161) (aq 0)) 160,and 163 160 162,m 26 163]
def Wh:=[m 164 26,m 165 164,cu 166 (.ld (some 4) (.t 7)) 165,cu 167 (.bld [.int .i64 0,.int .i64 0,.int .i64 0,.bool false] [(0,(aq 1)),(1,(aq 1)),(2,(aq 7))]) 165,cu 168 (.eqv (.bm [(.i .i64),(.i .i64),(.i .i64),.b]) false (.t 166) (.t 167)) 165,and 169 165 168,m 170 169,dH 171 9 170,cu 172 (.len (.t 171)) 170,cu 173 (.bin .eql (.t 172) (aq 0)) 170,and 174 170 173,m 175 174,dH 176 11 175,cu 177 (.bin .eql (.t 176) (.c (.bT ⟨#[112,111,117,110,100,32,48,32,49,10,112,111,117,110,100,32,55,10,115,101,110,100,32,55,32,49,32,49,10]⟩))) 175,and 178 175 177,m 179 178,dH 180 14 179,cu 181 (.ld (some 5) (.t 16)) 179,cu 182 (.bs 57 5 [.t 181]) 179,cu 183 (.call 20 [.t 180,.t 182]) 179,and 184 179 183,m 185 184,dH 186 18 185,cu 187 (.bs 3 1 [(aq 1)]) 185,cu 188 (.call 21 [.t 186,.t 187]) 185,and 189 185 188,m 190 189,dH 191 21 190,cu 192 (.bld [.int .i64 0,.int .i64 0,.int .i64 0,.int .i64 0,.int .i64 0] [(0,(aq 2)),(1,(aq 1)),(3,(aq 7)),(4,(aq 1))]) 190,cu 193 (.bs 57 5 [.t 192]) 190,cu 194 (.call 20 [.t 191,.t 193]) 190,and 195 190 194,m 196 195,dH 197 24 196,cu 198 (.len (.t 197)) 196,cu 199 (.bin .eql (.t 198) (aq 0)) 196,and 200 196 199,m 0 200]
def BS:bH:=(s (r V7) (s (r V8) (s (r Wi) (s (r Wj) (s (r Wk) (s (r Wl) (s (r Wm) (s (r Wn) (s (r Wo) (s (r Wp) (s (r V9) (s (r Wa) (s (r Wb) (s (r Wc) (s (r Wd) (s (r We) (s (r Wf) (s (r Wg) (s (r Wh) .ret)))))))))))))))))))
def GU:List bR:=[.tmp 0]
theorem Mo:cJ Tryd.prog Tryd.f6 BS:=e (by kernel_rfl)
theorem Nu:cG Tryd.prog Tryd.f6 GU:=e (by kernel_rfl)
theorem Ls:cD Tryd.prog 6:=e (by kernel_rfl)
def Wv:=[b 1 0,o 2 (.alloc (.agg [.nils 3,.nils 5,.nils 1])),o 3 (.mv aY)]
def Ww:=[o 4 (.mv (.c (.nils 5)))]
def WI:=[o 15 (.bs0 3),f 16 0 0 1,l 17 16,o 18 (.dy 36 3 40 (.agg [.int .i64 0,.nils 4,.int .i64 0]) (.t 15) (.t 17)),f 19 0 0 1,p (.bm none (.t 19) (.t 18))]
def WJ:=[f 20 0 0 1,l 21 20,o 22 (.len (.t 21)),cg 23 0]
def WK:=[lt 24 23 22]
def WL:=[m 25 23,m 5 25]
def WM:=[f 27 0 0 1,l 28 27,m 29 5,o 30 (.is 3 (.t 28) (.t 29)),aG 31 3 30,o 32 (.call 14 [.t 31]),m 26 32,o 33 (.ext (.t 26) 0),o 34 (.ext (.t 26) 1),o 6 (.alloc (.agg [.int .i64 0,.nils 4,.int .i64 0])),p (.bm (some 3) (.t 6) (.t 33)),m 7 34]
def WN:=[m 35 7,o 36 (.bin .neq (.t 35) (aq 0))]
def WO:=[aG 37 3 1,p (.bm (some 3) (.t 2) (.t 37)),o 3 (.mv aY)]
def WQ:=[f 38 0 0 1,l 39 38,m 40 5,aG 41 3 6,o 42 (.is 3 (.t 39) (.t 40)),p (.bm (some 3) (.t 42) (.t 41))]
def Wx:=[cg 8 0]
def Wy:=[m 43 8,o 44 (.bin .lss (.t 43) (aq 6))]
def Wz:=[m 47 8,m 48 5,o 49 (.bin .eql (.t 47) (.t 48))]
def WA:=[aG 51 3 6,m 52 8,o 53 (.call 16 [.t 51,.t 52]),m 50 53,o 54 (.ext (.t 50) 0),o 55 (.ext (.t 50) 1),m 9 54,m 10 55]
def WB:=[m 56 10,o 57 (.bin .neq (.t 56) (aq 0))]
def WC:=[aG 58 3 1,p (.bm (some 3) (.t 2) (.t 58)),o 3 (.mv aY)]
def WD:=[m 59 4,m 60 9,o 61 (.dy 57 5 40 (.agg [.int .i64 0,.int .i64 0,.int .i64 0,.int .i64 0,.int .i64 0]) (.t 59) (.t 60)),m 4 61]
def WE:=[m 45 8,ad 46 45 1,m 8 46]
def WG:=[ad 62 23 1,m 23 62]
def WH:=[m 63 4,o 64 (.len (.t 63)),cg 65 0]
def DZ:=[lt 66 65 64]
def D5:=[o 67 (.is 5 (.t 63) (.t 65)),aG 68 5 67,o 12 (.alloc (.agg [.int .i64 0,.int .i64 0,.int .i64 0,.int .i64 0,.int .i64 0])),p (.bm (some 5) (.t 12) (.t 68))]
def D6:=[f 70 0 0 1,l 71 70,f 72 2 2 12,l 73 72,o 74 (.is 3 (.t 71) (.t 73)),aG 75 3 74,aG 76 5 12,o 77 (.call 18 [.t 75,.t 76]),m 69 77,o 78 (.ext (.t 69) 0),o 79 (.ext (.t 69) 1),o 13 (.alloc (.agg [.int .i64 0,.nils 4,.int .i64 0])),p (.bm (some 3) (.t 13) (.t 78)),m 14 79]
def CN:=some [[],[0],[],[2],[1,3],[4],[],[5,6],[7],[8],[8],[],[11,9,7,0,1,2,3,4,5,6,7,8,9,11],[10,12,0,1,2,3,4,5,6,7,8,9,10,11,12]]
def D7:=[m 80 14,o 81 (.bin .neq (.t 80) (aq 0))]
def D8:=[aG 82 3 1,p (.bm (some 3) (.t 2) (.t 82)),o 3 (.mv aY)]
def D9:=[f 83 0 0 1,l 84 83,f 85 2 2 12,l 86 85,aG 87 3 13,o 88 (.is 3 (.t 84) (.t 86)),p (.bm (some 3) (.t 88) (.t 87))]
def Ea:=[ad 89 65 1,m 65 89]
def Eb:=[aG 90 3 1,p (.bm (some 3) (.t 2) (.t 90)),o 3 (.mv T)]
def BV:bH:=(s (r Wv) (s (r Ww) (s (r WI) (s (s (r WJ) (.block 0 (.loop (s (r WK) (s (.cond (.t 24) .skip (.exit 0)) (s (.block 1 (s (r WL) (s (r WM) (s (s (r WN) (.cond (.t 36) (s (r WO) .ret) .skip)) (s (r WQ) (s (r Wx) (.block 2 (.loop (s (s (r Wy) (.cond (.t 44) .skip (.exit 2))) (s (.block 3 (s (s (r Wz) (.cond (.t 49) (.exit 3) .skip)) (s (r WA) (s (s (r WB) (.cond (.t 57) (s (r WC) .ret) .skip)) (r WD))))) (r WE))))))))))) (r WG))))))) (s (s (r WH) (.block 4 (.loop (s (r DZ) (s (.cond (.t 66) .skip (.exit 4)) (s (.block 5 (s (r D5) (s (.cj CN D6) (s (s (r D7) (.cond (.t 81) (s (r D8) .ret) .skip)) (r D9))))) (r Ea))))))) (s (r Eb) .ret))))))
def G3:List bR:=[.cell 2 (some 3),.tmp 3]
theorem Mr:cJ Tryd.prog Tryd.f7 BV:=e (by kernel_rfl)
theorem ND:cG Tryd.prog Tryd.f7 G3:=e (by kernel_rfl)
theorem Lv:cD Tryd.prog 7:=e (by kernel_rfl)
def WX:=[b 2 0,o 4 (.mv aY)]
def WY:=[f 18 0 0 2,l 19 18,m 20 1,o 21 (.call 19 [.t 19,.t 20]),m 17 21,o 22 (.ext (.t 17) 0),o 23 (.ext (.t 17) 1),m 5 22,m 6 23]
def Xb:=[f 25 0 0 2,l 26 25,m 27 1,o 28 (.call 22 [.t 26,.t 27]),m 24 28,o 29 (.ext (.t 24) 0),o 30 (.ext (.t 24) 1),m 7 29,m 8 30]
def Xf:=[m 31 6,o 32 (.bin .neq (.t 31) (aq 0)),m 33 32,iA 34 8 33,on 35 (.bin .neq (.t 34) (aq 0)) 33,or 36 33 35,m 37 36,iA 38 5 37,on 39 (.len (.t 38)) 37,on 40 (.bin .gtr (.t 39) (aq 1)) 37,or 41 37 40,m 42 41,iA 43 5 42,on 44 (.len (.t 43)) 42,on 45 (.bin .eql (.t 44) (aq 1)) 42,iA 46 45 42,dH 47 7 46,cu 48 (.len (.t 47)) 46,cu 49 (.bin .gtr (.t 48) (aq 0)) 46,on 50 (.pick (.t 46) (.t 49) aY) 42,or 51 42 50]
def Xg:=[o 4 (.mv aY)]
def Xh:=[o 9 (.mv aY)]
def Xi:=[o 10 (.mv aY)]
def Xj:=[f 52 0 0 2,l 53 52,o 54 (.len (.t 53)),cg 55 0]
def Xk:=[lt 56 55 54]
def Xl:=[o 57 (.is 3 (.t 53) (.t 55)),aG 58 3 57,o 12 (.alloc (.agg [.int .i64 0,.nils 4,.int .i64 0])),p (.bm (some 3) (.t 12) (.t 58))]
def WZ:=[aG 60 3 12,m 61 1,o 62 (.call 23 [.t 60,.t 61]),m 59 62,o 63 (.ext (.t 59) 0),o 64 (.ext (.t 59) 1),m 13 63,m 14 64]
def W2:=[m 65 14,o 66 (.bin .neq (.t 65) (aq 0))]
def W3:=[o 4 (.mv aY)]
def W4:=[m 67 13,o 68 (.len (.t 67)),cg 69 0]
def W5:=[lt 70 69 68]
def W6:=[o 71 (.is 4 (.t 67) (.t 69)),aG 72 4 71,o 16 (.alloc (.agg [.int .i64 0,.int .i64 0,.int .i64 0,.int .i64 0])),p (.bm (some 4) (.t 16) (.t 72))]
def W7:=[m 73 9,m 74 73,fn 75 0 0 16 74,kY 76 75 74,on 77 (.bin .eql (.t 76) (aq 1)) 74,or 78 74 77,m 9 78]
def W8:=[m 79 10,m 80 79,fn 81 0 0 16 80,kY 82 81 80,on 83 (.bin .eql (.t 82) (aq 2)) 80,or 84 80 83,m 10 84]
def W9:=[ad 85 69 1,m 69 85]
def Xa:=[ad 86 55 1,m 55 86]
def Xc:=[m 87 9,no 88 87,m 89 88,iA 90 10 89,or 91 89 90]
def Xd:=[o 4 (.mv T)]
def Xe:=[m 92 5,o 93 (.len (.t 92)),m 94 7,o 95 (.len (.t 94)),o 96 (.bin .add (.t 93) (.t 95)),o 97 (.bin .eql (.t 96) (aq 1)),m 4 97]
def BW:bH:=(s (r WX) (s (r WY) (s (r Xb) (s (s (r Xf) (.cond (.t 51) (s (r Xg) .ret) .skip)) (s (r Xh) (s (r Xi) (s (s (r Xj) (.block 0 (.loop (s (r Xk) (s (.cond (.t 56) .skip (.exit 0)) (s (.block 1 (s (r Xl) (s (r WZ) (s (s (r W2) (.cond (.t 66) (s (r W3) .ret) .skip)) (s (r W4) (.block 2 (.loop (s (r W5) (s (.cond (.t 70) .skip (.exit 2)) (s (.block 3 (s (r W6) (s (r W7) (r W8)))) (r W9))))))))))) (r Xa))))))) (s (s (r Xc) (.cond (.t 91) (s (r Xd) .ret) .skip)) (s (r Xe) .ret)))))))))
def G6:List bR:=[.tmp 4]
theorem Ms:cJ Tryd.prog Tryd.f8 BW:=e (by kernel_rfl)
theorem NH:cG Tryd.prog Tryd.f8 G6:=e (by kernel_rfl)
theorem Lw:cD Tryd.prog 8:=e (by kernel_rfl)
def Xm:=[b 1 0,o 2 (.mv (.c (.nils 4))),cg 3 0]
def Xn:=[aG 10 3 1,o 11 (.call 24 [.t 10]),m 9 11,o 12 (.ext (.t 9) 0),o 13 (.ext (.t 9) 1),m 4 12,m 5 13]
def Xp:=[m 14 5,o 15 (.bin .neq (.t 14) (aq 0))]
def Xq:=[m 16 5,o 2 (.mv (.c (.nils 4))),m 3 16]
def Xr:=[o 6 (.mv (.c (.nils 4)))]
def Xs:=[m 17 4,o 18 (.call 25 [.t 17]),o 19 (.len (.t 18)),cg 20 0]
def Xt:=[lt 21 20 19]
def Xu:=[o 22 (.is 1 (.t 18) (.t 20)),l 23 22,m 8 23]
def Xv:=[m 24 6,m 25 4,o 26 (.nilC (.t 25)),f 27 2 2 26,l 28 27,m 29 8,o 30 (.lk (.i .i64) (.nilp) false (.t 28) (.t 29)),o 31 (.nilC (.t 30)),aG 32 4 31,o 33 (.bs 49 4 [.t 32]),o 34 (.dy 49 4 32 (.agg [.int .i64 0,.int .i64 0,.int .i64 0,.bool false]) (.t 24) (.t 33)),m 6 34]
def Xw:=[ad 35 20 1,m 20 35]
def Xo:=[m 36 6,m 2 36,cg 3 0]
def BY:bH:=(s (r Xm) (s (r Xn) (s (s (r Xp) (.cond (.t 15) (s (r Xq) .ret) .skip)) (s (r Xr) (s (s (r Xs) (.block 0 (.loop (s (r Xt) (s (.cond (.t 21) .skip (.exit 0)) (s (.block 1 (s (r Xu) (r Xv))) (r Xw))))))) (s (r Xo) .ret))))))
def G9:List bR:=[.tmp 2,.tmp 3]
theorem Mu:cJ Tryd.prog Tryd.f9 BY:=e (by kernel_rfl)
theorem NK:cG Tryd.prog Tryd.f9 G9:=e (by kernel_rfl)
theorem Ly:cD Tryd.prog 9:=e (by kernel_rfl)
def PI:=[o 0 (.alloc (.agg [.nils 3,.nils 5,.nils 1])),o 1 (.mv aY)]
def PJ:=[o 2 (.alloc (.agg [.nils 3,.nils 5,.nils 1]))]
def PK:=[cg 3 0]
def PL:=[m 6 3,o 7 (.bin .lss (.t 6) (aq 6))]
def PM:=[m 11 3,o 12 (.call 12 [.t 11]),m 10 12,o 13 (.ext (.t 10) 0),o 14 (.ext (.t 10) 1),o 4 (.alloc (.agg [.int .i64 0,.nils 4,.int .i64 0])),p (.bm (some 3) (.t 4) (.t 13)),m 5 14]
def PN:=[m 15 5,o 16 (.bin .neq (.t 15) (aq 0))]
def PO:=[aG 17 3 2,p (.bm (some 3) (.t 0) (.t 17)),o 1 (.mv aY)]
def PQ:=[f 18 0 0 2,l 19 18,aG 20 3 4,o 21 (.bs 36 3 [.t 20]),o 22 (.dy 36 3 40 (.agg [.int .i64 0,.nils 4,.int .i64 0]) (.t 19) (.t 21)),f 23 0 0 2,p (.bm none (.t 23) (.t 22))]
def PR:=[m 8 3,ad 9 8 1,m 3 9]
def PS:=[aG 24 3 2,p (.bm (some 3) (.t 0) (.t 24)),o 1 (.mv T)]
def Bd:bH:=(s (r PI) (s (r PJ) (s (s (r PK) (.block 0 (.loop (s (s (r PL) (.cond (.t 7) .skip (.exit 0))) (s (.block 1 (s (r PM) (s (s (r PN) (.cond (.t 16) (s (r PO) .ret) .skip)) (r PQ)))) (r PR)))))) (s (r PS) .ret))))
def Gc:List bR:=[.cell 0 (some 3),.tmp 1]
theorem LH:cJ Tryd.prog Tryd.f10 Bd:=e (by kernel_rfl)
theorem MI:cG Tryd.prog Tryd.f10 Gc:=e (by kernel_rfl)
theorem KM:cD Tryd.prog 10:=e (by kernel_rfl)
def Dv:=[b 2 0,b 3 1,o 4 (.alloc (.agg [.nils 3,.nils 5,.nils 1])),o 5 (.mv aY)]
def Dw:=[o 17 (.bs0 3),f 18 0 0 2,l 19 18,o 20 (.dy 36 3 40 (.agg [.int .i64 0,.nils 4,.int .i64 0]) (.t 17) (.t 19)),f 21 0 0 2,p (.bm none (.t 21) (.t 20))]
def Dy:=[f 22 1 1 3,l 23 22,o 24 (.call 26 [.t 23,(aq 6)]),m 6 24]
def Dz:=[f 25 2 2 3,l 26 25,o 27 (.call 26 [.t 26,(aq 5)]),o 28 (.bin .add (aq 1) (.t 27)),m 7 28]
def DA:=[f 29 3 3 3,l 30 29,o 31 (.call 26 [.t 30,(aq 6)]),m 8 31]
def DB:=[f 32 0 0 2,l 33 32,m 34 6,o 35 (.is 3 (.t 33) (.t 34)),aG 36 3 35,o 9 (.alloc (.agg [.int .i64 0,.nils 4,.int .i64 0])),p (.bm (some 3) (.t 9) (.t 36))]
def DC:=[cg 10 0]
def Qt:=[f 37 0 0 3,l 38 37,o 39 (.call 26 [.t 38,(aq 10)])]
def Qu:=[o 68 (.bin .eql (.t 39) (aq 0)),m 67 68]
def Qv:=[f 69 2 2 2,l 70 69,m 71 7,o 72 (.call 27 [.t 70,.t 71])]
def PT:=[aG 73 3 2,p (.bm (some 3) (.t 4) (.t 73)),o 5 (.mv T)]
def PU:=[aG 75 3 9,m 76 7,o 77 (.call 13 [.t 75,.t 76]),m 74 77,o 78 (.ext (.t 74) 0),o 79 (.ext (.t 74) 1),p (.bm (some 3) (.t 9) (.t 78)),m 10 79]
def PV:=[m 80 10,o 81 (.bin .eql (.t 80) (aq 0))]
def PW:=[o 82 (.bs0 1),f 83 2 2 2,l 84 83,o 85 (.dy 3 1 8 (.int .i64 0) (.t 82) (.t 84)),m 86 7,o 87 (.bs 3 1 [.t 86]),o 88 (.dy 3 1 8 (.int .i64 0) (.t 85) (.t 87)),f 89 2 2 2,p (.bm none (.t 89) (.t 88))]
def PX:=[o 91 (.bin .eql (.t 39) (aq 1)),m 90 91]
def PY:=[f 92 4 4 3,l 93 92,o 94 (.bin .rem (.t 93) (aq 3)),o 95 (.bin .neq (.t 94) (aq 0))]
def PZ:=[aG 96 3 2,p (.bm (some 3) (.t 4) (.t 96)),o 5 (.mv T)]
def P0:=[aG 98 3 9,m 99 7,o 100 (.call 28 [.t 98,.t 99]),m 97 100,o 101 (.ext (.t 97) 0),o 102 (.ext (.t 97) 1),p (.bm (some 3) (.t 9) (.t 101)),m 10 102]
def P1:=[o 104 (.bin .eql (.t 39) (aq 2)),m 103 104]
def P3:=[o 105 (.bin .eql (.t 39) (aq 3)),m 103 105]
def P4:=[aG 107 3 9,m 108 7,m 109 8,o 110 (.call 15 [.t 107,.t 108,.t 109]),m 106 110,o 111 (.ext (.t 106) 0),o 112 (.ext (.t 106) 1),o 113 (.ext (.t 106) 2),p (.bm (some 3) (.t 9) (.t 111)),m 10 113]
def P5:=[o 115 (.bin .eql (.t 39) (aq 4)),m 114 115]
def P6:=[aG 117 3 9,o 118 (.call 9 [.t 117]),m 116 118,o 119 (.ext (.t 116) 0),o 120 (.ext (.t 116) 1),m 11 119,m 12 120]
def P7:=[m 121 12,o 122 (.bin .neq (.t 121) (aq 0)),m 123 122,iA 124 11 123,on 125 (.len (.t 124)) 123,on 126 (.bin .eql (.t 125) (aq 0)) 123,or 127 123 126]
def P8:=[aG 128 3 2,m 129 12,o 130 (.bin .eql (.t 129) (aq 0)),p (.bm (some 3) (.t 4) (.t 128)),m 5 130]
def P9:=[aG 132 3 9,m 133 11,f 134 4 4 3,l 135 134,m 136 11,o 137 (.len (.t 136)),o 138 (.call 26 [.t 135,.t 137]),o 139 (.is 4 (.t 133) (.t 138)),f 140 0 0 139,l 141 140,o 142 (.call 29 [.t 132,.t 141]),m 131 142,o 143 (.ext (.t 131) 0),o 144 (.ext (.t 131) 1),p (.bm (some 3) (.t 9) (.t 143)),m 10 144]
def NL:=some [[],[],[],[2],[],[4],[3,5],[1,6],[7],[8],[0,9,6],[10],[11],[11],[12,10,0,1,2,3,4,5,6,7,8,9,10,11,12],[13,14,0,1,2,3,4,5,6,7,8,9,10,11,12,13,14]]
def Qa:=[o 146 (.bin .eql (.t 39) (aq 5)),m 145 146]
def Qb:=[aG 148 3 9,f 149 4 4 3,l 150 149,o 151 (.call 30 [.t 148,.t 150]),m 147 151,o 152 (.ext (.t 147) 0),o 153 (.ext (.t 147) 1),p (.bm (some 3) (.t 9) (.t 152)),m 10 153]
def Qc:=[o 155 (.bin .eql (.t 39) (aq 6)),m 154 155]
def Qd:=[aG 157 3 9,o 158 (.call 14 [.t 157]),m 156 158,o 159 (.ext (.t 156) 0),o 160 (.ext (.t 156) 1),p (.bm (some 3) (.t 9) (.t 159)),m 10 160]
def Qe:=[cg 13 0]
def Qf:=[m 161 13,o 162 (.bin .lss (.t 161) (aq 6)),m 163 162,dH 164 10 163,cu 165 (.bin .eql (.t 164) (aq 0)) 163,and 166 163 165]
def Qg:=[m 169 13,m 170 6,o 171 (.bin .eql (.t 169) (.t 170))]
def Qh:=[aG 173 3 9,m 174 13,o 175 (.call 16 [.t 173,.t 174]),m 172 175,o 176 (.ext (.t 172) 0),o 177 (.ext (.t 172) 1),m 14 176,m 15 177]
def Qi:=[m 178 15,m 10 178]
def Qj:=[o 179 (.bs0 5),f 180 1 1 2,l 181 180,o 182 (.dy 57 5 40 (.agg [.int .i64 0,.int .i64 0,.int .i64 0,.int .i64 0,.int .i64 0]) (.t 179) (.t 181)),m 183 14,o 184 (.dy 57 5 40 (.agg [.int .i64 0,.int .i64 0,.int .i64 0,.int .i64 0,.int .i64 0]) (.t 182) (.t 183)),f 185 1 1 2,p (.bm none (.t 185) (.t 184))]
def Qk:=[m 167 13,ad 168 167 1,m 13 168]
def Ql:=[f 40 1 1 2,l 41 40,o 42 (.len (.t 41)),o 43 (.bin .eql (.t 42) (aq 0))]
def Qm:=[aG 44 3 2,p (.bm (some 3) (.t 4) (.t 44)),o 5 (.mv T)]
def Qn:=[f 45 1 1 2,l 46 45,f 47 4 4 3,l 48 47,f 49 1 1 2,l 50 49,o 51 (.len (.t 50)),o 52 (.call 26 [.t 48,.t 51]),o 53 (.is 5 (.t 46) (.t 52)),aG 54 5 53,o 16 (.alloc (.agg [.int .i64 0,.int .i64 0,.int .i64 0,.int .i64 0,.int .i64 0])),p (.bm (some 5) (.t 16) (.t 54))]
def NM:=some [[],[0],[],[2],[],[4],[5],[3,6],[1,7],[8],[],[10,9,7,0,1,2,3,4,5,6,7,8,9,10]]
def Qo:=[f 55 2 2 16,l 56 55,m 6 56]
def Qp:=[f 58 0 0 2,l 59 58,m 60 6,o 61 (.is 3 (.t 59) (.t 60)),aG 62 3 61,aG 63 5 16,o 64 (.call 18 [.t 62,.t 63]),m 57 64,o 65 (.ext (.t 57) 0),o 66 (.ext (.t 57) 1),p (.bm (some 3) (.t 9) (.t 65)),m 10 66]
def NN:=some [[],[0],[],[1,2],[3],[],[4,5],[6],[7],[7],[8,6,0,1,2,3,4,5,6,7,8],[9,10,0,1,2,3,4,5,6,7,8,9,10]]
def Qq:=[m 186 10,o 187 (.bin .eql (.t 186) (aq 0))]
def Qr:=[f 188 0 0 2,l 189 188,m 190 6,aG 191 3 9,o 192 (.is 3 (.t 189) (.t 190)),p (.bm (some 3) (.t 192) (.t 191))]
def Qs:=[aG 193 3 2,m 194 10,o 195 (.call 31 [.t 194]),p (.bm (some 3) (.t 4) (.t 193)),m 5 195]
def NO:=some [[],[],[1],[0,2,0],[2,3,0,1,2,3]]
def na:bH:=(s (r Dv) (s (r Dw) (s (r Dy) (s (r Dz) (s (r DA) (s (r DB) (s (r DC) (s (s (r Qt) (.block 0 (s (r Qu) (.cond (.t 67) (s (s (r Qv) (.cond (.t 72) (s (r PT) .ret) .skip)) (s (r PU) (s (r PV) (.cond (.t 81) (r PW) .skip)))) (s (r PX) (.cond (.t 90) (s (s (r PY) (.cond (.t 95) (s (r PZ) .ret) .skip)) (r P0)) (s (s (r P1) (.cond (.t 103) .skip (r P3))) (.cond (.t 103) (r P4) (s (r P5) (.cond (.t 114) (s (r P6) (s (s (r P7) (.cond (.t 127) (s (r P8) .ret) .skip)) (.cj NL P9))) (s (r Qa) (.cond (.t 145) (r Qb) (s (r Qc) (.cond (.t 154) (s (r Qd) (s (r Qe) (.block 1 (.loop (s (s (r Qf) (.cond (.t 166) .skip (.exit 1))) (s (.block 2 (s (s (r Qg) (.cond (.t 171) (.exit 2) .skip)) (s (r Qh) (s (r Qi) (r Qj))))) (r Qk))))))) (s (s (r Ql) (.cond (.t 43) (s (r Qm) .ret) .skip)) (s (.cj NM Qn) (s (r Qo) (.cj NN Qp)))))))))))))))))) (s (s (r Qq) (.cond (.t 187) (r Qr) .skip)) (s (.cj NO Qs) .ret))))))))))
def nE:List bR:=[.cell 4 (some 3),.tmp 5]
theorem ou:cJ Tryd.prog Tryd.f11 na:=e (by kernel_rfl)
theorem oy:cG Tryd.prog Tryd.f11 nE:=e (by kernel_rfl)
theorem oq:cD Tryd.prog 11:=e (by kernel_rfl)
def Qw:=[o 2 (.alloc (.agg [.int .i64 0,.nils 4,.int .i64 0])),cg 3 0]
def Qx:=[m 4 0,o 5 (.call 32 [.t 4]),no 6 5]
def Qy:=[o 7 (.bld [.int .i64 0,.nils 4,.int .i64 0] []),p (.bm (some 3) (.t 2) (.t 7)),cg 3 90]
def Qz:=[m 8 0,o 9 (.bld [.int .i64 0,.nils 4,.int .i64 0] [(0,(.t 8))]),p (.bm (some 3) (.t 2) (.t 9)),cg 3 0]
def Be:bH:=(s (r Qw) (s (s (r Qx) (.cond (.t 6) (s (r Qy) .ret) .skip)) (s (r Qz) .ret)))
def Gd:List bR:=[.cell 2 (some 3),.tmp 3]
theorem LI:cJ Tryd.prog Tryd.f12 Be:=e (by kernel_rfl)
theorem MJ:cG Tryd.prog Tryd.f12 Gd:=e (by kernel_rfl)
theorem KN:cD Tryd.prog 12:=e (by kernel_rfl)
def QA:=[b 2 0,o 4 (.alloc (.agg [.int .i64 0,.nils 4,.int .i64 0])),cg 5 0]
def QB:=[aG 9 3 2,o 10 (.call 24 [.t 9]),m 8 10,o 11 (.ext (.t 8) 0),o 12 (.ext (.t 8) 1),m 6 11,m 7 12]
def QC:=[m 14 7,o 15 (.bin .neq (.t 14) (aq 0)),m 13 15]
def QD:=[o 16 (.bld [.int .i64 0,.nils 4,.int .i64 0] []),m 17 7,p (.bm (some 3) (.t 4) (.t 16)),m 5 17]
def QE:=[m 19 1,o 20 (.call 33 [.t 19]),no 21 20,m 18 21]
def QF:=[o 22 (.bld [.int .i64 0,.nils 4,.int .i64 0] []),p (.bm (some 3) (.t 4) (.t 22)),cg 5 1]
def QG:=[m 24 6,o 25 (.nilC (.t 24)),f 26 1 1 25,l 27 26,m 28 1,o 29 (.lk (.i .i64) (.bool false) false (.t 27) (.t 28)),m 30 29,iA 31 6 30,iA 32 1 30,on 33 (.call 34 [.t 31,.t 32]) 30,or 34 30 33,m 23 34]
def QH:=[o 35 (.bld [.int .i64 0,.nils 4,.int .i64 0] []),p (.bm (some 3) (.t 4) (.t 35)),cg 5 92]
def QI:=[aG 36 3 2,m 37 1,o 38 (.bld [.int .i64 0,.int .i64 0,.int .i64 0,.int .i64 0] [(0,(aq 1)),(1,(.t 37))]),o 39 (.call 35 [.t 36,.t 38]),o 40 (.ext (.t 39) 0),o 41 (.ext (.t 39) 1),p (.bm (some 3) (.t 4) (.t 40)),m 5 41]
def Bf:bH:=(s (r QA) (s (r QB) (s (.block 0 (s (r QC) (.cond (.t 13) (s (r QD) .ret) (s (r QE) (.cond (.t 18) (s (r QF) .ret) (s (r QG) (.cond (.t 23) (s (r QH) .ret) .skip))))))) (s (r QI) .ret))))
def Ge:List bR:=[.cell 4 (some 3),.tmp 5]
theorem LJ:cJ Tryd.prog Tryd.f13 Bf:=e (by kernel_rfl)
theorem MK:cG Tryd.prog Tryd.f13 Ge:=e (by kernel_rfl)
theorem KO:cD Tryd.prog 13:=e (by kernel_rfl)
def QJ:=[b 1 0,o 2 (.alloc (.agg [.int .i64 0,.nils 4,.int .i64 0])),cg 3 0]
def QK:=[aG 5 3 1,o 6 (.call 36 [.t 5]),m 4 6]
def QL:=[m 7 4,o 8 (.bin .neq (.t 7) (aq 0))]
def QM:=[o 9 (.bld [.int .i64 0,.nils 4,.int .i64 0] []),m 10 4,p (.bm (some 3) (.t 2) (.t 9)),m 3 10]
def QN:=[aG 11 3 1,o 12 (.call 37 [.t 11]),p (.bm (some 3) (.t 1) (.t 12))]
def QO:=[f 13 1 1 1,l 14 13,o 15 (.len (.t 14)),f 16 2 2 1,p (.bm none (.t 16) (.t 15))]
def QP:=[aG 17 3 1,p (.bm (some 3) (.t 2) (.t 17)),cg 3 0]
def Bg:bH:=(s (r QJ) (s (s (r QK) (s (r QL) (.cond (.t 8) (s (r QM) .ret) .skip))) (s (r QN) (s (r QO) (s (r QP) .ret)))))
def Gf:List bR:=[.cell 2 (some 3),.tmp 3]
theorem LK:cJ Tryd.prog Tryd.f14 Bg:=e (by kernel_rfl)
theorem ML:cG Tryd.prog Tryd.f14 Gf:=e (by kernel_rfl)
theorem KP:cD Tryd.prog 14:=e (by kernel_rfl)
def QR:=[b 3 0,o 6 (.alloc (.agg [.int .i64 0,.nils 4,.int .i64 0])),o 7 (.alloc (.agg [.int .i64 0,.int .i64 0,.int .i64 0,.bool false])),cg 8 0]
def QS:=[aG 13 3 3,o 14 (.call 24 [.t 13]),m 12 14,o 15 (.ext (.t 12) 0),o 16 (.ext (.t 12) 1),m 9 15,m 10 16]
def QX:=[m 18 10,o 19 (.bin .neq (.t 18) (aq 0)),m 17 19]
def QY:=[o 20 (.bld [.int .i64 0,.nils 4,.int .i64 0] []),o 21 (.bld [.int .i64 0,.int .i64 0,.int .i64 0,.bool false] []),m 22 10,p (.bm (some 3) (.t 6) (.t 20)),p (.bm (some 4) (.t 7) (.t 21)),m 8 22]
def QZ:=[m 24 1,o 25 (.call 33 [.t 24]),no 26 25,m 23 26]
def Q0:=[o 27 (.bld [.int .i64 0,.nils 4,.int .i64 0] []),o 28 (.bld [.int .i64 0,.int .i64 0,.int .i64 0,.bool false] []),p (.bm (some 3) (.t 6) (.t 27)),p (.bm (some 4) (.t 7) (.t 28)),cg 8 1]
def Q1:=[m 30 2,o 31 (.call 32 [.t 30]),no 32 31,m 33 32,iA 34 2 33,fn 35 0 0 3 33,kY 36 35 33,on 37 (.bin .eql (.t 34) (.t 36)) 33,or 38 33 37,m 29 38]
def Q2:=[o 39 (.bld [.int .i64 0,.nils 4,.int .i64 0] []),o 40 (.bld [.int .i64 0,.int .i64 0,.int .i64 0,.bool false] []),p (.bm (some 3) (.t 6) (.t 39)),p (.bm (some 4) (.t 7) (.t 40)),cg 8 90]
def Q3:=[m 42 9,o 43 (.nilC (.t 42)),f 44 1 1 43,l 45 44,m 46 1,o 47 (.lk (.i .i64) (.bool false) false (.t 45) (.t 46)),no 48 47,m 41 48]
def Q4:=[o 49 (.bld [.int .i64 0,.nils 4,.int .i64 0] []),o 50 (.bld [.int .i64 0,.int .i64 0,.int .i64 0,.bool false] []),p (.bm (some 3) (.t 6) (.t 49)),p (.bm (some 4) (.t 7) (.t 50)),cg 8 93]
def QT:=[m 51 9,o 52 (.nilC (.t 51)),f 53 3 3 52,l 54 53,ad 55 54 1,m 56 2,m 57 1,o 58 (.bld [.int .i64 0,.int .i64 0,.int .i64 0,.bool false] [(0,(.t 55)),(1,(.t 56)),(2,(.t 57))]),o 11 (.alloc (.agg [.int .i64 0,.int .i64 0,.int .i64 0,.bool false])),p (.bm (some 4) (.t 11) (.t 58))]
def QU:=[aG 60 3 3,m 61 1,m 62 2,f 63 0 0 11,l 64 63,o 65 (.bld [.int .i64 0,.int .i64 0,.int .i64 0,.int .i64 0] [(0,(aq 3)),(1,(.t 61)),(2,(.t 62)),(3,(.t 64))]),o 66 (.call 35 [.t 60,.t 65]),m 59 66,o 67 (.ext (.t 59) 0),o 68 (.ext (.t 59) 1),p (.bm (some 3) (.t 3) (.t 67)),m 10 68]
def QV:=[m 69 10,o 70 (.bin .neq (.t 69) (aq 0))]
def QW:=[o 71 (.bld [.int .i64 0,.nils 4,.int .i64 0] []),o 72 (.bld [.int .i64 0,.int .i64 0,.int .i64 0,.bool false] []),m 73 10,p (.bm (some 3) (.t 6) (.t 71)),p (.bm (some 4) (.t 7) (.t 72)),m 8 73]
def x5:=[aG 74 3 3,aG 75 4 11,p (.bm (some 3) (.t 6) (.t 74)),p (.bm (some 4) (.t 7) (.t 75)),cg 8 0]
def NP:=some [[],[],[0,0],[1,2,0,1,2],[3,0,1,2,3]] -- DRAW BAD
def Bh:bH:=(s (r QR) (s (r QS) (s (.block 0 (s (r QX) (.cond (.t 17) (s (r QY) .ret) (s (r QZ) (.cond (.t 23) (s (r Q0) .ret) (s (r Q1) (.cond (.t 29) (s (r Q2) .ret) (s (r Q3) (.cond (.t 41) (s (r Q4) .ret) .skip))))))))) (s (r QT) (s (r QU) (s (s (r QV) (.cond (.t 70) (s (r QW) .ret) .skip)) (s (.cj NP x5) .ret)))))))
def Gg:List bR:=[.cell 6 (some 3),.cell 7 (some 4),.tmp 8]
theorem LL:cJ Tryd.prog Tryd.f15 Bh:=e (by kernel_rfl)
theorem MN:cG Tryd.prog Tryd.f15 Gg:=e (by kernel_rfl)
theorem KQ:cD Tryd.prog 15:=e (by kernel_rfl)
def Q5:=[b 2 0,o 4 (.mv (.c (.nils 5))),cg 5 0]
def Q6:=[aG 11 3 2,o 12 (.call 36 [.t 11]),m 6 12]
def Ra:=[m 13 6,o 14 (.bin .neq (.t 13) (aq 0))]
def Rb:=[m 15 6,o 4 (.mv (.c (.nils 5))),m 5 15]
def Rc:=[m 16 1,o 17 (.call 32 [.t 16]),no 18 17,m 19 18,iA 20 1 19,fn 21 0 0 2 19,kY 22 21 19,on 23 (.bin .eql (.t 20) (.t 22)) 19,or 24 19 23]
def Re:=[o 4 (.mv (.c (.nils 5))),cg 5 90]
def Rf:=[f 26 0 0 2,l 27 26,f 28 1 1 2,l 29 28,f 30 2 2 2,l 31 30,f 32 2 2 2,l 33 32,o 34 (.sl 4 (.t 29) none (some (.t 31)) (some (.t 33))),o 35 (.call 38 [.t 27,.t 34]),m 25 35,o 36 (.ext (.t 25) 0),o 37 (.ext (.t 25) 1),m 7 36,m 8 37]
def NR:=some [[],[0],[],[2],[],[4],[],[6],[3,5,7],[1,8],[9],[10],[10],[11,9,0,1,2,3,4,5,6,7,8,9,10,11],[12,13,0,1,2,3,4,5,6,7,8,9,10,11,12,13]]
def Rg:=[o 9 (.alloc (.nils 5))]
def Rh:=[m 38 7,m 39 1,o 40 (.call 39 [.t 38,.t 39])]
def Ri:=[o 10 (.alloc (.agg [.int .i64 0,.int .i64 0,.int .i64 0,.int .i64 0,.int .i64 0])),p (.bm (some 5) (.t 10) (.t 41))]
def Q7:=[l 42 9,o 43 (.len (.t 42)),o 44 (.bin .eql (.t 43) (aq 0)),m 45 44,kY 46 9 45,kY 47 9 45,on 48 (.len (.t 47)) 45,on 49 (.bin .sub (.t 48) (aq 1)) 45,on 50 (.is 5 (.t 46) (.t 49)) 45,on 51 (.ld (some 5) (.t 50)) 45,on 52 (.ld (some 5) (.t 10)) 45,on 53 (.eqv (.bm [(.i .i64),(.i .i64),(.i .i64),(.i .i64),(.i .i64)]) true (.t 51) (.t 52)) 45,or 54 45 53]
def NQ:=some [[],[0],[1],[2],[3],[3],[5,3],[6,3],[4,7,3],[8,3],[3],[9,10,3],[3,11]]
def Q8:=[l 55 9,aG 56 5 10,o 57 (.bs 57 5 [.t 56]),o 58 (.dy 57 5 40 (.agg [.int .i64 0,.int .i64 0,.int .i64 0,.int .i64 0,.int .i64 0]) (.t 55) (.t 57)),p (.bm none (.t 9) (.t 58))]
def Q9:=[l 59 9,m 4 59,cg 5 0]
def Bi:bH:=(s (r Q5) (s (s (r Q6) (s (r Ra) (.cond (.t 14) (s (r Rb) .ret) .skip))) (s (s (r Rc) (.cond (.t 24) (s (r Re) .ret) .skip)) (s (.cj NR Rf) (s (r Rg) (s (s (r Rh) (.block 0 (.nN (.t 40) [41] (r Ri) (.block 1 (s (.cj NQ Q7) (.cond (.t 54) (r Q8) .skip)))))) (s (r Q9) .ret)))))))
def Gh:List bR:=[.tmp 4,.tmp 5]
theorem LM:cJ Tryd.prog Tryd.f16 Bi:=e (by kernel_rfl)
theorem MO:cG Tryd.prog Tryd.f16 Gh:=e (by kernel_rfl)
theorem KR:cD Tryd.prog 16:=e (by kernel_rfl)
def Rj:=[b 1 0,o 2 (.mv (.c (.bT ⟨#[]⟩))),cg 3 0]
def Rk:=[aG 8 3 1,o 9 (.call 36 [.t 8]),m 4 9]
def Ro:=[m 10 4,o 11 (.bin .neq (.t 10) (aq 0))]
def Rp:=[m 12 4,o 2 (.mv (.c (.bT ⟨#[]⟩))),m 3 12]
def Rq:=[f 13 0 0 1,l 14 13,f 15 2 2 1,l 16 15,o 17 (.bs 3 1 [.t 14,.t 16]),o 18 (.call 40 [(.c (.bT ⟨#[112,111,117,110,100]⟩)),.t 17]),m 5 18]
def Rr:=[f 19 1 1 1,l 20 19,o 21 (.len (.t 20)),cg 22 0]
def Rs:=[lt 23 22 21]
def Rt:=[o 24 (.is 4 (.t 20) (.t 22)),aG 25 4 24,o 7 (.alloc (.agg [.int .i64 0,.int .i64 0,.int .i64 0,.int .i64 0])),p (.bm (some 4) (.t 7) (.t 25))]
def Ru:=[f 26 0 0 7,l 27 26,o 28 (.bin .leq (.t 27) (aq 2))]
def Rv:=[m 29 5,o 30 (.call 41 []),f 31 0 0 7,l 32 31,o 33 (.is 1 (.t 30) (.t 32)),l 34 33,f 35 1 1 7,l 36 35,o 37 (.bs 3 1 [.t 36]),o 38 (.call 40 [.t 34,.t 37]),o 39 (.bin .add (.t 29) (.t 38)),m 5 39]
def NT:=some [[],[],[],[2],[1,3],[4],[],[6],[7],[5,8,1],[0,9],[10,9,0,1,2,3,4,5,6,7,8,9,10]]
def Rl:=[m 40 5,o 41 (.call 41 []),f 42 0 0 7,l 43 42,o 44 (.is 1 (.t 41) (.t 43)),l 45 44,f 46 1 1 7,l 47 46,f 48 2 2 7,l 49 48,f 50 3 3 7,l 51 50,o 52 (.bs 3 1 [.t 47,.t 49,.t 51]),o 53 (.call 40 [.t 45,.t 52]),o 54 (.bin .add (.t 40) (.t 53)),m 5 54]
def NS:=some [[],[],[],[2],[1,3],[4],[],[6],[],[8],[],[10],[7,9,11],[5,12,1],[0,13],[14,13,0,1,2,3,4,5,6,7,8,9,10,11,12,13,14]]
def Rm:=[ad 55 22 1,m 22 55]
def Rn:=[m 56 5,m 2 56,cg 3 0]
def Bj:bH:=(s (r Rj) (s (s (r Rk) (s (r Ro) (.cond (.t 11) (s (r Rp) .ret) .skip))) (s (r Rq) (s (s (r Rr) (.block 0 (.loop (s (r Rs) (s (.cond (.t 23) .skip (.exit 0)) (s (.block 1 (s (r Rt) (s (r Ru) (.cond (.t 28) (.cj NT Rv) (.cj NS Rl))))) (r Rm))))))) (s (r Rn) .ret)))))
def Gi:List bR:=[.tmp 2,.tmp 3]
theorem LN:cJ Tryd.prog Tryd.f17 Bj:=e (by kernel_rfl)
theorem MP:cG Tryd.prog Tryd.f17 Gi:=e (by kernel_rfl)
theorem KS:cD Tryd.prog 17:=e (by kernel_rfl)
def Rw:=[b 2 0,b 3 1,o 4 (.alloc (.agg [.int .i64 0,.nils 4,.int .i64 0])),cg 5 0]
def Rx:=[aG 10 3 2,o 11 (.call 24 [.t 10]),m 9 11,o 12 (.ext (.t 9) 0),o 13 (.ext (.t 9) 1),m 6 12,m 7 13]
def Ry:=[m 15 7,o 16 (.bin .neq (.t 15) (aq 0)),m 14 16]
def Rz:=[o 17 (.bld [.int .i64 0,.nils 4,.int .i64 0] []),m 18 7,p (.bm (some 3) (.t 4) (.t 17)),m 5 18]
def RA:=[aG 20 5 3,o 21 (.call 42 [.t 20]),no 22 21,m 23 22,fn 24 2 2 3 23,kY 25 24 23,fn 26 0 0 2 23,kY 27 26 23,on 28 (.bin .neq (.t 25) (.t 27)) 23,or 29 23 28,m 19 29]
def RB:=[o 30 (.bld [.int .i64 0,.nils 4,.int .i64 0] []),p (.bm (some 3) (.t 4) (.t 30)),cg 5 95]
def RC:=[f 31 0 0 3,l 32 31,o 33 (.call 43 [.t 32]),f 34 3 3 3,l 35 34,f 36 1 1 3,l 37 36,f 38 4 4 3,l 39 38,o 40 (.bld [.int .i64 0,.int .i64 0,.int .i64 0,.int .i64 0] [(0,(.t 33)),(1,(.t 35)),(2,(.t 37)),(3,(.t 39))]),o 8 (.alloc (.agg [.int .i64 0,.int .i64 0,.int .i64 0,.int .i64 0])),p (.bm (some 4) (.t 8) (.t 40))]
def NU:=some [[],[0],[1],[],[3],[],[5],[],[7],[2,4,6,8],[],[10,9,2,0,1,2,3,4,5,6,7,8,9,10]]
def RD:=[m 41 6,aG 42 4 8,o 43 (.call 44 [.t 41,.t 42]),no 44 43]
def RE:=[aG 45 3 2,o 46 (.call 37 [.t 45]),p (.bm (some 3) (.t 4) (.t 46)),cg 5 0]
def RF:=[aG 47 3 2,aG 48 4 8,o 49 (.call 35 [.t 47,.t 48]),o 50 (.ext (.t 49) 0),o 51 (.ext (.t 49) 1),p (.bm (some 3) (.t 4) (.t 50)),m 5 51]
def Bk:bH:=(s (r Rw) (s (r Rx) (s (.block 0 (s (r Ry) (.cond (.t 14) (s (r Rz) .ret) (s (r RA) (.cond (.t 19) (s (r RB) .ret) .skip))))) (s (.cj NU RC) (s (s (r RD) (.cond (.t 44) (s (r RE) .ret) .skip)) (s (r RF) .ret))))))
def Gj:List bR:=[.cell 4 (some 3),.tmp 5]
theorem LO:cJ Tryd.prog Tryd.f18 Bk:=e (by kernel_rfl)
theorem MQ:cG Tryd.prog Tryd.f18 Gj:=e (by kernel_rfl)
theorem KT:cD Tryd.prog 18:=e (by kernel_rfl)
def RG:=[o 4 (.mv (.c (.nils 1))),cg 5 0]
def RH:=[m 12 0,m 13 1,o 14 (.call 45 [.t 12,.t 13]),m 11 14,o 15 (.ext (.t 11) 0),o 16 (.ext (.t 11) 1),m 6 15,m 7 16]
def RI:=[o 8 (.mv (.c (.nils 1)))]
def RJ:=[m 17 6,o 18 (.len (.t 17)),cg 19 0]
def RK:=[lt 20 19 18]
def RL:=[o 21 (.is 1 (.t 17) (.t 19)),l 22 21,m 10 22]
def RM:=[m 23 10,o 24 (.nilC (.t 23)),f 25 1 1 24,l 26 25,m 27 1,o 28 (.lk (.i .i64) (.bool false) false (.t 26) (.t 27))]
def RN:=[m 29 8,m 30 10,o 31 (.nilC (.t 30)),f 32 0 0 31,l 33 32,o 34 (.bs 3 1 [.t 33]),o 35 (.dy 3 1 8 (.int .i64 0) (.t 29) (.t 34)),m 8 35]
def RO:=[ad 36 19 1,m 19 36]
def RP:=[m 37 8,m 38 7,m 4 37,m 5 38]
def Bl:bH:=(s (r RG) (s (r RH) (s (r RI) (s (s (r RJ) (.block 0 (.loop (s (r RK) (s (.cond (.t 20) .skip (.exit 0)) (s (.block 1 (s (r RL) (s (r RM) (.cond (.t 28) (r RN) .skip)))) (r RO))))))) (s (r RP) .ret)))))
def Gk:List bR:=[.tmp 4,.tmp 5]
theorem LP:cJ Tryd.prog Tryd.f19 Bl:=e (by kernel_rfl)
theorem MR:cG Tryd.prog Tryd.f19 Gk:=e (by kernel_rfl)
theorem KU:cD Tryd.prog 19:=e (by kernel_rfl)
def RQ:=[o 4 (.mv aY)]
def RS:=[m 6 0,o 7 (.len (.t 6)),m 8 1,o 9 (.len (.t 8)),o 10 (.bin .neq (.t 7) (.t 9))]
def RT:=[o 4 (.mv aY)]
def RU:=[m 11 0,o 12 (.len (.t 11)),cg 13 0]
def RV:=[lt 14 13 12]
def RW:=[m 15 13,m 5 15]
def RX:=[m 16 0,m 17 5,o 18 (.is 5 (.t 16) (.t 17)),aG 19 5 18,m 20 1,m 21 5,o 22 (.is 5 (.t 20) (.t 21)),aG 23 5 22,o 24 (.eqv (.bm [(.i .i64),(.i .i64),(.i .i64),(.i .i64),(.i .i64)]) true (.t 19) (.t 23))]
def NV:=some [[],[],[0,1],[2],[],[],[4,5],[6],[3,7]]
def RY:=[o 4 (.mv aY)]
def RZ:=[ad 25 13 1,m 13 25]
def R1:=[o 4 (.mv T)]
def Bm:bH:=(s (r RQ) (s (s (r RS) (.cond (.t 10) (s (r RT) .ret) .skip)) (s (s (r RU) (.block 0 (.loop (s (r RV) (s (.cond (.t 14) .skip (.exit 0)) (s (.block 1 (s (r RW) (s (.cj NV RX) (.cond (.t 24) (s (r RY) .ret) .skip)))) (r RZ))))))) (s (r R1) .ret))))
def Gl:List bR:=[.tmp 4]
theorem LQ:cJ Tryd.prog Tryd.f20 Bm:=e (by kernel_rfl)
theorem MS:cG Tryd.prog Tryd.f20 Gl:=e (by kernel_rfl)
theorem KV:cD Tryd.prog 20:=e (by kernel_rfl)
def R2:=[o 4 (.mv aY)]
def R3:=[m 6 0,o 7 (.len (.t 6)),m 8 1,o 9 (.len (.t 8)),o 10 (.bin .neq (.t 7) (.t 9))]
def R4:=[o 4 (.mv aY)]
def R5:=[m 11 0,o 12 (.len (.t 11)),cg 13 0]
def R6:=[lt 14 13 12]
def R7:=[m 15 13,m 5 15]
def R8:=[m 16 0,m 17 5,o 18 (.is 1 (.t 16) (.t 17)),l 19 18,m 20 1,m 21 5,o 22 (.is 1 (.t 20) (.t 21)),l 23 22,o 24 (.bin .neq (.t 19) (.t 23))]
def NW:=some [[],[],[0,1],[2],[],[],[4,5],[6],[3,7]]
def R9:=[o 4 (.mv aY)]
def Sa:=[ad 25 13 1,m 13 25]
def Sb:=[o 4 (.mv T)]
def Bn:bH:=(s (r R2) (s (s (r R3) (.cond (.t 10) (s (r R4) .ret) .skip)) (s (s (r R5) (.block 0 (.loop (s (r R6) (s (.cond (.t 14) .skip (.exit 0)) (s (.block 1 (s (r R7) (s (.cj NW R8) (.cond (.t 24) (s (r R9) .ret) .skip)))) (r Sa))))))) (s (r Sb) .ret))))
def Gm:List bR:=[.tmp 4]
theorem LR:cJ Tryd.prog Tryd.f21 Bn:=e (by kernel_rfl)
theorem MT:cG Tryd.prog Tryd.f21 Gm:=e (by kernel_rfl)
theorem KW:cD Tryd.prog 21:=e (by kernel_rfl)
def Sc:=[o 4 (.mv (.c (.nils 4))),cg 5 0]
def Sd:=[m 16 0,m 17 1,o 18 (.call 45 [.t 16,.t 17]),m 15 18,o 19 (.ext (.t 15) 0),o 20 (.ext (.t 15) 1),m 6 19,m 7 20]
def Sk:=[o 8 (.mv (.c (.nils 4)))]
def Sl:=[m 21 6,o 22 (.len (.t 21)),cg 23 0]
def Sm:=[lt 24 23 22]
def Sn:=[o 25 (.is 1 (.t 21) (.t 23)),l 26 25,o 10 (.alloc (.nilp)),p (.bm none (.t 10) (.t 26))]
def Sp:=[l 27 10,o 28 (.call 25 [.t 27]),o 29 (.len (.t 28)),cg 30 0]
def Sq:=[lt 31 30 29]
def Sr:=[o 32 (.is 1 (.t 28) (.t 30)),l 33 32,o 12 (.alloc (.int .i64 0)),p (.bm none (.t 12) (.t 33))]
def St:=[l 34 10,o 35 (.nilC (.t 34)),f 36 2 2 35,l 37 36,l 38 12,o 39 (.lk (.i .i64) (.nilp) false (.t 37) (.t 38)),o 40 (.nilC (.t 39)),aG 41 4 40,o 13 (.alloc (.agg [.int .i64 0,.int .i64 0,.int .i64 0,.bool false])),p (.bm (some 4) (.t 13) (.t 41))]
def NX:=some [[],[0],[1],[2],[],[3,4],[5],[6],[],[8,7,0,1,2,3,4,5,6,7,8]]
def Se:=[m 42 6,o 43 (.mk 47 [.t 13,.t 10,.t 12]),o 44 (.call 46 [.t 42,.t 43]),m 14 44]
def Sf:=[f 45 2 2 13,l 46 45,m 47 1,o 48 (.bin .eql (.t 46) (.t 47)),m 49 48,dH 50 14 49,cu 51 (.un .not (.t 50)) 49,and 52 49 51]
def Sg:=[m 53 8,aG 54 4 13,o 55 (.bs 49 4 [.t 54]),o 56 (.dy 49 4 32 (.agg [.int .i64 0,.int .i64 0,.int .i64 0,.bool false]) (.t 53) (.t 55)),m 8 56]
def Sh:=[ad 57 30 1,m 30 57]
def Si:=[ad 58 23 1,m 23 58]
def Sj:=[m 59 8,m 60 7,m 4 59,m 5 60]
def Bo:bH:=(s (r Sc) (s (r Sd) (s (r Sk) (s (s (r Sl) (.block 0 (.loop (s (r Sm) (s (.cond (.t 24) .skip (.exit 0)) (s (.block 1 (s (r Sn) (s (r Sp) (.block 2 (.loop (s (r Sq) (s (.cond (.t 31) .skip (.exit 2)) (s (.block 3 (s (r Sr) (s (.cj NX St) (s (r Se) (s (r Sf) (.cond (.t 52) (r Sg) .skip)))))) (r Sh))))))))) (r Si))))))) (s (r Sj) .ret)))))
def Gn:List bR:=[.tmp 4,.tmp 5]
theorem LS:cJ Tryd.prog Tryd.f22 Bo:=e (by kernel_rfl)
theorem MU:cG Tryd.prog Tryd.f22 Gn:=e (by kernel_rfl)
theorem KX:cD Tryd.prog 22:=e (by kernel_rfl)
def Su:=[b 2 0,b 3 1,o 4 (.mv (.c (.nils 4))),cg 5 0]
def Sv:=[aG 7 3 2,o 8 (.call 36 [.t 7]),m 6 8]
def Sw:=[m 9 6,o 10 (.bin .neq (.t 9) (aq 0))]
def Sx:=[m 11 6,o 4 (.mv (.c (.nils 4))),m 5 11]
def Sy:=[l 12 3,o 13 (.call 33 [.t 12]),no 14 13]
def Sz:=[o 4 (.mv (.c (.nils 4))),cg 5 1]
def SA:=[f 15 1 1 2,l 16 15,o 17 (.call 49 [.t 16]),o 18 (.mk 50 [.t 3]),o 19 (.call 48 [.t 17,.t 18]),m 4 19,cg 5 0]
def Bp:bH:=(s (r Su) (s (s (r Sv) (s (r Sw) (.cond (.t 10) (s (r Sx) .ret) .skip))) (s (s (r Sy) (.cond (.t 14) (s (r Sz) .ret) .skip)) (s (r SA) .ret))))
def Gp:List bR:=[.tmp 4,.tmp 5]
theorem LU:cJ Tryd.prog Tryd.f23 Bp:=e (by kernel_rfl)
theorem MV:cG Tryd.prog Tryd.f23 Gp:=e (by kernel_rfl)
theorem KY:cD Tryd.prog 23:=e (by kernel_rfl)
def SB:=[b 1 0,o 2 (.mv (.c (.nilp))),cg 3 0]
def SC:=[f 6 0 0 1,l 7 6,o 8 (.call 32 [.t 7]),no 9 8,m 10 9,fn 11 1 1 1 10,kY 12 11 10,on 13 (.len (.t 12)) 10,on 14 (.bin .gtr (.t 13) (aq 200)) 10,or 15 10 14,m 16 15,fn 17 2 2 1 16,kY 18 17 16,fn 19 1 1 1 16,kY 20 19 16,on 21 (.len (.t 20)) 16,on 22 (.call 51 [.t 18,(aq 0),.t 21]) 16,on 23 (.un .not (.t 22)) 16,or 24 16 23]
def SD:=[o 2 (.mv (.c (.nilp))),cg 3 91]
def SE:=[f 26 0 0 1,l 27 26,f 28 1 1 1,l 29 28,o 30 (.call 38 [.t 27,.t 29]),m 25 30,o 31 (.ext (.t 25) 0),o 32 (.ext (.t 25) 1),m 4 31,m 5 32]
def SF:=[m 33 5,no 34 33]
def SG:=[o 2 (.mv (.c (.nilp))),cg 3 91]
def SH:=[m 35 4,m 2 35,cg 3 0]
def xc:bH:=(s (r SB) (s (s (r SC) (.cond (.t 24) (s (r SD) .ret) .skip)) (s (r SE) (s (s (r SF) (.cond (.t 34) (s (r SG) .ret) .skip)) (s (r SH) .ret)))))
def zt:List bR:=[.tmp 2,.tmp 3]
theorem Co:cJ Tryd.prog Tryd.f24 xc:=e (by kernel_rfl)
theorem CH:cG Tryd.prog Tryd.f24 zt:=e (by kernel_rfl)
theorem B3:cD Tryd.prog 24:=e (by kernel_rfl)
def DE:=[o 2 (.mv (.c (.nils 1)))]
def DF:=[o 3 (.mv (.c (.nils 1)))]
def DG:=[m 5 0,o 6 (.nilC (.t 5)),f 7 2 2 6,l 8 7,o 9 (.kG (.t 8))]
def x6:=[o 10 (.jh (.t 9)),o 11 (.ext (.t 10) 0)]
def SI:=[o 12 (.ent (.t 9)),o 13 (.ext (.t 12) 0),m 4 13]
def SJ:=[m 14 3,m 15 4,o 16 (.bs 3 1 [.t 15]),o 17 (.dy 3 1 8 (.int .i64 0) (.t 14) (.t 16)),m 3 17]
def SK:=[m 18 3,o 19 (.call 52 [.t 18])]
def SL:=[m 20 3,m 2 20]
def Bq:bH:=(s (r DE) (s (r DF) (s (s (r DG) (.block 0 (.loop (s (r x6) (s (.cond (.t 11) .skip (.exit 0)) (.block 1 (s (r SI) (r SJ)))))))) (s (r SK) (s (r SL) .ret)))))
def Gq:List bR:=[.tmp 2]
theorem LV:cJ Tryd.prog Tryd.f25 Bq:=e (by kernel_rfl)
theorem MW:cG Tryd.prog Tryd.f25 Gq:=e (by kernel_rfl)
theorem KZ:cD Tryd.prog 25:=e (by kernel_rfl)
def SM:=[cg 4 0]
def SN:=[m 5 0,m 6 1,o 7 (.bin .rem (.t 5) (.t 6)),m 8 1,o 9 (.bin .add (.t 7) (.t 8)),m 10 1,o 11 (.bin .rem (.t 9) (.t 10)),m 4 11]
def Br:bH:=(s (r SM) (s (r SN) .ret))
def Gr:List bR:=[.tmp 4]
theorem LW:cJ Tryd.prog Tryd.f26 Br:=e (by kernel_rfl)
theorem MX:cG Tryd.prog Tryd.f26 Gr:=e (by kernel_rfl)
theorem K0:cD Tryd.prog 26:=e (by kernel_rfl)
def SO:=[o 4 (.mv aY)]
def SP:=[m 7 0,o 8 (.len (.t 7)),cg 9 0]
def SQ:=[lt 10 9 8]
def SR:=[o 11 (.is 1 (.t 7) (.t 9)),l 12 11,m 6 12]
def SS:=[m 13 6,m 14 1,o 15 (.bin .eql (.t 13) (.t 14))]
def SU:=[o 4 (.mv T)]
def SV:=[ad 16 9 1,m 9 16]
def SW:=[o 4 (.mv aY)]
def Bt:bH:=(s (r SO) (s (s (r SP) (.block 0 (.loop (s (r SQ) (s (.cond (.t 10) .skip (.exit 0)) (s (.block 1 (s (r SR) (s (r SS) (.cond (.t 15) (s (r SU) .ret) .skip)))) (r SV))))))) (s (r SW) .ret)))
def Gs:List bR:=[.tmp 4]
theorem LX:cJ Tryd.prog Tryd.f27 Bt:=e (by kernel_rfl)
theorem MY:cG Tryd.prog Tryd.f27 Gs:=e (by kernel_rfl)
theorem K1:cD Tryd.prog 27:=e (by kernel_rfl)
def SX:=[b 2 0,o 4 (.alloc (.agg [.int .i64 0,.nils 4,.int .i64 0])),cg 5 0]
def SY:=[aG 9 3 2,o 10 (.call 24 [.t 9]),m 8 10,o 11 (.ext (.t 8) 0),o 12 (.ext (.t 8) 1),m 6 11,m 7 12]
def SZ:=[m 14 7,o 15 (.bin .neq (.t 14) (aq 0)),m 13 15]
def S0:=[o 16 (.bld [.int .i64 0,.nils 4,.int .i64 0] []),m 17 7,p (.bm (some 3) (.t 4) (.t 16)),m 5 17]
def S1:=[m 19 1,o 20 (.call 33 [.t 19]),no 21 20,m 18 21]
def S2:=[o 22 (.bld [.int .i64 0,.nils 4,.int .i64 0] []),p (.bm (some 3) (.t 4) (.t 22)),cg 5 1]
def S3:=[m 24 6,o 25 (.nilC (.t 24)),f 26 1 1 25,l 27 26,m 28 1,o 29 (.lk (.i .i64) (.bool false) false (.t 27) (.t 28)),no 30 29,m 23 30]
def S4:=[o 31 (.bld [.int .i64 0,.nils 4,.int .i64 0] []),p (.bm (some 3) (.t 4) (.t 31)),cg 5 93]
def S5:=[aG 32 3 2,m 33 1,o 34 (.bld [.int .i64 0,.int .i64 0,.int .i64 0,.int .i64 0] [(0,(aq 2)),(1,(.t 33))]),o 35 (.call 35 [.t 32,.t 34]),o 36 (.ext (.t 35) 0),o 37 (.ext (.t 35) 1),p (.bm (some 3) (.t 4) (.t 36)),m 5 37]
def Bu:bH:=(s (r SX) (s (r SY) (s (.block 0 (s (r SZ) (.cond (.t 13) (s (r S0) .ret) (s (r S1) (.cond (.t 18) (s (r S2) .ret) (s (r S3) (.cond (.t 23) (s (r S4) .ret) .skip))))))) (s (r S5) .ret))))
def Gt:List bR:=[.cell 4 (some 3),.tmp 5]
theorem LY:cJ Tryd.prog Tryd.f28 Bu:=e (by kernel_rfl)
theorem MZ:cG Tryd.prog Tryd.f28 Gt:=e (by kernel_rfl)
theorem K2:cD Tryd.prog 28:=e (by kernel_rfl)
def S6:=[b 2 0,o 4 (.alloc (.agg [.int .i64 0,.nils 4,.int .i64 0])),cg 5 0]
def S7:=[aG 11 3 2,o 12 (.call 24 [.t 11]),m 10 12,o 13 (.ext (.t 10) 0),o 14 (.ext (.t 10) 1),m 6 13,m 7 14]
def S8:=[m 15 7,o 16 (.bin .neq (.t 15) (aq 0))]
def S9:=[o 17 (.bld [.int .i64 0,.nils 4,.int .i64 0] []),m 18 7,p (.bm (some 3) (.t 4) (.t 17)),m 5 18]
def Ta:=[m 20 6,o 21 (.nilC (.t 20)),f 22 2 2 21,l 23 22,m 24 1,o 25 (.lk (.i .i64) (.nilp) true (.t 23) (.t 24)),m 19 25,o 26 (.ext (.t 19) 0),o 27 (.ext (.t 19) 1),m 8 26,m 9 27]
def Tb:=[m 28 9,no 29 28,m 30 29,iA 31 8 30,on 32 (.nilC (.t 31)) 30,fn 33 3 3 32 30,kY 34 33 30,or 35 30 34]
def Tc:=[o 36 (.bld [.int .i64 0,.nils 4,.int .i64 0] []),p (.bm (some 3) (.t 4) (.t 36)),cg 5 94]
def Td:=[aG 37 3 2,m 38 8,o 39 (.nilC (.t 38)),f 40 2 2 39,l 41 40,m 42 8,o 43 (.nilC (.t 42)),f 44 1 1 43,l 45 44,m 46 1,o 47 (.bld [.int .i64 0,.int .i64 0,.int .i64 0,.int .i64 0] [(0,(aq 4)),(1,(.t 41)),(2,(.t 45)),(3,(.t 46))]),o 48 (.call 35 [.t 37,.t 47]),o 49 (.ext (.t 48) 0),o 50 (.ext (.t 48) 1),p (.bm (some 3) (.t 4) (.t 49)),m 5 50]
def NY:=some [[],[],[1],[2],[3],[],[5],[6],[7],[],[4,8,9],[0,10],[11],[11],[12,11,0,1,2,3,4,5,6,7,8,9,10,11,12,13],[13,14,0,1,2,3,4,5,6,7,8,9,10,11,12,13,14]]
def Bv:bH:=(s (r S6) (s (r S7) (s (s (r S8) (.cond (.t 16) (s (r S9) .ret) .skip)) (s (r Ta) (s (s (r Tb) (.cond (.t 35) (s (r Tc) .ret) .skip)) (s (.cj NY Td) .ret))))))
def Gu:List bR:=[.cell 4 (some 3),.tmp 5]
theorem LZ:cJ Tryd.prog Tryd.f29 Bv:=e (by kernel_rfl)
theorem M0:cG Tryd.prog Tryd.f29 Gu:=e (by kernel_rfl)
theorem K3:cD Tryd.prog 29:=e (by kernel_rfl)
def Te:=[b 2 0,o 4 (.alloc (.agg [.int .i64 0,.nils 4,.int .i64 0])),cg 5 0]
def Tf:=[aG 8 3 2,o 9 (.call 36 [.t 8]),m 6 9]
def Tg:=[m 10 6,o 11 (.bin .neq (.t 10) (aq 0))]
def Th:=[o 12 (.bld [.int .i64 0,.nils 4,.int .i64 0] []),m 13 6,p (.bm (some 3) (.t 4) (.t 12)),m 5 13]
def Ti:=[f 14 1 1 2,l 15 14,o 16 (.len (.t 15)),f 17 2 2 2,l 18 17,o 19 (.bin .sub (.t 16) (.t 18)),ad 20 19 1,m 7 20]
def Tj:=[f 21 2 2 2,l 22 21,m 23 1,m 24 7,o 25 (.bin .rem (.t 23) (.t 24)),m 26 7,o 27 (.bin .add (.t 25) (.t 26)),m 28 7,o 29 (.bin .rem (.t 27) (.t 28)),o 30 (.bin .add (.t 22) (.t 29)),f 31 2 2 2,p (.bm none (.t 31) (.t 30))]
def NZ:=some [[],[0],[],[],[2,3],[],[4,5],[],[6,7],[1,8],[0,1,2,3,4,5,6,7,8,9],[10,9,0,1,2,3,4,5,6,7,8,9]]
def Tk:=[f 32 1 1 2,l 33 32,f 34 2 2 2,l 35 34,o 36 (.sl 4 (.t 33) none (some (.t 35)) none),o 37 (.call 49 [.t 36]),f 38 1 1 2,p (.bm none (.t 38) (.t 37))]
def Tl:=[aG 39 3 2,p (.bm (some 3) (.t 4) (.t 39)),cg 5 0]
def Bw:bH:=(s (r Te) (s (s (r Tf) (s (r Tg) (.cond (.t 11) (s (r Th) .ret) .skip))) (s (r Ti) (s (.cj NZ Tj) (s (r Tk) (s (r Tl) .ret))))))
def Gv:List bR:=[.cell 4 (some 3),.tmp 5]
theorem L0:cJ Tryd.prog Tryd.f30 Bw:=e (by kernel_rfl)
theorem M2:cG Tryd.prog Tryd.f30 Gv:=e (by kernel_rfl)
theorem K4:cD Tryd.prog 30:=e (by kernel_rfl)
def Tm:=[o 2 (.mv aY)]
def Tn:=[m 3 0,o 4 (.bin .eql (.t 3) (aq 0)),m 5 4,iA 6 0 5,on 7 (.bin .eql (.t 6) (aq 2)) 5,or 8 5 7,m 9 8,iA 10 0 9,on 11 (.bin .eql (.t 10) (aq 92)) 9,or 12 9 11,m 13 12,iA 14 0 13,on 15 (.bin .eql (.t 14) (aq 93)) 13,or 16 13 15,m 17 16,iA 18 0 17,on 19 (.bin .eql (.t 18) (aq 94)) 17,or 20 17 19,m 21 20,iA 22 0 21,on 23 (.bin .eql (.t 22) (aq 90)) 21,or 24 21 23,m 2 24]
def Bx:bH:=(s (r Tm) (s (r Tn) .ret))
def Gw:List bR:=[.tmp 2]
theorem L1:cJ Tryd.prog Tryd.f31 Bx:=e (by kernel_rfl)
theorem M3:cG Tryd.prog Tryd.f31 Gw:=e (by kernel_rfl)
theorem K5:cD Tryd.prog 31:=e (by kernel_rfl)
def Tp:=[o 2 (.mv aY)]
def Tq:=[m 3 0,o 4 (.call 51 [.t 3,(aq 0),(aq 5)]),m 2 4]
def By:bH:=(s (r Tp) (s (r Tq) .ret))
def Gx:List bR:=[.tmp 2]
theorem L2:cJ Tryd.prog Tryd.f32 By:=e (by kernel_rfl)
theorem M4:cG Tryd.prog Tryd.f32 Gx:=e (by kernel_rfl)
theorem K6:cD Tryd.prog 32:=e (by kernel_rfl)
def Tr:=[o 2 (.mv aY)]
def Ts:=[m 3 0,o 4 (.call 51 [.t 3,(aq 1),(aq 9999)]),m 2 4]
def Bz:bH:=(s (r Tr) (s (r Ts) .ret))
def Gy:List bR:=[.tmp 2]
theorem L3:cJ Tryd.prog Tryd.f33 Bz:=e (by kernel_rfl)
theorem M5:cG Tryd.prog Tryd.f33 Gy:=e (by kernel_rfl)
theorem K7:cD Tryd.prog 33:=e (by kernel_rfl)
def DH:=[o 4 (.mv aY)]
def DI:=[m 7 0,o 8 (.nilC (.t 7)),f 9 2 2 8,l 10 9,o 11 (.kG (.t 10))]
def x7:=[o 12 (.jh (.t 11)),o 13 (.ext (.t 12) 0)]
def Tt:=[o 14 (.ent (.t 11)),o 15 (.ext (.t 14) 1),m 6 15]
def Tu:=[m 16 6,o 17 (.nilC (.t 16)),f 18 2 2 17,l 19 18,m 20 1,o 21 (.bin .eql (.t 19) (.t 20))]
def Tv:=[o 4 (.mv T)]
def Tw:=[o 4 (.mv aY)]
def BA:bH:=(s (r DH) (s (s (r DI) (.block 0 (.loop (s (r x7) (s (.cond (.t 13) .skip (.exit 0)) (.block 1 (s (r Tt) (s (r Tu) (.cond (.t 21) (s (r Tv) .ret) .skip))))))))) (s (r Tw) .ret)))
def Gz:List bR:=[.tmp 4]
theorem L4:cJ Tryd.prog Tryd.f34 BA:=e (by kernel_rfl)
theorem M6:cG Tryd.prog Tryd.f34 Gz:=e (by kernel_rfl)
theorem K8:cD Tryd.prog 34:=e (by kernel_rfl)
def Tx:=[b 2 0,b 3 1,o 4 (.alloc (.agg [.int .i64 0,.nils 4,.int .i64 0])),cg 5 0]
def Ty:=[f 6 1 1 2,l 7 6,o 8 (.len (.t 7)),o 9 (.bin .eql (.t 8) (aq 200))]
def Tz:=[o 10 (.bld [.int .i64 0,.nils 4,.int .i64 0] []),p (.bm (some 3) (.t 4) (.t 10)),cg 5 2]
def TA:=[aG 11 3 2,o 12 (.call 37 [.t 11]),p (.bm (some 3) (.t 2) (.t 12))]
def TB:=[f 13 1 1 2,l 14 13,aG 15 4 3,o 16 (.bs 67 4 [.t 15]),o 17 (.dy 67 4 32 (.agg [.int .i64 0,.int .i64 0,.int .i64 0,.int .i64 0]) (.t 14) (.t 16)),f 18 1 1 2,p (.bm none (.t 18) (.t 17))]
def TC:=[aG 19 3 2,p (.bm (some 3) (.t 4) (.t 19)),cg 5 0]
def BB:bH:=(s (r Tx) (s (s (r Ty) (.cond (.t 9) (s (r Tz) .ret) .skip)) (s (r TA) (s (r TB) (s (r TC) .ret)))))
def GA:List bR:=[.cell 4 (some 3),.tmp 5]
theorem L5:cJ Tryd.prog Tryd.f35 BB:=e (by kernel_rfl)
theorem M7:cG Tryd.prog Tryd.f35 GA:=e (by kernel_rfl)
theorem K9:cD Tryd.prog 35:=e (by kernel_rfl)
def TD:=[b 1 0,cg 2 0]
def TE:=[aG 6 3 1,o 7 (.call 24 [.t 6]),m 5 7,o 8 (.ext (.t 5) 0),o 9 (.ext (.t 5) 1),m 3 8,m 4 9]
def TF:=[m 10 4,m 2 10]
def BC:bH:=(s (r TD) (s (r TE) (s (r TF) .ret)))
def GB:List bR:=[.tmp 2]
theorem L6:cJ Tryd.prog Tryd.f36 BC:=e (by kernel_rfl)
theorem M8:cG Tryd.prog Tryd.f36 GB:=e (by kernel_rfl)
theorem La:cD Tryd.prog 36:=e (by kernel_rfl)
def TG:=[b 1 0,o 2 (.alloc (.agg [.int .i64 0,.nils 4,.int .i64 0]))]
def TH:=[f 3 1 1 1,l 4 3,o 5 (.call 49 [.t 4]),f 6 1 1 1,p (.bm none (.t 6) (.t 5))]
def TI:=[aG 7 3 1,p (.bm (some 3) (.t 2) (.t 7))]
def xd:bH:=(s (r TG) (s (r TH) (s (r TI) .ret)))
def zu:List bR:=[.cell 2 (some 3)]
theorem Cp:cJ Tryd.prog Tryd.f37 xd:=e (by kernel_rfl)
theorem CI:cG Tryd.prog Tryd.f37 zu:=e (by kernel_rfl)
theorem B4:cD Tryd.prog 37:=e (by kernel_rfl)
def TJ:=[o 4 (.mv (.c (.nilp))),o 5 (.mv aY)]
def TK:=[m 9 0,o 10 (.call 53 [.t 9]),m 6 10]
def TL:=[m 11 1,o 12 (.len (.t 11)),cg 13 0]
def TM:=[lt 14 13 12]
def TN:=[o 15 (.is 4 (.t 11) (.t 13)),aG 16 4 15,o 8 (.alloc (.agg [.int .i64 0,.int .i64 0,.int .i64 0,.int .i64 0])),p (.bm (some 4) (.t 8) (.t 16))]
def TO:=[m 17 6,aG 18 4 8,o 19 (.call 44 [.t 17,.t 18]),no 20 19]
def TP:=[o 4 (.mv (.c (.nilp))),o 5 (.mv aY)]
def TQ:=[ad 21 13 1,m 13 21]
def TR:=[m 22 6,m 4 22,o 5 (.mv T)]
def xe:bH:=(s (r TJ) (s (r TK) (s (s (r TL) (.block 0 (.loop (s (r TM) (s (.cond (.t 14) .skip (.exit 0)) (s (.block 1 (s (r TN) (s (r TO) (.cond (.t 20) (s (r TP) .ret) .skip)))) (r TQ))))))) (s (r TR) .ret))))
def zw:List bR:=[.tmp 4,.tmp 5]
theorem Cq:cJ Tryd.prog Tryd.f38 xe:=e (by kernel_rfl)
theorem CJ:cG Tryd.prog Tryd.f38 zw:=e (by kernel_rfl)
theorem B5:cD Tryd.prog 38:=e (by kernel_rfl)
def TS:=[b 2 0,b 3 1,o 4 (.mv (.c (.dE)))]
def TT:=[o 5 (.mk 54 [.t 2,.t 3]),m 4 5]
def BD:bH:=(s (r TS) (s (r TT) .ret))
def GC:List bR:=[.tmp 4]
theorem L7:cJ Tryd.prog Tryd.f39 BD:=e (by kernel_rfl)
theorem M9:cG Tryd.prog Tryd.f39 GC:=e (by kernel_rfl)
theorem Lb:cD Tryd.prog 39:=e (by kernel_rfl)
def DJ:=[o 4 (.mv (.c (.bT ⟨#[]⟩)))]
def DK:=[m 7 1,o 8 (.len (.t 7)),cg 9 0]
def DL:=[lt 10 9 8]
def DM:=[o 11 (.is 1 (.t 7) (.t 9)),l 12 11,m 6 12]
def DN:=[m 13 0,m 14 6,o 15 (.call 55 [.t 14]),o 16 (.bin .add (.c (.bT ⟨#[32]⟩)) (.t 15)),o 17 (.bin .add (.t 13) (.t 16)),m 0 17]
def DO:=[ad 18 9 1,m 9 18]
def DP:=[m 19 0,o 20 (.bin .add (.t 19) (.c (.bT ⟨#[10]⟩))),m 4 20]
def BE:bH:=(s (r DJ) (s (s (r DK) (.block 0 (.loop (s (r DL) (s (.cond (.t 10) .skip (.exit 0)) (s (.block 1 (s (r DM) (r DN))) (r DO))))))) (s (r DP) .ret)))
def GD:List bR:=[.tmp 4]
theorem L9:cJ Tryd.prog Tryd.f40 BE:=e (by kernel_rfl)
theorem Nb:cG Tryd.prog Tryd.f40 GD:=e (by kernel_rfl)
theorem Ld:cD Tryd.prog 40:=e (by kernel_rfl)
def TU:=[o 0 (.mv (.c (.nils 1)))]
def TV:=[o 1 (.bs 9 1 [(.c (.bT ⟨#[]⟩)),(.c (.bT ⟨#[112,111,117,110,100]⟩)),(.c (.bT ⟨#[114,101,108,101,97,115,101]⟩)),(.c (.bT ⟨#[115,101,110,100]⟩)),(.c (.bT ⟨#[99,97,108,108]⟩)),(.c (.bT ⟨#[100,111,110,101]⟩)),(.c (.bT ⟨#[98,97,99,107]⟩)),(.c (.bT ⟨#[116,97,107,101]⟩)),(.c (.bT ⟨#[114,101,102,117,115,101]⟩))]),m 0 1]
def BF:bH:=(s (r TU) (s (r TV) .ret))
def GF:List bR:=[.tmp 0]
theorem Ma:cJ Tryd.prog Tryd.f41 BF:=e (by kernel_rfl)
theorem Nc:cG Tryd.prog Tryd.f41 GF:=e (by kernel_rfl)
theorem Le:cD Tryd.prog 41:=e (by kernel_rfl)
def TW:=[b 1 0,o 2 (.mv aY)]
def TX:=[f 3 0 0 1,l 4 3,o 5 (.call 51 [.t 4,(aq 1),(aq 4)]),m 6 5,fS 7 1 1 1 6,fu 8 7 6,cu 9 (.call 32 [.t 8]) 6,and 10 6 9,m 11 10,fS 12 2 2 1 11,fu 13 12 11,cu 14 (.call 32 [.t 13]) 11,and 15 11 14,m 16 15,fS 17 1 1 1 16,fu 18 17 16,fS 19 2 2 1 16,fu 20 19 16,cu 21 (.bin .neq (.t 18) (.t 20)) 16,and 22 16 21,m 23 22,fS 24 3 3 1 23,fu 25 24 23,cu 26 (.call 33 [.t 25]) 23,and 27 23 26,m 28 27,fS 29 4 4 1 28,fu 30 29 28,cu 31 (.call 56 [.t 30]) 28,and 32 28 31,m 2 32]
def BG:bH:=(s (r TW) (s (r TX) .ret))
def GG:List bR:=[.tmp 2]
theorem Mb:cJ Tryd.prog Tryd.f42 BG:=e (by kernel_rfl)
theorem Nd:cG Tryd.prog Tryd.f42 GG:=e (by kernel_rfl)
theorem Lf:cD Tryd.prog 42:=e (by kernel_rfl)
def TY:=[cg 2 0]
def TZ:=[o 3 (.jB),p (.fg (.i .i64) (.t 3) (aq 1) (aq 7)),p (.fg (.i .i64) (.t 3) (aq 2) (aq 5)),p (.fg (.i .i64) (.t 3) (aq 3) (aq 8)),p (.fg (.i .i64) (.t 3) (aq 4) (aq 6)),m 4 3,m 5 0,o 6 (.lk (.i .i64) (.int .i64 0) false (.t 4) (.t 5)),m 2 6]
def BH:bH:=(s (r TY) (s (r TZ) .ret))
def GH:List bR:=[.tmp 2]
theorem Mc:cJ Tryd.prog Tryd.f43 BH:=e (by kernel_rfl)
theorem Nf:cG Tryd.prog Tryd.f43 GH:=e (by kernel_rfl)
theorem Lg:cD Tryd.prog 43:=e (by kernel_rfl)
def DQ:=[b 3 1,o 4 (.alloc (.bool false))]
def DR:=[aG 6 4 3,o 7 (.call 59 [.t 6]),o 8 (.call 58 [.t 7])]
def sI:=[m 9 0,o 10 (.nilC (.t 9)),f 11 5 5 10,l 12 11,f 13 0 0 3,l 14 13,o 15 (.lk (.i .i64) (.dE) false (.t 12) (.t 14)),aG 16 4 3,o 17 (.fQ (.t 15) [.t 16])]
def N0:=some [[],[0],[1],[2],[],[4],[3,5],[],[6,7]]
def T0:=[p (.bm none (.t 4) T)]
def aa2:List bR:=[.cell 4 none]
theorem Ng:cG Tryd.prog Tryd.f44 aa2:=e (by kernel_rfl)
theorem Lh:cD Tryd.prog 44:=e (by kernel_rfl)
def T1:=[o 4 (.mv (.c (.nils 1))),cg 5 0]
def T2:=[o 6 (.mv (.c (.nils 1)))]
def T6:=[m 11 0,o 12 (.len (.t 11)),cg 13 0]
def T7:=[lt 14 13 12]
def T8:=[m 15 13,o 16 (.is 3 (.t 11) (.t 13)),aG 17 3 16,o 8 (.alloc (.agg [.int .i64 0,.nils 4,.int .i64 0])),m 7 15,p (.bm (some 3) (.t 8) (.t 17))]
def T9:=[aG 19 3 8,o 20 (.call 24 [.t 19]),m 18 20,o 21 (.ext (.t 18) 0),o 22 (.ext (.t 18) 1),m 9 21,m 10 22]
def Ua:=[m 23 10,o 24 (.bin .neq (.t 23) (aq 0)),m 25 24,iA 26 7 25,on 27 (.bin .gtr (.t 26) (aq 0)) 25,iA 28 27 25,dH 29 0 28,dH 30 7 28,cu 31 (.bin .sub (.t 30) (aq 1)) 28,cu 32 (.is 3 (.t 29) (.t 31)) 28,fS 33 0 0 32 28,fu 34 33 28,fS 35 0 0 8 28,fu 36 35 28,cu 37 (.bin .geq (.t 34) (.t 36)) 28,on 38 (.pick (.t 28) (.t 37) aY) 25,or 39 25 38]
def N1:=some [[],[0],[1],[2],[3,2],[4,2,2],[5],[5],[7,5],[6,8,5],[9,5],[10,5],[5],[12,5],[11,13,5],[5,14,2],[2,15]]
def Ub:=[o 4 (.mv (.c (.nils 1))),cg 5 96]
def Uc:=[m 40 6,m 41 9,o 42 (.bs 68 1 [.t 41]),o 43 (.dy 68 1 8 (.nilp) (.t 40) (.t 42)),m 6 43]
def Ud:=[ad 44 13 1,m 13 44]
def T3:=[m 45 1,o 46 (.call 33 [.t 45]),no 47 46]
def T4:=[o 4 (.mv (.c (.nils 1))),cg 5 1]
def T5:=[m 48 6,m 4 48,cg 5 0]
def BI:bH:=(s (r T1) (s (r T2) (s (s (r T6) (.block 0 (.loop (s (r T7) (s (.cond (.t 14) .skip (.exit 0)) (s (.block 1 (s (r T8) (s (r T9) (s (s (.cj N1 Ua) (.cond (.t 39) (s (r Ub) .ret) .skip)) (r Uc))))) (r Ud))))))) (s (s (r T3) (.cond (.t 47) (s (r T4) .ret) .skip)) (s (r T5) .ret)))))
def GI:List bR:=[.tmp 4,.tmp 5]
theorem Md:cJ Tryd.prog Tryd.f45 BI:=e (by kernel_rfl)
theorem Nh:cG Tryd.prog Tryd.f45 GI:=e (by kernel_rfl)
theorem Li:cD Tryd.prog 45:=e (by kernel_rfl)
def Ue:=[o 4 (.mv aY)]
def Uf:=[m 5 0,m 6 1,o 7 (.call 60 [.t 5,.t 6]),o 8 (.bin .geq (.t 7) (aq 0)),m 4 8]
def BJ:bH:=(s (r Ue) (s (r Uf) .ret))
def GJ:List bR:=[.tmp 4]
theorem Me:cJ Tryd.prog Tryd.f46 BJ:=e (by kernel_rfl)
theorem Ni:cG Tryd.prog Tryd.f46 GJ:=e (by kernel_rfl)
theorem Lj:cD Tryd.prog 46:=e (by kernel_rfl)
def Ug:=[o 5 (.mv aY)]
def Uh:=[m 6 0,o 7 (.nilC (.t 6)),f 8 0 0 7,l 9 8,f 10 1 1 1,l 11 10,o 12 (.bin .eql (.t 9) (.t 11)),m 13 12,dH 14 0 13,cu 15 (.nilC (.t 14)) 13,fS 16 4 4 15 13,fu 17 16 13,fu 18 2 13,cu 19 (.nilC (.t 18)) 13,fS 20 0 0 19 13,fu 21 20 13,fu 22 3 13,cu 23 (.bld [.int .i64 0,.int .i64 0] [(0,(.t 21)),(1,(.t 22))]) 13,cu 24 (.lk (.bm [(.i .i64),(.i .i64)]) (.agg [.int .i64 0,.int .i64 0,.int .i64 0,.int .i64 0]) false (.t 17) (.t 23)) 13,cu 25 (.fl 0 0 none (.t 24)) 13,cu 26 (.bin .eql (.t 25) (aq 7)) 13,and 27 13 26,m 5 27]
def N2:=some [[],[0],[1],[2],[],[4],[3,5],[6],[7],[8,7],[9,7],[10,7],[7],[12,7],[13,7],[14,7],[7],[15,16,7],[11,17,7],[18,7],[19,7],[7,20],[21,7,0,1,2,3,4,5,6,7,8,9,10,11,12,13,14,15,16,17,18,19,20,21]]
def BK:bH:=(s (r Ug) (s (.cj N2 Uh) .ret))
def GK:List bR:=[.tmp 5]
theorem Mf:cJ Tryd.prog Tryd.f47 BK:=e (by kernel_rfl)
theorem Nj:cG Tryd.prog Tryd.f47 GK:=e (by kernel_rfl)
theorem Lk:cD Tryd.prog 47:=e (by kernel_rfl)
def Ui:=[o 4 (.mv (.c (.nils 4)))]
def Uj:=[m 8 0,m 9 1,o 10 (.call 61 [.t 8,.t 9]),m 5 10]
def Ul:=[m 11 5,o 12 (.bin .eql (.t 11) (.c (.int .i64 (-1))))]
def Um:=[m 13 0,m 4 13]
def Un:=[m 14 5,ad 15 14 1,m 6 15]
def DU:=[m 16 6,m 17 0,o 18 (.len (.t 17)),lt 19 16 18]
def Uo:=[m 22 0,m 23 6,o 24 (.is 4 (.t 22) (.t 23)),aG 25 4 24,o 7 (.alloc (.agg [.int .i64 0,.int .i64 0,.int .i64 0,.int .i64 0])),p (.bm (some 4) (.t 7) (.t 25))]
def Up:=[m 26 1,aG 27 4 7,o 28 (.fQ (.t 26) [.t 27]),no 29 28]
def Uq:=[m 30 0,m 31 5,aG 32 4 7,o 33 (.is 4 (.t 30) (.t 31)),p (.bm (some 4) (.t 33) (.t 32))]
def Ur:=[m 34 5,ad 35 34 1,m 5 35]
def Uk:=[m 20 6,ad 21 20 1,m 6 21]
def DS:=[m 36 0,m 37 5,o 38 (.sl 4 (.t 36) (some (.t 37)) none none),p (.kh 4 (.agg [.int .i64 0,.int .i64 0,.int .i64 0,.int .i64 0]) (.t 38))]
def DT:=[m 39 0,m 40 5,o 41 (.sl 4 (.t 39) none (some (.t 40)) none),m 4 41]
def xf:bH:=(s (r Ui) (s (r Uj) (s (s (r Ul) (.cond (.t 12) (s (r Um) .ret) .skip)) (s (s (r Un) (.block 0 (.loop (s (s (r DU) (.cond (.t 19) .skip (.exit 0))) (s (.block 1 (s (r Uo) (s (r Up) (.cond (.t 29) (s (r Uq) (r Ur)) .skip)))) (r Uk)))))) (s (r DS) (s (r DT) .ret))))))
def zx:List bR:=[.tmp 4]
theorem Cr:cJ Tryd.prog Tryd.f48 xf:=e (by kernel_rfl)
theorem CK:cG Tryd.prog Tryd.f48 zx:=e (by kernel_rfl)
theorem B6:cD Tryd.prog 48:=e (by kernel_rfl)
def x8:=[o 2 (.mv (.c (.nils 4)))]
def sJ:=[m 3 0,o 4 (.nilS false (.t 3))]
def x9:=[o 2 (.mv (.c (.nils 4)))]
def sK:=[o 5 (.bs0 4),m 6 0,o 7 (.dy 67 4 32 (.agg [.int .i64 0,.int .i64 0,.int .i64 0,.int .i64 0]) (.t 5) (.t 6)),m 2 7]
def xg:bH:=(s (r x8) (s (s (r sJ) (.cond (.t 4) (s (r x9) .ret) .skip)) (s (r sK) .ret)))
def zy:List bR:=[.tmp 2]
theorem Cs:cJ Tryd.prog Tryd.f49 xg:=e (by kernel_rfl)
theorem CL:cG Tryd.prog Tryd.f49 zy:=e (by kernel_rfl)
theorem B7:cD Tryd.prog 49:=e (by kernel_rfl)
def UM:=[b 2 0,o 3 (.mv aY)]
def UN:=[f 4 1 1 2,l 5 4,l 6 1,o 7 (.bin .neq (.t 5) (.t 6)),m 3 7]
def BL:bH:=(s (r UM) (s (r UN) .ret))
def GM:List bR:=[.tmp 3]
theorem Mh:cJ Tryd.prog Tryd.f50 BL:=e (by kernel_rfl)
theorem Nl:cG Tryd.prog Tryd.f50 GM:=e (by kernel_rfl)
theorem Lm:cD Tryd.prog 50:=e (by kernel_rfl)
def UO:=[o 6 (.mv aY)]
def UP:=[m 7 0,m 8 1,o 9 (.bin .geq (.t 7) (.t 8)),m 10 9,dH 11 0 10,dH 12 2 10,cu 13 (.bin .leq (.t 11) (.t 12)) 10,and 14 10 13,m 6 14]
def BM:bH:=(s (r UO) (s (r UP) .ret))
def GN:List bR:=[.tmp 6]
theorem Mi:cJ Tryd.prog Tryd.f51 BM:=e (by kernel_rfl)
theorem Nn:cG Tryd.prog Tryd.f51 GN:=e (by kernel_rfl)
theorem Ln:cD Tryd.prog 51:=e (by kernel_rfl)
theorem B8:cD Tryd.prog 52:=e (by kernel_rfl)
def UQ:=[o 2 (.mv (.c (.nilp)))]
def UR:=[m 4 0,o 5 (.jB),o 6 (.jB),o 7 (.jB),o 8 (.bld [.int .i64 0,.raw (.map none),.raw (.map none),.int .i64 0,.raw (.map none),.raw (.map none)] [(0,(.t 4)),(1,(.t 5)),(2,(.t 6)),(4,(.t 7))]),b 9 8,m 3 9]
def US:=[m 10 3,o 11 (.jB),m 12 3,o 13 (.mk 1000064 [.t 12]),p (.fg (.i .i64) (.t 11) (aq 1) (.t 13)),m 14 3,o 15 (.mk 1000065 [.t 14]),p (.fg (.i .i64) (.t 11) (aq 2) (.t 15)),m 16 3,o 17 (.mk 1000066 [.t 16]),p (.fg (.i .i64) (.t 11) (aq 3) (.t 17)),m 18 3,o 19 (.mk 1000067 [.t 18]),p (.fg (.i .i64) (.t 11) (aq 4) (.t 19)),m 20 3,o 21 (.mk 1000068 [.t 20]),p (.fg (.i .i64) (.t 11) (aq 5) (.t 21)),m 22 3,o 23 (.mk 1000069 [.t 22]),p (.fg (.i .i64) (.t 11) (aq 6) (.t 23)),m 24 3,o 25 (.mk 1000070 [.t 24]),p (.fg (.i .i64) (.t 11) (aq 7) (.t 25)),m 26 3,o 27 (.mk 1000071 [.t 26]),p (.fg (.i .i64) (.t 11) (aq 8) (.t 27)),m 28 11,o 29 (.nilC (.t 10)),f 30 5 5 29,p (.bm none (.t 30) (.t 28))]
def UT:=[m 31 3,m 2 31]
def BN:bH:=(s (r UQ) (s (r UR) (s (r US) (s (r UT) .ret))))
def GO:List bR:=[.tmp 2]
theorem Mj:cJ Tryd.prog Tryd.f53 BN:=e (by kernel_rfl)
theorem Np:cG Tryd.prog Tryd.f53 GO:=e (by kernel_rfl)
theorem Lo:cD Tryd.prog 53:=e (by kernel_rfl)
def UU:=[l 12 1,o 13 (.call 25 [.t 12]),o 14 (.len (.t 13)),cg 15 0]
def UW:=[lt 16 15 14]
def U4:=[o 17 (.is 1 (.t 13) (.t 15)),l 18 17,m 5 18]
def U5:=[l 19 1,o 20 (.nilC (.t 19)),f 21 2 2 20,l 22 21,m 23 5,o 24 (.lk (.i .i64) (.nilp) false (.t 22) (.t 23)),m 6 24]
def U6:=[l 25 1,o 26 (.nilC (.t 25)),f 27 0 0 26,l 28 27,l 29 2,m 30 6,o 31 (.nilC (.t 30)),f 32 2 2 31,l 33 32,m 34 5,o 35 (.bld [.int .i64 0,.int .i64 0,.int .i64 0,.int .i64 0,.int .i64 0] [(0,(aq 1)),(1,(.t 28)),(2,(.t 29)),(3,(.t 33)),(4,(.t 34))]),o 7 (.alloc (.agg [.int .i64 0,.int .i64 0,.int .i64 0,.int .i64 0,.int .i64 0])),p (.bm (some 5) (.t 7) (.t 35))]
def N5:=some [[],[0],[1],[2],[],[],[5],[6],[7],[],[3,4,8,9],[],[11,10,0,1,2,3,4,5,6,7,8,9,10,11]]
def U7:=[m 36 6,o 37 (.nilC (.t 36)),f 38 3 3 37,l 39 38]
def U8:=[f 40 0 0 7,p (.bm none (.t 40) (aq 3))]
def pI:=[m 41 6,o 42 (.nilC (.t 41)),f 43 1 1 42,l 44 43,l 45 2,o 46 (.bin .eql (.t 44) (.t 45)),m 47 46,dH 48 0 47,cu 49 (.ld (some 5) (.t 7)) 47,cu 50 (.fQ (.t 48) [.t 49]) 47,cu 51 (.un .not (.t 50)) 47,and 52 47 51]
def N6:=some [[],[0],[1],[2],[],[3,4],[5],[6],[6],[7,8,6,6],[9,6],[6,10]]
def U9:=[ad 53 15 1,m 15 53]
def Va:=[cg 8 1]
def UX:=[m 54 8,o 55 (.bin .leq (.t 54) (aq 200))]
def UY:=[l 59 1,o 60 (.nilC (.t 59)),f 61 4 4 60,l 62 61,l 63 2,m 64 8,o 65 (.bld [.int .i64 0,.int .i64 0] [(0,(.t 63)),(1,(.t 64))]),o 66 (.lk (.bm [(.i .i64),(.i .i64)]) (.agg [.int .i64 0,.int .i64 0,.int .i64 0,.int .i64 0]) true (.t 62) (.t 65)),m 58 66,o 67 (.ext (.t 58) 0),o 68 (.ext (.t 58) 1),o 9 (.alloc (.agg [.int .i64 0,.int .i64 0,.int .i64 0,.int .i64 0])),p (.bm (some 4) (.t 9) (.t 67)),m 10 68]
def N3:=some [[],[0],[1],[2],[],[],[4,5],[3,6],[7],[8],[8],[],[11,9,0,1,2,3,4,5,6,7,8,9,11],[10,12,0,1,2,3,4,5,6,7,8,9,10,11,12]]
def UZ:=[l 69 1,o 70 (.nilC (.t 69)),f 71 0 0 70,l 72 71,l 73 2,f 74 1 1 9,l 75 74,m 76 8,o 77 (.bld [.int .i64 0,.int .i64 0,.int .i64 0,.int .i64 0,.int .i64 0] [(0,(aq 2)),(1,(.t 72)),(2,(.t 73)),(3,(.t 75)),(4,(.t 76))]),o 11 (.alloc (.agg [.int .i64 0,.int .i64 0,.int .i64 0,.int .i64 0,.int .i64 0])),p (.bm (some 5) (.t 11) (.t 77))]
def N4:=some [[],[0],[1],[2],[],[],[5],[],[3,4,6,7],[],[9,8,0,1,2,3,4,5,6,7,8,9]]
def U0:=[f 78 0 0 9,l 79 78,o 80 (.bin .eql (.t 79) (aq 8))]
def U1:=[f 81 0 0 11,p (.bm none (.t 81) (aq 4))]
def U2:=[m 82 10,m 83 82,dH 84 0 83,cu 85 (.ld (some 5) (.t 11)) 83,cu 86 (.fQ (.t 84) [.t 85]) 83,cu 87 (.un .not (.t 86)) 83,and 88 83 87]
def U3:=[m 56 8,ad 57 56 1,m 8 57]
def BO:bH:=(s (s (r UU) (.block 0 (.loop (s (r UW) (s (.cond (.t 16) .skip (.exit 0)) (s (.block 1 (s (r U4) (s (r U5) (s (.cj N5 U6) (s (s (r U7) (.cond (.t 39) (r U8) .skip)) (s (.cj N6 pI) (.cond (.t 52) .ret .skip))))))) (r U9))))))) (s (r Va) (.block 2 (.loop (s (s (r UX) (.cond (.t 55) .skip (.exit 2))) (s (.block 3 (s (.cj N3 UY) (s (.cj N4 UZ) (s (s (r U0) (.cond (.t 80) (r U1) .skip)) (s (r U2) (.cond (.t 88) .ret .skip)))))) (r U3)))))))
def GP:List bR:=[]
theorem Mk:cJ Tryd.prog Tryd.f54 BO:=e (by kernel_rfl)
theorem Nq:cG Tryd.prog Tryd.f54 GP:=e (by kernel_rfl)
theorem B9:cD Tryd.prog 54:=e (by kernel_rfl)
theorem Lp:cD Tryd.prog 55:=e (by kernel_rfl)
def Vb:=[o 2 (.mv aY)]
def Vc:=[m 3 0,o 4 (.call 51 [.t 3,(aq 1),(aq 200)]),m 2 4]
def BP:bH:=(s (r Vb) (s (r Vc) .ret))
def GQ:List bR:=[.tmp 2]
theorem Ml:cJ Tryd.prog Tryd.f56 BP:=e (by kernel_rfl)
theorem Nr:cG Tryd.prog Tryd.f56 GQ:=e (by kernel_rfl)
theorem Lq:cD Tryd.prog 56:=e (by kernel_rfl)
theorem Ca:cD Tryd.prog 57:=e (by kernel_rfl)
def Vd:=[m 2 0,no 3 2]
def BQ:bH:=(s (r Vd) (.cond (.t 3) .w7 .skip))
def GR:List bR:=[]
theorem Mm:cJ Tryd.prog Tryd.f58 BQ:=e (by kernel_rfl)
theorem Ns:cG Tryd.prog Tryd.f58 GR:=e (by kernel_rfl)
theorem Cb:cD Tryd.prog 58:=e (by kernel_rfl)
def Ve:=[b 1 0,o 2 (.mv aY)]
def Vf:=[f 3 0 0 1,l 4 3]
def Vj:=[o 6 (.bin .eql (.t 4) (aq 1)),m 5 6]
def Vk:=[o 7 (.bin .eql (.t 4) (aq 2)),m 5 7]
def Vl:=[f 8 1 1 1,l 9 8,o 10 (.call 33 [.t 9]),m 11 10,fS 12 2 2 1 11,fu 13 12 11,cu 14 (.bin .eql (.t 13) (aq 0)) 11,and 15 11 14,m 16 15,fS 17 3 3 1 16,fu 18 17 16,cu 19 (.bin .eql (.t 18) (aq 0)) 16,and 20 16 19,m 2 20]
def Vm:=[o 22 (.bin .eql (.t 4) (aq 3)),m 21 22]
def Vn:=[o 23 (.bin .eql (.t 4) (aq 4)),m 21 23]
def Vo:=[o 24 (.bin .eql (.t 4) (aq 5)),m 21 24]
def Vp:=[o 25 (.bin .eql (.t 4) (aq 6)),m 21 25]
def Vq:=[o 26 (.bin .eql (.t 4) (aq 7)),m 21 26]
def Vg:=[o 27 (.bin .eql (.t 4) (aq 8)),m 21 27]
def Vh:=[f 28 1 1 1,l 29 28,o 30 (.call 33 [.t 29]),m 31 30,fS 32 2 2 1 31,fu 33 32 31,cu 34 (.call 32 [.t 33]) 31,and 35 31 34,m 36 35,fS 37 3 3 1 36,fu 38 37 36,cu 39 (.call 56 [.t 38]) 36,and 40 36 39,m 2 40]
def Vi:=[o 2 (.mv aY)]
def BR:bH:=(s (r Ve) (s (s (r Vf) (.block 0 (s (s (r Vj) (.cond (.t 5) .skip (r Vk))) (.cond (.t 5) (s (r Vl) .ret) (s (s (r Vm) (.cond (.t 21) .skip (s (r Vn) (.cond (.t 21) .skip (s (r Vo) (.cond (.t 21) .skip (s (r Vp) (.cond (.t 21) .skip (s (r Vq) (.cond (.t 21) .skip (r Vg))))))))))) (.cond (.t 21) (s (r Vh) .ret) .skip)))))) (s (r Vi) .ret)))
def GS:List bR:=[.tmp 2]
theorem Mn:cJ Tryd.prog Tryd.f59 BR:=e (by kernel_rfl)
theorem Nt:cG Tryd.prog Tryd.f59 GS:=e (by kernel_rfl)
theorem Lr:cD Tryd.prog 59:=e (by kernel_rfl)
def VC:=[cg 4 0]
def VD:=[m 6 0,o 7 (.len (.t 6)),cg 8 0]
def VE:=[lt 9 8 7]
def VF:=[m 10 8,m 5 10]
def VG:=[m 11 1,m 12 0,m 13 5,o 14 (.is 1 (.t 12) (.t 13)),l 15 14,o 16 (.fQ (.t 11) [.t 15])]
def VH:=[m 17 5,m 4 17]
def VI:=[ad 18 8 1,m 8 18]
def VJ:=[cg 4 (-1)]
def BT:bH:=(s (r VC) (s (s (r VD) (.block 0 (.loop (s (r VE) (s (.cond (.t 9) .skip (.exit 0)) (s (.block 1 (s (r VF) (s (r VG) (.cond (.t 16) (s (r VH) .ret) .skip)))) (r VI))))))) (s (r VJ) .ret)))
def GV:List bR:=[.tmp 4]
theorem Mp:cJ Tryd.prog Tryd.f60 BT:=e (by kernel_rfl)
theorem Nv:cG Tryd.prog Tryd.f60 GV:=e (by kernel_rfl)
theorem Lt:cD Tryd.prog 60:=e (by kernel_rfl)
def VK:=[cg 4 0]
def VL:=[m 6 0,o 7 (.len (.t 6)),cg 8 0]
def VM:=[lt 9 8 7]
def VN:=[m 10 8,m 5 10]
def VO:=[m 11 1,m 12 0,m 13 5,o 14 (.is 4 (.t 12) (.t 13)),aG 15 4 14,o 16 (.fQ (.t 11) [.t 15])]
def VP:=[m 17 5,m 4 17]
def VQ:=[ad 18 8 1,m 8 18]
def VR:=[cg 4 (-1)]
def BU:bH:=(s (r VK) (s (s (r VL) (.block 0 (.loop (s (r VM) (s (.cond (.t 9) .skip (.exit 0)) (s (.block 1 (s (r VN) (s (r VO) (.cond (.t 16) (s (r VP) .ret) .skip)))) (r VQ))))))) (s (r VR) .ret)))
def GW:List bR:=[.tmp 4]
theorem Mq:cJ Tryd.prog Tryd.f61 BU:=e (by kernel_rfl)
theorem Nw:cG Tryd.prog Tryd.f61 GW:=e (by kernel_rfl)
theorem Lu:cD Tryd.prog 61:=e (by kernel_rfl)
def VS:=[b 3 1]
def sL:=[m 4 0,o 5 (.nilC (.t 4)),f 6 1 1 5,l 7 6,f 8 1 1 3,l 9 8,o 10 (.lk (.i .i64) (.bool false) false (.t 7) (.t 9)),no 11 10,m 12 11,dH 13 0 12,fS 14 1 1 3 12,fu 15 14 12,cu 16 (.call 34 [.t 13,.t 15]) 12,cu 17 (.un .not (.t 16)) 12,and 18 12 17,o 19 (.call 58 [.t 18])]
def N8:=some [[],[0],[1],[2],[],[4],[3,5],[6],[7],[8],[8],[10,8],[9,11,8,8],[12,8],[8,13],[14,12]]
def VT:=[m 20 0,o 21 (.nilC (.t 20)),f 22 1 1 21,l 23 22,f 24 1 1 3,l 25 24,p (.fg (.i .i64) (.t 23) (.t 25) T)]
def N9:=some [[],[0],[1],[2],[],[4],[3,5,0,1,2,3,4,5]]
def xh:bH:=(s (r VS) (s (.cj N8 sL) (.cj N9 VT)))
def GX:List bR:=[]
theorem Ct:cJ Tryd.prog Tryd.f64 xh:=e (by kernel_rfl)
theorem Nx:cG Tryd.prog Tryd.f64 GX:=e (by kernel_rfl)
theorem Cc:cD Tryd.prog 64:=e (by kernel_rfl)
def VU:=[b 3 1]
def ya:=[m 4 0,o 5 (.nilC (.t 4)),f 6 1 1 5,l 7 6,f 8 1 1 3,l 9 8,o 10 (.lk (.i .i64) (.bool false) false (.t 7) (.t 9)),o 11 (.call 58 [.t 10])]
def Oa:=some [[],[0],[1],[2],[],[4],[3,5],[6]]
def VV:=[m 12 0,o 13 (.nilC (.t 12)),f 14 1 1 13,l 15 14,f 16 1 1 3,l 17 16,p (.jA (.i .i64) (.t 15) (.t 17))]
def Ob:=some [[],[0],[1],[2],[],[4],[3,5]]
def xi:bH:=(s (r VU) (s (.cj Oa ya) (.cj Ob VV)))
def GY:List bR:=[]
theorem Cu:cJ Tryd.prog Tryd.f65 xi:=e (by kernel_rfl)
theorem Ny:cG Tryd.prog Tryd.f65 GY:=e (by kernel_rfl)
theorem Cd:cD Tryd.prog 65:=e (by kernel_rfl)
def VW:=[b 3 1]
def pJ:=[m 4 0,o 5 (.nilC (.t 4)),f 6 1 1 5,l 7 6,f 8 1 1 3,l 9 8,o 10 (.lk (.i .i64) (.bool false) false (.t 7) (.t 9)),m 11 10,fS 12 2 2 3 11,fu 13 12 11,dH 14 0 11,cu 15 (.nilC (.t 14)) 11,fS 16 0 0 15 11,fu 17 16 11,cu 18 (.bin .neq (.t 13) (.t 17)) 11,and 19 11 18,m 20 19,fS 21 3 3 3 20,fu 22 21 20,dH 23 0 20,cu 24 (.nilC (.t 23)) 20,fS 25 3 3 24 20,fu 26 25 20,cu 27 (.bin .add (.t 26) (aq 1)) 20,cu 28 (.bin .eql (.t 22) (.t 27)) 20,and 29 20 28,o 30 (.call 58 [.t 29])]
def Oc:=some [[],[0],[1],[2],[],[4],[3,5],[6],[7],[8,7],[7],[10,7],[11,7],[12,7],[9,13,7],[7,14],[15,7],[16],[17,16],[16],[19,16],[20,16],[21,16],[22,16],[18,23,16],[16,24],[25,16]]
def VX:=[m 31 0,o 32 (.nilC (.t 31)),f 33 1 1 32,l 34 33,f 35 1 1 3,l 36 35,p (.jA (.i .i64) (.t 34) (.t 36))]
def Od:=some [[],[0],[1],[2],[],[4],[3,5]]
def VY:=[m 37 0,o 38 (.nilC (.t 37)),f 39 3 3 38,l 40 39,ad 41 40 1,o 42 (.nilC (.t 37)),f 43 3 3 42,p (.bm none (.t 43) (.t 41))]
def VZ:=[m 44 0,o 45 (.nilC (.t 44)),f 46 2 2 45,l 47 46,f 48 3 3 3,l 49 48,f 50 3 3 3,l 51 50,f 52 2 2 3,l 53 52,f 54 1 1 3,l 55 54,o 56 (.bld [.int .i64 0,.int .i64 0,.int .i64 0,.bool false] [(0,(.t 51)),(1,(.t 53)),(2,(.t 55))]),b 57 56,p (.fg (.i .i64) (.t 47) (.t 49) (.t 57))]
def Oe:=some [[],[0],[1],[2],[],[4],[],[6],[],[8],[],[10],[7,9,11],[12],[3,5,13,0,1,2,3,4,5,6,7,8,9,10,11,12,13]]
def xj:bH:=(s (r VW) (s (.cj Oc pJ) (s (.cj Od VX) (s (r VY) (.cj Oe VZ)))))
def GZ:List bR:=[]
theorem Cv:cJ Tryd.prog Tryd.f66 xj:=e (by kernel_rfl)
theorem Nz:cG Tryd.prog Tryd.f66 GZ:=e (by kernel_rfl)
theorem Ce:cD Tryd.prog 66:=e (by kernel_rfl)
def V0:=[b 3 1]
def DV:=[m 5 0,aG 6 4 3,o 7 (.call 84 [.t 5,.t 6]),m 4 7]
def DW:=[m 8 4,o 9 (.nilC (.t 8)),f 10 3 3 9,l 11 10,no 12 11,o 13 (.call 58 [.t 12])]
def V1:=[m 14 4,o 15 (.nilC (.t 14)),f 16 3 3 15,p (.bm none (.t 16) T)]
def xk:bH:=(s (r V0) (s (r DV) (s (r DW) (r V1))))
def G0:List bR:=[]
theorem Cw:cJ Tryd.prog Tryd.f67 xk:=e (by kernel_rfl)
theorem NA:cG Tryd.prog Tryd.f67 G0:=e (by kernel_rfl)
theorem Cf:cD Tryd.prog 67:=e (by kernel_rfl)
def V2:=[b 3 1]
def DX:=[m 4 0,aG 5 4 3,o 6 (.call 84 [.t 4,.t 5])]
def V3:=[m 7 0,o 8 (.nilC (.t 7)),f 9 2 2 8,l 10 9,f 11 3 3 3,l 12 11,p (.jA (.i .i64) (.t 10) (.t 12))]
def Of:=some [[],[0],[1],[2],[],[4],[3,5]]
def xl:bH:=(s (r V2) (s (r DX) (.cj Of V3)))
def G1:List bR:=[]
theorem Cx:cJ Tryd.prog Tryd.f68 xl:=e (by kernel_rfl)
theorem NB:cG Tryd.prog Tryd.f68 G1:=e (by kernel_rfl)
theorem Cg:cD Tryd.prog 68:=e (by kernel_rfl)
def V4:=[b 3 1]
def yc:=[m 4 0,aG 5 4 3,o 6 (.call 84 [.t 4,.t 5]),o 7 (.nilC (.t 6)),f 8 3 3 7,l 9 8,o 10 (.call 58 [.t 9])]
def V5:=[m 11 0,o 12 (.nilC (.t 11)),f 13 2 2 12,l 14 13,f 15 3 3 3,l 16 15,p (.jA (.i .i64) (.t 14) (.t 16))]
def Og:=some [[],[0],[1],[2],[],[4],[3,5]]
def V6:=[m 17 0,o 18 (.nilC (.t 17)),f 19 1 1 18,l 20 19,f 21 1 1 3,l 22 21,p (.fg (.i .i64) (.t 20) (.t 22) T)]
def Oh:=some [[],[0],[1],[2],[],[4],[3,5,0,1,2,3,4,5]]
def xm:bH:=(s (r V4) (s (r yc) (s (.cj Og V5) (.cj Oh V6))))
def G2:List bR:=[]
theorem Cy:cJ Tryd.prog Tryd.f69 xm:=e (by kernel_rfl)
theorem NC:cG Tryd.prog Tryd.f69 G2:=e (by kernel_rfl)
theorem Ch:cD Tryd.prog 69:=e (by kernel_rfl)
def Wq:=[b 3 1]
def pK:=[m 4 0,aG 5 4 3,o 6 (.call 85 [.t 4,.t 5]),m 7 6,dH 8 0 7,cu 9 (.nilC (.t 8)) 7,fS 10 1 1 9 7,fu 11 10 7,fS 12 1 1 3 7,fu 13 12 7,cu 14 (.lk (.i .i64) (.bool false) false (.t 11) (.t 13)) 7,cu 15 (.un .not (.t 14)) 7,and 16 7 15,m 17 16,dH 18 0 17,fS 19 1 1 3 17,fu 20 19 17,cu 21 (.call 34 [.t 18,.t 20]) 17,cu 22 (.un .not (.t 21)) 17,and 23 17 22,o 24 (.call 58 [.t 23])]
def Oi:=some [[],[],[0,1],[2,2],[3],[4,3],[5,3],[6,3],[3],[8,3],[7,9,3],[10,3],[3,11],[12,3],[13],[13],[15,13],[14,16,13,13],[17,13],[13,18],[19,17]]
def Wr:=[m 25 0,o 26 (.nilC (.t 25)),f 27 4 4 26,l 28 27,f 29 2 2 3,l 30 29,f 31 3 3 3,l 32 31,o 33 (.bld [.int .i64 0,.int .i64 0] [(0,(.t 30)),(1,(.t 32))]),aG 34 4 3,p (.fg (.bm [(.i .i64),(.i .i64)]) (.t 28) (.t 33) (.t 34))]
def Oj:=some [[],[0],[1],[2],[],[4],[],[6],[5,7],[],[3,8,9,0,1,2,3,4,5,6,7,8,9]]
def Ws:=[m 35 0,o 36 (.nilC (.t 35)),f 37 1 1 36,l 38 37,f 39 1 1 3,l 40 39,p (.fg (.i .i64) (.t 38) (.t 40) T)]
def Ol:=some [[],[0],[1],[2],[],[4],[3,5,0,1,2,3,4,5]]
def xn:bH:=(s (r Wq) (s (.cj Oi pK) (s (.cj Oj Wr) (.cj Ol Ws))))
def G4:List bR:=[]
theorem Cz:cJ Tryd.prog Tryd.f70 xn:=e (by kernel_rfl)
theorem NF:cG Tryd.prog Tryd.f70 G4:=e (by kernel_rfl)
theorem Ci:cD Tryd.prog 70:=e (by kernel_rfl)
def Wt:=[b 3 1]
def DY:=[m 4 0,aG 5 4 3,o 6 (.call 85 [.t 4,.t 5]),o 7 (.call 58 [.t 6])]
def Wu:=[m 8 0,o 9 (.nilC (.t 8)),f 10 4 4 9,l 11 10,f 12 2 2 3,l 13 12,f 14 3 3 3,l 15 14,o 16 (.bld [.int .i64 0,.int .i64 0] [(0,(.t 13)),(1,(.t 15))]),aG 17 4 3,p (.fg (.bm [(.i .i64),(.i .i64)]) (.t 11) (.t 16) (.t 17))]
def Om:=some [[],[0],[1],[2],[],[4],[],[6],[5,7],[],[3,8,9,0,1,2,3,4,5,6,7,8,9]]
def xp:bH:=(s (r Wt) (s (r DY) (.cj Om Wu)))
def G5:List bR:=[]
theorem CA:cJ Tryd.prog Tryd.f71 xp:=e (by kernel_rfl)
theorem NG:cG Tryd.prog Tryd.f71 G5:=e (by kernel_rfl)
theorem Cj:cD Tryd.prog 71:=e (by kernel_rfl)
def WR:=[b 3 1,o 4 (.mv (.c (.nilp)))]
def WS:=[m 8 0,o 9 (.nilC (.t 8)),f 10 2 2 9,l 11 10,f 12 3 3 3,l 13 12,o 14 (.lk (.i .i64) (.nilp) true (.t 11) (.t 13)),m 7 14,o 15 (.ext (.t 7) 0),o 16 (.ext (.t 7) 1),m 5 15,m 6 16]
def On:=some [[],[0],[1],[2],[],[4],[3,5],[6],[7],[7],[8,0,1,2,3,4,5,6,7,8],[9,10,0,1,2,3,4,5,6,7,8,9,10]]
def pL:=[m 17 6,m 18 17,dH 19 5 18,cu 20 (.nilC (.t 19)) 18,fS 21 1 1 20 18,fu 22 21 18,fS 23 2 2 3 18,fu 24 23 18,cu 25 (.bin .eql (.t 22) (.t 24)) 18,and 26 18 25,m 27 26,dH 28 5 27,cu 29 (.nilC (.t 28)) 27,fS 30 2 2 29 27,fu 31 30 27,fS 32 1 1 3 27,fu 33 32 27,cu 34 (.bin .eql (.t 31) (.t 33)) 27,and 35 27 34,o 36 (.call 58 [.t 35])]
def Oo:=some [[],[0],[1],[2,1],[3,1],[4,1],[1],[6,1],[5,7,1],[1,8],[9,1],[10],[11,10],[12,10],[13,10],[10],[15,10],[14,16,10],[10,17],[18,10]]
def WT:=[m 37 5,m 4 37]
def xq:bH:=(s (r WR) (s (.cj On WS) (s (.cj Oo pL) (s (r WT) .ret))))
def G7:List bR:=[.tmp 4]
theorem CB:cJ Tryd.prog Tryd.f84 xq:=e (by kernel_rfl)
theorem NI:cG Tryd.prog Tryd.f84 G7:=e (by kernel_rfl)
theorem Ck:cD Tryd.prog 84:=e (by kernel_rfl)
def WU:=[b 3 1,o 4 (.mv aY)]
def WV:=[m 8 0,o 9 (.nilC (.t 8)),f 10 4 4 9,l 11 10,f 12 2 2 3,l 13 12,f 14 3 3 3,l 15 14,o 16 (.bld [.int .i64 0,.int .i64 0] [(0,(.t 13)),(1,(.t 15))]),o 17 (.lk (.bm [(.i .i64),(.i .i64)]) (.agg [.int .i64 0,.int .i64 0,.int .i64 0,.int .i64 0]) true (.t 11) (.t 16)),m 7 17,o 18 (.ext (.t 7) 0),o 19 (.ext (.t 7) 1),o 5 (.alloc (.agg [.int .i64 0,.int .i64 0,.int .i64 0,.int .i64 0])),p (.bm (some 4) (.t 5) (.t 18)),m 6 19]
def Oq:=some [[],[0],[1],[2],[],[4],[],[6],[5,7],[3,8],[9],[10],[10],[],[13,11,0,1,2,3,4,5,6,7,8,9,10,11,13],[12,14,0,1,2,3,4,5,6,7,8,9,10,11,12,13,14]]
def WW:=[f 20 2 2 3,l 21 20,m 22 0,o 23 (.nilC (.t 22)),f 24 0 0 23,l 25 24,o 26 (.bin .neq (.t 21) (.t 25)),m 27 26,dH 28 6 27,cu 29 (.un .not (.t 28)) 27,and 30 27 29,m 4 30]
def Ot:=some [[],[0],[],[2],[3],[4],[1,5],[6],[7],[8,7],[7,9],[10,7,0,1,2,3,4,5,6,7,8,9,10]]
def BX:bH:=(s (r WU) (s (.cj Oq WV) (s (.cj Ot WW) .ret)))
def G8:List bR:=[.tmp 4]
theorem Mt:cJ Tryd.prog Tryd.f85 BX:=e (by kernel_rfl)
theorem NJ:cG Tryd.prog Tryd.f85 G8:=e (by kernel_rfl)
theorem Lx:cD Tryd.prog 85:=e (by kernel_rfl)
end Go.Proofs.YthbdbocionnfgaaDoor
namespace Go.Abs
open Go Go.RowKit
open Enc (enc)
def aF(x:I)(p q:Prop):Prop:=match x with
 | .bool t=>(t=true→p)∧(t=false→q)
 |_=>False
theorem ae.kr{c:c4}{A:ai}{Q:Exit→ai→Prop}{b:aV}{x y:bH}(h:aF (al A b) (ae c x Q A) (ae c y Q A)):ae c (.cond b x y) Q A:=by
 generalize hb:al A b=v at h;unfold aF at h;split at h
 ·exact ae.cond hb h.1 h.2
 ·exact h.elim
def qf(r:I):Option (List I)→Prop
 |some xs=>lp xs=r
 |none=>False
theorem abr(rs:List bR)(r:I)(A:ai):kE rs r .ret A=qf r (fw A rs):=by
 simp only[kE,qf];cases fw A rs <;>simp
theorem abq(rs:List bR)(r:I)(A:ai):kE rs r .normal A=qf r (fw A rs):=by
 simp only[kE,qf];cases fw A rs <;>simp
def tM(s:Option Nat)(A:ai):Option I→Option I
 |some x=>if cn s x=true then br true A x else none
 |none=>none
def mi:Option I→Option (List I)→Option (List I)
 |some x,some xs=>some (x::xs)
 |_,_=>none
theorem abk(A:ai):fw A []=some []:=rfl
theorem abl(A:ai)(t:Nat)(rs:List bR):fw A (.tmp t::rs)=mi (br true A (A.t t)) (fw A rs):=by
 simp only[fw,wh];cases br true A (A.t t) <;>cases fw A rs <;>rfl
theorem abj(A:ai)(a:Nat)(s:Option Nat)(rs:List bR):fw A (.cell a s::rs)=mi (tM s A (iH A (A.t a))) (fw A rs):=by
 simp only[fw,wh,nh];cases iH A (A.t a) with
 |none=>cases fw A rs <;>rfl
 |some x =>
  by_cases h:cn s x=true
  ·simp only[tM,if_pos h];cases br true A x <;>cases fw A rs <;>rfl
  ·simp only[tM,if_neg h];cases fw A rs <;>rfl
def u3(aR:Bool)(A:ai):Option I→Option I
 |some x=>if x.bG=true then some (.ref x) else (c7 A 9 x).map .ref
 |none=>none
theorem PB(A:ai)(n:Nat)(p:List Nat):br true A (.ptr n p)=u3 true A (fR p (A.o n)):=by
 simp only[br,nh,iH,if_true,u3];cases fR p (A.o n) <;>rfl
open Classical in
noncomputable def km(sz lo k:Nat):Option (List I)→Option I
 |some fs=>if I.cq ((fs.drop lo).take k)=true then some (.slice sz ((fs.drop lo).take k)) else none
 |none=>none
theorem u6(A:ai)(n:Nat)(p:List Nat)(sz lo k:Nat):br true A (.view n p sz lo k)=km sz lo k (gq (fR p (A.o n))):=by
 simp only[br,nh,iH,if_true];cases fR p (A.o n) with
 |none=>rfl
 |some c=>cases c <;>simp only[gq,I.dW,km] <;>(split <;>simp_all)
open Classical in
noncomputable def kl(k:Nat):Option ak→Option I
 |some (.bW _ sz es)=>if k=es.length∧I.cq es=true then some (.slice sz es) else none
 |_=>none
theorem De(aR:Bool)(A:ai)(n k:Nat):br aR A (.own n k)=kl k (A.o n):=by
 simp only[br];cases A.o n with
 |none=>rfl
 |some y=>cases y <;>simp only[kl] <;>(split <;>simp_all)
theorem Dc(aR:Bool)(A:ai)(fs:List I):br aR A (.agg fs)=(bZ aR A fs).map .agg:=by simp only[br]
theorem Px(aR:Bool)(A:ai)(f:FuncId)(fs:List I):br aR A (.func f fs)=if f<1000000 then (bZ aR A fs).map (.func f) else some .any:=by simp only[br]
theorem Py(aR:Bool)(A:ai)(k:IntKind)(n:Int):br aR A (.int k n)=some (.int k n):=by simp only[br]
theorem Pw(aR:Bool)(A:ai)(n:Bool):br aR A (.bool n)=some (.bool n):=by simp only[br]
theorem PE(aR:Bool)(A:ai)(n:ByteArray):br aR A (.bT n)=some (.bT n):=by simp only[br]
theorem PA(aR:Bool)(A:ai)(n:Nat):br aR A (.nils n)=some (.slice n []):=by simp only[br]
theorem PD(aR:Bool)(A:ai)(n:Nat)(es:List I):br aR A (.slice n es)=if I.cq es=true then some (.slice n es) else none:=by simp only[br]
theorem PC(aR:Bool)(A:ai)(x:I):br aR A (.ref x)=if x.bG=true then some (.ref x) else none:=by simp only[br]
theorem Dp(aR:Bool)(A:ai):bZ aR A []=some []:=by simp only[bZ]
theorem Dn(aR:Bool)(A:ai)(x:I)(xs:List I):bZ aR A (x::xs)=mi (br aR A x) (bZ aR A xs):=by
 simp only[bZ];cases br aR A x <;>cases bZ aR A xs <;>rfl
theorem Mw(fs:List I):(I.agg fs).bG=I.cq fs:=by simp only[I.bG]
theorem MB(n:Nat)(fs:List I):(I.slice n fs).bG=I.cq fs:=by simp only[I.bG]
theorem MA(x:I):(I.ref x).bG=x.bG:=by simp only[I.bG]
theorem Mz(k:IntKind)(n:Int):(I.int k n).bG=true:=by simp only[I.bG]
theorem Mx(n:Bool):(I.bool n).bG=true:=by simp only[I.bG]
theorem MC(n:ByteArray):(I.bT n).bG=true:=by simp only[I.bG]
theorem My(f:FuncId)(fs:List I):(I.func f fs).bG=I.cq fs:=by simp only[I.bG]
theorem ME:I.cq []=true:=by simp only[I.cq]
theorem MD(x:I)(xs:List I):I.cq (x::xs)=(x.bG&&I.cq xs):=by simp only[I.cq]
theorem Kh(k:IntKind)(a b:Int):cF .add (.int k a) (.int k b)=some (.int k (k.wrap (a+b))):=by simp[cF]
theorem Ky(k:IntKind)(a b:Int):cF .sub (.int k a) (.int k b)=some (.int k (k.wrap (a-b))):=by simp[cF]
theorem Kp(k:IntKind)(a b:Int):cF .mul (.int k a) (.int k b)=some (.int k (k.wrap (a*b))):=by simp[cF]
theorem Kt(k:IntKind)(a b:Int):cF .quo (.int k a) (.int k b)=if b=0 then none else some (.int k (k.wrap (a.tdiv b))):=by simp[cF]
theorem Ku(k:IntKind)(a b:Int):cF .rem (.int k a) (.int k b)=if b=0 then none else some (.int k (a.tmod b)):=by simp[cF]
theorem Ki(k:IntKind)(a b:Int):cF .and (.int k a) (.int k b)=some (.int k (k.wrap ((BitVec.ofInt k.bits a &&& BitVec.ofInt k.bits b).toNat:Int))):=by simp[cF]
theorem Ks(k:IntKind)(a b:Int):cF .or (.int k a) (.int k b)=some (.int k (k.wrap ((BitVec.ofInt k.bits a ||| BitVec.ofInt k.bits b).toNat:Int))):=by simp[cF]
theorem Kz(k:IntKind)(a b:Int):cF .xor (.int k a) (.int k b)=some (.int k (k.wrap ((BitVec.ofInt k.bits a ^^^ BitVec.ofInt k.bits b).toNat:Int))):=by simp[cF]
theorem Kj(k:IntKind)(a b:Int):cF .andNot (.int k a) (.int k b)=some (.int k (k.wrap ((BitVec.ofInt k.bits a &&& ~~~ BitVec.ofInt k.bits b).toNat:Int))):=by simp[cF]
theorem Kv(k k':IntKind)(a b:Int):cF .shl (.int k a) (.int k' b)=if 0≤b then some (.int k (k.wrap (a*2^(min b.toNat k.bits)))) else none:=by simp[cF]
theorem Kx(k k':IntKind)(a b:Int):cF .shr (.int k a) (.int k' b)=if 0≤b then some (.int k (a.fdiv (2^(min b.toNat k.bits)))) else none:=by simp[cF]
theorem Kk(k:IntKind)(a b:Int):cF .eql (.int k a) (.int k b)=some (.bool (a==b)):=by simp[cF]
theorem Kq(k:IntKind)(a b:Int):cF .neq (.int k a) (.int k b)=some (.bool (a != b)):=by simp[cF]
theorem Ko(k:IntKind)(a b:Int):cF .lss (.int k a) (.int k b)=some (.bool (decide (a<b))):=by simp[cF]
theorem Kn(k:IntKind)(a b:Int):cF .leq (.int k a) (.int k b)=some (.bool (decide (a≤b))):=by simp[cF]
theorem Km(k:IntKind)(a b:Int):cF .gtr (.int k a) (.int k b)=some (.bool (decide (b<a))):=by simp[cF]
theorem Kl(k:IntKind)(a b:Int):cF .geq (.int k a) (.int k b)=some (.bool (decide (b≤a))):=by simp[cF]
theorem AI :
  (∀ ts os d v,(au ts os).put d v=au ((d,v)::ts) os)∧(∀ ts os d v,(au ts os).a8 (some d) v=au ((d,v)::ts) os)∧(∀ (A:ai) v,A.a8 none v=A) ∧
  (∀ ts os d x,(au ts os).aZ d x=au ts ((d,x)::os))∧(∀ ts os k,(au ts os).t k=bC ts k)∧(∀ ts os k,(au ts os).o k=aj os k) ∧
  (∀ j v r k,bC ((j,v)::r) k=if k=j then v else bC r k)∧(∀ j v r k,aj ((j,v)::r) k=if k=j then some v else aj r k)∧(∀ k,aj [] k=none) ∧
  (∀ A k,al A (.t k)=A.t k)∧(∀ A x,al A (.c x)=x)∧(∀ d rest A v,dn d rest A v=aC rest (A.a8 d v))∧(∀ v k,cX (some v) k=k v)∧(∀ A,aC [] A=.done A) :=
 ⟨vz,Fo,Zs,te,Zt,Zr,b9,ct,ta,O5,O4,YT,KA,JU⟩
theorem FR :
  (∀ d rest A op,aC (⟨d,op,none⟩::rest) A=bN A d op rest)∧(∀ d rest A op t b,aC (⟨d,op,some (t,b)⟩::rest) A=iJ (A.t t) b d op rest A) ∧
  (∀ d rest A op,iJ (.bool true) true d op rest A=bN A d op rest)∧(∀ d rest A op,iJ (.bool false) false d op rest A=bN A d op rest) ∧
  (∀ d rest A op,iJ (.bool true) false d op rest A=aC rest (A.a8 d .undef))∧(∀ d rest A op,iJ (.bool false) true d op rest A=aC rest (A.a8 d .undef))∧(∀ d rest A op b,iJ .undef b d op rest A=aC rest (A.a8 d .undef)) ∧
  (∀ d rest A x,bN A d (.mv x) rest=aC rest (A.a8 d (al A x)))∧(∀ d rest A c a b,bN A d (.pick c a b) rest=tA A d a b rest (al A c)) ∧
  (∀ A d a b rest,tA A d a b rest (.bool true)=aC rest (A.a8 d (al A a)))∧(∀ A d a b rest,tA A d a b rest (.bool false)=aC rest (A.a8 d (al A b))) ∧
  (∀ d rest A op x y,bN A d (.bin op x y) rest=cX (cF op (al A x) (al A y)) (dn d rest A)) ∧
  (∀ d rest A ty neg x y,bN A d (.eqv ty neg x y) rest=cX ((cm ty (al A x) (al A y)).map fun b=>.bool (if neg then !b else b)) (dn d rest A)) ∧
  (∀ d rest A op x,bN A d (.un op x) rest=cX (ue op (al A x)) (dn d rest A))∧(∀ b,ue .not (.bool b)=some (.bool !b))∧(∀ k n,ue .neg (.int k n)=some (.int k (k.wrap (0-n))))∧(∀ k n,ue .xor (.int k n)=some (.int k (qW k n))) ∧
  (∀ d rest A k x,bN A d (.conv k x) rest=cX (xA k (al A x)) (dn d rest A))∧(∀ k k' n,xA k (.int k' n)=some (.int k (k.wrap n))) ∧
  (∀ d rest A s x,bN A d (.ld s x) rest=cX (pT s (iH A (al A x))) (dn d rest A))∧(∀ d rest A f off x,bN A d (.fa f off x) rest=cX (jW A f off (al A x)) (dn d rest A)) ∧
  (∀ d rest A f off s x,bN A d (.fl f off s x) rest=cX (sG f off s (al A x).dW) (dn d rest A))∧(∀ d rest A n esz x i,bN A d (.ia n esz x i) rest=cX (sP A n esz (al A x) (al A i)) (dn d rest A)) ∧
  (∀ d rest A esz x i,bN A d (.is esz x i) rest=cX (sT A esz (al A x) (al A i)) (dn d rest A))∧(∀ d rest A n esz s x i,bN A d (.ix n esz s x i) rest=cX (sV n esz s (al A x) (al A i)) (dn d rest A)) ∧
  (∀ d rest A x,bN A d (.len x) rest=cX (jZ A (al A x)) (dn d rest A))∧(∀ d rest A n esz x,bN A d (.va n esz x) rest=cX (qx A n esz (al A x)) (dn d rest A)) ∧
  (∀ d rest A zs ps,bN A d (.bld zs ps) rest=cX ((ef zs (ps.map fun p=>(p.1,al A p.2))).map .agg) (dn d rest A))∧(∀ d rest A x i,bN A d (.ext x i) rest=cX (xS i (al A x)) (dn d rest A))∧(∀ i fs,xS i (.tuple fs)=fs[i]?) ∧
  (∀ d rest A f caps,bN A d (.mk f caps) rest=cX (if ((caps.map (al A)).all fun y=>y.bV)=true then some (.func f (caps.map (al A))) else none) (dn d rest A)) ∧
  (∀ rest A d z,bN A (some d) (.alloc z) rest=wZ A d z rest (A.o d))∧(∀ A d z rest,wZ A d z rest none=aC rest ((A.aZ d (.box z)).put d (.ptr d []))) ∧
  (∀ rest A d x,bN A (some d) (.box x) rest=uK A d (al A x) rest (A.o d))∧(∀ A d z rest,uK A d z rest none=uL A d z rest z.bV)∧(∀ A d z rest,uL A d z rest true=aC rest ((A.aZ d (.box z)).put d (.ptr d []))) ∧
  (∀ rest A s x v,bN A none (.bm s x v) rest=c8 A s (al A v) rest (al A x))∧(∀ A s v rest n p,c8 A s v rest (.ptr n p)=wy A s n p v rest (A.o n))∧(∀ A s n p v rest b,wy A s n p v rest (some (.box b))=da A s n p b v rest (b.at p)) ∧
  (∀ d rest A f args,bN A d (.call f args) rest=.call f (args.map (al A)) (bZ true A (args.map (al A))) (bZ false A (args.map (al A))) d rest A) ∧
  (∀ d rest A x args,bN A d (.fQ x args) rest=sh A d (args.map (al A)) rest (al A x))∧(∀ A d args rest f caps,sh A d args rest (.func f caps)=if f<1000000 then .call f (args++caps) (bZ true A (args++caps)) (bZ false A (args++caps)) d rest A else .call (mq f) (caps++args) (bZ true A (caps++args)) (bZ false A (caps++args)) d rest A) :=
 ⟨JF,JG,XT,XQ,XS,XR,XU,aae,aai,fun _ _ _ _ _=>rfl,fun _ _ _ _ _=>rfl,ZP,ZY,aan,fun _=>rfl,fun _ _=>rfl,fun _ _=>rfl,ZW,fun _ _ _=>rfl,Z5,Z0,Z1,Z2,Z3,Z4,Z6,aao,ZQ,ZZ,fun _ _=>rfl,aaa,
  ZN,fun _ _ _ _=>rfl,ZR,fun _ _ _ _=>rfl,fun _ _ _ _=>rfl,aam,fun _ _ _ _ _ _=>rfl,fun _ _ _ _ _ _ _=>rfl,ZT,ZU,fun A d args rest f caps=>by
   simp only[sh];split
   ·rename_i h;rw[xV h,xU h]
   ·rename_i h;simp only[jc,if_neg h]⟩
theorem dU{A:ai}{s:Option Nat}{n:Nat}{p:List Nat}{b v old:I}{rest:List aw}(U:v.bV=true)(ab:cn s v=true)(af:v.bh=old.bh):da A s n p b v rest (some old)=aC rest (A.aZ n (.box (b.eF p v))):=by
 simp only[da];rw[if_pos ⟨U,ab,af⟩]
theorem If :
  (∀ A x,iH A (.ref x)=some x)∧(∀ A n p,iH A (.ptr n p)=fR p (A.o n))∧(∀ p c,fR p (some (.box c))=c.at p)∧(∀ c:I,c.at []=some c)∧(∀ (c:I) i p,c.at (i::p)=oo i p c.dW) ∧
  (∀ i p fs,oo i p (some fs)=qO p fs[i]?)∧(∀ p f,qO p (some f)=f.at p)∧(∀ c v:I,c.eF [] v=v)∧(∀ (c:I) i p v,c.eF (i::p) v=wo c i p v c.dW)∧(∀ c i p v fs,wo c i p v (some fs)=zV fs i p v fs[i]?) ∧
  (∀ fs i p v f,zV fs i p v (some f)=.agg (fs.set i (f.eF p v)))∧(∀ fs,(I.agg fs).dW=some fs)∧(∀ x:I,gq (some x)=x.dW) ∧
  (∀ s x,pT s (some x)=if cn s x=true then some x else none) ∧
  (∀ A f off c,jW A f off (.ref c)=sA f off c.dW)∧(∀ A f off n p,jW A f off (.ptr n p)=sy n p f off (gq (fR p (A.o n))))∧(∀ f off fs,sA f off (some fs)=ri fs f off fs[f]?)∧(∀ fs f off v,ri fs f off (some v)=dX fs f off (.ref v)) ∧
  (∀ n p f off fs,sy n p f off (some fs)=dX fs f off (.ptr n (p++[f])))∧(∀ A n esz x kk k,sP A n esz x (.int kk k)=pM A n esz k x)∧(∀ A n esz k c,pM A n esz k (.ref c)=np k n (vi n esz k c.dW)) ∧
  (∀ A n esz k m p,pM A n esz k (.ptr m p)=np k n (sQ n esz m p k (gq (fR p (A.o m)))))∧(∀ n esz k fs,vi n esz k (some fs)=nm n esz fs ((fs[k.toNat]?).map .ref))∧(∀ n esz m p k fs,sQ n esz m p k (some fs)=nm n esz fs (some (.ptr m (p++[k.toNat])))) ∧
  (∀ A esz x kk k,sT A esz x (.int kk k)=kU A esz k x)∧(∀ n esz s x kk k,sV n esz s x (.int kk k)=vl n esz s k x.dW)∧(∀ n esz s k fs,vl n esz s k (some fs)=np k n (nm n esz fs (pT s fs[k.toNat]?))) ∧
  (∀ A n esz m p,qx A n esz (.ptr m p)=uh n esz m p (gq (fR p (A.o m))))∧(∀ n esz m p fs,uh n esz m p (some fs)=ug n esz fs (.view m p esz 0 n)) ∧
  (∀ A sz es,jZ A (.slice sz es)=some (.int .i64 es.length))∧(∀ A n,jZ A (.nils n)=some (.int .i64 0))∧(∀ A n,jZ A (.c0 n)=some (.int .i64 0)) :=
 ⟨fun _ _=>rfl,fun _ _ _=>rfl,fun _ _=>rfl,J8,J7,fun _ _ _=>rfl,fun _ _=>rfl,rT,abM,fun _ _ _ _ _=>rfl,fun _ _ _ _ _=>rfl,fun _=>rfl,fun _=>rfl,fun _ _=>rfl,fun _ _ _ _=>rfl,fun _ _ _ _ _=>rfl,fun _ _ _=>rfl,fun _ _ _ _=>rfl,
  fun _ _ _ _ _=>rfl,fun _ _ _ _ _ _=>rfl,fun _ _ _ _ _=>rfl,fun _ _ _ _ _ _=>rfl,fun _ _ _ _=>rfl,fun _ _ _ _ _ _=>rfl,fun _ _ _ _ _=>rfl,fun _ _ _ _ _ _=>rfl,fun _ _ _ _ _=>rfl,fun _ _ _ _ _=>rfl,fun _ _ _ _ _=>rfl,fun _ _ _=>rfl,fun _ _=>rfl,fun _ _=>rfl⟩
theorem Da :
  (∀ A n p,br true A (.ptr n p)=u3 true A (fR p (A.o n)))∧(∀ A x,u3 true A (some x)=if x.bG=true then some (.ref x) else (c7 A 9 x).map .ref)∧(∀ A n p sz lo k,br true A (.view n p sz lo k)=km sz lo k (gq (fR p (A.o n)))) ∧
  (∀ A n p,br false A (.ptr n p)=none)∧(∀ A n p sz lo k,br false A (.view n p sz lo k)=none)∧(∀ x,mi none x=none)∧(∀ x,mi x none=none) ∧
  (∀ aR A n k,br aR A (.own n k)=kl k (A.o n))∧(∀ aR A fs,br aR A (.agg fs)=(bZ aR A fs).map .agg)∧(∀ aR A f fs,br aR A (.func f fs)=if f<1000000 then (bZ aR A fs).map (.func f) else some .any)∧(∀ aR A k n,br aR A (.int k n)=some (.int k n))∧(∀ aR A b,br aR A (.bool b)=some (.bool b)) ∧
  (∀ aR A s,br aR A (.bT s)=some (.bT s))∧(∀ aR A n,br aR A (.nils n)=some (.slice n []))∧(∀ aR A n es,br aR A (.slice n es)=if I.cq es=true then some (.slice n es) else none)∧(∀ aR A x,br aR A (.ref x)=if x.bG=true then some (.ref x) else none) ∧
  (∀ aR A,bZ aR A []=some [])∧(∀ aR A x xs,bZ aR A (x::xs)=mi (br aR A x) (bZ aR A xs))∧(∀ x xs,mi (some x) (some xs)=some (x::xs)) ∧
  (∀ fs,(I.agg fs).bG=I.cq fs)∧(∀ n fs,(I.slice n fs).bG=I.cq fs)∧(∀ x,(I.ref x).bG=x.bG)∧(∀ k n,(I.int k n).bG=true)∧(∀ n,(I.bool n).bG=true)∧(∀ n,(I.bT n).bG=true)∧(∀ f fs,(I.func f fs).bG=I.cq fs) ∧
  I.cq []=true∧(∀ x xs,I.cq (x::xs)=(x.bG&&I.cq xs)) ∧
  (∀ rs r A,kE rs r .ret A=qf r (fw A rs))∧(∀ rs r A,kE rs r .normal A=qf r (fw A rs))∧(∀ r xs,qf r (some xs)=(lp xs=r))∧(∀ A,fw A []=some [])∧(∀ A t rs,fw A (.tmp t::rs)=mi (br true A (A.t t)) (fw A rs)) ∧
  (∀ A a s rs,fw A (.cell a s::rs)=mi (tM s A (iH A (A.t a))) (fw A rs))∧(∀ s A x,tM s A (some x)=if cn s x=true then br true A x else none)∧(∀ x,lp [x]=x)∧(∀ x y xs,lp (x::y::xs)=.tuple (x::y::xs)) :=
 ⟨PB,fun _ _=>rfl,u6,fun _ _ _=>rfl,fun _ _ _ _ _ _=>rfl,fun _=>rfl,fun x=>by cases x <;>rfl,De,Dc,Px,Py,Pw,PE,PA,PD,PC,Dp,Dn,fun _ _=>rfl,Mw,MB,MA,Mz,Mx,MC,My,ME,MD,
  abr,abq,fun _ _=>rfl,abk,abl,abj,fun _ _ _=>rfl,fun _=>rfl,fun _ _ _=>rfl⟩
theorem A5 :
  (∀ k a b,cF .add (.int k a) (.int k b)=some (.int k (k.wrap (a+b))))∧(∀ k a b,cF .sub (.int k a) (.int k b)=some (.int k (k.wrap (a-b))))∧(∀ k a b,cF .mul (.int k a) (.int k b)=some (.int k (k.wrap (a*b)))) ∧
  (∀ k a b,cF .quo (.int k a) (.int k b)=if b=0 then none else some (.int k (k.wrap (a.tdiv b))))∧(∀ k a b,cF .rem (.int k a) (.int k b)=if b=0 then none else some (.int k (a.tmod b))) ∧
  (∀ k a b,cF .and (.int k a) (.int k b)=some (.int k (k.wrap ((BitVec.ofInt k.bits a &&& BitVec.ofInt k.bits b).toNat:Int))))∧(∀ k a b,cF .or (.int k a) (.int k b)=some (.int k (k.wrap ((BitVec.ofInt k.bits a ||| BitVec.ofInt k.bits b).toNat:Int)))) ∧
  (∀ k a b,cF .xor (.int k a) (.int k b)=some (.int k (k.wrap ((BitVec.ofInt k.bits a ^^^ BitVec.ofInt k.bits b).toNat:Int))))∧(∀ k a b,cF .andNot (.int k a) (.int k b)=some (.int k (k.wrap ((BitVec.ofInt k.bits a &&& ~~~ BitVec.ofInt k.bits b).toNat:Int)))) ∧
  (∀ k k' a b,cF .shl (.int k a) (.int k' b)=if 0≤b then some (.int k (k.wrap (a*2^(min b.toNat k.bits)))) else none)∧(∀ k k' a b,cF .shr (.int k a) (.int k' b)=if 0≤b then some (.int k (a.fdiv (2^(min b.toNat k.bits)))) else none) ∧
  (∀ k a b,cF .eql (.int k a) (.int k b)=some (.bool (a==b)))∧(∀ k a b,cF .neq (.int k a) (.int k b)=some (.bool (a != b)))∧(∀ k a b,cF .lss (.int k a) (.int k b)=some (.bool (decide (a<b))))∧(∀ k a b,cF .leq (.int k a) (.int k b)=some (.bool (decide (a≤b)))) ∧
  (∀ k a b,cF .gtr (.int k a) (.int k b)=some (.bool (decide (b<a))))∧(∀ k a b,cF .geq (.int k a) (.int k b)=some (.bool (decide (b≤a)))) :=
 ⟨Kh,Ky,Kp,Kt,Ku,Ki,Ks,Kz,Kj,Kv,Kx,Kk,Kq,Ko,Kn,Km,Kl⟩
end Go.Abs
namespace Go.Abs
open Go Go.RowKit
open Enc (enc)
section
variable {α:Type} [Enc α]
theorem Y4(A:ai)(l:List α):jZ A (enc l)=some (.int .i64 l.length):=by simp[iR,jZ]
theorem YD{A:ai}(esz:Nat){k:Int}{l:List α}(h:0≤k∧k.toNat<l.length)(hs:Enc.sz α=esz):kU A esz k (enc l)=some (.ref (enc l[k.toNat])):=by
 simp only[iR,kU,hs,zz8,true_and];rw[if_pos ⟨h.1,by omega⟩];simp[h.2]
theorem fT{A:ai}(esz:Nat){k:Nat}{l:List α}(h:k<l.length)(hs:Enc.sz α=esz):kU A esz k (enc l)=some (.ref (enc l[k])):=by
 have:=YD (A:=A) esz (k:=(k:Int)) (l:=l) ⟨by omega,by simpa using h⟩ hs;simpa using this
end
mutual
/-- What every value in memory keeps to: whole numbers within their kind,slices no longer than a slice can be. -/
def I.wf:I→Prop
 | .agg fs=>I.gX fs
 | .int k n=>k.min≤n∧n≤k.max
 | .bT s=>s.size≤maxLen
 | .slice _ es=>es.length≤maxLen∧I.gX es
 | .ref c=>c.wf
 | .func _ caps=>I.gX caps
 | .iface _ v=>v.wf
 |_=>True
def I.gX:List I→Prop
 | []=>True
 |x::xs=>x.wf∧I.gX xs
end
mutual
theorem v7{w:World}{D:aX}{E:bj} : ∀ (x:I) (cs:List Value),ao w D E x cs→x.wf
 | .agg fs,cs,h=>by simp only[ao,I.wf] at *;exact zB fs cs h
 | .int k n,cs,h=>by simp only[ao,I.wf] at *;exact h.2
 | .bT s,cs,h=>by simp only[ao,I.wf] at *;exact h.2
 | .slice sz es,cs,h=>by
  simp only[ao,I.wf] at *;obtain ⟨a,cap,_,U,ab,af,_⟩:=h;refine ⟨by omega,?_⟩;rcases af with rfl | ⟨b,off,cs',_,_,ar⟩
  ·simp[I.gX]
  ·exact zB es cs' ar
 | .ref c,cs,h=>by simp only[ao,I.wf] at *;obtain ⟨b,off,cs',_,_,h⟩:=h;exact v7 c cs' h
 | .func f caps,cs,h=>by simp only[ao,I.wf] at *;obtain ⟨vs,_,h⟩:=h;exact rS caps vs h
 | .iface t v,cs,h=>by simp only[ao,I.wf] at *;obtain ⟨u,cs',_,_,h⟩:=h;exact v7 v cs' h
 | .bool _,_,_ | .nilp,_,_ | .dE,_,_ | .ed,_,_ | .any,_,_ | .raw _,_,_ | .nils _,_,_ | .c0 _,_,_ | .ptr _ _,_,_ | .own _ _,_,_ | .view _ _ _ _ _,_,_ | .mref _,_,_ | .dv _,_,_ | .dp _ _,_,_ | .undef,_,_ | .dx,_,_ | .tuple _,_,_=>by simp[I.wf]
theorem zB{w:World}{D:aX}{E:bj} : ∀ (xs:List I) (cs:List Value),aU w D E xs cs→I.gX xs
 | [],_,_=>by simp[I.gX]
 |x::xs,cs,h=>by
  simp only[aU,I.gX] at *;obtain ⟨c1,c2,_,U,ab⟩:=h;exact ⟨v7 x c1 U,zB xs c2 ab⟩
theorem rS{w:World}{D:aX}{E:bj} : ∀ (xs:List I) (vs:List Value),aO w D E xs vs→I.gX xs
 | [],_,_=>by simp[I.gX]
 |x::xs,vs,h=>by
  simp only[aO,I.gX] at *;obtain ⟨v,rest,cs,_,_,U,ab⟩:=h;exact ⟨v7 x cs U,rS xs rest ab⟩
end
theorem acI{α:Type}[Enc α](l:List α):I.gX (l.map enc)↔∀ x∈l,(enc x:I).wf:=by
 induction l with
 |nil=>simp[I.gX]
 |cons x l ih=>simp[I.gX,ih]
theorem qz{α:Type}[Enc α](l:List α):(enc l:I).wf↔l.length≤maxLen∧∀ x∈l,(enc x:I).wf:=by
 simp only[iR,I.wf,zz8,acI]
theorem bp.wf{P:Program}{f:FuncId}{args:List I}{r:I}(hc:fq P f=true)(h:I.gX args→bp P f args r):bp P f args r :=
 ⟨hc,fun w D vs hl U ab=>(h (rS _ _ ab)).2 w D vs hl U ab⟩
theorem bp.cw{P:Program}{f:FuncId}{fn:Func}{x:bH}{rs:List bR}{args:List I}{r:I}(hf:P.funcs[f]?=some fn)(hcall:fq P f=true)(hc:(fn.body.bind (eJ P fn.ntmps))=some x)
  (hrs:iG P fn.results.toList=some rs) (hn:args.length≤fn.ntmps) (h:I.gX args→∀ (w:World) (D:aX) (E:bj),ae ⟨P,w,D,fn.ntmps,cI E,E,dq,none,none⟩ x (kE rs r) (au (bS 0 args) [])):bp P f args r :=
 bp.wf hcall fun hw=>bp.mk hf hcall hc hrs hn (h hw)
theorem pc{α:Type}[Enc α] :
  (∀ A (l:List α),jZ A (enc l)=some (.int .i64 l.length))∧(∀ n (x:Aj n α),(enc x).dW=some (x.l.map enc)) :=
 ⟨Y4,fun _ _=>rfl⟩
end Go.Abs
namespace Go.Abs
open Go Go.RowKit
open Enc (enc)
def rF(neg:Bool):I→Option I
 | .nils _=>some (.bool (!neg))
 | .slice _ es=>if es.isEmpty then none else some (.bool neg)
 | .view _ _ _ _ _=>some (.bool neg)
 |_=>none
def EY:I→Option I
 | .bT s=>some (.int .i64 s.size)
 |_=>none
open Classical in
noncomputable def nX(n:Nat)(p:List Nat)(sz l0 k esz:Nat)(lo hi mx:Option I):Option (List I)→Option I
 |some fs=>if sz=esz then mK n p sz l0 k fs.length lo hi mx else none
 |none=>none
noncomputable def lX(A:ai)(esz:Nat)(lo hi mx:Option I):I→Option I
 | .slice sz es=>if sz=esz then j6 sz es lo hi mx else none
 | .nils sz=>if sz=esz then j6 sz [] lo hi mx else none
 | .c0 sz=>if sz=esz then j6 sz [] lo hi mx else none
 | .view n p sz l0 k=>nX n p sz l0 k esz lo hi mx (gq (fR p (A.o n)))
 |_=>none
open Classical in
noncomputable def gx(esz:Nat):Option (List I)→Option I
 |some es=>if (es.all fun e=>e.size==esz)=true∧I.cq es=true then some (.slice esz es) else none
 |none=>none
open Classical in
noncomputable def sc(A:ai)(d:Option Nat)(e esz bytes n l T sz':Nat)(es:List I)(rest:List aw):I→cR
 | .slice sz ys=>if za e esz bytes l sz ys T sz' es then aC rest ((A.aZ n (.bW e esz (es++ys))).a8 d (.own n (es.length+ys.length))) else .fail
 |_=>.fail
open Classical in
noncomputable def qM(A:ai)(d:Option Nat)(e esz bytes:Nat)(z:I)(n l T:Nat)(xs:List Int)(rest:List aw):I→cR
 | .slice _ ys=>if zb e esz bytes l ys T xs z then aC rest ((A.aZ n (.dJ e (xs++sS ys))).a8 d (.own n (xs.length+ys.length))) else .fail
 |_=>.fail
noncomputable def sa(A:ai)(d:Option Nat)(e esz bytes:Nat)(z:I)(n l:Nat)(x:I)(rest:List aw):Option ak→cR
 |some (.bW T sz' es)=>sc A d e esz bytes n l T sz' es rest x
 |some (.dJ T xs)=>qM A d e esz bytes z n l T xs rest x
 |_=>.fail
noncomputable def fG(A:ai)(d:Option Nat)(e esz bytes:Nat)(z x:I)(rest:List aw):I→cR
 | .own n l=>sa A d e esz bytes z n l x rest (A.o n)
 |s=>fp A d esz bytes z s (eI A esz s) (eI A esz x) (aC rest)
section
variable (d:Option Nat) (rest:List aw) (A:ai)
noncomputable def rG(neg:Bool)(x:I):Bool→cR
 |true=>.any (fun m=>m<2) (fun m=>aC rest (A.a8 d (.bool (m==0))))
 |false=>cX (rF neg x) (dn d rest A)
theorem aag(neg:Bool)(x:aV):bN A d (.nilS neg x) rest=rG d rest A neg (al A x) (kM (al A x)):=by
 simp only[bN,bt,bu];cases kM (al A x)
 ·simp only[zz5,if_false,rG,rF];cases al A x <;>rfl
 ·rfl
theorem Z7(x:aV):bN A d (.lenT x) rest=cX (EY (al A x)) (dn d rest A):=by
 simp only[bN,bt,bu];cases al A x <;>rfl
theorem aal(esz:Nat)(x:aV)(lo hi mx:Option aV):bN A d (.sl esz x lo hi mx) rest=cX (lX A esz (lo.map (al A)) (hi.map (al A)) (mx.map (al A)) (al A x)) (dn d rest A):=by
 simp only[bN,bt,bu];cases al A x <;>try rfl
 rename_i n p sz l0 k;simp only[lX,nh,iH];cases fR p (A.o n) with
 |none=>rfl
 |some c=>cases c <;>simp only[gq,I.dW,nX] <;>(first | rfl | (split <;>rfl))
theorem ZS(T esz:Nat)(ps:List aV):bN A d (.bs T esz ps) rest=cX (gx esz (bZ false A (ps.map (al A)))) (dn d rest A):=by
 simp only[bN,bt,bu];cases bZ false A (ps.map (al A)) <;>simp only[gx] <;>rfl
theorem ZO(e esz bytes:Nat)(z:I)(s x:aV):bN A d (.dy e esz bytes z s x) rest=fG A d e esz bytes z (al A x) rest (al A s):=by
 simp only[bN,bt];generalize al A s=s';generalize al A x=x';cases s' <;>simp only[fG]
 rename_i n l;cases x' <;>simp only <;>generalize A.o n=z <;>(cases z with
  |none=>rfl
  |some y=>cases y <;>simp only[sa,sc,qM])
end
theorem FT :
  (∀ d rest A neg x,bN A d (.nilS neg x) rest=rG d rest A neg (al A x) (kM (al A x)))∧(∀ d rest A neg x,rG d rest A neg x false=cX (rF neg x) (dn d rest A))∧(∀ z,kM (.nils z)=false)∧(∀ n p sz lo k,kM (.view n p sz lo k)=false)∧(∀ d rest A x,bN A d (.lenT x) rest=cX (EY (al A x)) (dn d rest A)) ∧
  (∀ d rest A esz x lo hi mx,bN A d (.sl esz x lo hi mx) rest=cX (lX A esz (lo.map (al A)) (hi.map (al A)) (mx.map (al A)) (al A x)) (dn d rest A)) ∧
  (∀ d rest A T esz ps,bN A d (.bs T esz ps) rest=cX (gx esz (bZ false A (ps.map (al A)))) (dn d rest A))∧(∀ d rest A e esz bytes z s x,bN A d (.dy e esz bytes z s x) rest=fG A d e esz bytes z (al A x) rest (al A s)) ∧
  (∀ A d e esz bytes z x rest n l,fG A d e esz bytes z x rest (.own n l)=sa A d e esz bytes z n l x rest (A.o n))∧(∀ A d e esz bytes z n l x rest T sz es,sa A d e esz bytes z n l x rest (some (.bW T sz es))=sc A d e esz bytes n l T sz es rest x)∧(∀ A d e esz bytes z n l x rest T xs,sa A d e esz bytes z n l x rest (some (.dJ T xs))=qM A d e esz bytes z n l T xs rest x) ∧
  (∀ neg z,rF neg (.nils z)=some (.bool (!neg))) :=
 ⟨aag,fun _ _ _ _ _=>rfl,fun _=>rfl,fun _ _ _ _ _=>rfl,Z7,aal,ZS,ZO,fun _ _ _ _ _ _ _ _ _ _=>rfl,fun _ _ _ _ _ _ _ _ _ _ _ _ _=>rfl,fun _ _ _ _ _ _ _ _ _ _ _ _=>rfl,fun _ _=>rfl⟩
theorem gT(p:Nat→Bool)(xs ys:List I):I.bQ p (xs++ys)=(I.bQ p xs&&I.bQ p ys):=by
 induction xs with
 |nil=>simp[I.bQ]
 |cons x xs ih=>simp[I.bQ,ih,Bool.and_assoc]
section
variable {α:Type} [Enc α]
theorem qN{A:ai}{d:Option Nat}(e:Nat)(esz bytes n:Nat){l:Nat}{es ys:List α}{rest:List aw}(hl:l=es.length)(hs:Enc.sz α=esz)(hy:ys≠[])(U:es.length+ys.length≤maxLen)(ab:(es.length+ys.length)*bytes≤140737488355328) :
  sc A d e esz bytes n l e esz (es.map enc) rest (enc ys)=aC rest ((A.aZ n (.bW e esz ((es++ys).map enc))).a8 d (.own n (es++ys).length)):=by
 simp only[iR,sc];rw[if_pos ⟨by simpa using hl,hs,rfl,rfl,by simpa using hy,by simpa using U,by simpa using ab⟩];simp
theorem sg(esz:Nat){ys:List α}(hs:Enc.sz α=esz):gx esz (some (ys.map enc))=some (enc ys):=by
 have U:((ys.map enc).all fun e:I=>e.size==esz)=true:=by
  simp only[zx6,zy7];rintro x ⟨y,_,rfl⟩;simp[Enc.size,hs]
 simp only[gx,iR];rw[if_pos ⟨U,ja ys⟩,hs]
theorem lE(esz:Nat)(y:α)(hs:Enc.sz α=esz):gx esz (some [enc y])=some (enc [y]):=sg (ys:=[y]) esz hs
theorem pG(sz:Nat){T k:Nat}{es:List α}(hk:k=es.length)(hs:Enc.sz α=sz):kl k (some (.bW T sz (es.map enc)))=some (enc es):=by
 simp only[kl,zz8];rw[if_pos ⟨hk,ja es⟩,iR,hs]
theorem dZ(p:Nat→Bool)(l:List α):I.bQ p (l.map enc)=true:=by
 induction l with
 |nil=>rfl
 |cons x l ih=>simp only[zz7,I.bQ,b7,ih,Bool.and_self]
theorem Y5(A:ai)(n k T sz:Nat)(es:List α)(ho:A.o n=some (.bW T sz (es.map enc)))(hk:k=es.length):jZ A (.own n k)=some (.int .i64 es.length):=by
 simp only[jZ,ho,zz8,hk,if_true]
end
theorem Ey :
  (∀ n:Int,gx 1 (some [.int .i64 n])=some (enc [n]))∧(∀ (T:Nat) (es:List Int),kl es.length (some (.bW T 1 (es.map enc)))=some (enc es)) :=
 ⟨fun n=>lE 1 n rfl,fun _ _=>pG 1 rfl rfl⟩
theorem bn.JK{A:ai}{d n T sz z:Nat}(ah:A.t d=.nils z)(hn:A.o n=none)(hlt:n<1000000):bn A ((A.aZ n (.bW T sz [])).put d (.own n 0)):=by
 rintro c a w ⟨D,E,h⟩;have ay:E n=none:=by have:=h.bP n;rw[hn] at this;exact this
 have hl:ec w D E w D (fun m=>if m=n then some (.rw none 0) else E m):=by
  have eV:∀ {m:Nat} {e:bO},E m=some e→(if m=n then some (.rw none 0) else E m)=some e:=fun {m e} he=>by
   have:m≠n:=fun e=>by rw[e,ay] at he;cases he
   rw[if_neg this];exact he
  refine ⟨fun _ _ h=>h,fun _ _ _ _ h=>h,fun m b bh he=>eV he,fun m aP l he =>?_,fun m b he=>eV he,fun m b he=>eV he,fun _ _ _ _ h=>h⟩
  ·have:m≠n:=fun e=>by rw[e,ay] at he;cases he
   exact ⟨aP,l,by simp only[if_neg this];exact he,zz9 _,fun _=>rfl⟩
 refine ⟨D,fun m=>if m=n then some (.rw none 0) else E m,h.sz,h.eC,fun t =>?_,h.dK,h.c6,h.aK,fun m =>?_,fun m m' e e' b U ab af ar =>?_,fun m e hm =>?_,h.eL,h.cT,h.eY,h.fA⟩
 ·simp only[ai.put,ai.aZ];by_cases ht:t=d
  ·subst ht;simp only[if_true];have hv:=h.dO t;rw[ah] at hv;obtain ⟨cs,q1,q2⟩:=hv;simp only[ao] at q2;subst q2;refine ⟨[.slice none 0 0],by simpa[bI,I.isAgg] using q1,?_⟩;simp only[ao,if_true];exact ⟨none,0,rfl,zz9 _,⟨_,_,_,rfl⟩,fun _=>trivial⟩
  ·simp only[if_neg ht];exact bl.later hl (h.dO t)
 ·simp only[ai.put,ai.aZ];by_cases hm:m=n
  ·subst hm;simp only[if_true,cS];exact ⟨none,by simp,by simp,trivial⟩
  ·simp only[if_neg hm];exact (h.bP m).later hl (by simp only[if_neg hm]) fun _ _ _ _=>⟨rfl,fun _ ho=>ho⟩
 ·by_cases hm:m=n <;>by_cases hm':m'=n
  ·rw[hm,hm']
  ·simp only[if_pos hm,u8] at U;subst U;simp[bO.aP] at af
  ·simp only[if_pos hm',u8] at ab;subst ab;simp[bO.aP] at ar
  ·simp only[if_neg hm] at U;simp only[if_neg hm'] at ab;exact h.cQ m m' e e' b U ab af ar
 ·have hmn:m≠n:=fun e=>by rw[e,h.lK (.inr hlt)] at hm;cases hm
  simp only[if_neg hmn];exact h.dR m e hm
theorem bn.uD{ts:List (Nat×I)}{os:List (Nat×ak)}(d n T sz z:Nat)(ah:bC ts d=.nils z)(hn:aj os n=none){B:ai}(h:bn (au ((d,.own n 0)::ts) ((n,.bW T sz [])::os)) B)(hlt:n<1000000:=by decide):bn (au ts os) B :=
 ((bn.JK (A:=au ts os) (T:=T) (sz:=sz) ah hn hlt).trans (by rw[te,vz];exact bn.refl _)).trans h
theorem FI:(∀ k n,cn none (.int k n)=true)∧(∀ b,cn none (.bool b)=true)∧(∀ z es,cn none (.slice z es)=true)∧(∀ f es,cn none (.func f es)=true)∧(∀ z,cn none (.nils z)=true)∧(∀ n k,cn none (.own n k)=true) :=
 ⟨fun _ _=>rfl,fun _=>rfl,fun _ _=>rfl,fun _ _=>rfl,fun _=>rfl,fun _ _=>rfl⟩
theorem bL:(type_of% @AI)∧(type_of% @FR)∧(type_of% @FT)∧(type_of% @Ey)∧(type_of% @FI)∧(type_of% @If)∧(type_of% @Da)∧(type_of% @A5)∧(∀ n:Int,(enc n:I)=.int .i64 n)∧(∀ n:Bool,(enc n:I)=.bool n) ∧
  (∀ {α β:Type} (f:α→β) (x:α) (xs:List α),List.map f (x::xs)=f x::List.map f xs)∧(∀ {α β:Type} (f:α→β),List.map f []=[])∧(∀ {α:Type} (xs:List α),[]++xs=xs)∧(∀ n:Nat,(n:Int).toNat=n)∧(∀ {α β:Type} (f:α→β) (x:α),Option.map f (some x)=some (f x)) ∧
  (∀ n:Nat,0≤(n:Int))∧((!true)=false)∧((!false)=true)∧((false=true)=False)∧((true=false)=False) :=
 ⟨@AI,@FR,@FT,@Ey,@FI,@If,@Da,@A5,eQ,OU,fun _ _ _=>rfl,fun _=>rfl,fun _=>rfl,fun _=>rfl,fun _ _=>rfl,fun n=>Int.natCast_nonneg n,rfl,rfl,by simp,by simp⟩
end Go.Abs
namespace Go.Abs
open Go Go.RowKit
open Enc (enc)
theorem l4.cw{P:Program}{f:FuncId}{fn:Func}{x:bH}{rs:List bR}{Y:Value→List I→List (Nat×ak)→cE→Prop}{args:List I}{os:List (Nat×ak)}{post:cE}(hf:P.funcs[f]?=some fn)(hcall:fq P f=true)(hc:(fn.body.bind (eJ P fn.ntmps))=some x)
  (hrs:iG P fn.results.toList=some rs) (hn:args.length≤fn.ntmps) (hn2:fn.ntmps≤1000000) (hos:∀ m,av os m=true→1000000≤m) (h:I.gX args→∀ (w:World) (D:aX) (E:bj),ae ⟨P,w,D,fn.ntmps,cI E,E,Y,none,none⟩ x (qe rs post) (au (bS 0 args) os)):l4 P f Y args os post:=by
 obtain ⟨body,hb,hc'⟩:=zv5.1 hc;refine ⟨hcall,fun w D E vs hy hD ho hv =>?_⟩;exact (l4.vG hf hb hcall hc' hrs hn (fun m hm=>⟨zv9 hn2 (hos m hm),hos m hm⟩) (fun w D E=>(h (rS _ _ hv) w D E).sub (wz args os))).2 w D E vs hy hD ho hv
theorem cU.cw{P:Program}{f:FuncId}{fn:Func}{x:bH}{rs:List bR}{args:List I}{os:List (Nat×ak)}{post:cE}(hf:P.funcs[f]?=some fn)(hcall:fq P f=true)(hc:(fn.body.bind (eJ P fn.ntmps))=some x)
  (hrs:iG P fn.results.toList=some rs) (hn:args.length≤fn.ntmps) (hn2:fn.ntmps≤1000000) (hos:∀ m,av os m=true→1000000≤m) (h:I.gX args→∀ (w:World) (D:aX) (E:bj),ae ⟨P,w,D,fn.ntmps,cI E,E,dq,none,none⟩ x (qe rs post) (au (bS 0 args) os)):cU P f args os post :=
 cU.FC (l4.cw hf hcall hc hrs hn hn2 hos h)
theorem Et{A:ai} : ∀ n x,aj [] n=some x→A.o n=some x∧x.only (av [])=true∧x.en=true:=fun n x h=>by simp[aj] at h
theorem yk{A:ai}{k:Nat}{c:I}(U:A.o k=some (.box c))(ab:∀ p,c.only p=true):∀ n x,aj [(k,.box c)] n=some x→A.o n=some x∧x.only (av [(k,.box c)])=true∧x.en=true:=fun n x h=>by
 simp only[aj] at h;split at h
 ·rename_i hn;subst hn;simp only[u8] at h;subst h;exact ⟨U,ab _,rfl⟩
 ·cases h
theorem iw{k:Nat}{x:ak}{m:Nat} : av [(k,x)] m=true↔m=k:=by
 simp only[av,aj];split <;>simp_all
theorem gJ.one{aR:Bool}{k d:Nat}{x:ak}{os0:List (Nat×ak)}{r c:I}(U:∀ p,c.only p=true)(ab:aR=true→c.dS=true)(af:r.only (av [(k,.box c)])=true)(ar:aR=true→r.dS=true):gJ aR [(k,d)] [(k,x)] os0 r [(k,.box c)]:=by
 refine ⟨fun m x h =>?_,fun m m' h h' _ =>?_,fun m h =>?_,fun m h h' =>?_,af,ar⟩
 ·simp only[aj] at h;split at h
  ·simp only[u8] at h;subst h;exact ⟨U _,rfl,ab⟩
  ·cases h
 ·rw[iw.1 h,iw.1 h']
 ·rw[iw.1 h];exact iw.2 rfl
 ·rw[iw.1 h] at h';have:av [(k,x)] k=true:=iw.2 rfl;rw[this] at h';cases h'
mutual
theorem tL(ρ:Nat→Nat):∀ x:I,x.bG=true→x.bd ρ=x
 | .agg fs,h=>by simp only[I.bd,I.bG] at *;rw[oR ρ fs h]
 | .slice _ es,h=>by simp only[I.bd,I.bG] at *;rw[oR ρ es h]
 | .ref x,h=>by simp only[I.bd,I.bG] at *;rw[tL ρ x h]
 | .func _ caps,h=>by simp only[I.bd,I.bG] at *;rw[oR ρ caps h]
 | .iface _ v,h=>by simp only[I.bd,I.bG] at *;rw[tL ρ v h]
 | .bool _,_ | .int _ _,_ | .bT _,_ | .nilp,_ | .dE,_ | .ed,_ | .any,_ | .raw _,_ | .nils _,_ | .c0 _,_=>by simp only[I.bd]
 | .dp ks vs,h=>by simp only[I.bd,I.bG,zz1] at *;rw[oR ρ ks h.1,oR ρ vs h.2]
 | .ptr _ _,h | .own _ _,h | .view _ _ _ _ _,h | .mref _,h | .dv _,h | .undef,h | .dx,h | .tuple _,h=>by simp[I.bG] at h
theorem oR(ρ:Nat→Nat):∀ xs:List I,I.cq xs=true→I.dh ρ xs=xs
 | [],_=>rfl
 |x::xs,h=>by
  simp only[I.cq,zz1] at h;simp only[I.dh,tL ρ x h.1,oR ρ xs h.2]
end
theorem zD :
  (∀ (k:IntKind) n (ρ:Nat→Nat),(I.int k n).bd ρ=.int k n)∧(∀ (b:Bool) (ρ:Nat→Nat),(I.bool b).bd ρ=.bool b)∧(∀ n p (ρ:Nat→Nat),(I.ptr n p).bd ρ=.ptr (ρ n) p) ∧
  (∀ n p sz lo k (ρ:Nat→Nat),(I.view n p sz lo k).bd ρ=.view (ρ n) p sz lo k)∧(∀ fs (ρ:Nat→Nat),(I.agg fs).bd ρ=.agg (I.dh ρ fs))∧(∀ fs (ρ:Nat→Nat),(I.tuple fs).bd ρ=.tuple (I.dh ρ fs))∧(∀ f fs (ρ:Nat→Nat),(I.func f fs).bd ρ=.func f (I.dh ρ fs)) ∧
  (∀ ρ:Nat→Nat,I.dh ρ []=[])∧(∀ (ρ:Nat→Nat) x xs,I.dh ρ (x::xs)=x.bd ρ::I.dh ρ xs)∧(∀ (ρ:Nat→Nat) (x:I),(ak.box x).bd ρ=.box (x.bd ρ)) ∧
  (∀ (z:Nat) (ρ:Nat→Nat),(I.nils z).bd ρ=.nils z)∧(∀ (z:Nat) (ρ:Nat→Nat),(I.c0 z).bd ρ=.c0 z) ∧
  (∀ n,bB [] n=n)∧(∀ a b r n,bB ((a,b)::r) n=if n=a then b else bB r n)∧(∀ ρ,dc ρ []=[])∧(∀ ρ k x os,dc ρ ((k,x)::os)=(bB ρ k,x.bd (bB ρ))::dc ρ os) :=
 ⟨fun _ _ _=>by simp only[I.bd],fun _ _=>by simp only[I.bd],fun _ _ _=>by simp only[I.bd],fun _ _ _ _ _ _=>by simp only[I.bd],fun _ _=>by simp only[I.bd],fun _ _=>by simp only[I.bd],fun _ _ _=>by simp only[I.bd],
  fun _=>rfl,fun _ _ _=>by simp only[I.dh],fun _ _=>rfl,fun _ _=>by simp only[I.bd],fun _ _=>by simp only[I.bd],fun _=>rfl,fun _ _ _ _=>rfl,fun _=>rfl,fun _ _ _ _=>rfl⟩
section
variable {α:Type} [Enc α]
theorem kj(ρ:Nat→Nat)(x:α):(enc x).bd ρ=enc x:=tL ρ _ (kR x)
theorem oS(ρ:Nat→Nat)(l:List α):I.dh ρ (l.map enc)=l.map enc:=oR ρ _ (ja l)
class uu (α:Type) [Enc α]:Prop where
 dS:∀ x:α,(enc x).dS=true
theorem OV[uu α](x:α):(enc x).dS=true:=uu.dS x
theorem Y0[uu α](l:List α):I.jY (l.map enc)=true:=by
 induction l with
 |nil=>rfl
 |cons x l ih=>simp only[zz7,I.jY,OV,ih,Bool.and_self]
theorem mL(A:ai)(esz:Nat)(l:List α)(hs:Enc.sz α=esz):eI A esz (enc l)=some (l.map enc):=by
 simp only[iR,eI,hs,if_true]
theorem wG(l:List α):kM (enc l)=l.isEmpty:=by
 simp only[iR,kM];cases l <;>rfl
theorem Fy(neg:Bool)(l:List α)(h:l≠[]):rF neg (enc l)=some (.bool neg):=by
 simp only[iR,rF];cases l with
 |nil=>exact absurd rfl h
 |cons=>rfl
section
variable {P:Program} {Y:Value→List I→List (Nat×ak)→cE→Prop} {K:ai→Prop} {A:ai} {rest:List aw} {d:Nat} {e esz bytes:Nat} {q:Nat}
theorem aW.w0(z:α){l:List α}(hs:Enc.sz α=esz)(hl:l≠[])(hf:A.o d=none)(hb:l.length*bytes≤140737488355328)(hml:l.length≤maxLen)
  (h:∀ m,aW P Y false K (aC rest ((A.aZ d (.box (.agg ((l++List.replicate m z).map enc)))).a8 (some d) (.view d [] esz 0 l.length)))):aW P Y false K (fG A (some d) e esz bytes (enc z) (enc l) rest (.c0 q)):=by
 have hne:l.map (enc (α:=α))≠[]:=by simpa using hl
 have U:eI A esz (.c0 q)=some []:=rfl;simp only[fG,U,mL A esz l hs,fp,if_neg hne,gK,hf,List.length_nil,zz4,zz8,if_pos (y6 hb hml),zy5];refine .any rfl fun m _ =>?_;have:=h m;simp only[zx2,List.map_replicate] at this;exact this
theorem J3(z:I)(hs:Enc.sz α=esz):fG A (some d) e esz bytes z (enc ([]:List α)) rest (.c0 q)=aC rest (A.a8 (some d) (.c0 q)):=by
 have U:eI A esz (.c0 q)=some []:=rfl;simp only[fG,U,mL A esz ([]:List α) hs,fp,zx8,if_true]
theorem ZV(esz:Nat)(z:I)(x:aV)(rest:List aw)(A:ai):bN A none (.kh esz z x) rest=ox A esz z (aC rest) (al A x):=rfl
theorem abQ(z:α)(k:Nat):I.cZ (List.replicate k (enc z))=List.replicate k (Enc.bh α):=by
 have:List.replicate k (enc z)=(List.replicate k z).map (enc (α:=α)):=by simp
 rw[this,tV];simp
theorem MF(z:α){n lo k:Nat}{xs:List α}(ho:A.o n=some (.box (.agg (xs.map enc))))(hk:lo+k≤xs.length) :
  ox A esz (enc z) (aC rest) (.view n [] esz lo k)=aC rest (A.aZ n (.box (.agg ((xs.take lo++(List.replicate k z++xs.drop (lo+k))).map enc)))):=by
 have U:I.cZ (List.replicate k (enc z))=I.cZ (((xs.map (enc (α:=α))).drop lo).take k):=by
  rw[abQ,←List.map_drop,←List.map_take,tV,zx9,List.length_drop]
  congr 1;omega
 have ab:(I.agg (xs.map (enc (α:=α)))).at []=some (.agg (xs.map enc)):=rfl;simp only[ox,ho,ab];rw[if_pos ⟨rfl,U⟩];simp only[jL,rT,zx2,List.map_take,List.map_drop,List.map_replicate,List.length_replicate]
theorem abW{n:Nat}{p:List Nat}{sz k total i:Nat}(h:i≤total)(bf:0<total):mK n p sz 0 k total none (some (.int .i64 i)) none=some (.view n p sz 0 i):=by
 simp only[mK,kc];rw[if_pos ⟨by omega,by omega,by omega⟩,if_neg (by omega)];simp
theorem abX{n:Nat}{p:List Nat}{sz k total i:Nat}(h:i≤k)(hk:k≤total)(bf:i<total):mK n p sz 0 k total (some (.int .i64 i)) none none=some (.view n p sz i (k-i)):=by
 simp only[mK,kc];rw[if_pos ⟨by omega,by omega,by omega⟩,if_neg (by omega)];simp
theorem YI{m:Nat}{p:List Nat}{sz lo l j:Nat}{fs:List I}(h:j<l):nr m p sz lo l sz (j:Int) (some fs)=some (.ptr m (p++[lo+j])):=by
 simp only[nr,true_and];rw[if_pos ⟨by omega,by omega⟩];simp
theorem sC{sz k:Nat}{xs:List α}(hs:Enc.sz α=sz):km sz 0 k (some (xs.map enc))=some (enc (xs.take k)):=by
 have h:((xs.map (enc (α:=α))).drop 0).take k=(xs.take k).map enc:=by rw[List.drop_zero,List.map_take]
 simp only[km,h];rw[if_pos (ja _),iR,hs]
end
end
theorem YE(A:ai)(esz m:Nat)(p:List Nat)(sz lo l:Nat)(k:Int):kU A esz k (.view m p sz lo l)=nr m p sz lo l esz k (gq (fR p (A.o m))):=rfl
theorem Y6(A:ai)(m:Nat)(p:List Nat)(sz lo l:Nat):jZ A (.view m p sz lo l)=some (.int .i64 l):=rfl
theorem abU(A:ai)(esz:Nat)(lo hi mx:Option I)(n:Nat)(p:List Nat)(l0 k:Nat):lX A esz lo hi mx (.view n p esz l0 k)=nX n p esz l0 k esz lo hi mx (gq (fR p (A.o n))):=rfl
theorem abV(n:Nat)(p:List Nat)(sz l0 k:Nat)(lo hi mx:Option I)(fs:List I):nX n p sz l0 k sz lo hi mx (some fs)=mK n p sz l0 k fs.length lo hi mx:=by simp[nX]
theorem dk :
  (∀ A esz m p sz lo l k,kU A esz k (.view m p sz lo l)=nr m p sz lo l esz k (gq (fR p (A.o m))))∧(∀ A m p sz lo l,jZ A (.view m p sz lo l)=some (.int .i64 l)) ∧
  (∀ A esz lo hi mx n p l0 k,lX A esz lo hi mx (.view n p esz l0 k)=nX n p esz l0 k esz lo hi mx (gq (fR p (A.o n))))∧(∀ n p sz l0 k lo hi mx fs,nX n p sz l0 k sz lo hi mx (some fs)=mK n p sz l0 k fs.length lo hi mx) ∧
  (∀ esz z x rest A,bN A none (.kh esz z x) rest=ox A esz z (aC rest) (al A x))∧(∀ rest A d esz,bN A d (.bs0 esz) rest=aC rest (A.a8 d (.c0 esz))) :=
 ⟨YE,Y6,abU,abV,ZV,fun _ _ _ _=>rfl⟩
theorem nM(rs:List bR)(post:cE)(A:ai):qe rs post .ret A=jS rs post A:=rfl
theorem bn.jv{ts:List (Nat×I)}{os0:List (Nat×ak)}(ns:List Nat)(d:Nat){x y:I}(ah:bC ts d=x)(h:br true (au ts (kW ns os0)) x=some y)(ho:b8 (fun n => !ns.contains n) (dY ns os0)) :
  bn (au ts os0) (au ((d,y)::jX ns ts) (dY ns os0)):=by
 rintro c a w ⟨D,E,hs⟩;obtain ⟨D1,E1,hs1,hw⟩:=hs.Ds ns ho;have hu:eA (au ts (kW ns os0)) (au ts os0):=fun n z hz=>by
  simp only[au,rB] at hz ⊢;split at hz
  ·exact hz
  ·cases hz
 have hx:x.bV=true:=by cases x <;>first | rfl | simp[br] at h
 have hv:=hs.dO d;simp only[au] at hv;rw[ah] at hv;have U:aO w D E [x] [a.tmps.getD d undef]:=mH [x] _ (.cons hv .nil) (by intro z hz;simp only[zy2] at hz;subst hz;exact hx);have ab:=nj (E':=E1) hs hu hw [x] [y] _ U (by simp only[bZ,h]);have af:bl w D1 E1 y (a.tmps.getD d undef):=by
  simp only[aO] at ab;obtain ⟨v',rest,cs,e,k1,k2,_⟩:=ab;simp only[zv6] at e;obtain ⟨e1,_⟩:=e;rw[e1];exact ku k1 k2
 refine ⟨D1,E1,hs1.sz,hs1.eC,fun t =>?_,hs1.dK,hs1.c6,hs1.aK,hs1.bP,hs1.cQ,hs1.dR,hs1.eL,hs1.cT,hs1.eY,hs1.fA⟩;simp only[au,bC];split
 ·rename_i ht;subst ht;exact af
 ·exact hs1.dO t
theorem bn.Dr{ts ts':List (Nat×I)}{os0 os':List (Nat×ak)}(ns:List Nat)(d:Nat){x y:I}(ah:bC ts d=x)(h:br true (au ts (kW ns os0)) x=some y)(ho:b8 (fun n => !ns.contains n) (dY ns os0))
  (U:bX ((d,y)::jX ns ts) ts') (ab:cA (dY ns os0) os') (af:b6 (av os') ts') (ar:b8 (av os') os'):bn (au ts os0) (au ts' os') :=
 (bn.jv ns d ah h ho).trans (bn.cB U ab af ar)
theorem aa4{w:World}{D:aX}{E:bj}{p:List Nat}{c x y:I}{cs:List Value}(hr:ao w D E c cs)(h:c.at p=some x)(hxy:∀ ds,ao w D E x ds→ao w D E y ds)(hs:y.bh=x.bh):ao w D E (c.eF p y) cs∧(c.eF p y).bh=c.bh:=by
 obtain ⟨off,c1,c2,c3,U,rfl,ab,af⟩:=zA p c x cs hr h;obtain ⟨off',k1,k2,k3,k4⟩:=vZ p c x y _ c2 hr h (hxy c2 af) hs;rw[U,u8] at k1;subst k1;refine ⟨?_,k4⟩;have e:(c1++c2++c3).take off++c2++(c1++c2++c3).drop (off+c2.length)=c1++c2++c3:=by
  rw[zy4 c1 c2 c3,←ab,List.take_left,List.drop_length_add_append,List.drop_left,zy4]
 rw[←e];exact k3
theorem bn.JL{A:ai}{m n T sz z:Nat}{p:List Nat}{b:I}(hm:A.o m=some (.box b))(hp:b.at p=some (.nils z))(hn:A.o n=none)(hlt:n<1000000):bn A ((A.aZ n (.bW T sz [])).aZ m (.box (b.eF p (.own n 0)))):=by
 rintro c a w ⟨D,E,h⟩;have ay:E n=none:=by have:=h.bP n;rw[hn] at this;exact this
 have hmn:m≠n:=fun e=>by rw[e,hn] at hm;cases hm
 have hl:ec w D E w D (fun m=>if m=n then some (.rw none 0) else E m):=by
  have eV:∀ {m:Nat} {e:bO},E m=some e→(if m=n then some (.rw none 0) else E m)=some e:=fun {m e} he=>by
   have:m≠n:=fun e=>by rw[e,ay] at he;cases he
   rw[if_neg this];exact he
  refine ⟨fun _ _ h=>h,fun _ _ _ _ h=>h,fun m b bh he=>eV he,fun m aP l he =>?_,fun m b he=>eV he,fun m b he=>eV he,fun _ _ _ _ h=>h⟩
  ·have:m≠n:=fun e=>by rw[e,ay] at he;cases he
   exact ⟨aP,l,by simp only[if_neg this];exact he,zz9 _,fun _=>rfl⟩
 refine ⟨D,fun m=>if m=n then some (.rw none 0) else E m,h.sz,h.eC,fun t=>bl.later hl (h.dO t),h.dK,h.c6,h.aK,fun k =>?_,fun m m' e e' b U ab af ar =>?_,fun m e hm =>?_,h.eL,h.cT,h.eY,h.fA⟩
 ·simp only[ai.aZ];by_cases hk:k=m
  ·subst hk;have ho:=h.bP k;rw[hm] at ho;obtain ⟨b',cs,T',U,ab,af,ar,h5⟩:=ho;obtain ⟨q1,q2⟩:=aa4 (y:=.own n 0) (ao.later hl _ _ ar) hp (fun ds ah=>by
    simp only[ao] at ah;subst ah;simp only[ao,if_true];exact ⟨none,0,rfl,zz9 _,⟨_,_,_,rfl⟩,fun _=>trivial⟩) rfl
   simp only[if_true,cS];exact ⟨b',cs,T',by rw[q2];simp only[if_neg hmn];exact U,ab,af,q1,h5⟩
  ·simp only[if_neg hk];by_cases hkn:k=n
   ·subst hkn;simp only[if_true,cS];exact ⟨none,by simp,by simp,trivial⟩
   ·simp only[if_neg hkn];exact (h.bP k).later hl (by simp only[if_neg hkn]) fun _ _ _ _=>⟨rfl,fun _ ho=>ho⟩
 ·by_cases hm:m=n <;>by_cases hm':m'=n
  ·rw[hm,hm']
  ·simp only[if_pos hm,u8] at U;subst U;simp[bO.aP] at af
  ·simp only[if_pos hm',u8] at ab;subst ab;simp[bO.aP] at ar
  ·simp only[if_neg hm] at U;simp only[if_neg hm'] at ab;exact h.cQ m m' e e' b U ab af ar
 ·have hmn:m≠n:=fun e=>by rw[e,h.lK (.inr hlt)] at hm;cases hm
  simp only[if_neg hmn];exact h.dR m e hm
theorem bn.AK{ts:List (Nat×I)}{os:List (Nat×ak)}(m n T sz z:Nat)(p:List Nat)(b:I)(hm:aj os m=some (.box b))(hp:b.at p=some (.nils z))(hn:aj os n=none){B:ai}(h:bn (au ts ((m,.box (b.eF p (.own n 0)))::(n,.bW T sz [])::os)) B)(hlt:n<1000000:=by decide):bn (au ts os) B :=
 ((bn.JL (A:=au ts os) (T:=T) (sz:=sz) hm hp hn hlt).trans (by rw[te,te];exact bn.refl _)).trans h
mutual
theorem jD{p q:Nat→Bool}(h:∀ n,p n=true→q n=true):∀ x:I,x.only p=true→x.only q=true
 | .agg fs,hx | .tuple fs,hx=>by simp only[I.only] at *;exact jj h fs hx
 | .slice _ es,hx=>by simp only[I.only] at *;exact jj h es hx
 | .ref x,hx=>by simp only[I.only] at *;exact jD h x hx
 | .func _ caps,hx=>by simp only[I.only] at *;exact jj h caps hx
 | .iface _ v,hx=>by simp only[I.only] at *;exact jD h v hx
 | .ptr _ _,hx | .own _ _,hx | .view _ _ _ _ _,hx | .mref _,hx | .dv _,hx=>by simp only[I.only] at *;exact h _ hx
 | .dp ks vs,hx=>by simp only[I.only,zz1] at *;exact ⟨jj h ks hx.1,jj h vs hx.2⟩
 | .bool _,_ | .int _ _,_ | .bT _,_ | .nilp,_ | .dE,_ | .ed,_ | .any,_ | .raw _,_ | .nils _,_ | .c0 _,_ | .undef,_ | .dx,_=>by simp[I.only]
theorem jj{p q:Nat→Bool}(h:∀ n,p n=true→q n=true):∀ xs:List I,I.bQ p xs=true→I.bQ q xs=true
 | [],_=>rfl
 |x::xs,hx=>by
  simp only[I.bQ,zz1] at *;exact ⟨jD h x hx.1,jj h xs hx.2⟩
end
theorem ak.jD{p q:Nat→Bool}(h:∀ n,p n=true→q n=true)(x:ak)(hx:x.only p=true):x.only q=true:=by
 cases x with
 |box y=>simp only[ak.only] at *;exact Abs.jD h y hx
 |bW T sz es=>simp only[ak.only] at *;exact jj h es hx
 |dI o=>rfl
 |dJ T xs=>rfl
 |bE ks vs=>simp only[ak.only,zz1] at *;exact ⟨jj h ks hx.1,jj h vs hx.2⟩
 |it ks vs left cur=>simp only[ak.only,zz1] at *;exact ⟨jj h ks hx.1,jj h vs hx.2⟩
theorem ED{x:I}(h:x.bG=true):x.bV=true:=by
 cases x <;>first | rfl | simp[I.bG] at h
theorem uH{aR:Bool}{A0:ai}{ρ:List (Nat×Nat)}{os:List (Nat×ak)} : ∀ xs:List I,I.cq xs=true→iF aR A0 ρ os xs xs
 | [],_=>trivial
 |x::xs,h=>by
  simp only[I.cq,zz1] at h;exact ⟨.inl ⟨(tL _ x h.1).symm,lj _ x h.1,ED h.1⟩,uH xs h.2⟩
structure fk (os os':List (Nat×ak)):Prop where
 same:∀ m,av os' m=av os m
 ok:∀ m x,aj os' m=some x→x.only (av os')=true∧x.en=true
 nl:∀ m,av os m=true→1000000≤m
def Az(P:Program)(g:FuncId)(caps:List I)(N:Nat)(item:Nat→List I):Prop :=
 ∀ (Y:Value→List I→List (Nat×ak)→cE→Prop) (v:Value) (aq:Nat→List (Nat×ak)→Prop) (Ix:List (Nat×ak)→Prop) (os:List (Nat×ak)),v.oneCell'=true →
  (∀ k os' post,k<N→aq k os'→(∀ r os2,(r=.bool true∧aq (k+1) os2)∨(r=.bool false∧Ix os2)→post r os2)→Y v (item k) os' post) →
  (∀ k os',aq k os'→fk os os')→(∀ os',Ix os'→fk os os')→aq 0 os→l4 P g Y (.raw v::caps) os (fun r os'=>r=.tuple []∧(aq N os'∨Ix os'))
def ev(o:Obj)(os:List (Nat×ak)):List (Nat×ak):=(1999999,.dI o)::os
theorem mw(o:Obj)(os:List (Nat×ak))(m:Nat):av (ev o os) m=(decide (m=1999999)||av os m):=by
 simp only[ev,av,aj];by_cases h:m=1999999 <;>simp[h]
theorem rC(o:Obj)(os:List (Nat×ak))(m:Nat):aj (ev o os) m=if m=1999999 then some (.dI o) else aj os m:=rfl
theorem fk.ev{os os':List (Nat×ak)}(h:fk os os')(o o':Obj):fk (ev o os) (ev o' os'):=by
 refine ⟨fun m=>by rw[mw,mw,h.same],fun m x hx =>?_,fun m hm =>?_⟩
 ·rw[rC] at hx;split at hx
  ·cases hx;exact ⟨rfl,rfl⟩
  ·obtain ⟨U,ab⟩:=h.ok m x hx;exact ⟨x.jD (fun n hn=>by rw[mw,hn];simp) U,ab⟩
 ·rw[mw] at hm;simp only[Bool.or_eq_true,decide_eq_true_eq] at hm;rcases hm with rfl | hm
  ·decide
  ·exact h.nl m hm
def vY:List Nat→List I→List (Nat×I)→List (Nat×I)
 |p::ps,v::vs,ts=>vY ps vs ((p,v)::ts)
 |_,_,ts=>ts
def oX(ρ:List (Nat×Nat))(p:Nat→Bool)(ts:List (Nat×I)):List (Nat×I)→Prop
 | []=>True
 |(k,v)::r=>bC ts k=v.bd (bB ρ)∧v.only p=true∧oX ρ p ts r
theorem HS{ρ:List (Nat×Nat)}{p:Nat→Bool}{ts:List (Nat×I)} : ∀ {tsR:List (Nat×I)},oX ρ p ts tsR→∀ k,bC tsR k=.dx∨(bC ts k=(bC tsR k).bd (bB ρ)∧(bC tsR k).only p=true)
 | [],_,k=>.inl rfl
 |(j,v)::r,h,k=>by
  simp only[oX] at h;simp only[bC];split
  ·rename_i hk;subst hk;exact .inr ⟨h.1,h.2.1⟩
  ·exact HS h.2.2 k
section
variable {c:c4} {a:Act} {w:World} {D:aX} {E:bj}
theorem bg.zW{A:ai}(h:bg c A a w D E){n b:Nat}{o o':Obj}(hn:A.o n=some (.dI o))(ay:E n=some (.op b))(ho:rp o'=true):bg c (A.aZ n (.dI o')) a (w.putObj b o') D E:=by
 have hob:=h.bP n;rw[hn] at hob;obtain ⟨b',k1,k2,k3,k4,k5⟩:=hob;rw[ay] at k1;cases k1;have hnc:o.isCells=false:=by cases o <;>first | rfl | cases k4
 have hlt:b<w.heap.size:=gu k3;have hl:ec w D E (w.putObj b o') D E:=⟨fun _ _ h=>h,fun b1 o1 v _ hv=>xv k3 hnc hv,fun _ _ _ h=>h,fun _ aP l h=>⟨aP,l,h,zz9 _,fun _=>rfl⟩,fun _ _ h=>h,fun _ _ h=>h,fun b1 es ck ah hm=>(World.putObj_heap_other (fun e1=>k5 0 (by rw[←e1];exact ah))).trans hm⟩
 refine ⟨h.sz,h.eC.mono fun B _ hB=>(World.putObj_heap_other (fun e=>by rw[e,k3] at hB;cases hB;cases k4)).trans hB,fun t=>bl.later hl (h.dO t),h.dK.trans ⟨rfl,rfl,rfl,by simp,fun k hk=>World.putObj_heap_other (fun e=>hk (e▸k2))⟩,h.c6,
  fun b1 o1 ah=>by have:=h.aK b1 o1 ah;simpa using this,fun m =>?_,h.cQ,h.dR,h.eL,h.cT,h.eY,h.l3 hl⟩
 simp only[ai.aZ];by_cases hm:m=n
 ·subst hm;simp only[if_true,cS];exact ⟨b,ay,k2,World.putObj_heap_same hlt,ho,k5⟩
 ·simp only[if_neg hm];exact (h.bP m).later hl rfl fun e b1 he hb=>⟨World.putObj_heap_other (fun e1=>hm (h.cQ m n e _ b1 he ay hb (by rw[e1];rfl))),fun _ ho=>ho⟩
theorem bg.OT{A:ai}(h:bg c A a w D E){n b:Nat}(ay:E n=some (.op b)):bg c ⟨A.t,fun m=>if m=n then none else A.o m⟩ a w D (fun m=>if m=n then none else E m):=by
 have hne:∀ {m:Nat} {e:bO},E m=some e→(∀ b,e≠.op b)→m≠n:=fun he ab e'=>by
  subst e';rw[ay] at he;cases he;exact ab _ rfl
 have hl:ec w D E w D (fun m=>if m=n then none else E m):=by
  refine ⟨fun _ _ h=>h,fun _ _ _ _ h=>h,fun m b bh he =>?_,fun m aP l he=>⟨aP,l,?_,zz9 _,fun _=>rfl⟩,fun m b he =>?_,fun m b he =>?_,fun _ _ _ _ h=>h⟩
  ·simp only[if_neg (hne he (fun b=>by simp))];exact he
  ·simp only[if_neg (hne he (fun b=>by simp))];exact he
  ·simp only[if_neg (hne he (fun b=>by simp))];exact he
  ·simp only[if_neg (hne he (fun b=>by simp))];exact he
 refine ⟨h.sz,h.eC,fun t=>bl.later hl (h.dO t),h.dK,h.c6,h.aK,fun m =>?_,fun m m' e e' b U ab af ar =>?_,fun m e hm =>?_,h.eL,h.cT,h.eY,h.fA⟩
 ·by_cases hm:m=n
  ·simp only[hm,if_true,cS]
  ·simp only[if_neg hm];exact (h.bP m).later hl (by simp only[if_neg hm]) fun _ _ _ _=>⟨rfl,fun _ ho=>ho⟩
 ·split at U
  ·cases U
  ·split at ab
   ·cases ab
   ·exact h.cQ m m' e e' b U ab af ar
 ·by_cases hmn:m=n
  ·left;simp only[hmn,if_true]
  ·simp only[if_neg hmn];exact h.dR m e hm
theorem bg.enter{ts:List (Nat×I)}{os0:List (Nat×ak)}(h:bg c (au ts os0) a w D E)(hbase:c.fO=none)(hfree:aj os0 999999=none)(hE0:c.E0 999999=none){o:Obj}(ho:rp o=true) :
  ∃ E1,bg c (au ts ((999999,.dI o)::os0)) { a with defers := { target:=.collected w.heap.size,args := #[] } :: a.defers } ((w.alloc (.deferred (some []))).alloc o) D E1∧E1 999999=some (.op (w.heap.size+1))∧∀ xs vs,aO w D E xs vs→aO ((w.alloc (.deferred (some []))).alloc o) D E1 xs vs:=by
 have hb:Below w.heap.size w ((w.alloc (.deferred (some []))).alloc o):=((Below.refl _ w).alloc (zz9 _) _).alloc (by simp) _;have U:=h.grow (D':=D) hb (fun _ _ h=>h) (fun _ _ h _=>h) (fun b o' ah=>by have:=h.aK b o' ah;simp;omega);obtain ⟨W,hW⟩:∃ W,W=(w.alloc (.deferred (some []))).alloc o:=⟨_,rfl⟩
 have hL:W.heap[w.heap.size+1]?=some o:=by
  rw[hW];have:=World.alloc_heap_new (w.alloc (.deferred (some []))) o;rwa [World.size_alloc] at this
 have hK:W.heap[w.heap.size]?=some (.deferred (some [])):=by
  rw[hW];exact (Below.heap_alloc _ _ _ (by simp)).trans (World.alloc_heap_new w _)
 rw[←hW] at U hb ⊢;have hEn:E 999999=none:=by have:=h.bP 999999;simp only[au,hfree] at this;exact this
 have hl:ec W D E W D (fun m=>if m=999999 then some (.op (w.heap.size+1)) else E m):=by
  refine ⟨fun _ _ h=>h,fun _ _ _ _ h=>h,fun m b bh he =>?_,fun m aP l he=>⟨aP,l,?_,zz9 _,fun _=>rfl⟩,fun m b he =>?_,fun m b he =>?_,fun _ _ _ _ h=>h⟩
  all_goals
   have:m≠999999:=fun e=>by rw[e,hEn] at he;cases he
   simp only[if_neg this];exact he
 have hsz:c.eX.heap.size≤w.heap.size:=h.dK.size;have nb:∀ {m:Nat} {e:bO} {b:Nat},E m=some e→e.aP=some b→b<w.heap.size:=fun he hb'=>h.gN he hb';refine ⟨fun m=>if m=999999 then some (.op (w.heap.size+1)) else E m,⟨U.sz,?_,fun t=>bl.later hl (U.dO t),U.dK,U.c6,U.aK,fun m =>?_,fun m m' e e' b g1 g2 g3 g4 =>?_,fun m e hm =>?_,U.eL,U.cT,U.eY,U.fA⟩,by simp,fun xs vs hx=>aO.later hl xs vs (aO.later (ec.grow hb fun _ _ h=>h) xs vs hx)⟩
 ·have hdf:=U.eC;rw[hbase] at hdf ⊢;obtain ⟨Bs,k1,k2,k3⟩:=hdf;refine ⟨w.heap.size::Bs,by simp only[zz7];rw[←k1],List.nodup_cons.2 ⟨fun hin =>?_,k2⟩,fun B hB =>?_⟩
  ·have hdf':=h.eC;rw[hbase] at hdf';obtain ⟨Bs',j1,_,j3⟩:=hdf';have e1:Bs=Bs':=by
    have:Bs.map (fun B=>({ target:=.collected B,args := #[] } : Deferred))=Bs'.map (fun B => { target:=.collected B,args := #[] }):=by rw[←k1,←j1]
    exact (List.map_inj_right (fun x y hxy=>by simpa using hxy)).1 this
   rw[e1] at hin;have:=gu (j3 _ hin).2;omega
  ·rcases zw7.1 hB with rfl | hB
   ·exact ⟨hsz,hK⟩
   ·exact k3 B hB
 ·simp only[au,aj];by_cases hm:m=999999
  ·subst hm;simp only[if_true,cS];exact ⟨_,rfl,.inl (by omega),hL,ho,fun o' ah=>by have:=h.aK _ o' ah;omega⟩
  ·simp only[if_neg hm];exact (U.bP m).later hl (by simp only[if_neg hm]) fun _ _ _ _=>⟨rfl,fun _ ho=>ho⟩
 ·by_cases hm:m=999999 <;>by_cases hm':m'=999999
  ·rw[hm,hm']
  ·simp only[if_pos hm,u8] at g1;simp only[if_neg hm'] at g2;subst g1;simp only[bO.aP,u8] at g3;have:=nb g2 g4;omega
  ·simp only[if_neg hm] at g1;simp only[if_pos hm',u8] at g2;subst g2;simp only[bO.aP,u8] at g4;have:=nb g1 g3;omega
  ·simp only[if_neg hm] at g1;simp only[if_neg hm'] at g2;exact h.cQ m m' e e' b g1 g2 g3 g4
 ·have hmn:m≠999999:=fun e=>by rw[e,hE0] at hm;cases hm
  simp only[if_neg hmn];exact h.dR m e hm
theorem cS.kZ{M M':Nat→Prop}{n:Nat}{x:Option ak}(h:cS M w D E n x)(hM:∀ e b,E n=some e→e.aP=some b→M' b):cS M' w D E n x:=by
 unfold cS at *;split
 ·exact h
 ·obtain ⟨b,cs,T,U,_,af⟩:=h;exact ⟨b,cs,T,U,hM _ b U rfl,af⟩
 ·obtain ⟨aP,U,ab,af⟩:=h;refine ⟨aP,U,ab,?_⟩;split
  ·exact af
  ·obtain ⟨cs,pre,rest,_,ar⟩:=af;exact ⟨cs,pre,rest,hM _ _ U rfl,ar⟩
 ·obtain ⟨b,U,_,af⟩:=h;exact ⟨b,U,hM _ b U rfl,af⟩
 ·obtain ⟨b,es,ck,U,_,af⟩:=h;exact ⟨b,es,ck,U,hM _ b U rfl,af⟩
 ·obtain ⟨r,b,es,ck,si,se,la,U,_,af⟩:=h;exact ⟨r,b,es,ck,si,se,la,U,hM _ r U rfl,af⟩
 ·obtain ⟨aP,U,ab,af⟩:=h;refine ⟨aP,U,ab,?_⟩;split
  ·exact af
  ·obtain ⟨cs,m,_,ar⟩:=af;exact ⟨cs,m,hM _ _ U rfl,ar⟩
theorem bg.Gb{os:List (Nat×ak)} : ∀ (ps:List Nat) (vs:List Value) (xs:List I) (ts:List (Nat×I)) (a:Act),bg c (au ts os) a w D E→(∀ p∈ps,p<c.n)→aO w D E xs vs→ps.length=vs.length →
  bg c (au (vY ps xs ts) os) { a with tmps:=(ps.zip vs).foldl (fun t q=>t.setIfInBounds q.1 q.2) a.tmps } w D E
 | [],[],xs,ts,a,h,_,hv,_=>by
  cases xs with
  |nil=>exact h
  |cons x xs=>simp[aO] at hv
 | [],_::_,_,_,_,_,_,_,hl=>by simp at hl
 |_::_,[],_,_,_,_,_,_,hl=>by simp at hl
 |p::ps,v::vs,xs,ts,a,h,hp,hv,hl=>by
  cases xs with
  |nil=>simp[aO] at hv
  |cons x xs =>
   simp only[aO] at hv;obtain ⟨v',rest,cs,e,U,ab,af⟩:=hv;simp only[zv6] at e;obtain ⟨rfl,rfl⟩:=e;have ar:=h.put (hp p (by simp)) (ku U ab);rw[vz] at ar;have:=bg.Gb ps vs xs ((p,x)::ts) (a.put (some p) v) ar (fun q hq=>hp q (by simp[hq])) af (by simpa using hl);exact this
end
end Go.Abs
namespace Go.Abs
open Go Go.RowKit
def jN:bU→Bool
 | .mv _ | .pick .. | .bin .. | .eqv .. | .conv .. | .un .. | .fl .. | .ix .. | .lenT _ | .bld .. | .ext .. | .mk .. | .nilC _ | .ptrE .. | .max2 .. =>true
 | .ld .. | .fa .. | .ia .. | .is .. | .len _ | .va .. | .bs .. | .sl .. | .cap _ | .bs0 _ | .lk .. =>true
 |_=>false
def pU:bU→Bool
 | .alloc _ | .box _ | .bm .. | .call .. | .fQ .. | .dy .. =>true
 |op=>jN op
def rA(hs:List FuncId):bU→Bool
 | .alloc _ | .box _=>true
 | .call f _ => !hs.contains f
 |op=>jN op
abbrev ez:=List (Nat×List Nat)
def jf(aG:ez)(s:Nat):Option (List Nat):=(aG.find? fun q=>q.1==s).map (·.2)
def dC(aG:ez)(A:ai):Prop:=∀ s ns,jf aG s=some ns→(A.t s).only (fun n=>ns.contains n)=true
def sZ(aG:ez):aV→Option (List Nat)
 | .t s=>jf aG s
 | .c x=>if x.bG then some [] else none
def wA(a:Option (List Nat))(ns:List Nat):Bool:=match a with
 |some ms=>ms.all fun m=>ns.contains m
 |none=>false
def ji(aG:ez)(g:aw):Bool:=match g.dst with
 |none=>true
 |some d=>match jf aG d with
  |none=>true
  |some ns=>match g.op with
   | .mv x | .nilC x | .fa _ _ x | .ia _ _ x _=>wA (sZ aG x) ns
   | .bin .. | .len _ | .bs .. | .bs0 _ | .conv .. | .lenT _=>true
   | .box _ | .alloc _=>ns.contains d
   |_=>false
def oI:bU→Option (List Nat)
 | .ld _ (.t x) | .fa _ _ (.t x) | .ia _ _ (.t x) _ | .is _ (.t x) _ | .len (.t x) | .va _ _ (.t x) | .sl _ (.t x) _ _ _ | .cap (.t x) | .lk _ _ _ (.t x) _=>some [x]
 | .bs _ _ ps=>if (ps.all fun x=>match x with | .t _=>true | .c _=>false)=true then some (kJ ps) else none
 | .bs0 _=>some []
 |op=>if op.ir=0∧jN op=true then some [] else none
def uF(aG:ez)(g:aw)(p:Nat→Bool):Bool:=match oI g.op with
 |some xs=>xs.all fun s=>match jf aG s with | some ns=>ns.all p | none=>false
 |none=>false
def pX(hs:List FuncId)(aG:ez)(g h:aw):Bool:=rA hs h.op||match h.op with
 | .bm _ (.t y) _=>match oI g.op with
  |some []=>true
  |_=>match jf aG y with
   |some ms=>uF aG g fun n => !ms.contains n
   |none=>false
 | .bm .. =>match oI g.op with
  |some []=>true
  |_=>false
 | .dy _ _ _ _ s _=>uF aG g (fun _=>false)||wA (sZ aG s) []
 |_=>false
def oE(hs:List FuncId)(aG:ez)(g h:aw):Bool:=jN g.op&&(pX hs aG g h&&((match g.dst with
  |some d => !h.cY.contains d&&h.dst != some d
  |none=>true)&&(match h.dst with
  |some d => !g.cY.contains d
  |none=>true)))
theorem yd{op:bU}(h:jN op=true)(A:ai)(dst:Option Nat)(rest:List aw)(k:ai→cR):bt A dst op rest k=cX (bu A op) fun v=>k (A.a8 dst v):=by
 cases op <;>first | rfl | cases h
inductive cz (P:Program) (Y:Value→List I→List (Nat×ak)→cE→Prop) (hs:List FuncId) (K:ai→Prop):cR→Prop where
 |done {A:ai} : K A→cz P Y hs K (.done A)
 |flat {f:FuncId} {avs cargs:List I} {a2:Option (List I)} {dst:Option Nat} {rest:List aw} {A:ai} (r:I):bp P f cargs r→r.flat=true→cz P Y hs K (aC rest (A.a8 dst r))→cz P Y hs K (.call f avs (some cargs) a2 dst rest A)
 |lead {f:FuncId} {avs cargs:List I} {a1:Option (List I)} {dst:Option Nat} {rest:List aw} {A:ai} (r:I):bp P f cargs r→cz P Y hs K (aC rest (A.a8 dst r))→cz P Y hs K (.call f avs a1 (some cargs) dst rest A)
 |bP {f:FuncId} {avs:List I} {a1 a2:Option (List I)} {dst:Option Nat} {rest:List aw} {ts:List (Nat×I)} {os0:List (Nat×ak)} (ρ:List (Nat×Nat)) (cargs:List I) (post:cE):cU P f cargs [] post →
   hd ρ [] os0→iF false (au ts os0) ρ [] avs cargs→(∀ r os',post r os'→gJ false ρ [] os0 r os') →
   (∀ r os',post r os'→cz P Y hs K (aC rest ((au ts (dc ρ os'++os0)).a8 dst (r.bd (bB ρ)))))→cz P Y hs K (.call f avs a1 a2 dst rest (au ts os0))
 |any {p:Nat→Prop} {k:Nat→cR} : (∀ m,p m→cz P Y hs K (k m))→cz P Y hs K (.any p k)
 |y8 {f:FuncId} {avs:List I} {a1 a2:Option (List I)} {dst:Option Nat} {rest:List aw} {ts:List (Nat×I)} {os0:List (Nat×ak)} (aR:Bool) (ρ:List (Nat×Nat)) (os:List (Nat×ak)) (cargs:List I) (post:cE):hs.contains f=true→cU P f cargs os post →
   hd ρ os os0→iF aR (au ts (dY (jg ρ os) os0)) ρ os avs cargs→(∀ r os',post r os'→gJ aR ρ os os0 r os') →
   (∀ r os',post r os'→cz P Y hs K (aC rest ((au ts (dc ρ os'++os0)).a8 dst (r.bd (bB ρ)))))→cz P Y hs K (.call f avs a1 a2 dst rest (au ts os0))
 |Il {v:Value} {avs:List I} {dst:Option Nat} {rest:List aw} {ts:List (Nat×I)} {os0:List (Nat×ak)} (os:List (Nat×ak)) (cargs:List I) (post:cE):Y v cargs os post →
   hd [] os os0→iF false (au ts (dY (jg [] os) os0)) [] os avs cargs→(∀ r os',post r os'→gJ false [] os os0 r os') →
   (∀ r os',post r os'→cz P Y hs K (aC rest ((au ts (dc [] os'++os0)).a8 dst (r.bd (bB [])))))→cz P Y hs K (.mg v avs dst rest (au ts os0))
theorem CS(os:List (Nat×ak)):dY [] os=os:=by simp[dY]
section
variable {P:Program} {hs:List FuncId} {K:ai→Prop} {Y:Value→List I→List (Nat×ak)→cE→Prop}
theorem cz.AQ{p:Nat→Prop}{k:Nat→cR}(h:cz P Y hs K (.any p k)):∀ m,p m→cz P Y hs K (k m):=by cases h;assumption
theorem dC.put{aG:ez}{A B:ai}(h:dC aG A)(ht:∀ k,B.t k=A.t k){dst:Option Nat}{v:I}(hv:∀ d,dst=some d→∀ ns,jf aG d=some ns→v.only (fun n=>ns.contains n)=true):dC aG (B.a8 dst v):=by
 intro s ns hs';cases dst with
 |none=>exact (ht s).symm▸h s ns hs'
 |some d =>
  simp only[ai.a8,ai.put];by_cases ah:s=d
  ·rw[if_pos ah];exact hv d rfl ns (ah▸hs')
  ·rw[if_neg ah,ht];exact h s ns hs'
theorem tZ{aG:ez}{A:ai}(h:dC aG A){x:aV}{ns:List Nat}(hx:wA (sZ aG x) ns=true):(al A x).only (fun n=>ns.contains n)=true:=by
 cases x with
 |c x =>
  simp only[sZ] at hx;split at hx
  ·rename_i hc;exact lj _ x hc
  ·cases hx
 |t s =>
  simp only[sZ] at hx;cases hl:jf aG s with
  |none=>rw[hl] at hx;cases hx
  |some ms =>
   rw[hl] at hx;simp only[wA,zx6] at hx;exact jD (fun n hn=>hx n (by simpa using hn)) _ (h s ms hl)
theorem Kr{op:BinOp}{x y v:I}(p:Nat→Bool)(h:cF op x y=some v):v.only p=true:=by
 unfold cF at h
 (repeat' split at h) <;>first | (cases h;done) | (simp only[u8] at h;subst h;rfl)
theorem zf{p:Nat→Bool} : ∀ {xs:List I} {i:Nat} {x:I},I.bQ p xs=true→xs[i]?=some x→x.only p=true
 | [],_,_,_,h=>by simp at h
 |a::xs,0,x,h,e=>by
  simp only[I.bQ,zz1] at h;simp only[List.getElem?_cons_zero,u8] at e;exact e▸h.1
 |a::xs,i+1,x,h,e=>by
  simp only[I.bQ,zz1] at h;exact zf (xs:=xs) h.2 (by simpa using e)
theorem FG{aG:ez}{A:ai}{g:aw}(h:dC aG A)(hg:ji aG g=true){v:I}(hv:bu A g.op=some v):∀ d,g.dst=some d→∀ ns,jf aG d=some ns→v.only (fun n=>ns.contains n)=true:=by
 intro d ah ns hn;obtain ⟨dst,op,gd⟩:=g;simp only at ah hv;subst ah;simp only[ji,hn] at hg;cases op <;>simp only at hg <;>(try (cases hg;done)) <;>simp only[bu] at hv <;>(try (cases hv;done))
 case mv x=>simp only[u8] at hv;exact hv▸tZ h hg
 case nilC x =>
  have:=tZ h hg;generalize al A x=u at hv this;cases u <;>simp only[nv] at hv <;>first | (cases hv;done) | (simp only[u8] at hv;exact hv▸this)
 case bin op x y=>exact Kr _ hv
 case conv k x=>split at hv <;>first | (cases hv;done) | (simp only[u8] at hv;subst hv;rfl)
 case lenT x=>split at hv <;>first | (cases hv;done) | (simp only[u8] at hv;subst hv;rfl)
 case len x=>(repeat' split at hv) <;>first | (cases hv;done) | (simp only[u8] at hv;subst hv;rfl)
 case bs0 e=>simp only[u8] at hv;subst hv;rfl
 case bs e ps =>
  split at hv
  ·split at hv
   ·rename_i hc;simp only[u8] at hv;subst hv;simp only[I.only];exact mz _ _ hc.2
   ·cases hv
  ·cases hv
 case fa f off x =>
  have hx:=tZ h hg;split at hv
  ·rename_i fs he;rw[he] at hx;simp only[I.only] at hx;split at hv
   ·rename_i u hu;split at hv
    ·simp only[u8] at hv;subst hv;simp only[I.only];exact zf hx hu
    ·cases hv
   ·cases hv
  ·rename_i n q he;rw[he] at hx;simp only[I.only] at hx;split at hv
   ·split at hv
    ·simp only[u8] at hv;subst hv;simpa only[I.only] using hx
    ·cases hv
   ·cases hv
  ·cases hv
 case ia n esz x i =>
  have hx:=tZ h hg;split at hv
  case h_2=>cases hv
  split at hv
  case isFalse=>cases hv
  split at hv
  ·rename_i fs he;rw[he] at hx;simp only[I.only] at hx;split at hv
   ·simp only[zz0] at hv;obtain ⟨u,hu,rfl⟩:=hv;simp only[I.only];exact zf hx hu
   ·cases hv
  ·rename_i m q he;rw[he] at hx;simp only[I.only] at hx;split at hv
   ·split at hv
    ·simp only[u8] at hv;subst hv;simpa only[I.only] using hx
    ·cases hv
   ·cases hv
  ·cases hv
def h2(A:ai)(dst:Option Nat)(s:I)(B:ai):Prop:=(∀ t,dst≠some t→B.t t=A.t t)∧(s.only (fun _=>false)=true→eA A B)
def pj(A:ai)(dst:Option Nat)(s:I)(R:(ai→cR)→cR):Prop :=
 (∀ k,R k=.fail)∨(∃ B,(∀ k,R k=k B)∧h2 A dst s B)∨∃ (p:Nat→Prop) (aY:Nat→ai),(∀ k,R k=.any p fun m=>k (aY m))∧∀ m,h2 A dst s (aY m)
theorem tC{A B:ai}{dst:Option Nat}{v:I}{t:Nat}(ht:∀ k,B.t k=A.t k)(h:dst≠some t):(B.a8 dst v).t t=A.t t:=by
 cases dst with
 |none=>exact ht t
 |some d =>
  have:t≠d:=fun e=>h (by rw[e]);simp only[ai.a8,ai.put,if_neg this];exact ht t
theorem JV(A:ai)(dst:Option Nat)(esz bytes:Nat)(z s:I)(es ys:List I):pj A dst s (gK A dst esz bytes z es ys):=by
 cases dst with
 |none=>exact .inl fun _=>rfl
 |some d =>
  cases ho:A.o d with
  |some y=>exact .inl fun k=>by simp only[gK,ho]
  |none =>
   by_cases hc:(es.length+ys.length)*bytes≤140737488355328∧es.length+ys.length≤maxLen
   ·refine .inr (.inr ⟨_,fun m=>(A.aZ d (.box (.agg (es++(ys++List.replicate m z))))).a8 (some d) (.view d [] esz 0 (es.length+ys.length)),fun k=>by simp only[gK,ho];rw[if_pos hc],fun m=>⟨fun t ht=>tC (A:=A) (B:=A.aZ d _) (fun _=>rfl) ht,fun _ n y hy =>?_⟩⟩);have:n≠d:=fun e=>by rw[e,ho] at hy;cases hy
    rw[jm];simp only[ai.aZ,if_neg this];exact hy
   ·exact .inl fun k=>by simp only[gK,ho];rw[if_neg hc]
theorem J0(A:ai)(dst:Option Nat)(esz bytes:Nat)(z s:I)(es ys:Option (List I)):pj A dst s (fp A dst esz bytes z s es ys):=by
 cases es with
 |none=>exact .inl fun _=>rfl
 |some es =>
  cases ys with
  |none=>exact .inl fun _=>rfl
  |some ys =>
   by_cases bf:ys=[]
   ·exact .inr (.inl ⟨A.a8 dst s,fun k=>by simp only[fp,if_pos bf],fun t ht=>tC (A:=A) (fun _=>rfl) ht,fun _ n y hy=>by rw[jm];exact hy⟩)
   ·have gg:=fun s'=>JV A dst esz bytes z s' es ys;cases s
    case nils=>simp only[pj,fp,if_neg bf];exact gg _
    case c0=>simp only[pj,fp,if_neg bf];exact gg _
    case view n p sz lo l =>
     cases ho:A.o n with
     |none=>exact .inl fun k=>by simp only[fp,if_neg bf,ho]
     |some y =>
      cases y with
      |box b =>
       cases hb:b.at p with
       |none=>exact .inl fun k=>by simp only[fp,if_neg bf,ho,hb]
       |some c =>
        cases c
        case agg fs =>
         by_cases U:lo+l+ys.length≤fs.length
         ·by_cases ab:sz=esz∧I.cZ ys=I.cZ ((fs.drop (lo+l)).take ys.length)
          ·exact .inr (.inl ⟨(A.aZ n (.box (jL b p (lo+l) fs ys))).a8 dst (.view n p esz lo (l+ys.length)),fun k=>by simp only[fp,if_neg bf,ho,hb,if_pos U];rw[if_pos ab],fun t ht=>tC (A:=A) (B:=A.aZ n _) (fun _=>rfl) ht,fun h=>by simp[I.only] at h⟩)
          ·exact .inl fun k=>by simp only[fp,if_neg bf,ho,hb,if_pos U];rw[if_neg ab]
         ·simp only[pj,fp,if_neg bf,ho,hb,if_neg U];exact gg _
        all_goals exact .inl fun k=>by simp only[fp,if_neg bf,ho,hb]
      |_=>exact .inl fun k=>by simp only[fp,if_neg bf,ho]
    all_goals exact .inl fun k=>by simp only[fp,if_neg bf]
theorem AU(A:ai)(dst:Option Nat)(e esz bytes:Nat)(z:I)(s x:aV)(rest:List aw):pj A dst (al A s) (bt A dst (.dy e esz bytes z s x) rest):=by
 generalize hs:al A s=Ac;cases Ac
 case own n l =>
  cases hx:al A x
  case slice sz ys =>
   cases ho:A.o n with
   |none=>exact .inl fun k=>by simp only[bt,hs,hx,ho]
   |some y =>
    cases y with
    |bW T sz' es =>
     by_cases hc:za e esz bytes l sz ys T sz' es
     ·exact .inr (.inl ⟨(A.aZ n (.bW e esz (es++ys))).a8 dst (.own n (es.length+ys.length)),fun k=>by simp only[bt,hs,hx,ho];rw[if_pos hc],fun t ht=>tC (A:=A) (B:=A.aZ n _) (fun _=>rfl) ht,fun h=>by simp[I.only] at h⟩)
     ·exact .inl fun k=>by simp only[bt,hs,hx,ho];rw[if_neg hc]
    |dJ T xs =>
     by_cases hc:zb e esz bytes l ys T xs z
     ·exact .inr (.inl ⟨(A.aZ n (.dJ e (xs++sS ys))).a8 dst (.own n (xs.length+ys.length)),fun k=>by simp only[bt,hs,hx,ho];rw[if_pos hc],fun t ht=>tC (A:=A) (B:=A.aZ n _) (fun _=>rfl) ht,fun h=>by simp[I.only] at h⟩)
     ·exact .inl fun k=>by simp only[bt,hs,hx,ho];rw[if_neg hc]
    |_=>exact .inl fun k=>by simp only[bt,hs,hx,ho]
  all_goals exact .inl fun k=>by simp only[bt,hs,hx]
 all_goals (simp only[pj,bt,hs];exact J0 ..)
theorem zr{A:ai}{d:Nat}{v:I}{n:Nat}{y:ak}{dst:Option Nat}{u:I}(h:dst≠some d):((A.put d v).aZ n y).a8 dst u=((A.aZ n y).a8 dst u).put d v:=by
 cases dst with
 |none=>rfl
 |some e =>
  have:e≠d:=fun he=>h (by rw[he]);simp only[ai.a8,ai.put,ai.aZ,ai.mk.injEq,and_true]
  funext k
  by_cases U:k=e <;>by_cases ab:k=d <;>simp_all
theorem aa1{A:ai}{d:Nat}{v:I}{dst:Option Nat}{u:I}(h:dst≠some d):(A.put d v).a8 dst u=(A.a8 dst u).put d v:=by
 cases dst with
 |none=>rfl
 |some e =>
  have:e≠d:=fun he=>h (by rw[he]);simp only[ai.a8,ai.put,ai.mk.injEq,and_true]
  funext k
  by_cases U:k=e <;>by_cases ab:k=d <;>simp_all
theorem JW{A:ai}{d:Nat}{v:I}{dst:Option Nat}(h:dst≠some d)(esz bytes:Nat)(z:I)(es ys:List I)(k:ai→cR):gK (A.put d v) dst esz bytes z es ys k=gK A dst esz bytes z es ys fun B=>k (B.put d v):=by
 cases dst with
 |none=>rfl
 |some e =>
  simp only[gK];have:(A.put d v).o=A.o:=rfl;rw[this];cases A.o e with
  |some _=>rfl
  |none =>
   simp only;split
   ·simp only[zr h]
   ·rfl
theorem J1{A:ai}{d:Nat}{v:I}{dst:Option Nat}(h:dst≠some d)(esz bytes:Nat)(z s:I)(es ys:Option (List I))(k:ai→cR):fp (A.put d v) dst esz bytes z s es ys k=fp A dst esz bytes z s es ys fun B=>k (B.put d v):=by
 have ho:(A.put d v).o=A.o:=rfl;cases es with
 |none=>rfl
 |some es =>
  cases ys with
  |none=>rfl
  |some ys =>
   simp only[fp];split
   ·rw[aa1 h]
   ·cases s <;>simp only[JW h,ho]
    rename_i n p sz lo l;cases A.o n with
    |none=>rfl
    |some y =>
     cases y with
     |box b =>
      simp only;cases b.at p with
      |none=>rfl
      |some c =>
       cases c <;>simp only[zr h]
     |_=>rfl
theorem J4{A:ai}{d:Nat}{v:I}{dst:Option Nat}(h:dst≠some d){e esz bytes:Nat}{z:I}{s x:aV}(hag:ej A (A.put d v) (s.sl++x.sl))(rest rest':List aw)(k:ai→cR) :
  bt (A.put d v) dst (.dy e esz bytes z s x) rest k=bt A dst (.dy e esz bytes z s x) rest' fun B=>k (B.put d v):=by
 have ho:(A.put d v).o=A.o:=rfl;have hsrc:∀ y,eI (A.put d v) esz y=eI A esz y:=fun y=>by cases y <;>rfl
 simp only[bt,df hag.l,df hag.r,hsrc];cases al A s <;>simp only[J1 h]
 rename_i n l;cases al A x <;>simp only[ho]
 cases A.o n with
 |none=>rfl
 |some y=>cases y <;>simp only[zr h]
theorem cz.Cl{aG:ez}{f:FuncId}{avs:List I}{a1 a2:Option (List I)}{dst:Option Nat}{rest:List aw}{A:ai}(hi:dC aG A)(ah:∀ d,dst=some d→jf aG d=none)(h:cz P Y hs K (.call f avs a1 a2 dst rest A)) :
  aW P Y false (fun B=>cz P Y hs K (aC rest B)∧dC aG B) (.call f avs a1 a2 dst [] A):=by
 have no:∀ {v:I},∀ d,dst=some d→∀ ns,jf aG d=some ns→v.only (fun n=>ns.contains n)=true:=fun d e ns hn=>by rw[ah d e] at hn;cases hn
 cases h with
 |flat r hc hf hw=>exact .flat r hc hf (.done ⟨hw,hi.put (fun _=>rfl) no⟩)
 |lead r hc hw=>exact .lead r hc (.done ⟨hw,hi.put (fun _=>rfl) no⟩)
 |bP ρ cargs post hc hg ha hb hw=>exact .bP false ρ [] cargs post rfl hc hg (by simp only[jg,zx8,CS];exact ha) hb fun r os' hp=>.done ⟨hw r os' hp,hi.put (B:=au _ (dc ρ os'++_)) (fun _=>rfl) no⟩
 |y8 aR ρ os cargs post _ hc hg ha hb hw=>exact .bP aR ρ os cargs post rfl hc hg ha hb fun r os' hp=>.done ⟨hw r os' hp,hi.put (B:=au _ (dc ρ os'++_)) (fun _=>rfl) no⟩
theorem cz.LD{aG:ez}{v:Value}{avs:List I}{dst:Option Nat}{rest:List aw}{A:ai}(hi:dC aG A)(ah:∀ d,dst=some d→jf aG d=none)(h:cz P Y hs K (.mg v avs dst rest A)) :
  aW P Y false (fun B=>cz P Y hs K (aC rest B)∧dC aG B) (.mg v avs dst [] A):=by
 have no:∀ {v:I},∀ d,dst=some d→∀ ns,jf aG d=some ns→v.only (fun n=>ns.contains n)=true:=fun d e ns hn=>by rw[ah d e] at hn;cases hn
 cases h with
 |Il os cargs post hc hg ha hb hw=>exact .wJ os cargs post rfl hc hg ha hb fun r os' hp=>.done ⟨hw r os' hp,hi.put (B:=au _ (dc [] os'++_)) (fun _=>rfl) no⟩
theorem cz.one{aG:ez}{A:ai}{g:aw}{rest:List aw}(hi:dC aG A)(ho:pU g.op=true)(hL:ji aG g=true)(h:cz P Y hs K (bt A g.dst g.op rest (aC rest))):aW P Y false (fun B=>cz P Y hs K (aC rest B)∧dC aG B) (bt A g.dst g.op [] (aC [])):=by
 have hval:=fun v (hv:bu A g.op=some v)=>FG hi hL hv;obtain ⟨dst,op,gd⟩:=g;simp only at ho h hval ⊢;have pure:jN op=true→aW P Y false (fun B=>cz P Y hs K (aC rest B)∧dC aG B) (bt A dst op [] (aC [])):=by
  intro hsm;rw[yd hsm] at h ⊢;cases hv:bu A op with
  |none=>rw[hv] at h;cases h
  |some v=>rw[hv] at h;exact .done ⟨h,hi.put (fun _=>rfl) (hval v hv)⟩
 have unl:(∀ ns d,dst=some d→jf aG d=some ns→ji aG ⟨dst,op,gd⟩=false)→∀ d,dst=some d→jf aG d=none:=fun U d ah=>by
  cases hn:jf aG d with
  |none=>rfl
  |some ns=>rw[U ns d ah hn] at hL;cases hL
 cases op with
 |alloc z =>
  cases dst with
  |none=>simp only[bt] at h;cases h
  |some d =>
   simp only[bt] at h ⊢;split at h
   case h_2=>cases h
   refine .done ⟨h,hi.put (B:=A.aZ d _) (dst:=some d) (fun _=>rfl) fun d' e ns hn =>?_⟩;simp only[u8] at e;subst e;simpa only[ji,hn,I.only] using hL
 |box x =>
  cases dst with
  |none=>simp only[bt] at h;cases h
  |some d =>
   simp only[bt] at h ⊢;split at h
   case h_2=>cases h
   split at h
   case isFalse=>cases h
   rename_i hv;rw[if_pos hv];refine .done ⟨h,hi.put (B:=A.aZ d _) (dst:=some d) (fun _=>rfl) fun d' e ns hn =>?_⟩;simp only[u8] at e;subst e;simpa only[ji,hn,I.only] using hL
 |bm s x v =>
  cases dst with
  |some d=>simp only[bt] at h;cases h
  |none =>
   simp only[bt] at h ⊢;split at h
   case h_2=>cases h
   rename_i n p hx;split at h
   case h_2=>cases h
   rename_i b hb;split at h
   case h_2=>cases h
   rename_i old hold;split at h
   case isFalse=>cases h
   rename_i hok;simp only[if_pos hok];exact .done ⟨h,fun s ns hn=>hi s ns hn⟩
 |call f args=>exact cz.Cl hi (unl fun ns d e hn=>by subst e;simp only[ji,hn]) h
 |fQ x args =>
  have hu:=unl fun ns d e hn=>by subst e;simp only[ji,hn]
  simp only[bt] at h ⊢;split at h
  ·exact cz.Cl hi hu h
  ·exact cz.LD hi hu h
  ·cases h
 |dy e esz bytes z s x =>
  have hu:=unl fun ns d e hn=>by subst e;simp only[ji,hn]
  have vj:∀ B,h2 A dst (al A s) B→dC aG B:=fun B hB t ns hn=>by
   rw[hB.1 t fun e=>by rw[hu t e] at hn;cases hn];exact hi t ns hn
  have hf:=AU A dst e esz bytes z s x;rcases hf rest with U | ⟨B,U,ab⟩ | ⟨p,aY,U,ab⟩
  ·rw[U] at h;cases h
  ·rw[U] at h;have:bt A dst (.dy e esz bytes z s x) [] (aC [])=aC [] B:=(show bt A dst (.dy e esz bytes z s x) [] (aC [])=bt A dst (.dy e esz bytes z s x) rest (aC []) from rfl).trans (U _);rw[this];exact .done ⟨h,vj B ab⟩
  ·rw[U] at h;have:bt A dst (.dy e esz bytes z s x) [] (aC [])=.any p fun m=>aC [] (aY m):=(show bt A dst (.dy e esz bytes z s x) [] (aC [])=bt A dst (.dy e esz bytes z s x) rest (aC []) from rfl).trans (U _);rw[this];exact .any rfl fun m hm=>.done ⟨h.AQ m hm,vj _ (ab m)⟩
 |_=>first | exact pure rfl | cases ho
def h3(g:aw)(A:ai)(v:I):Prop:=(ig A g∧v=.undef)∨(pass A g∧bu A g.op=some v)
theorem cz.zY{A:ai}{g:aw}{rest:List aw}(hs':jN g.op=true)(h:cz P Y hs K (aC (g::rest) A)):∃ v,h3 g A v∧cz P Y hs K (aC rest (A.a8 g.dst v)):=by
 have step:pass A g→cz P Y hs K (bt A g.dst g.op rest (aC rest))→∃ v,h3 g A v∧cz P Y hs K (aC rest (A.a8 g.dst v)):=by
  intro hp h;rw[yd hs'] at h;cases hv:bu A g.op with
  |none=>rw[hv] at h;cases h
  |some v=>rw[hv] at h;exact ⟨v,.inr ⟨hp,hv⟩,h⟩
 simp only[aC] at h;split at h
 ·rename_i hg;exact step (by simp only[pass,hg]) h
 ·rename_i t b hg;split at h
  ·rename_i b' hb;split at h
   ·rename_i hbb;subst hbb;exact step (by simp only[pass,hg];exact hb) h
   ·rename_i hbb;exact ⟨_,.inl ⟨by simp only[ig,hg];exact .inl (by rw[hb,xb hbb]),rfl⟩,h⟩
  ·rename_i hb;exact ⟨_,.inl ⟨by simp only[ig,hg];exact .inr hb,rfl⟩,h⟩
  ·cases h
theorem uE{A:ai}{g:aw}{rest:List aw}(hn:ig A g):aC (g::rest) A=aC rest (A.a8 g.dst .undef):=by
 simp only[aC];cases hg:g.guard with
 |none=>simp only[ig,hg] at hn
 |some tb =>
  obtain ⟨t,b⟩:=tb;simp only[ig,hg] at hn;rcases hn with hn | hn
  ·simp only[hn];rw[if_neg (by cases b <;>simp)]
  ·simp only[hn]
theorem h3.to{A:ai}{g:aw}{rest:List aw}{v:I}(hs':jN g.op=true)(h:h3 g A v):aC (g::rest) A=aC rest (A.a8 g.dst v):=by
 rcases h with ⟨hn,rfl⟩ | ⟨hp,hv⟩
 ·exact uE hn
 ·rw[px hp,yd hs',hv];rfl
theorem Ow{A A':ai}{p:Nat→Bool}(ho:∀ n,p n=true→A'.o n=A.o n){x:I}(hx:x.only p=true):cM A' x=cM A x:=by
 cases x <;>simp only[cM]
 rename_i n q;rw[ho n (by simpa[I.only] using hx)]
mutual
theorem Pz{A A':ai}{p:Nat→Bool}(ho:∀ n,p n=true→A'.o n=A.o n):∀ {x:I},x.only p=true→br false A' x=br false A x
 | .own n k,h=>by simp only[br];rw[ho n (by simpa[I.only] using h)]
 | .func f caps,h=>by simp only[br];rw[u9 ho (xs:=caps) (by simpa[I.only] using h)]
 | .agg fs,h=>by simp only[br];rw[u9 ho (xs:=fs) (by simpa[I.only] using h)]
 | .undef,_ | .dx,_ | .bool _,_ | .int _ _,_ | .bT _,_ | .nilp,_ | .dE,_ | .ed,_ | .any,_ | .raw _,_ | .nils _,_ | .c0 _,_ | .slice _ _,_ | .tuple _,_ | .ref _,_ | .iface _ _,_ | .ptr _ _,_ | .view _ _ _ _ _,_ | .mref _,_ | .dv _,_ | .dp _ _,_=>by simp[br]
theorem u9{A A':ai}{p:Nat→Bool}(ho:∀ n,p n=true→A'.o n=A.o n):∀ {xs:List I},I.bQ p xs=true→bZ false A' xs=bZ false A xs
 | [],_=>rfl
 |x::xs,h=>by
  simp only[I.bQ,zz1] at h;simp only[bZ,Pz ho h.1,u9 ho h.2]
end
theorem FL{p:Nat→Bool}{f:aV→I} : ∀ {xs:List aV},(∀ x∈xs,(f x).only p=true)→I.bQ p (xs.map f)=true
 | [],_=>rfl
 |x::xs,h=>by
  simp only[zz7,I.bQ,zz1];exact ⟨h x (by simp),FL fun y hy=>h y (by simp[hy])⟩
theorem Ze{A A':ai}{p:Nat→Bool}(ho:∀ n,p n=true→A'.o n=A.o n){x:I}(hx:x.only p=true):gS A' x=gS A x:=by
 cases x with
 |mref n=>simp only[gS];rw[ho n (by simpa[I.only] using hx)]
 |raw v=>cases v <;>first | rfl | (rename_i o;cases o <;>rfl)
 |_=>rfl
theorem aaR{A A':ai}{op:bU}{xs:List Nat}{p:Nat→Bool}(hm:oI op=some xs)(h:ej A A' op.cY)(hx:∀ s∈xs,(A.t s).only p=true)(ho:∀ n,p n=true→A'.o n=A.o n):bu A' op=bu A op:=by
 have jv:op.ir=0→bu A' op=bu A op:=fun hc=>zq hc h;have dl:=fun {x:I} (hx:x.only p=true)=>Ow ho hx;unfold oI at hm;split at hm
 ·rename_i s x;simp only[u8] at hm;subst hm;have e:=h x (by simp[bU.cY,aV.sl]);simp only[bu,al,e,dl (hx x (by simp))]
 ·rename_i f off x;simp only[u8] at hm;subst hm;have e:=h x (by simp[bU.cY,aV.sl]);have k:=hx x (by simp);simp only[bu,al,e];generalize A.t x=u at k ⊢;cases u with
  |ptr n q=>simp only[dl (x:=.ptr n q) k]
  |ref c=>cases c <;>rfl
  |_=>rfl
 ·rename_i n esz x i;simp only[u8] at hm;subst hm;have e:=h x (by simp[bU.cY,aV.sl]);have ei:=df (x:=i) (fun m hm=>h m (by simp[bU.cY,hm]));have k:=hx x (by simp);simp only[bu,ei];generalize al A i=w;simp only[al,e];generalize A.t x=u at k ⊢;cases u with
  |ptr n q=>simp only[dl (x:=.ptr n q) k]
  |ref c=>cases c <;>rfl
  |_=>rfl
 ·rename_i esz x i;simp only[u8] at hm;subst hm;have e:=h x (by simp[bU.cY,aV.sl]);have ei:=df (x:=i) (fun m hm=>h m (by simp[bU.cY,hm]));have k:=hx x (by simp);simp only[bu,ei];generalize al A i=w;simp only[al,e];generalize A.t x=u at k ⊢;cases u with
  |own n l=>simp only[ho n (by simpa[I.only] using k)]
  |view n q=>simp only[dl (x:=.ptr n q) (by simpa[I.only] using k)]
  |_=>rfl
 ·rename_i x;simp only[u8] at hm;subst hm;have e:=h x (by simp[bU.cY,aV.sl]);have k:=hx x (by simp);simp only[bu,al,e];generalize A.t x=u at k ⊢;cases u with
  |own n l=>simp only[ho n (by simpa[I.only] using k)]
  |_=>rfl
 ·rename_i n esz x;simp only[u8] at hm;subst hm;have e:=h x (by simp[bU.cY,aV.sl]);have k:=hx x (by simp);simp only[bu,al,e];generalize A.t x=u at k ⊢;cases u with
  |ptr n q=>simp only[dl (x:=.ptr n q) k]
  |ref c=>cases c <;>rfl
  |_=>rfl
 ·rename_i esz x lo hi mx;simp only[u8] at hm;subst hm;have e:=h x (by simp[bU.cY,aV.sl]);have e1:=re (x:=lo) (fun m hm=>h m (by simp[bU.cY,hm]));have e2:=re (x:=hi) (fun m hm=>h m (by simp[bU.cY,hm]));have e3:=re (x:=mx) (fun m hm=>h m (by simp[bU.cY,hm]));have k:=hx x (by simp);simp only[bu,e1,e2,e3];generalize lo.map (al A)=w1;generalize hi.map (al A)=w2;generalize mx.map (al A)=w3;simp only[al,e];generalize A.t x=u at k ⊢;cases u with
  |view n q=>simp only[dl (x:=.ptr n q) (by simpa[I.only] using k)]
  |_=>rfl
 ·rename_i x;simp only[u8] at hm;subst hm;have e:=h x (by simp[bU.cY,aV.sl]);have k:=hx x (by simp);simp only[bu,al,e];generalize A.t x=u at k ⊢;cases u with
  |view n q=>simp only[dl (x:=.ptr n q) (by simpa[I.only] using k)]
  |_=>rfl
 ·rename_i ty z ok x kk;simp only[u8] at hm;subst hm;have e:=h x (by simp[bU.cY,aV.sl]);have ek:=df (x:=kk) (fun m hm=>h m (by simp[bU.cY,hm]));have k:=hx x (by simp);simp only[bu,ek];generalize al A kk=w;simp only[al,e,Ze ho k]
 ·rename_i esz ps;split at hm
  case isFalse=>cases hm
  rename_i hall;simp only[u8] at hm;subst hm;have hev:ps.map (al A')=ps.map (al A):=ni h;have hon:I.bQ p (ps.map (al A))=true:=FL fun x hx'=>by
   have U:=zx6.1 hall x hx';cases x with
   |c _=>cases U
   |t s=>exact hx s (by simp only[kJ,List.mem_flatMap];exact ⟨_,hx',by simp[aV.sl]⟩)
  simp only[bu,hev,u9 ho hon]
 ·rfl
 ·split at hm
  ·rename_i hc;exact jv hc.1
  ·cases hm
theorem AR{aG:ez}{A:ai}{g:aw}{p:Nat→Bool}(hi:dC aG A)(h:uF aG g p=true):∃ xs,oI g.op=some xs∧∀ s∈xs,(A.t s).only p=true:=by
 unfold uF at h;split at h
 case h_2=>cases h
 rename_i xs hm;refine ⟨xs,hm,fun s hs' =>?_⟩;have U:=zx6.1 h s hs';split at U
 case h_2=>cases U
 rename_i ns hn;exact jD (fun n ab=>zx6.1 U n (by simpa using ab)) _ (hi s ns hn)
theorem h3.yG{A A':ai}{g:aw}{v:I}{xs:List Nat}{p:Nat→Bool}(h:h3 g A v)(hm:oI g.op=some xs)(ha:ej A A' g.cY)(hx:∀ s∈xs,(A.t s).only p=true)(ho:∀ n,p n=true→A'.o n=A.o n):h3 g A' v:=by
 rcases h with ⟨h,rfl⟩ | ⟨h,k⟩
 ·exact .inl ⟨rH ha h,rfl⟩
 ·exact .inr ⟨oK ha h,by rw[aaR hm (aw.ln ha) hx ho];exact k⟩
theorem h3.vj{aG:ez}{A:ai}{g:aw}{v:I}(hi:dC aG A)(hg:ji aG g=true)(h:h3 g A v):dC aG (A.a8 g.dst v):=by
 rcases h with ⟨_,rfl⟩ | ⟨_,k⟩
 ·exact hi.put (fun _=>rfl) fun _ _ _ _=>rfl
 ·exact hi.put (fun _=>rfl) (FG hi hg k)
theorem h3.cT{A A':ai}{g:aw}{v:I}(h:h3 g A v)(hu:eA A A')(ha:ej A A' g.cY):h3 g A' v:=by
 rcases h with ⟨h,rfl⟩ | ⟨h,k⟩
 ·exact .inl ⟨rH ha h,rfl⟩
 ·exact .inr ⟨oK ha h,F9 hu (aw.ln ha) k⟩
theorem Ew{aG:ez}{g h:aw}(hi:oE hs aG g h=true):jN g.op=true∧pX hs aG g h=true∧(∀ d,g.dst=some d→d∉h.cY)∧(∀ d,g.dst=some d→h.dst≠some d)∧(∀ d,h.dst=some d→d∉g.cY):=by
 simp only[oE,zz1] at hi;obtain ⟨U,ab,af,ar⟩:=hi;refine ⟨U,ab,fun d ah =>?_,fun d ah =>?_,fun d ah =>?_⟩
 ·rw[ah] at af;simp at af;exact af.1
 ·rw[ah] at af;simp at af;exact af.2
 ·rw[ah] at ar;simpa using ar
theorem AV{aR:Bool}{A A':ai}{ρ:List (Nat×Nat)}{os:List (Nat×ak)}(hu:eA A A'):∀ {xs cs:List I},iF aR A ρ os xs cs→iF aR A' ρ os xs cs
 | [],[],_=>trivial
 |x::xs,c::cs,h=>⟨h.1.imp id fun h=>Di hu h,AV hu h.2⟩
 | [],_::_,h=>h.elim
 |_::_,[],h=>h.elim
theorem Zq{A:ai}{d:Option Nat}{v:I}{ts:List (Nat×I)}{os:List (Nat×ak)}(h:A.a8 d v=au ts os):∃ ts2,A=au ts2 os∧∀ X:List (Nat×ak),(au ts2 X).a8 d v=au ts X:=by
 cases d with
 |none=>exact ⟨ts,h,fun _=>rfl⟩
 |some d =>
  have ht:∀ k,(A.a8 (some d) v).t k=bC ts k:=fun k=>by rw[h];rfl
  have ho:A.o=aj os:=by
   have:(A.a8 (some d) v).o=aj os:=by rw[h];rfl
   rwa [jm] at this
  refine ⟨(d,A.t d)::ts,?_,fun X =>?_⟩
  ·cases A with
   |mk t o =>
    simp only[au,ai.mk.injEq];refine ⟨funext fun k =>?_,ho⟩;have:=ht k;simp only[ai.a8,ai.put] at this;simp only[bC];by_cases hk:k=d
    ·subst hk;simp
    ·rw[if_neg hk] at this;have hk':¬ d=k:=fun e=>hk e.symm;simp only[hk,if_false];exact this
  ·simp only[ai.a8,ai.put,au,ai.mk.injEq,and_true]
   funext k
   have:=ht k;simp only[ai.a8,ai.put] at this;by_cases hk:k=d
   ·subst hk;simp at this ⊢;exact this
   ·have hk':¬ d=k:=fun e=>hk e.symm;simp only[bC,hk,if_false]
theorem aaQ{ρ:List (Nat×Nat)}{os0 os':List (Nat×ak)}{r:I}(hb:gJ false ρ [] os0 r os'){n:Nat}{x:ak}(hx:aj os0 n=some x):aj (dc ρ os'++os0) n=some x:=by
 rw[rD];cases hp:pre ρ os' n with
 |none=>exact hx
 |some m =>
  obtain ⟨U,ab⟩:=jG hp;have:=(hb.kA m U (by simp[av,aj])).1;rw[ab,hx] at this;cases this
theorem cz.LB{A B:ai}{j:aw}{v:I}{f:FuncId}{args:List aV}{dst:Option Nat}{rest:List aw}(hj:jN j.op=true)(hv:h3 j A v)(hB:B=A.a8 j.dst v)(hf:hs.contains f=false)(hag:ej A B (kJ args))(ah:∀ d,j.dst=some d→dst≠some d)(hr:∀ d,dst=some d→d∉j.cY)
  (h:cz P Y hs K (.call f (args.map (al B)) (bZ true B (args.map (al B))) (bZ false B (args.map (al B))) dst rest B)):cz P Y hs K (.call f (args.map (al A)) (bZ true A (args.map (al A))) (bZ false A (args.map (al A))) dst (j::rest) A):=by
 have eo:B.o=A.o:=by rw[hB,jm]
 have cT:eA B A:=fun n x hx=>by rwa [←eo]
 have up':eA A B:=fun n x hx=>by rwa [eo]
 have eav:args.map (al B)=args.map (al A):=ni hag;rw[eav] at h;have cont:∀ r:I,cz P Y hs K (aC rest (B.a8 dst r))→cz P Y hs K (aC (j::rest) (A.a8 dst r)):=fun r hw=>by
  have U:h3 j (A.a8 dst r) v:=hv.cT (fun n x hx=>by rwa [jm]) (nC hr);rw[U.to hj,rM (fun d hd'=>fun e=>ah d e hd'),←hB];exact hw
 generalize e1:bZ true B (args.map (al A))=a1 at h;generalize e2:bZ false B (args.map (al A))=a2 at h;generalize hBm:B=B0 at h;cases h with
 |flat r hc hfl hw =>
  subst hBm;rw[mr cT e1];exact .flat r hc hfl (cont r hw)
 |lead r hc hw =>
  subst hBm;rw[mr cT e2];exact .lead r hc (cont r hw)
 |bP ρ cargs post hc hg ha hb hw =>
  rename_i ts os0;rw[hB] at hBm;obtain ⟨ts2,hA,hts⟩:=Zq hBm;have hA':=hA;clear cont;subst hA;refine .bP ρ cargs post hc hg (AV (A:=au ts os0) (A':=au ts2 os0) (fun n x hx=>hx) ha) hb fun r os' hp =>?_;have U:h3 j ((au ts2 (dc ρ os'++os0)).a8 dst (r.bd (bB ρ))) v:=hv.cT (fun n x hx=>by
   rw[jm];exact aaQ (hb r os' hp) hx) (fun k hk=>by
    have:=nC (A:=au ts2 (dc ρ os'++os0)) (v:=r.bd (bB ρ)) hr k hk;rw[this];rfl)
  rw[U.to hj,rM (fun d hd'=>fun e=>ah d e hd'),hts];exact hw r os' hp
 |y8 aR ρ os cargs post hfs =>
  rw[hf] at hfs;cases hfs
theorem cz.ub{aG:ez}{A:ai}{j g:aw}{rest:List aw}(hinv:dC aG A)(hi:oE hs aG j g=true)(hw:cz P Y hs K (aC (j::g::rest) A)):cz P Y hs K (aC (g::j::rest) A):=by
 obtain ⟨hj,hl,i1,i2,i3⟩:=Ew hi;obtain ⟨v,hv,hw⟩:=cz.zY hj hw;have ag:ej (A.a8 j.dst v) A g.cY:=(nC i1).symm;have ag':ej A (A.a8 j.dst v) g.cY:=nC i1;have cT:eA (A.a8 j.dst v) A:=fun n x hx=>by rwa [jm] at hx
 have up':∀ (d:Option Nat) (u:I),eA A (A.a8 d u):=fun d u n x hx=>by rwa [jm]
 by_cases hsg:jN g.op=true
 ·obtain ⟨u,hu,hw⟩:=cz.zY hsg hw;rw[(hu.cT cT ag).to hsg,(hv.cT (up' _ _) (nC i3)).to hj,←rM i2];exact hw
 ·-- the guard
  have guard:(ig (A.a8 j.dst v) g∧aC (g::rest) (A.a8 j.dst v)=aC rest ((A.a8 j.dst v).a8 g.dst .undef))∨(pass (A.a8 j.dst v) g∧aC (g::rest) (A.a8 j.dst v)=bt (A.a8 j.dst v) g.dst g.op rest (aC rest))∨aC (g::rest) (A.a8 j.dst v)=.fail:=by
   cases hg:g.guard with
   |none=>exact .inr (.inl ⟨by simp only[pass,hg],by simp only[aC,hg]⟩)
   |some tb =>
    obtain ⟨t,b⟩:=tb;cases ht:(A.a8 j.dst v).t t with
    |bool b' =>
     by_cases hbb:b'=b
     ·subst hbb;have hp:pass (A.a8 j.dst v) g:=by simp only[pass,hg,ht]
      exact .inr (.inl ⟨hp,px hp⟩)
     ·have hn:ig (A.a8 j.dst v) g:=by simp only[ig,hg];exact .inl (by rw[ht,xb hbb])
      exact .inl ⟨hn,uE hn⟩
    |undef =>
     have hn:ig (A.a8 j.dst v) g:=by simp only[ig,hg];exact .inr ht
     exact .inl ⟨hn,uE hn⟩
    |_=>exact .inr (.inr (by simp only[aC,hg,ht]))
  rcases guard with ⟨hn,he⟩ | ⟨hp,he⟩ | he
  ·rw[he] at hw;rw[uE (rH ag hn),(hv.cT (up' _ _) (nC i3)).to hj,←rM i2];exact hw
  ·rw[he] at hw;rw[px (oK ag hp)];obtain ⟨dst,op,gd⟩:=g;simp only at hw hsg i2 i3 ⊢;cases op with
   |alloc z =>
    cases dst with
    |none=>simp only[bt] at hw;cases hw
    |some d =>
    simp only[bt] at hw ⊢;split at hw
    case h_2=>cases hw
    rename_i ho;rw[jm] at ho;simp only[ho];have U:h3 j ((A.aZ d (.box z)).put d (.ptr d [])) v:=hv.cT (fun n y hy=>by
     have:n≠d:=fun he=>by rw[he,ho] at hy;cases hy
     simp only[ai.put,ai.aZ,this,if_false];exact hy) (fun k hk=>by
     have:k≠d:=fun he=>i3 d rfl (he▸hk);simp only[ai.put,ai.aZ,this,if_false])
    rw[U.to hj];have e:((A.a8 j.dst v).aZ d (.box z)).put d (.ptr d [])=((A.aZ d (.box z)).put d (.ptr d [])).a8 j.dst v:=by
     cases hgd:j.dst with
     |none=>rfl
     |some e =>
      have hne:e≠d:=fun he=>i2 e hgd (by rw[he]);simp only[ai.a8,ai.put,ai.aZ,ai.mk.injEq,and_true]
      funext k
      by_cases U:k=e <;>by_cases ab:k=d <;>simp_all
    rw[←e];exact hw
   |box x =>
    have ex:al (A.a8 j.dst v) x=al A x:=df (aw.ln ag');cases dst with
    |none=>simp only[bt] at hw;cases hw
    |some d =>
    simp only[bt] at hw ⊢;split at hw
    case h_2=>cases hw
    rename_i ho;rw[jm] at ho;simp only[ho];rw[ex] at hw;split at hw
    case isFalse=>cases hw
    rename_i hval;rw[if_pos hval];have U:h3 j ((A.aZ d (.box (al A x))).put d (.ptr d [])) v:=hv.cT (fun n y hy=>by
     have:n≠d:=fun he=>by rw[he,ho] at hy;cases hy
     simp only[ai.put,ai.aZ,this,if_false];exact hy) (fun k hk=>by
     have:k≠d:=fun he=>i3 d rfl (he▸hk);simp only[ai.put,ai.aZ,this,if_false])
    rw[U.to hj];have e:((A.a8 j.dst v).aZ d (.box (al A x))).put d (.ptr d [])=((A.aZ d (.box (al A x))).put d (.ptr d [])).a8 j.dst v:=by
     cases hgd:j.dst with
     |none=>rfl
     |some e =>
      have hne:e≠d:=fun he=>i2 e hgd (by rw[he]);simp only[ai.a8,ai.put,ai.aZ,ai.mk.injEq,and_true]
      funext k
      by_cases U:k=e <;>by_cases ab:k=d <;>simp_all
    rw[←e];exact hw
   |call f args =>
    simp only[bt] at hw ⊢;refine cz.LB hj hv rfl (by simpa[pX,rA] using hl) (aw.ln ag') i2 i3 hw
   |bm s y u =>
    cases dst with
    |some d=>simp only[bt] at hw;cases hw
    |none =>
    have ey:al (A.a8 j.dst v) y=al A y:=df (aw.ln ag').l;have eu:al (A.a8 j.dst v) u=al A u:=df (aw.ln ag').r;simp only[bt] at hw ⊢;rw[ey,eu,jm] at hw;cases hx:al A y <;>simp only[hx] at hw ⊢ <;>try (cases hw;done)
    rename_i n q;cases ho:A.o n with
    |none=>rw[ho] at hw;cases hw
    |some ob =>
    rw[ho] at hw;cases ob <;>simp only at hw ⊢ <;>try (cases hw;done)
    rename_i b;cases hb:b.at q with
    |none=>rw[hb] at hw;cases hw
    |some old =>
    rw[hb] at hw;simp only at hw ⊢;split at hw
    case isFalse=>cases hw
    rename_i hok;rw[if_pos hok];have U:h3 j (A.aZ n (.box (b.eF q (al A u)))) v:=by
     have none0:oI j.op=some []→h3 j (A.aZ n (.box (b.eF q (al A u)))) v:=fun hm=>hv.yG (p:=fun _=>false) hm (fun _ _=>rfl) (fun s hs'=>by cases hs') (fun m hm=>by cases hm);cases y with
     |c y =>
      simp only[pX,rA,jN,Bool.false_or] at hl;split at hl
      ·rename_i hm;exact none0 hm
      ·cases hl
     |t y =>
      simp only[pX,rA,jN,Bool.false_or] at hl;split at hl
      ·rename_i hm;exact none0 hm
      ·split at hl
       case h_2=>cases hl
       rename_i ms hms;obtain ⟨xs,hm,hx2⟩:=AR hinv hl;refine hv.yG hm (fun _ _=>rfl) hx2 fun m hm2 =>?_;have hn:=hinv y ms hms;simp only[al] at hx;rw[hx] at hn;have:m≠n:=fun e=>by subst e;simp[I.only] at hn hm2;exact hm2 hn
       simp only[ai.aZ,if_neg this]
    rw[U.to hj];have e:(A.a8 j.dst v).aZ n (.box (b.eF q (al A u)))=(A.aZ n (.box (b.eF q (al A u)))).a8 j.dst v:=by cases j.dst <;>rfl
    rw[←e];exact hw
   |dy e esz bytes z s x =>
    have hag:ej A (A.a8 j.dst v) (s.sl++x.sl):=aw.ln ag';have he2:bt (A.a8 j.dst v) dst (.dy e esz bytes z s x) rest (aC rest)=bt A dst (.dy e esz bytes z s x) (j::rest) fun B=>aC rest (B.a8 j.dst v):=by
     cases hjd:j.dst with
     |none=>rfl
     |some d =>
      rw[hjd] at hag;exact J4 (fun e=>i2 d hjd e) hag rest (j::rest) (aC rest)
    rw[he2] at hw;have gi:∀ B,h2 A dst (al A s) B→aC (j::rest) B=aC rest (B.a8 j.dst v):=fun B hB=>by
     have hagB:ej A B j.cY:=fun k hk=>hB.1 k fun e=>i3 k e hk;have:h3 j B v:=by
      simp only[pX,rA,jN,Bool.false_or,Bool.or_eq_true] at hl;rcases hl with hl | hl
      ·obtain ⟨xs,hm,hx2⟩:=AR hinv hl;exact hv.yG hm hagB hx2 fun m hm2=>by cases hm2
      ·have:=tZ hinv hl;exact hv.cT (hB.2 (by simpa using this)) hagB
     rw[this.to hj]
    rcases AU A dst e esz bytes z s x (j::rest) with U | ⟨B,U,ab⟩ | ⟨p,aY,U,ab⟩
    ·rw[U] at hw;cases hw
    ·rw[U] at hw ⊢;rw[gi B ab];exact hw
    ·rw[U] at hw ⊢;exact .any fun m hm=>by rw[gi _ (ab m)];exact hw.AQ m hm
   |_=>first | exact absurd rfl hsg | (simp[pX,rA,jN] at hl)
  ·rw[he] at hw;cases hw
theorem cz.qS{aG:ez}{g:aw} : ∀ {l:List aw} {r:List aw} {A:ai},dC aG A→(∀ j∈l,oE hs aG j g=true∧ji aG j=true)→cz P Y hs K (aC (l++g::r) A)→cz P Y hs K (aC (g::(l++r)) A)
 | [],r,A,_,_,h=>h
 |j::l,r,A,hinv,hi,h=>by
  have hj:=(Ew (hi j (by simp)).1).1;obtain ⟨v,hv,ab⟩:=cz.zY (g:=j) (rest:=l++g::r) hj h;have af:=cz.qS (l:=l) (r:=r) (hv.vj hinv (hi j (by simp)).2) (fun k hk=>hi k (by simp[hk])) ab;refine cz.ub hinv (hi j (by simp)).1 ?_;rw[hv.to hj];exact af
end
def tk:List Nat→Bool
 | []=>true
 |a::l => !l.contains a&&tk l
def r7(hs:List FuncId)(aG:ez)(gs:List aw)(cl:List Nat):List Nat→List Nat→Bool
 |_,[]=>true
 |before,i::σ=>(before.all fun j=>(cl.getD i 0).testBit j||oE hs aG (gs.getD j default) (gs.getD i default))&&r7 hs aG gs cl (i::before) σ
def vR(hs:List FuncId)(aG:ez)(on:List (List Nat))(gs:List aw)(cl:List Nat)(σ:List Nat):Bool :=
 (Nat.beq σ.length gs.length&&(tk σ&&(σ.all (fun i=>decide (i<gs.length))&&((List.range gs.length).all (fun i=>σ.contains i)&&gs.all fun g=>pU g.op&&ji aG g))))&&(r7 hs aG gs cl [] σ&&(List.range gs.length).all fun i=>(on.getD i []).all (fun k=>decide (k<i))&&Nat.beq (cl.getD i 0) (mR cl (on.getD i [])))
theorem yZ:∀ {l:List Nat},tk l=true→l.Nodup
 | [],_=>List.nodup_nil
 |a::l,h=>by
  simp only[tk,zz1,Bool.not_eq_true',List.contains_eq_mem,decide_eq_false_iff_not] at h;exact List.nodup_cons.2 ⟨h.1,yZ h.2⟩
theorem wY{hs:List FuncId}{aG:ez}{gs:List aw}{cl:List Nat} : ∀ {σ before:List Nat},r7 hs aG gs cl before σ=true→∀ s1 i s2,σ=s1++i::s2→∀ j,j∈before∨j∈s1→(cl.getD i 0).testBit j=true∨oE hs aG (gs.getD j default) (gs.getD i default)=true
 | [],_,_,s1,i,s2,e,_,_=>by cases s1 <;>cases e
 |a::σ,before,h,s1,i,s2,e,j,hj=>by
  simp only[r7,zz1,zx6,Bool.or_eq_true] at h;cases s1 with
  |nil =>
   simp only[zy5,zv6] at e;obtain ⟨rfl,rfl⟩:=e;rcases hj with hj | hj
   ·exact h.1 j hj
   ·cases hj
  |cons b s1 =>
   simp only[zz3,zv6] at e;obtain ⟨rfl,rfl⟩:=e;refine wY h.2 s1 i s2 rfl j ?_;rcases hj with hj | hj
   ·exact .inl (List.mem_cons_of_mem _ hj)
   ·rcases zw7.1 hj with hj | hj
    ·exact .inl (by rw[hj];exact List.mem_cons_self)
    ·exact .inr hj
def gm(σ:List Nat)(listed:Array Bool):List Nat:=σ.filter fun i => !listed.getD i true
def kD(gs:List aw)(σ:List Nat)(listed:Array Bool):List aw:=(gm σ listed).map fun i=>gs.getD i default
theorem Hl{σ:List Nat}{listed:Array Bool}{i:Nat}(hn:σ.Nodup)(hi:i∈σ)(hl:i<listed.size)(hu:listed.getD i true=false):∃ s1 s2,σ=s1++i::s2∧gm σ listed=(s1.filter fun j => !listed.getD j true)++i::(s2.filter fun j => !listed.getD j true) ∧
  gm σ (listed.setIfInBounds i true)=(s1.filter fun j => !listed.getD j true)++(s2.filter fun j => !listed.getD j true):=by
 obtain ⟨s1,s2,rfl⟩:=List.append_of_mem hi;have same:∀ j,j≠i→(listed.setIfInBounds i true).getD j true=listed.getD j true:=fun j hj=>getD_set_ne true (Ne.symm hj);have hit:(listed.setIfInBounds i true).getD i true=true:=by simp[hl]
 have hnd:=zv8.1 hn;have U:∀ j∈s1,j≠i:=fun j hj=>hnd.2.2 j hj i List.mem_cons_self;have ab:∀ j∈s2,j≠i:=fun j hj e=>(List.nodup_cons.1 hnd.2.1).1 (e▸hj);refine ⟨s1,s2,rfl,?_,?_⟩
 ·simp only[gm,List.filter_append,zw0,hu,Bool.not_false,if_true]
 ·simp only[gm,List.filter_append,zw0,hit,Bool.not_true,zz5,if_false]
  congr 1
  ·exact List.filter_congr fun j hj=>by rw[same j (U j hj)]
  ·exact List.filter_congr fun j hj=>by rw[same j (ab j hj)]
structure AB (hs:List FuncId) (aG:ez) (l:List Oper) (gs:List aw) (σ:List Nat):Prop where
 tl:σ.Nodup
 lt:∀ i∈σ,i<gs.length
 all:∀ i,i<gs.length→i∈σ
 ok:∀ g∈gs,pU g.op=true∧ji aG g=true
 len:σ.length=gs.length
 gL:∀ i o,l[i]?=some o→∀ k∈cC o,k<i
 sR:∀ (S:Nat→Prop),(∀ i o,l[i]?=some o→S i→∀ k∈cC o,S k)→∀ s1 i s2 o,σ=s1++i::s2→l[i]?=some o→(∀ k∈cC o,S k)→∀ j∈s1,¬ S j→oE hs aG (gs.getD j default) (gs.getD i default)=true
theorem aaG{hs:List FuncId}{aG:ez}{l:List Oper}{gs:List aw}{cl σ:List Nat}(hlen:gs.length=l.length)(h:vR hs aG (l.map cC) gs cl σ=true):AB hs aG l gs σ:=by
 simp only[vR,zz1,zx6,decide_eq_true_eq,zy9,List.contains_eq_mem] at h;obtain ⟨⟨U,ab,af,ar,h5⟩,h6,h7⟩:=h;have gp:∀ i o,l[i]?=some o→(∀ k∈cC o,k<i)∧(∀ j,(cl.getD i 0).testBit j=true→j∈cC o∨∃ k∈cC o,(cl.getD k 0).testBit j=true):=by
  intro i o ho;have hi:i<l.length:=(zy0.1 ho).1;have h8:=h7 i (by omega);have hon:(l.map cC).getD i []=cC o:=by simp[zz2,ho]
  rw[hon] at h8;have hb:=Nat.eq_of_beq_eq_true h8.2;exact ⟨h8.1,fun j hj=>uf (by rw[←hb];exact hj)⟩
 refine ⟨yZ ab,af,ar,h5,Nat.eq_of_beq_eq_true U,fun i o ho=>(gp i o ho).1,?_⟩;intro S hS s1 i s2 o e ho hon j hj hnj;have key:∀ n i o,i≤n→l[i]?=some o→(∀ k∈cC o,S k)→∀ j,(cl.getD i 0).testBit j=true→S j:=by
  intro n
  induction n with
  |zero =>
   intro i o hi ho hon j hj;obtain ⟨h8,h9⟩:=gp i o ho;rcases h9 j hj with h | ⟨k,hk,_⟩
   ·exact hon j h
   ·have:=h8 k hk;omega
  |succ n ih =>
   intro i o hi ho hon j hj;obtain ⟨h8,h9⟩:=gp i o ho;rcases h9 j hj with h | ⟨k,hk,hjk⟩
   ·exact hon j h
   ·have hki:=h8 k hk;have hkl:k<l.length:=Nat.lt_trans hki (zy0.1 ho).1;obtain ⟨ok,hok⟩:∃ ok,l[k]?=some ok:=⟨l[k],zx3 hkl⟩
    exact ih k ok (by omega) hok (hS k ok hok (hon k hk)) j hjk
 rcases wY h6 s1 i s2 e j (.inr hj) with h | h
 ·exact absurd (key i i o (zz9 _) ho hon j h) hnj
 ·exact h
section
variable {c:c4}
theorem Ec{K:ai→Prop}{hs:List FuncId}{aG:ez}{bo:Array Oper}{Q:Exit→Act→World→Prop}{o:Oper}{g:aw}{rest:List aw}{A:ai}{a:Act}{w:World}{Kw:Act→World→Prop}(hg:nd c.P c.n bo o=some g)(hi:dC aG A)(ho:pU g.op=true∧ji aG g=true)(hwp:cz c.P c.Y hs K (aC (g::rest) A))(hs':cd c A a w)
  (hK:∀ B a' w',cz c.P c.Y hs K (aC rest B)→dC aG B→cd c B a' w'→Kw a' w'):if Region.wanted o (yielded bo a.tmps) then o.wpIn c.aY 9 c.P a w Kw Q else (∀ f,o.about c.P w a.eval=some f→c.aY.fn f)∧Kw (a.put o.dst undef) w:=by
 obtain ⟨U,ab,af,ar⟩:=pA hg;have step:cz c.P c.Y hs K (bt A g.dst g.op rest (aC rest))→o.wpIn c.aY 9 c.P a w Kw Q:=fun h =>
  vb U ab.symm (by rw[ab];exact af) (cz.one (Y:=c.Y) hi ho.1 ho.2 h) hs' (fun B a' w' hw hs2=>by
   cases hw with
   |done hk=>exact hK B a' w' hk.1 hk.2 hs2)
 simp only[aC] at hwp;rcases ar with ⟨h5,h6⟩ | ⟨j,b,t,h5,h6,h7⟩
 ·rw[h6] at hwp;have hw:Region.wanted o (yielded bo a.tmps)=true:=by simp[Region.wanted,h5]
  rw[hw,if_pos rfl];exact step hwp
 ·rw[h7] at hwp;simp only at hwp;split at hwp
  ·rename_i b' hb';rw[vg hs' h5 h6 hb'];split at hwp
   ·rename_i hbb;subst hbb;simp only[BEq.rfl,if_true];exact step hwp
   ·rename_i hbb;have:(b'==b)=false:=by simpa using hbb
    rw[this];simp only[zz5,if_false];exact ⟨fun f _=>nk c f,hK _ _ _ hwp (hi.put (fun _=>rfl) fun _ _ _ _=>rfl) (by rw[ab];exact hs'.oP af)⟩
  ·rename_i hb';rw[vh hs' h5 h6 hb'];simp only[zz5,if_false];exact ⟨fun f _=>nk c f,hK _ _ _ hwp (hi.put (fun _=>rfl) fun _ _ _ _=>rfl) (by rw[ab];exact hs'.oP af)⟩
  ·cases hwp
theorem JT{K:ai→Prop}{fs:List FuncId}{aG:ez}{bo:Array Oper}{gs:List aw}{σ:List Nat}{Q:Exit→Act→World→Prop}(hQ:∀ B a w,K B→cd c B a w→Q .normal a w)(hgs:gO c.P c.n bo bo.toList=some gs)(ah:AB fs aG bo.toList gs σ) :
  ∀ (fuel:Nat) (listed:Array Bool) (A:ai) (a:Act) (w:World),listed.size=bo.size→(∀ i o,bo.toList[i]?=some o→listed.getD i false=true→∀ k∈cC o,listed.getD k false=true)→(gm σ listed).length≤fuel →
   dC aG A→cz c.P c.Y fs K (aC (kD gs σ listed) A)→cd c A a w→wpAnyIn c.aY 9 c.P .any bo Q fuel listed a w:=by
 obtain ⟨hlen,hat⟩:=lH hgs;have onOf_mem:∀ (o:Oper) (e:Edge),e∈o.after→Region.binds .any e=true→e.on∈cC o:=fun o e he hb=>by
  simp only[cC,zy7,zx5];exact ⟨e,⟨by simpa using he,hb⟩,rfl⟩
 have of_onOf:∀ (o:Oper) (k:Nat),k∈cC o→∃ e∈o.after,Region.binds .any e=true∧e.on=k:=fun o k hk=>by
  simp only[cC,zy7,zx5] at hk;obtain ⟨e,⟨U,ab⟩,af⟩:=hk;exact ⟨e,by simpa using U,ab,af⟩
 have hgl:gs.length=bo.size:=by rw[hlen,zw4]
 have last:∀ (listed:Array Bool) (A:ai) (a:Act) (w:World),listed.size=bo.size→Region.ready .any bo listed=[]→cz c.P c.Y fs K (aC (kD gs σ listed) A)→cd c A a w→Q .normal a w:=by
  intro listed A a w hsz hr hwp hs;have hnone:gm σ listed=[]:=by
   have all:∀ n,∀ i,i<n→i<bo.size→listed.getD i true=true:=by
    intro n
    induction n with
    |zero=>intro i hi;omega
    |succ n ih =>
     intro i hi his;cases hb:listed.getD i true with
     |true=>rfl
     |false =>
      exfalso
      have ho:bo[i]?=some bo[i]:=Array.getElem?_eq_getElem his;have:i∈Region.ready .any bo listed:=mem_ready.2 ⟨hb,bo[i],ho,fun e he hbd=>by
       have hlt:=ah.gL i bo[i] (by simp) e.on (onOf_mem _ e he hbd);have U:=ih e.on (by omega) (by omega);have ab:e.on<listed.size:=by omega
       simpa[Array.getD_eq_getD_getElem?,ab] using U⟩
      rw[hr] at this;cases this
   simp only[gm];refine List.filter_eq_nil_iff.2 fun i hi =>?_;have:=all (i+1) i (by omega) (by rw[←hgl];exact ah.lt i hi);simp only[this,Bool.not_true,zz5,not_false_eq_true]
  simp only[kD,hnone,zx8,aC] at hwp;cases hwp with
  |done hk=>exact hQ A a w hk hs
 intro fuel
 induction fuel with
 |zero =>
  intro listed A a w hsz hcl hcnt hinv hwp hs;have hnone:gm σ listed=[]:=List.length_eq_zero_iff.1 (by omega);have hr:Region.ready .any bo listed=[]:=by
   refine List.eq_nil_iff_forall_not_mem.2 fun i hi =>?_;obtain ⟨U,o,ho,_⟩:=mem_ready.1 hi;have:i∈gm σ listed:=by
    simp only[gm,zx5,U,Bool.not_false,and_true];exact ah.all i (by rw[hgl];exact (zx1.1 ho).1)
   rw[hnone] at this;cases this
  exact ⟨hr,last listed A a w hsz hr hwp hs⟩
 |succ fuel ih =>
  intro listed A a w hsz hcl hcnt hinv hwp hs;refine ⟨fun hr=>last listed A a w hsz hr hwp hs,fun i hi =>?_⟩;obtain ⟨hun,o,ho,hall⟩:=mem_ready.1 hi;have hin:i<bo.size:=(zx1.1 ho).1;obtain ⟨s1,s2,hσ,e1,e2⟩:=Hl ah.tl (ah.all i (by omega)) (by omega) hun;have hol:bo.toList[i]?=some o:=by simpa using ho
  obtain ⟨g,hgi,hcg⟩:=hat i o hol;have hon:∀ k∈cC o,listed.getD k false=true:=fun k hk=>by
   obtain ⟨e,U,ab,af⟩:=of_onOf o k hk;exact af▸hall e U ab
  have hgd:gs.getD i default=g:=by simp[zz2,hgi]
  have hwp':cz c.P c.Y fs K (aC (g::kD gs σ (listed.setIfInBounds i true)) A):=by
   simp only[kD,e1,zx2,zz7,hgd] at hwp;simp only[kD,e2,zx2];refine cz.qS hinv (fun j hj =>?_) hwp;obtain ⟨k,hk,rfl⟩:=zy7.1 hj;obtain ⟨hk1,hk2⟩:=zx5.1 hk;have:=ah.sR (fun k=>listed.getD k false=true) hcl s1 i s2 o hσ hol hon k hk1 (by
    have hks:k<listed.size:=by
     have:=ah.lt k (by rw[hσ];exact zv7 _ hk1);omega
    simp[Array.getD_eq_getD_getElem?,hks] at hk2 ⊢;exact hk2)
   rw[hgd] at this;refine ⟨this,(ah.ok _ ?_).2⟩;have hkl:=ah.lt k (by rw[hσ];exact zv7 _ hk1);rw[zz2,zx3 hkl];exact zw9 _
  unfold wpOpIn;rw[ho];refine Ec hcg hinv (ah.ok g (List.mem_of_getElem? hgi)) hwp' hs fun B a' w' hw hiB hs'=>ih _ B a' w' (by simpa using hsz) ?_ ?_ hiB hw hs'
  ·intro m om hom hm k hk;by_cases hmi:m=i
   ·subst hmi;rw[hol,u8] at hom;subst hom;exact getD_set_true (hon k hk)
   ·rw[getD_set_ne false (Ne.symm hmi)] at hm;exact getD_set_true (hcl m om hom hm k hk)
  ·have:(gm σ listed).length=(gm σ (listed.setIfInBounds i true)).length+1:=by
    rw[e1,e2];simp;omega
   omega
def hZ(σ:List Nat)(gs:List aw):List aw:=σ.map fun i=>gs.getD i default
theorem ae.abc{Q:Exit→ai→Prop}{A:ai}{on:List (List Nat)}{gs:List aw}(hs:List FuncId)(aG:ez)(cl σ:List Nat)(ah:vR hs aG on gs cl σ=true)(hi:dC aG A)(h:∀ K:ai→Prop,(∀ B,Q .normal B→K B)→cz c.P c.Y hs K (aC (hZ σ gs) A)):ae c (.cj (some on) gs) Q A:=by
 intro code hc a w hs';cases code <;>simp only[eJ] at hc <;>try (first | (cases hc;done) | ((repeat' split at hc) <;>cases hc;done))
 rename_i id bo draw;split at hc
 ·rename_i gs' hgs;split at hc
  case isFalse=>cases hc
  rename_i hok;simp only[u8,bH.cj.injEq] at hc;obtain ⟨he,rfl⟩:=hc;cases draw with
  |false=>cases he
  |true =>
   simp only[cond_true,u8] at he;subst he;simp only[Bool.not_true,Bool.false_or] at hok;have hp:=aaG (lH hgs).1 ah;refine wpIn_region_any hok (JT (K:=Q .normal) (fun B a w hk hs=>⟨B,hk,hs⟩) hgs hp bo.size (Array.replicate bo.size false) A a _ (by simp) ?_ ?_ hi ?_ ?_)
   ·intro i o _ h
    exfalso
    simp only[Array.getD_eq_getD_getElem?,Array.getElem?_replicate] at h;split at h <;>simp at h
   ·refine zv9 (List.length_filter_le _ _) ?_;rw[hp.len,(lH hgs).1,zw4];exact zz9 _
   ·have hall:gm σ (Array.replicate bo.size false)=σ:=by
     simp only[gm];refine List.filter_eq_self.2 fun i hi =>?_;have U:=hp.lt i hi;rw[(lH hgs).1,zw4] at U;simp[U]
    simp only[kD,hall];exact h _ fun _ hb=>hb
   ·obtain ⟨D,E,hs'⟩:=hs';exact ⟨D,E,hs'.grow (w' := { w with drawn:=w.drawn+1 }) ⟨rfl,rfl,rfl,zz9 _,fun _ _=>rfl⟩ (fun _ _ h=>h) (fun _ _ h _=>h) (fun b o h=>hs'.aK b o h)⟩
 ·cases hc
def hU(ts:List (Nat×I)):ez→Prop
 | []=>True
 |(s,ns)::aG=>(bC ts s).only (fun n=>ns.contains n)=true∧hU ts aG
theorem dC.of{ts:List (Nat×I)}{os:List (Nat×ak)}{aG:ez}(h:hU ts aG):dC aG (au ts os):=by
 intro s ns hn;simp only[au]
 induction aG with
 |nil=>cases hn
 |cons q aG ih =>
  obtain ⟨s',ns'⟩:=q;simp only[hU] at h;simp only[jf,List.find?_cons] at hn;split at hn
  ·rename_i e;simp only[zy6,u8] at hn;simp only[beq_iff_eq] at e;subst e hn;exact h.1
  ·exact ih h.2 hn
end
end Go.Abs
namespace Go.Abs
open Go Go.RowKit
open Enc (enc)
section
variable {α:Type} [Enc α] {P:Program} {Y:Value→List I→List (Nat×ak)→cE→Prop} {K:ai→Prop} {A:ai} {rest:List aw} {esz bytes:Nat}
theorem tX{n lo k:Nat}{xs:List α}(ho:A.o n=some (.box (.agg (xs.map enc))))(h:lo+k≤xs.length):eI A esz (.view n [] esz lo k)=some (((xs.drop lo).take k).map enc):=by
 have U:cM A (.ptr n [])=some (.agg (xs.map enc)):=by simp only[cM,ho];rfl
 simp only[eI,U,zz8];rw[if_pos ⟨h,trivial⟩,List.map_take,List.map_drop]
theorem abP{xs ys:List α}(h:xs.length=ys.length):I.cZ (xs.map enc)=I.cZ (ys.map enc):=by
 rw[tV,tV,h]
theorem AT{d:Option Nat}{e:Nat}(z:I)(hs:Enc.sz α=esz){n l:Nat}{xs ys:List α}(hy:ys≠[])(ho:A.o n=some (.box (.agg (xs.map enc))))(hr:l+ys.length≤xs.length) :
  fG A d e esz bytes z (enc ys) rest (.view n [] esz 0 l)=aC rest ((A.aZ n (.box (.agg ((xs.take l++(ys++xs.drop (l+ys.length))).map enc)))).a8 d (.view n [] esz 0 (l+ys.length))):=by
 have U:=tX (A:=A) (esz:=esz) (lo:=0) (k:=l) ho (by omega);have ab:(I.agg (xs.map (enc (α:=α)))).at []=some (.agg (xs.map enc)):=rfl;have af:I.cZ (ys.map (enc (α:=α)))=I.cZ (((xs.map (enc (α:=α))).drop l).take ys.length):=by
  rw[←List.map_drop,←List.map_take];exact abP (by rw[zx9,List.length_drop];omega)
 simp only[fG,U,mL A esz ys hs,fp];rw[if_neg (by simpa using hy)];simp only[ho,ab,zz8,zz4];rw[if_pos hr,if_pos ⟨rfl,by rw[zz8,zz4];exact af⟩];simp only[jL,rT,zz8,zx2,List.map_take,List.map_drop]
theorem aW.JX{d e:Nat}(z:α)(hs:Enc.sz α=esz){n l:Nat}{xs ys:List α}(hy:ys≠[])(ho:A.o n=some (.box (.agg (xs.map enc))))(hl:l≤xs.length)(hr:xs.length<l+ys.length)(hf:A.o d=none)(hb:(l+ys.length)*bytes≤140737488355328)(hml:l+ys.length≤maxLen)
  (h:∀ q,aW P Y false K (aC rest ((A.aZ d (.box (.agg ((xs.take l++(ys++List.replicate q z)).map enc)))).a8 (some d) (.view d [] esz 0 (l+ys.length))))):aW P Y false K (fG A (some d) e esz bytes (enc z) (enc ys) rest (.view n [] esz 0 l)):=by
 have U:=tX (A:=A) (esz:=esz) (lo:=0) (k:=l) ho (by omega);have ab:(I.agg (xs.map (enc (α:=α)))).at []=some (.agg (xs.map enc)):=rfl;have ar:(xs.take l).length=l:=by rw[zx9];omega
 simp only[fG,U,List.drop_zero,mL A esz ys hs,fp];rw[if_neg (by simpa using hy)];simp only[ho,ab,zz8,zz4];rw[if_neg (by omega)];simp only[gK,hf,zz8,ar];rw[if_pos ⟨hb,hml⟩];refine .any rfl fun q _ =>?_;have:=h q;simp only[zx2,List.map_replicate] at this;exact this
theorem aW.JZ{d e q0:Nat}(z:α){l:List α}(hs:Enc.sz α=esz)(hl:l≠[])(hf:A.o d=none)(hb:l.length*bytes≤140737488355328)(hml:l.length≤maxLen)
  (h:∀ m,aW P Y false K (aC rest ((A.aZ d (.box (.agg ((l++List.replicate m z).map enc)))).a8 (some d) (.view d [] esz 0 l.length)))):aW P Y false K (fG A (some d) e esz bytes (enc z) (enc l) rest (.nils q0)):=by
 have hne:l.map (enc (α:=α))≠[]:=by simpa using hl
 have U:eI A esz (.nils q0)=some []:=rfl;simp only[fG,U,mL A esz l hs,fp,if_neg hne,gK,hf,List.length_nil,zz4,zz8,if_pos (y6 hb hml),zy5];refine .any rfl fun m _ =>?_;have:=h m;simp only[zx2,List.map_replicate] at this;exact this
end
theorem acP(k:Nat):bC [] k=.dx:=rfl
def iN(aG:List Nat):List (Nat×I)→List (Nat×I)
 | []=>[]
 |(s,v)::ts=>if aG.contains s=true then (s,v)::iN aG ts else iN aG ts
theorem YM(aG:List Nat):iN aG []=[]:=rfl
theorem YL(aG:List Nat)(s:Nat)(v:I)(ts:List (Nat×I)):iN aG ((s,v)::ts)=if aG.contains s=true then (s,v)::iN aG ts else iN aG ts:=rfl
theorem Fc(aG:List Nat)(t:Nat):∀ ts,bC (iN aG ts) t=.dx∨bC (iN aG ts) t=bC ts t
 | []=>.inl rfl
 |(s,v)::ts=>by
  simp only[iN];have ih:=Fc aG t ts;by_cases hs:aG.contains s=true
  ·rw[if_pos hs];simp only[bC];split
   ·exact .inr rfl
   ·exact ih
  ·rw[if_neg hs];simp only[bC];split
   ·rename_i e;subst e
    left
    have:∀ ts,bC (iN aG ts) t=.dx:=by
     intro ts
     induction ts with
     |nil=>rfl
     |cons q ts ih2 =>
      obtain ⟨s',v'⟩:=q;simp only[iN];split
      ·rename_i h';simp only[bC];have:t≠s':=fun e=>hs (e▸h');rw[if_neg this];exact ih2
      ·exact ih2
    exact this ts
   ·exact ih
theorem ae.eD(aG:List Nat){c:c4}{x:bH}{Q:Exit→ai→Prop}{ts:List (Nat×I)}{os:List (Nat×ak)}(h:ae c x Q (au (iN aG ts) os)):ae c x Q (au ts os):=by
 refine ae.sub ?_ h;rintro cc a w ⟨D,E,hs⟩;refine ⟨D,E,hs.sz,hs.eC,fun t =>?_,hs.dK,hs.c6,hs.aK,hs.bP,hs.cQ,hs.dR,hs.eL,hs.cT,hs.eY,hs.fA⟩;simp only[au];rcases Fc aG t ts with e | e
 ·rw[e];simp[bl]
 ·rw[e];exact hs.dO t
theorem EO:(∀ aG,iN aG []=[])∧(∀ aG s v ts,iN aG ((s,v)::ts)=if aG.contains s=true then (s,v)::iN aG ts else iN aG ts)∧(∀ (a:Nat) l b,(a::l).contains b=(b==a||l.contains b))∧(∀ b:Nat,([]:List Nat).contains b=false)∧(∀ b,(false||b)=b)∧(∀ b,(true||b)=true)∧(∀ b,(b||true)=true)∧(∀ b,(b||false)=b)∧((false=true)=False) :=
 ⟨YM,YL,fun _ _ _=>List.contains_cons,fun _=>rfl,fun _=>rfl,fun _=>rfl,fun b=>by cases b <;>rfl,fun b=>by cases b <;>rfl,by simp⟩
end Go.Abs
namespace Go.Abs
open Go Go.RowKit
open Enc (enc)
def yI:Option ak→Option (List I×List I)
 |some (.bE ks vs)=>some (ks,vs)
 |_=>none
noncomputable def tf(A:ai)(n:Nat)(rest:List aw):Option (List I×List I)→cR
 |some (ks,vs)=>aC rest (A.aZ n (.bE ks vs))
 |none=>.fail
noncomputable def yS(A:ai)(n:Nat)(ty:cH)(k v:I)(rest:List aw):Option ak→cR
 |some (.bE ks vs)=>tf A n rest (fV ty k v ks vs)
 |_=>.fail
noncomputable def yR(A:ai)(ty:cH)(k v:I)(rest:List aw):I→cR
 | .mref n=>yS A n ty k v rest (A.o n)
 |_=>.fail
noncomputable def yM(A:ai)(n:Nat)(ty:cH)(k:I)(rest:List aw):Option ak→cR
 |some (.bE ks vs)=>tf A n rest (nu ty k ks vs)
 |_=>.fail
noncomputable def yL(A:ai)(ty:cH)(k:I)(rest:List aw):I→cR
 | .mref n=>yM A n ty k rest (A.o n)
 |_=>.fail
noncomputable def yQ(A:ai)(d:Nat)(rest:List aw):Option ak→cR
 |none=>aC rest ((A.aZ d (.bE [] [])).put d (.mref d))
 |some _=>.fail
open Classical in
noncomputable def Ft(A:ai)(d bytes:Nat)(z:I)(rest:List aw):I→cR
 | .int _ n=>if 0≤n∧n.toNat*bytes≤281474976710656∧n.toNat≤maxLen then aC rest ((A.aZ d (.box (.agg (List.replicate n.toNat z)))).put d (.view d [] 1 0 n.toNat)) else .fail
 |_=>.fail
noncomputable def vC(A:ai)(d bytes:Nat)(z n:I)(rest:List aw):Option ak→cR
 |none=>Ft A d bytes z rest n
 |some _=>.fail
noncomputable def wk(A:ai)(d:Nat)(rest:List aw):I→cR
 | .dp ks vs=>aC rest ((A.aZ d (.it ks vs (List.range ks.length) none)).put d (.dv d))
 |_=>.fail
noncomputable def wj(A:ai)(d:Nat)(x:I)(rest:List aw):Option ak→cR
 |none=>wk A d rest x
 |some _=>.fail
def xK:Option ak→Option I
 |some (.it ks vs _ cur)=>oz ks vs cur
 |_=>none
def xJ(A:ai):I→Option I
 | .dv n=>xK (A.o n)
 |_=>none
open Classical in
noncomputable def rI(A:ai)(d:Option Nat)(n:Nat)(rest:List aw):Option ak→cR
 |some (.it ks vs left _)=>if left=[] then aC rest (A.a8 d (.tuple [.bool false])) else
   .any (fun i=>i∈left) fun i=>match ks[i]?,vs[i]? with
    |some kk,some x=>aC rest ((A.aZ n (.it ks vs (left.filter (· != i)) (some i))).a8 d (.tuple [.bool true,kk,x]))
    |_,_=>.fail
 |_=>.fail
noncomputable def y7(A:ai)(d:Option Nat)(rest:List aw):I→cR
 | .dv n=>rI A d n rest (A.o n)
 |_=>.fail
section
variable (d:Option Nat) (rest:List aw) (A:ai)
theorem aaf(x:aV):bN A d (.nilC x) rest=cX (nv (al A x)) (dn d rest A):=rfl
theorem aaj(neg:Bool)(x y:aV):bN A d (.ptrE neg x y) rest=cX (oO neg (jy (al A x)) (jy (al A y))) (dn d rest A):=rfl
theorem Z8(ty:cH)(z:I)(ok:Bool)(m k:aV):bN A d (.lk ty z ok m k) rest=cX (s8 ty z ok (al A k) (gS A (al A m))) (dn d rest A):=rfl
theorem Zg(n:Nat):gS A (.mref n)=yI (A.o n):=by
 simp only[gS];cases A.o n with
 |none=>rfl
 |some y=>cases y <;>rfl
theorem aad(ty:cH)(m k v:aV):bN A none (.fg ty m k v) rest=yR A ty (al A k) (al A v) rest (al A m):=by
 simp only[bN,bt];cases al A m <;>rfl
theorem Z9(ty:cH)(m k:aV):bN A none (.jA ty m k) rest=yL A ty (al A k) rest (al A m):=by
 simp only[bN,bt];cases al A m <;>rfl
theorem aab(d:Nat):bN A (some d) .jB rest=yQ A d rest (A.o d):=by
 simp only[bN,bt];cases A.o d <;>rfl
theorem aac(d e bytes:Nat)(z:I)(n:aV):bN A (some d) (.lM e bytes z n) rest=vC A d bytes z (al A n) rest (A.o d):=by
 simp only[bN,bt];cases A.o d with
 |some _=>rfl
 |none=>simp only[vC];cases al A n <;>rfl
theorem aak(d:Nat)(x:aV):bN A (some d) (.kG x) rest=wj A d (al A x) rest (A.o d):=by
 simp only[bN,bt];cases A.o d with
 |some _=>rfl
 |none=>simp only[wj];cases al A x <;>rfl
theorem ZX(x:aV):bN A d (.ent x) rest=cX (xJ A (al A x)) (dn d rest A):=by
 simp only[bN,bt,bu];cases al A x <;>rfl
theorem aah(x:aV):bN A d (.jh x) rest=y7 A d rest (al A x):=by
 simp only[bN,bt];cases al A x <;>rfl
end
theorem Fh:(∀ rest A ty m k,bN A none (.jA ty m k) rest=yL A ty (al A k) rest (al A m))∧(∀ A ty k rest n,yL A ty k rest (.mref n)=yM A n ty k rest (A.o n))∧(∀ A n ty k rest ks vs,yM A n ty k rest (some (.bE ks vs))=tf A n rest (nu ty k ks vs)) ∧
  (∀ d rest A x y,bN A d (.max2 x y) rest=cX (tg (al A x) (al A y)) (dn d rest A))∧(∀ a b,tg (.int .i64 a) (.int .i64 b)=some (.int .i64 (if b>a then b else a)))∧((I.any).bG=true) :=
 ⟨fun rest A=>Z9 rest A,fun _ _ _ _ _=>rfl,fun _ _ _ _ _ _ _=>rfl,fun _ _ _ _ _=>rfl,fun _ _=>rfl,rfl⟩
theorem oH :
  (∀ d rest A x,bN A d (.nilC x) rest=cX (nv (al A x)) (dn d rest A))∧(∀ n p,nv (.ptr n p)=some (.ptr n p))∧(∀ x,nv (.ref x)=some (.ref x)) ∧
  (∀ d rest A neg x y,bN A d (.ptrE neg x y) rest=cX (oO neg (jy (al A x)) (jy (al A y))) (dn d rest A))∧(jy .nilp=some true)∧(∀ n p,jy (.ptr n p)=some false)∧(∀ x,jy (.ref x)=some false) ∧
  (oO false (some true) (some true)=some (.bool true))∧(oO false (some false) (some true)=some (.bool false))∧(oO true (some true) (some true)=some (.bool false))∧(oO true (some false) (some true)=some (.bool true)) ∧
  (∀ d rest A ty z ok m k,bN A d (.lk ty z ok m k) rest=cX (s8 ty z ok (al A k) (gS A (al A m))) (dn d rest A))∧(∀ A n,gS A (.mref n)=yI (A.o n))∧(∀ A ks vs,gS A (.dp ks vs)=some (ks,vs))∧(∀ ks vs,yI (some (.bE ks vs))=some (ks,vs)) ∧
  (∀ ty z ok k ks vs,s8 ty z ok k (some (ks,vs))=s9 ok (fL ty z k ks vs))∧(∀ v b,s9 false (some (v,b))=some v)∧(∀ v b,s9 true (some (v,b))=some (.tuple [v,.bool b])) ∧
  (∀ rest A ty m k v,bN A none (.fg ty m k v) rest=yR A ty (al A k) (al A v) rest (al A m))∧(∀ A ty k v rest n,yR A ty k v rest (.mref n)=yS A n ty k v rest (A.o n))∧(∀ A n ty k v rest ks vs,yS A n ty k v rest (some (.bE ks vs))=tf A n rest (fV ty k v ks vs)) ∧
  (∀ A n rest ks vs,tf A n rest (some (ks,vs))=aC rest (A.aZ n (.bE ks vs))) ∧
  (∀ rest A d,bN A (some d) .jB rest=yQ A d rest (A.o d))∧(∀ A d rest,yQ A d rest none=aC rest ((A.aZ d (.bE [] [])).put d (.mref d))) ∧
  (∀ rest A d e bytes z n,bN A (some d) (.lM e bytes z n) rest=vC A d bytes z (al A n) rest (A.o d))∧(∀ A d bytes z n rest,vC A d bytes z n rest none=Ft A d bytes z rest n) ∧
  (∀ rest A d x,bN A (some d) (.kG x) rest=wj A d (al A x) rest (A.o d))∧(∀ A d x rest,wj A d x rest none=wk A d rest x)∧(∀ A d rest ks vs,wk A d rest (.dp ks vs)=aC rest ((A.aZ d (.it ks vs (List.range ks.length) none)).put d (.dv d))) ∧
  (∀ d rest A x,bN A d (.ent x) rest=cX (xJ A (al A x)) (dn d rest A))∧(∀ A n,xJ A (.dv n)=xK (A.o n))∧(∀ ks vs l cur,xK (some (.it ks vs l cur))=oz ks vs cur) ∧
  (∀ d rest A x,bN A d (.jh x) rest=y7 A d rest (al A x))∧(∀ A d rest n,y7 A d rest (.dv n)=rI A d n rest (A.o n)) :=
 ⟨aaf,fun _ _=>rfl,fun _=>rfl,aaj,rfl,fun _ _=>rfl,fun _=>rfl,rfl,rfl,rfl,rfl,Z8,Zg,fun _ _ _=>rfl,fun _ _=>rfl,fun _ _ _ _ _ _=>rfl,fun _ _=>rfl,fun _ _=>rfl,
  fun rest A ty m k v=>aad rest A ty m k v,fun _ _ _ _ _ _=>rfl,fun _ _ _ _ _ _ _ _=>rfl,fun _ _ _ _ _=>rfl,fun rest A d=>aab rest A d,fun _ _ _=>rfl,fun rest A d e bytes z n=>aac rest A d e bytes z n,fun _ _ _ _ _ _=>rfl,
  fun rest A d x=>aak rest A d x,fun _ _ _ _=>rfl,fun _ _ _ _ _=>rfl,ZX,fun _ _=>rfl,fun _ _ _ _=>rfl,aah,fun _ _ _ _=>rfl⟩
theorem bw:(∀ n p z lo k,cn none (.view n p z lo k)=true)∧(∀ n,cn none (.mref n)=true)∧(∀ n p,cn none (.ptr n p)=true)∧(∀ x,cn none (.ref x)=true)∧cn none .nilp=true∧cn none .dE=true∧cn none (.raw (.map none))=true∧(∀ ks vs,cn none (.dp ks vs)=true)∧(∀ {α:Type} [Enc α] (l:List α),cn none (enc l)=true) :=
 ⟨fun _ _ _ _ _=>rfl,fun _=>rfl,fun _ _=>rfl,fun _=>rfl,rfl,rfl,rfl,fun _ _=>rfl,fun l=>by simp[su,sr]⟩
section
variable {α:Type} [Enc α] [DecidableEq α] {ty:cH}
theorem u7(ay:∀ x y:α,cm ty (enc x) (enc y)=some (decide (x=y)))(k:α):∀ (ks:List α) (i:Nat),eK ty (enc k) (ks.map enc) i=some ((ks.findIdx? fun x=>decide (k=x)).map (· + i))
 | [],i=>rfl
 |x::ks,i=>by
  simp only[zz7,eK,ay,List.findIdx?_cons];by_cases h:k=x
  ·simp[h]
  ·simp only[h,decide_false,zz5,if_false];rw[u7 ay k ks (i+1)];cases ks.findIdx? fun x=>decide (k=x) with
   |none=>rfl
   |some j=>simp;omega
theorem vt(ay:∀ x y:α,cm ty (enc x) (enc y)=some (decide (x=y)))(z:I)(k:α)(ks:List α)(vs:List I) :
  fL ty z (enc k) (ks.map enc) vs=match ks.findIdx? fun x=>decide (k=x) with
   |some i=>(vs[i]?).map fun v=>(v,true)
   |none=>some (z,false):=by
 simp only[fL,ay,Option.isSome_some,if_true,u7 ay];cases ks.findIdx? fun x=>decide (k=x) <;>rfl
theorem yT(ay:∀ x y:α,cm ty (enc x) (enc y)=some (decide (x=y)))(k:α)(v:I)(hv:v.bV=true)(ks:List α)(vs:List I) :
  fV ty (enc k) v (ks.map enc) vs=match ks.findIdx? fun x=>decide (k=x) with
   |some i=>some (ks.map enc,vs.set i v)
   |none=>some ((ks++[k]).map enc,vs++[v]):=by
 simp only[fV,ay,Option.isSome_some,hv,ED (kR k),and_self,if_true,u7 ay];cases ks.findIdx? fun x=>decide (k=x) with
 |none=>simp
 |some i=>rfl
omit [Enc α] in
theorem sE{k:α}{ks:List α} : (ks.findIdx? fun x=>decide (k=x)).isSome=decide (k∈ks):=by
 induction ks with
 |nil=>rfl
 |cons x ks ih =>
  simp only[List.findIdx?_cons,zw7];by_cases h:k=x
  ·simp[h]
  ·simp only[h,decide_false,zz5,if_false,Option.isSome_map,ih,false_or]
theorem gR(ay:∀ x y:α,cm ty (enc x) (enc y)=some (decide (x=y)))(k:α)(ks:List α):fL ty (.bool false) (enc k) (ks.map enc) (List.replicate ks.length (.bool true))=some (.bool (decide (k∈ks)),decide (k∈ks)):=by
 rw[vt ay,←sE];cases h:ks.findIdx? fun x=>decide (k=x) with
 |none=>rfl
 |some i =>
  have:=(List.findIdx?_eq_some_iff_getElem.1 h).1;simp[this]
def gb{α:Type}[DecidableEq α](ks:List α)(k:α):List α:=if k∈ks then ks else ks++[k]
theorem yU(ay:∀ x y:α,cm ty (enc x) (enc y)=some (decide (x=y)))(k:α)(ks:List α):fV ty (enc k) (.bool true) (ks.map enc) (List.replicate ks.length (.bool true))=some ((gb ks k).map enc,List.replicate (gb ks k).length (.bool true)):=by
 rw[yT ay k _ rfl];have hm:=sE (k:=k) (ks:=ks);cases h:ks.findIdx? fun x=>decide (k=x) with
 |none =>
  rw[h] at hm;have:k∉ks:=by simpa using hm.symm
  simp only[gb,if_neg this]
  congr 2
  rw[zz6,List.length_singleton,List.replicate_succ']
 |some i =>
  rw[h] at hm;have:k∈ks:=by simpa using hm.symm
  simp only[gb,if_pos this]
  congr 2
  have:=(List.findIdx?_eq_some_iff_getElem.1 h).1;exact List.ext_getElem (by simp) fun j U ab=>by
   simp only[List.getElem_set,List.getElem_replicate];split <;>rfl
end
section
variable {α:Type} [Enc α]
theorem AW{xs:List α}{i:Nat}(d:α)(h:i<xs.length):oo i [] (some (xs.map enc))=some (enc (xs.getD i d)):=by
 simp[oo,qO,h,I.at,zz2]
end
theorem EC{m sz lo l i:Nat}{fs:List I}(h:i<l):nr m [] sz lo l sz (i:Int) (some fs)=some (.ptr m [lo+i]):=by rw[YI h];rfl
theorem qU:(∀ {α:Type} [Enc α] (x:α),(enc x).bG=true)∧(∀ n p z lo k,(I.view n p z lo k).bG=false)∧(∀ n,(I.mref n).bG=false)∧(∀ n p,(I.ptr n p).bG=false)∧(∀ n k,(I.own n k).bG=false) :=
 ⟨@kR,fun _ _ _ _ _=>rfl,fun _=>rfl,fun _ _=>rfl,fun _ _=>rfl⟩
end Go.Abs
namespace Go.Abs
open Go Go.RowKit
open Enc (enc)
theorem bn.JM{A:ai}{d n T z:Nat}(ah:A.t d=.nils z)(hn:A.o n=none)(hlt:n<1000000):bn A ((A.aZ n (.dJ T [])).put d (.own n 0)):=by
 rintro c a w ⟨D,E,h⟩;have ay:E n=none:=by have:=h.bP n;rw[hn] at this;exact this
 have hl:ec w D E w D (fun m=>if m=n then some (.rw none 0) else E m):=by
  have eV:∀ {m:Nat} {e:bO},E m=some e→(if m=n then some (.rw none 0) else E m)=some e:=fun {m e} he=>by
   have:m≠n:=fun e=>by rw[e,ay] at he;cases he
   rw[if_neg this];exact he
  refine ⟨fun _ _ h=>h,fun _ _ _ _ h=>h,fun m b bh he=>eV he,fun m aP l he =>?_,fun m b he=>eV he,fun m b he=>eV he,fun _ _ _ _ h=>h⟩
  ·have:m≠n:=fun e=>by rw[e,ay] at he;cases he
   exact ⟨aP,l,by simp only[if_neg this];exact he,zz9 _,fun _=>rfl⟩
 refine ⟨D,fun m=>if m=n then some (.rw none 0) else E m,h.sz,h.eC,fun t =>?_,h.dK,h.c6,h.aK,fun m =>?_,fun m m' e e' b U ab af ar =>?_,fun m e hm =>?_,h.eL,h.cT,h.eY,h.fA⟩
 ·simp only[ai.put,ai.aZ];by_cases ht:t=d
  ·subst ht;simp only[if_true];have hv:=h.dO t;rw[ah] at hv;obtain ⟨cs,q1,q2⟩:=hv;simp only[ao] at q2;subst q2;refine ⟨[.slice none 0 0],by simpa[bI,I.isAgg] using q1,?_⟩;simp only[ao,if_true];exact ⟨none,0,rfl,zz9 _,⟨_,_,_,rfl⟩,fun _=>trivial⟩
  ·simp only[if_neg ht];exact bl.later hl (h.dO t)
 ·simp only[ai.put,ai.aZ];by_cases hm:m=n
  ·subst hm;simp only[if_true,cS];exact ⟨none,by simp,by simp,trivial⟩
  ·simp only[if_neg hm];exact (h.bP m).later hl (by simp only[if_neg hm]) fun _ _ _ _=>⟨rfl,fun _ ho=>ho⟩
 ·by_cases hm:m=n <;>by_cases hm':m'=n
  ·rw[hm,hm']
  ·simp only[if_pos hm,u8] at U;subst U;simp[bO.aP] at af
  ·simp only[if_pos hm',u8] at ab;subst ab;simp[bO.aP] at ar
  ·simp only[if_neg hm] at U;simp only[if_neg hm'] at ab;exact h.cQ m m' e e' b U ab af ar
 ·have hmn:m≠n:=fun e=>by rw[e,h.lK (.inr hlt)] at hm;cases hm
  simp only[if_neg hmn];exact h.dR m e hm
theorem bn.JN{ts:List (Nat×I)}{os:List (Nat×ak)}(d n T z:Nat)(ah:bC ts d=.nils z)(hn:aj os n=none){B:ai}(h:bn (au ((d,.own n 0)::ts) ((n,.dJ T [])::os)) B)(hlt:n<1000000:=by decide):bn (au ts os) B :=
 ((bn.JM (A:=au ts os) (T:=T) ah hn hlt).trans (by rw[te,vz];exact bn.refl _)).trans h
theorem JY{A:ai}{d:Option Nat}{e bytes n l:Nat}{xs:List Int}{y:Int}{rest:List aw}(hl:l=xs.length)(U:xs.length+1≤maxLen)(ab:(xs.length+1)*bytes≤140737488355328) :
  qM A d e 1 bytes (.int .i64 0) n l e xs rest (enc [y])=aC rest ((A.aZ n (.dJ e (xs++[y]))).a8 d (.own n (xs.length+1))):=by
 show qM A d e 1 bytes (.int .i64 0) n l e xs rest (.slice 1 [.int .i64 y])=_
 simp only[qM];rw[if_pos ⟨hl,rfl,rfl,rfl,rfl,by simp,U,ab⟩];rfl
def jQ(n k:Nat):I→I
 | .own n' k'=>if n'=n∧k'=k then .view n [] 1 0 k else .own n' k'
 |v=>v
def jP(n:Nat):I→I
 | .own n' k'=>if n'=n∧k'=0 then .nils 1 else .own n' k'
 |v=>v
def kK(f:I→I):ak→ak
 | .box v=>.box (f v)
 |y=>y
def tp(n k:Nat)(v:I):Prop:=v=.own n k∨v.only (fun j=>j != n)=true
def aat(n k:Nat)(y:ak):Prop:=y=.box (.own n k)∨y.only (fun j=>j != n)=true
theorem wC{n k:Nat}{v:I}(h:v.only (fun j=>j != n)=true):jQ n k v=v:=by
 cases v <;>try rfl
 rename_i n' k';simp only[I.only,bne_iff_ne,ne_eq] at h;simp only[jQ,h,false_and,if_false]
theorem H4{n:Nat}{v:I}(h:v.only (fun j=>j != n)=true):jP n v=v:=by
 cases v <;>try rfl
 rename_i n' k';simp only[I.only,bne_iff_ne,ne_eq] at h;simp only[jP,h,false_and,if_false]
theorem rE(f:I→I)(hf:f .dx=.dx)(ts:List (Nat×I))(t:Nat):bC (ts.map fun q=>(q.1,f q.2)) t=f (bC ts t):=by
 induction ts with
 |nil=>exact hf.symm
 |cons q ts ih =>
  obtain ⟨k,v⟩:=q;simp only[zz7,bC];split
  ·rfl
  ·exact ih
theorem vv(f:ak→ak)(os:List (Nat×ak))(t:Nat):aj (os.map fun q=>(q.1,f q.2)) t=(aj os t).map f:=by
 induction os with
 |nil=>rfl
 |cons q os ih =>
  obtain ⟨k,v⟩:=q;simp only[zz7,aj];split
  ·rfl
  ·exact ih
theorem cS.de{M:Nat→Prop}{w:World}{D:aX}{E E':bj}{p:Nat→Bool}(hp:∀ n,p n=true→E' n=E n){m:Nat}(ay:E' m=E m){y:ak}(hon:y.only p=true)(ho:cS M w D E m (some y)):cS M w D E' m (some y):=by
 cases y with
 |box x =>
  obtain ⟨b,cs,T,k1,k2,k3,k4,k5⟩:=ho;exact ⟨b,cs,T,ay.trans k1,k2,k3,ao.de hp _ _ (by simpa[ak.only] using hon) k4,k5⟩
 |bW T sz es =>
  obtain ⟨aP,k1,k2,k3⟩:=ho;refine ⟨aP,ay.trans k1,k2,?_⟩;cases aP with
  |none=>exact k3
  |some bc =>
   obtain ⟨b,cap⟩:=bc;obtain ⟨cs,pre,rest,q1,q2,q3,q4,q5⟩:=k3;exact ⟨cs,pre,rest,q1,q2,q3,aU.de hp _ _ (by simpa[ak.only] using hon) q4,q5⟩
 |dJ T xs =>
  obtain ⟨aP,k1,k2,k3⟩:=ho;exact ⟨aP,ay.trans k1,k2,k3⟩
 |dI x =>
  obtain ⟨b,k1,k2⟩:=ho;exact ⟨b,ay.trans k1,k2⟩
 |bE ks vs =>
  obtain ⟨b,es,ck,k1,k2,k3,k4,k5,k6,k7⟩:=ho;simp only[ak.only,zz1] at hon;exact ⟨b,es,ck,ay.trans k1,k2,k3,k4,aO.de hp _ _ hon.1 k5,aO.de hp _ _ hon.2 k6,k7⟩
 |it ks vs left cur =>
  obtain ⟨r,b,es,ck,si,se,la,k1,k2,k3,k4,k5,k6,k7⟩:=ho;simp only[ak.only,zz1] at hon;exact ⟨r,b,es,ck,si,se,la,ay.trans k1,k2,k3,k4,aO.de hp _ _ hon.1 k5,aO.de hp _ _ hon.2 k6,k7⟩
theorem tU(xs:List Int):(I.agg (xs.map enc)).bh=.eS (List.replicate xs.length .one):=by
 show cW.eS (I.cZ _)=_
 congr 1
 induction xs with
 |nil=>rfl
 |cons x xs ih=>simp only[zz7,I.cZ,ih,zw8,List.replicate_succ];rfl
theorem tH{w:World}{D:aX}{E:bj} : ∀ {xs:List Int},(∀ x∈xs,IntKind.i64.min≤x∧x≤IntKind.i64.max)→aU w D E (xs.map enc) (xs.map (Value.int .i64))
 | [],_=>rfl
 |x::xs,h=>⟨[.int .i64 x],xs.map (Value.int .i64),rfl,⟨rfl,h x (by simp)⟩,tH fun y hy=>h y (by simp[hy])⟩
theorem bn.acy{ts:List (Nat×I)}{os:List (Nat×ak)}{n T:Nat}{B:ai}(hn:aj os n=some (.dJ T []))
  (h:bn (au (ts.map fun q=>(q.1,jP n q.2)) (os.map fun q=>(q.1,kK (jP n) q.2))) B):bn (au ts os) B:=by
 refine bn.trans ?_ h;rintro c a w ⟨D,E,hs⟩;obtain ⟨aP,ay,-,hblk⟩:=hs.ud (n:=n) (T:=T) (xs:=[]) hn;have hnone:aP=none:=by
  cases aP with
  |none=>rfl
  |some bc=>obtain ⟨b,cap⟩:=bc;obtain ⟨_,_,_,_,_,h,_⟩:=hblk;exact absurd rfl h
 subst hnone;have conv:∀ (v:I) (cs:List Value),ao w D E v cs→ao w D E (jP n v) cs:=fun v cs hr=>by
  cases v <;>try exact hr
  rename_i n' k';simp only[jP];split
  ·rename_i hh;obtain ⟨rfl,rfl⟩:=hh;obtain ⟨blk',l,q3,q4,q5,q6⟩:=hr;rw[ay] at q3;simp only[u8,bO.rw.injEq,List.length_nil] at q3;obtain ⟨rfl,rfl⟩:=q3;exact q6 rfl
  ·exact hr
 refine ⟨D,E,hs.sz,hs.eC,fun t =>?_,hs.dK,hs.c6,hs.aK,fun m =>?_,hs.cQ,hs.dR,hs.eL,hs.cT,hs.eY,hs.fA⟩
 ·show bl w D E (bC _ t) _
  rw[rE _ rfl];have:=hs.dO t;simp only[au] at this;revert this;generalize bC ts t=v;intro hv;cases v <;>try exact hv
  rename_i n' k';obtain ⟨cs,q1,q2⟩:=hv;have:=conv _ _ q2
  revert this;simp only[jP];split
  ·intro this;exact ⟨cs,q1,this⟩
  ·intro this;exact ⟨cs,q1,this⟩
 ·show cS _ w D E m (aj _ m)
  rw[vv];have:=hs.bP m;simp only[au] at this;revert this;cases aj os m with
  |none=>exact id
  |some y =>
   cases y <;>try exact id
   rename_i x;rintro ⟨b,cs,T,k1,k2,k3,k4,k5⟩;refine ⟨b,cs,T,?_,k2,k3,conv _ _ k4,k5⟩;rw[k1];have:(jP n x).bh=x.bh:=by
    cases x <;>try rfl
    simp only[jP];split <;>rfl
   rw[this]
theorem ae.acx{c:c4}{x:bH}{Q:Exit→ai→Prop}{ts:List (Nat×I)}{os:List (Nat×ak)}{n T:Nat}{xs:List Int}(hn:aj os n=some (.dJ T xs))(hne:xs≠[])(hlt:n<1000000)
  (ht:∀ t,tp n xs.length (bC ts t)) (ho:∀ m y,aj os m=some y→m≠n→aat n xs.length y)
  (h:∀ q:Nat,ae c x Q (au (ts.map fun p=>(p.1,jQ n xs.length p.2)) ((n,.box (.agg ((xs++List.replicate q 0).map enc)))::os.map fun p=>(p.1,kK (jQ n xs.length) p.2)))):ae c x Q (au ts os):=by
 rintro code hc a w ⟨D,E,hs⟩;obtain ⟨aP,ay,hr,hblk⟩:=hs.ud (n:=n) hn;cases aP with
 |none=>exact absurd hblk hne
 |some bc =>
 obtain ⟨b,cap⟩:=bc;obtain ⟨cs,q,hM,hb,hcs,-,hcap,hmax,hD⟩:=hblk;have hp:∀ j,(fun j=>j != n) j=true→(fun j=>if j=n then some (bO.aR b (.eS (List.replicate (xs.length+q) .one))) else E j) j=E j:=fun j hj=>by
  have:j≠n:=by simpa using hj
  simp only[if_neg this]
 have conv:∀ cs0,ao w D E (.own n xs.length) cs0→ao w D (fun j=>if j=n then some (bO.aR b (.eS (List.replicate (xs.length+q) .one))) else E j) (.view n [] 1 0 xs.length) cs0:=fun cs0 hr=>by
  obtain ⟨blk',l,q3,q4,q5,q6⟩:=hr;rw[ay] at q3;simp only[u8,bO.rw.injEq] at q3;obtain ⟨rfl,rfl⟩:=q3;have:=q6 rfl;refine ⟨b,_,0,List.replicate (xs.length+q) .one,if_pos rfl,rfl,rfl,?_,by rw[List.length_replicate];omega,by rw[List.length_replicate];omega,fun s hs =>?_⟩
  ·rw[this,List.length_replicate];simp only[Nat.zero_mul,Nat.add_zero,Nat.sub_zero,hcap]
  ·rw[List.eq_of_mem_replicate hs];rfl
 refine h q code hc a w ⟨D,fun j=>if j=n then some (.aR b (.eS (List.replicate (xs.length+q) .one))) else E j,hs.sz,hs.eC,fun t =>?_,hs.dK,hs.c6,hs.aK,fun m =>?_,fun m m' e e' b1 U ab af ar =>?_,fun m e hm =>?_,hs.eL,hs.cT,hs.eY,hs.fA⟩
 ·show bl w D _ (bC _ t) _
  rw[rE _ rfl];have hv:=hs.dO t;simp only[au] at hv;rcases ht t with U | U
  ·rw[U] at hv ⊢;simp only[jQ,and_self,if_true];obtain ⟨cs0,q1,q2⟩:=hv;exact ⟨cs0,q1,conv _ q2⟩
  ·rw[wC U];exact bl.de hp U hv
 ·show cS _ w D _ m (aj _ m)
  simp only[aj];by_cases hm:m=n
  ·subst hm;simp only[if_true];refine ⟨b,cs,T,?_,hM,hb,?_,hD⟩
   ·simp only[if_true];rw[tU,zz6,List.length_replicate]
   ·show aU w D _ _ _
    rw[hcs];refine tH fun y hy =>?_;rcases zy8.1 hy with hy | hy
    ·exact hr y hy
    ·rw[List.eq_of_mem_replicate hy];decide
  ·simp only[if_neg hm];rw[vv];have hob:=hs.bP m;simp only[au] at hob;cases hy:aj os m with
   |none=>rw[hy] at hob;simp only[cS,Option.map_none] at hob ⊢;rw[if_neg hm];exact hob
   |some y =>
    rw[hy] at hob;rcases ho m y hy hm with rfl | U
    ·obtain ⟨b1,cs1,uz,k1,k2,k3,k4,k5⟩:=hob;refine ⟨b1,cs1,uz,?_,k2,k3,?_,k5⟩
     ·simp only[if_neg hm];rw[k1];simp only[jQ,and_self,if_true];rfl
     ·simp only[jQ,and_self,if_true];exact conv _ k4
    ·have e:kK (jQ n xs.length) y=y:=by
      cases y <;>try rfl
      simp only[ak.only] at U;simp only[kK,wC U]
     simp only[zy6,e];exact hob.de hp (if_neg hm) U
 ·have jU:∀ m e,(if m=n then some (bO.aR b (.eS (List.replicate (xs.length+q) .one))) else E m)=some e→∃ e2,E m=some e2∧e2.aP=e.aP:=fun m e he=>by
   by_cases hm:m=n
   ·subst hm;rw[if_pos rfl] at he;cases he;exact ⟨_,ay,rfl⟩
   ·rw[if_neg hm] at he;exact ⟨e,he,rfl⟩
  obtain ⟨e2,k1,k2⟩:=jU m e U;obtain ⟨e3,k3,k4⟩:=jU m' e' ab;exact hs.cQ m m' e2 e3 b1 k1 k3 (k2.trans af) (k4.trans ar)
 ·have hmn:m≠n:=fun e=>by rw[e,hs.lK (.inr hlt)] at hm;cases hm
  simp only[if_neg hmn];exact hs.dR m e hm
end Go.Abs
namespace Go.Abs
open Go Go.RowKit
def vm(n:Nat)(cl:List Nat)(i:Nat):Bool:=(List.range n).all fun j=>j==i||(cl.getD i 0).testBit j
def vS(hs:List FuncId)(aG:ez)(on:List (List Nat))(gs:List aw)(cl:List Nat)(σ:List Nat):Bool :=
 (Nat.beq σ.length gs.length&&(tk σ&&(σ.all (fun i=>decide (i<gs.length))&&((List.range gs.length).all (fun i=>σ.contains i)&&(List.range gs.length).all fun i=>pU (gs.getD i default).op&&(ji aG (gs.getD i default)||(vm gs.length cl i&&σ.getLast?==some i))))))&&(r7 hs aG gs cl [] σ&&(List.range gs.length).all fun i=>(on.getD i []).all (fun k=>decide (k<i))&&Nat.beq (cl.getD i 0) (mR cl (on.getD i [])))
structure AD (hs:List FuncId) (aG:ez) (l:List Oper) (gs:List aw) (σ:List Nat):Prop where
 tl:σ.Nodup
 lt:∀ i∈σ,i<gs.length
 all:∀ i,i<gs.length→i∈σ
 ok:∀ i,i<gs.length→pU (gs.getD i default).op=true
 yz:∀ i o,l[i]?=some o→ji aG (gs.getD i default)=true∨(σ.getLast?=some i∧∀ (S:Nat→Prop),(∀ i o,l[i]?=some o→S i→∀ k∈cC o,S k)→(∀ k∈cC o,S k)→∀ j,j<gs.length→j≠i→S j)
 len:σ.length=gs.length
 gL:∀ i o,l[i]?=some o→∀ k∈cC o,k<i
 sR:∀ (S:Nat→Prop),(∀ i o,l[i]?=some o→S i→∀ k∈cC o,S k)→∀ s1 i s2 o,σ=s1++i::s2→l[i]?=some o→(∀ k∈cC o,S k)→∀ j∈s1,¬ S j→oE hs aG (gs.getD j default) (gs.getD i default)=true
theorem aaF{hs:List FuncId}{aG:ez}{l:List Oper}{gs:List aw}{cl σ:List Nat}(hlen:gs.length=l.length)(h:vS hs aG (l.map cC) gs cl σ=true):AD hs aG l gs σ:=by
 simp only[vS,zz1,zx6,decide_eq_true_eq,zy9,List.contains_eq_mem] at h;obtain ⟨⟨U,ab,af,ar,h5⟩,h6,h7⟩:=h;have gp:∀ i o,l[i]?=some o→(∀ k∈cC o,k<i)∧(∀ j,(cl.getD i 0).testBit j=true→j∈cC o∨∃ k∈cC o,(cl.getD k 0).testBit j=true):=by
  intro i o ho;have hi:i<l.length:=(zy0.1 ho).1;have h8:=h7 i (by omega);have hon:(l.map cC).getD i []=cC o:=by simp[zz2,ho]
  rw[hon] at h8;have hb:=Nat.eq_of_beq_eq_true h8.2;exact ⟨h8.1,fun j hj=>uf (by rw[←hb];exact hj)⟩
 have keyS:∀ (S:Nat→Prop),(∀ i o,l[i]?=some o→S i→∀ k∈cC o,S k)→∀ n i o,i≤n→l[i]?=some o→(∀ k∈cC o,S k)→∀ j,(cl.getD i 0).testBit j=true→S j:=by
  intro S hS n
  induction n with
  |zero =>
   intro i o hi ho hon j hj;obtain ⟨h8,h9⟩:=gp i o ho;rcases h9 j hj with h | ⟨k,hk,_⟩
   ·exact hon j h
   ·have:=h8 k hk;omega
  |succ n ih =>
   intro i o hi ho hon j hj;obtain ⟨h8,h9⟩:=gp i o ho;rcases h9 j hj with h | ⟨k,hk,hjk⟩
   ·exact hon j h
   ·have hki:=h8 k hk;have hkl:k<l.length:=Nat.lt_trans hki (zy0.1 ho).1;obtain ⟨ok,hok⟩:∃ ok,l[k]?=some ok:=⟨l[k],zx3 hkl⟩
    exact ih k ok (by omega) hok (hS k ok hok (hon k hk)) j hjk
 refine ⟨yZ ab,af,ar,fun i hi=>(h5 i hi).1,fun i o ho =>?_,Nat.eq_of_beq_eq_true U,fun i o ho=>(gp i o ho).1,?_⟩
 ·have hi:i<gs.length:=by rw[hlen];exact (zy0.1 ho).1
  have h5o:=(h5 i hi).2;rw[Bool.or_eq_true] at h5o;rcases h5o with h | h
  ·exact .inl h
  ·rw[zz1] at h;obtain ⟨h,hla⟩:=h;refine .inr ⟨by simpa using hla,fun S hS hon j hj hji =>?_⟩;simp only[vm,zx6,zy9,Bool.or_eq_true,beq_iff_eq] at h;rcases h j hj with e | e
   ·exact absurd e hji
   ·exact keyS S hS i i o (zz9 _) ho hon j e
 intro S hS s1 i s2 o e ho hon j hj hnj;have key:=keyS S hS;rcases wY h6 s1 i s2 e j (.inr hj) with h | h
 ·exact absurd (key i i o (zz9 _) ho hon j h) hnj
 ·exact h
def nf(on:List (List Nat)):List Nat:=on.foldl (fun acc ks=>acc++[mR acc ks]) []
def xE(d:Option (List (List Nat)))(gs:List aw):Bool:=match d with
 |none=>true
 |some on=>uT on gs (nf on)
section
variable {c:c4} {Q:Exit→ai→Prop} {A:ai} {d:Option (List (List Nat))} {on:List (List Nat)} {gs:List aw}
theorem ae.lx(ah:xE d gs=true)(h:∀ K:ai→Prop,(∀ B,Q .normal B→K B)→aW c.P c.Y d.isSome K (aC gs A)):ae c (.cj d gs) Q A:=by
 cases d with
 |none=>exact ae.cj (cl:=[]) rfl h
 |some on=>exact ae.cj (cl:=nf on) ah h
theorem ae.gU{y:bH}(ah:xE d gs=true)(h:∀ K:ai→Prop,(∀ B,ae c y Q B→K B)→aW c.P c.Y d.isSome K (aC gs A)):ae c (.seq (.cj d gs) y) Q A :=
 ae.seq (ae.lx ah h)
theorem ae.tK(hs:List FuncId)(aG:ez)(σ:List Nat)(ah:vR hs aG on gs (nf on) σ=true)(hi:dC aG A)(h:∀ K:ai→Prop,(∀ B,Q .normal B→K B)→cz c.P c.Y hs K (aC (hZ σ gs) A)):ae c (.cj (some on) gs) Q A :=
 ae.abc hs aG (nf on) σ ah hi h
def iq(c:c4):bH→(Exit→ai→Prop)→ai→Prop
 | .seq x y,Q,A=>iq c x (ee (fun B=>ae c y Q B) Q) A
 | .block id x,Q,A=>iq c x (jT id Q) A
 | .skip,Q,A=>Q .normal A
 | .exit id,Q,A=>Q (.exit id) A
 | .ret,Q,A=>Q .ret A
 | .cond b x y,Q,A=>aF (al A b) (ae c x Q A) (ae c y Q A)
 |x,Q,A=>ae c x Q A
def YH:bH→Bool
 | .seq _ _ | .block _ _ | .skip | .exit _ | .ret | .cond _ _ _=>true
 |_=>false
theorem iq.w6:∀ (x:bH) {Q:Exit→ai→Prop} {A:ai},iq c x Q A→ae c x Q A
 | .seq x y,_,_,h=>ae.seq (iq.w6 x h)
 | .block id x,_,_,h=>ae.block (iq.w6 x h)
 | .skip,_,_,h=>ae.skip h
 | .exit _,_,_,h=>ae.exit h
 | .ret,_,_,h=>ae.ret h
 | .cond _ _ _,_,_,h=>ae.kr h
 | .cj _ _,_,_,h | .loop _,_,_,h | .scope _,_,_,h | .label,_,_,h | .w7,_,_,h | .nN _ _ _ _,_,_,h=>h
theorem ae.of{x:bH}(_:YH x=true)(h:iq c x Q A):ae c x Q A:=iq.w6 x h
theorem aN :
  (∀ c x y Q A,iq c (.seq x y) Q A=iq c x (ee (fun B=>ae c y Q B) Q) A)∧(∀ c id x Q A,iq c (.block id x) Q A=iq c x (jT id Q) A)∧(∀ c Q A,iq c .skip Q A=Q .normal A)∧(∀ c id Q A,iq c (.exit id) Q A=Q (.exit id) A)∧(∀ c Q A,iq c .ret Q A=Q .ret A) ∧
  (∀ c b x y Q A,iq c (.cond b x y) Q A=aF (al A b) (ae c x Q A) (ae c y Q A))∧(∀ c d gs Q A,iq c (.cj d gs) Q A=ae c (.cj d gs) Q A)∧(∀ c x Q A,iq c (.loop x) Q A=ae c (.loop x) Q A)∧(∀ c f ps x y Q A,iq c (.nN f ps x y) Q A=ae c (.nN f ps x y) Q A) ∧
  (∀ k Q A,ee k Q .normal A=k A)∧(∀ k Q A,ee k Q .ret A=Q .ret A)∧(∀ k Q A i,ee k Q (.exit i) A=Q (.exit i) A)∧(∀ i Q A,jT i Q .normal A=Q .normal A)∧(∀ i Q A,jT i Q .ret A=Q .ret A)∧(∀ i Q A j,jT i Q (.exit j) A=if j=i then Q .normal A else Q (.exit j) A) ∧
  (∀ p q,aF (.bool true) p q=p)∧(∀ p q,aF (.bool false) p q=q)∧(type_of% @EO) :=
 ⟨fun _ _ _ _ _=>rfl,fun _ _ _ _ _=>rfl,fun _ _ _=>rfl,fun _ _ _ _=>rfl,fun _ _ _=>rfl,fun _ _ _ _ _ _=>rfl,fun _ _ _ _ _=>rfl,fun _ _ _ _=>rfl,fun _ _ _ _ _ _ _=>rfl,fun _ _ _=>rfl,fun _ _ _=>rfl,fun _ _ _ _=>rfl,fun _ _ _=>rfl,fun _ _ _=>rfl,fun _ _ _ _=>rfl,
  fun p q=>by simp[aF],fun p q=>by simp[aF],EO⟩
theorem aF.aL{t:Bool}{p q:Prop}(U:t=true→p)(ab:t=false→q):aF (.bool t) p q:=⟨U,ab⟩
theorem ae.aM{g:aw}{r:List aw}(ah:xE d gs=true)(e:gs=g::r)(h:∀ K:ai→Prop,(∀ B,Q .normal B→K B)→aW c.P c.Y d.isSome K (aC (g::r) A)):ae c (.cj d gs) Q A :=
 ae.lx ah (e▸h)
theorem aW.aD(aG:List Nat){P:Program}{Y:Value→List I→List (Nat×ak)→cE→Prop}{dr:Bool}{x:bH}{K:ai→Prop}{ts:List (Nat×I)}{os:List (Nat×ak)}(hK:∀ B,ae c x Q B→K B)(h:ae c x Q (au (iN aG ts) os)):aW P Y dr K (.done (au ts os)) :=
 .done (hK _ (ae.eD aG h))
theorem cz.aD(aG:List Nat){P:Program}{Y:Value→List I→List (Nat×ak)→cE→Prop}{hs:List FuncId}{x:bH}{K:ai→Prop}{ts:List (Nat×I)}{os:List (Nat×ak)}(hK:∀ B,ae c x Q B→K B)(h:ae c x Q (au (iN aG ts) os)):cz P Y hs K (.done (au ts os)) :=
 .done (hK _ (ae.eD aG h))
end
section
variable {c:c4} {A:ai} {o:Oper}
theorem B1{P:Program}{m:Nat}{bo:Array Oper}{l:List Oper}{gs:List aw}(h:gO P m bo (o::l)=some gs):∃ g gs',gs=g::gs'∧nd P m bo o=some g∧gO P m bo l=some gs':=by
 simp only[gO] at h;split at h
 ·rename_i g gs' U ab;simp only[u8] at h;exact ⟨g,gs',h.symm,U,ab⟩
 ·cases h
end
def wm(P:Program)(f:FuncId)(ch:List PanicEntry)(vs:Array Value)(w:World)(R:Ending→World→Prop):Prop :=
 Calls P f vs w fun e w'=>e=.panicked ch∧R (.returned (.tuple #[])) w'
theorem wm.mono{P:Program}{f:FuncId}{ch:List PanicEntry}{vs:Array Value}{w:World}{R R':Ending→World→Prop}(h:wm P f ch vs w R)(hr:∀ e w',R e w'→R' e w'):wm P f ch vs w R' :=
 Calls.mono h fun _ _ q=>⟨q.1,hr _ _ q.2⟩
def rL(post:List (Nat×ak)→Prop):cE:=fun r os'=>r=.tuple []∧post os'
def fB(P:Program)(f:FuncId)(ch:List PanicEntry)(args:List I)(os:List (Nat×ak))(post:List (Nat×ak)→Prop):Prop :=
 fq P f=true∧pk (wm P f ch) (fun w _ E=>iD P w (cI E)) args os (rL post)
def zn(ch:List PanicEntry)(post:List (Nat×ak)→Prop):Exit→ai→Prop
 | .panic ch',A=>ch'=ch∧jS [] (rL post) A
 |_,_=>False
theorem ET{P:Program}{n:Nat}{w:World}{D:aX}{E:bj}{Y:Value→List I→List (Nat×ak)→cE→Prop}{post:List (Nat×ak)→Prop}{fn:Func}{A:ai}{D':aX}{E':bj}{ch:List PanicEntry}(h:jS [] (rL post) A){R:World→Prop}(hR:∀ v w',mV w D E (rL post) v w'→R w') :
  ∀ (ds:List Deferred) (a:Act) (w':World),a.defers=ds→bg ⟨P,w,D,n,cI E,E,Y,none,none⟩ A a w' D' E'→LeavesInM Fence.wide 9 P fn a.tmps (fun e w'=>e=.panicked ch∧R w') ds (.panicking ch) w'
 | [],a,w',_,hs=>by
  obtain ⟨v,U,ab⟩:=hs.vp (fn := { fn with results := #[] }) (rs:=[]) rfl h;exact ⟨rfl,hR v w' ab⟩
 |d::ds,a,w',ah,hs=>by
  obtain ⟨Bs,U,_⟩:=hs.eC;rw[ah] at U;cases Bs with
  |nil=>cases U
  |cons B Bs =>
   simp only[zz7,zv6] at U;obtain ⟨rfl,rfl⟩:=U;obtain ⟨k1,k2⟩:=hs.CD rfl ah;exact ⟨by simp,.inl ⟨B,_,rfl,run_takeDeferred k1,ET h hR _ { a with defers:=Bs.map _ } _ rfl k2⟩⟩
theorem EW{w:World}{D:aX}{E:bj}{post:List (Nat×ak)→Prop}{v:Value}{w':World}(h:mV w D E (rL post) v w'):∃ v' D' E' r os',Ending.returned (.tuple #[])=.returned v'∧rL post r os'∧bl w' D' E' r v'∧kO (fun b=>w.heap.size≤b∨cI E b) w' D' E' (aj os') ∧
   fm (fun b=>w.heap.size≤b∨cI E b) w w'∧(∀ b o,D b o→D' b o)∧(∀ b o,D' b o→b<w'.heap.size)∧(∀ b o,D' b o→b<w.heap.size→¬ cI E b→D b o) ∧
   (∀ n e,E n=some e→av os' n=true→∃ e',E' n=some e'∧e.le e')∧iE w D w':=by
 obtain ⟨D',E',r,os',U,ab,af⟩:=h;refine ⟨_,D',E',r,os',rfl,U,?_,af⟩;obtain ⟨rfl,_⟩:=U;simp only[bl];exact ⟨[],by simp,by simp[aO]⟩
theorem fB.mk{P:Program}{f:FuncId}{fn:Func}{x:bH}{ch:List PanicEntry}{args:List I}{os:List (Nat×ak)}{post:List (Nat×ak)→Prop}(hf:P.funcs[f]?=some fn)(hcall:fq P f=true)(hc:(fn.body.bind (eJ P fn.ntmps))=some x)
  (hn:args.length≤fn.ntmps) (hn2:fn.ntmps≤1000000) (hos:∀ m,av os m=true→1000000≤m) (h:I.gX args→∀ (w:World) (D:aX) (E:bj),ae ⟨P,w,D,fn.ntmps,cI E,E,dq,none,none⟩ x (zn ch post) (au (bS 0 args) os)):fB P f ch args os post:=by
 obtain ⟨body,hb,hc'⟩:=zv5.1 hc;refine ⟨hcall,fun w D E vs hl hD ho hv =>?_⟩;have hlen:=tT hv;have hsim:=Aa (P:=P) (n:=fn.ntmps) (Y:=dq) hD ho hv (by omega) (fun m hm=>⟨zv9 hn2 (hos m hm),hos m hm⟩) (rY hl);refine (callsIn_wide (n:=9)).1 (callsIn_of_wp_marks hf hb trivial ?_);refine wpIn_mono (((h (rS _ _ hv) w D E).sub (wz args os)) body hc' _ w ⟨D,E,hsim⟩) ?_;rintro e a w' ⟨A,hq,D',E',hs⟩;cases e <;>simp only[zn] at hq
 obtain ⟨rfl,hq⟩:=hq;exact ET hq (fun v w' h=>EW h) a.defers a w' rfl hs
theorem fB.aaK{P:Program}{f:FuncId}{ch:List PanicEntry}{args:List I}(hcall:fq P f=true)(h:∀ (w:World) (D:aX) (vs:List Value),aO w D E0 args vs→Calls P f vs.toArray w fun e w'=>e=.panicked ch∧w'=w)(hfl:I.pH args=true):fB P f ch args [] (fun os'=>os'=[]):=by
 refine ⟨hcall,fun w D E vs _ hD ho hv =>?_⟩;refine Calls.mono (h w D vs (aO.flat _ _ hfl hv)) ?_;rintro e w' ⟨rfl,rfl⟩;refine ⟨rfl,EW (v:=.tuple #[]) ⟨D,E,.tuple [],[],⟨rfl,rfl⟩,by simp only[bl];exact ⟨[],by simp,by simp[aO]⟩,?_,fm.refl _ _,fun _ _ h=>h,hD,fun _ _ h _ _=>h,fun n e h hn=>by simp[av,aj] at hn,.refl _ _⟩⟩;exact ⟨fun n=>ho.bP n,fun n m e e' b U ab af ar=>ho.cQ n m e e' b U ab af ar⟩
section
variable {c:c4} {A:ai} {Q:Exit→ai→Prop}
theorem ve{dr:Bool}{K:ai→Prop}{bo:Array Oper}{Q:Exit→Act→World→Prop}{l2:List Oper}(hQ:∀ B a w,K B→cd c B a w→wpListIn c.aY 9 c.P bo Q l2 a w):∀ (l:List Oper) (gs:List aw) (A:ai) (a:Act) (w:World),gO c.P c.n bo l=some gs→aW c.P c.Y dr K (aC gs A) →
  cd c A a w→wpListIn c.aY 9 c.P bo Q (l++l2) a w
 | [],gs,A,a,w,hc,hwp,hs=>by
  simp only[gO,u8] at hc;subst hc;simp only[aC] at hwp;cases hwp with
  |done hk=>exact hQ A a w hk hs
 |o::l,gs,A,a,w,hc,hwp,hs=>by
  simp only[gO] at hc;split at hc
  case h_2=>cases hc
  rename_i g gs' hg hgs;simp only[u8] at hc;subst hc;obtain ⟨U,ab,af,ar⟩:=pA hg;have step:aW c.P c.Y dr K (bt A g.dst g.op gs' (aC gs'))→o.wpIn c.aY 9 c.P a w (wpListIn c.aY 9 c.P bo Q (l++l2)) Q:=fun h =>
   vb U ab.symm (by rw[ab];exact af) h hs (fun B a' w' hw hs'=>ve hQ l gs' B a' w' hgs hw hs')
  simp only[zz3,wpListIn];simp only[aC] at hwp;rcases ar with ⟨h5,h6⟩ | ⟨j,b,t,h5,h6,h7⟩
  ·rw[h6] at hwp;have hw:Region.wanted o (yielded bo a.tmps)=true:=by simp[Region.wanted,h5]
   rw[hw,if_pos rfl];exact step hwp
  ·rw[h7] at hwp;simp only at hwp;split at hwp
   ·rename_i b' hb';rw[vg hs h5 h6 hb'];split at hwp
    ·rename_i hbb;subst hbb;simp only[BEq.rfl,if_true];exact step hwp
    ·rename_i hbb;have:(b'==b)=false:=by simpa using hbb
     rw[this];simp only[zz5,if_false];exact ⟨fun f _=>nk c f,ve hQ l gs' _ _ w hgs hwp (by rw[ab];exact hs.oP af)⟩
   ·rename_i hb';rw[vh hs h5 h6 hb'];simp only[zz5,if_false];exact ⟨fun f _=>nk c f,ve hQ l gs' _ _ w hgs hwp (by rw[ab];exact hs.oP af)⟩
   ·cases hwp
theorem BZ{P:Program}{m:Nat}{bo:Array Oper}{g:aw}{gs2:List aw} : ∀ {l:List Oper} {gs1:List aw},gO P m bo l=some (gs1++g::gs2)→∃ l1 o l2,l=l1++o::l2∧gO P m bo l1=some gs1∧nd P m bo o=some g
 | [],gs1,h=>by simp[gO] at h
 |o::l,[],h=>by
  obtain ⟨g',gs',e,U,ab⟩:=B1 h;simp only[zy5,zv6] at e;obtain ⟨rfl,rfl⟩:=e;exact ⟨[],o,l,rfl,rfl,U⟩
 |o::l,k::gs1,h=>by
  obtain ⟨g',gs',e,U,ab⟩:=B1 h;simp only[zz3,zv6] at e;obtain ⟨rfl,rfl⟩:=e;obtain ⟨l1,o',l2,rfl,q1,q2⟩:=BZ ab;exact ⟨o::l1,o',l2,rfl,by simp only[gO,U,q1],q2⟩
inductive pq (P:Program) (Q:Exit→ai→Prop) (f:FuncId) (avs:List I):ai→Prop where
 |mk {ts:List (Nat×I)} {os0:List (Nat×ak)} (aR:Bool) (ρ:List (Nat×Nat)) (os:List (Nat×ak)) (cargs:List I) (ch:List PanicEntry) (post:List (Nat×ak)→Prop):fB P f ch cargs os post→hd ρ os os0→iF aR (au ts (dY (jg ρ os) os0)) ρ os avs cargs →
  (∀ os',post os'→gJ aR ρ os os0 (.tuple []) os')→(∀ os',post os'→Q (.panic ch) (au ts (dc ρ os'++os0)))→pq P Q f avs (au ts os0)
inductive od (P:Program) (Q:Exit→ai→Prop):bU→ai→Prop where
 |call {f:FuncId} {args:List aV} {A:ai} : pq P Q f (args.map (al A)) A→od P Q (.call f args) A
 |fQ {x:aV} {args:List aV} {f:Nat} {caps:List I} {A:ai} : al A x=.func f caps→pq P Q (mq f) (jc f (args.map (al A)) caps) A→od P Q (.fQ x args) A
theorem zp{o:Oper}{g:bU}{f:FuncId}{avs:List I}{vs:List Value}{a:Act}{w:World}{D:aX}{E:bj}{Kw:Act→World→Prop}(hop0:dm c.P o=some g)(h:pq c.P Q f avs A)(hs:bg c A a w D E)(hall:ga (bl w D E) avs vs)
  (hrun:fq c.P f=true→(execOp a.eval o).run c.P w=.ok (.enter f vs.toArray) w):o.wpIn c.aY 9 c.P a w Kw (vr c Q):=by
 cases h with
 |mk aR ρ os cargs ch post hspec hgv ha hb hrest =>
  have hu:=hspec.2.use hs aR (fun h=>h.mono) ⟨fun _ _=>hs.ry,fun _=>hs.ry⟩ hgv ha (fun r os' hp=>by obtain ⟨rfl,hp⟩:=hp;exact hb os' hp) hall;refine ⟨mc,?_⟩;rw[mI hop0,hrun hspec.1,Oper.uponIn_enter];refine ⟨xC c,Cn (Calls.mono hu ?_)⟩;rintro e w' ⟨rfl,v,r,os',D2,E2,he,⟨rfl,hp⟩,hs',hv,_⟩;exact ⟨_,hrest os' hp,D2,E2,hs'⟩
theorem FW{o:Oper}{g:bU}{a:Act}{w:World}{Kw:Act→World→Prop}(hop:dm c.P o=some g)(h:od c.P Q g A)(hsim:cd c A a w):o.wpIn c.aY 9 c.P a w Kw (vr c Q):=by
 have hop0:=hop;obtain ⟨D,E,hs⟩:=hsim;cases h with
 |call h =>
  unfold dm at hop;split at hop <;>try (first | (simp at hop;done) | ((repeat' split at hop) <;>simp at hop;done))
  rename_i f' xs ts ho;split at hop
  case isFalse=>simp at hop
  simp only[zz0,bU.call.injEq] at hop;obtain ⟨ys,hys,rfl,rfl⟩:=hop;have e:xs.map a.eval=(xs.toList.map a.eval).toArray:=by apply Array.ext';simp
  refine zp (vs:=xs.toList.map a.eval) hop0 h hs (me hs xs.toList ts.toList ys hys) fun hc =>?_;simp only[execOp,ho,resolve,Act.eval,Deferred.ofValue,Sem.run_bind,Sem.run_pure,Result.andThen_ok,invoke,Array.append_empty,Array.empty_append,oU hc];rw[←e]
 |fQ hx h =>
  rename_i x args f caps;unfold dm at hop;split at hop <;>try (first | (simp at hop;done) | ((repeat' split at hop) <;>simp at hop;done))
  rename_i y xs ts _ ho;split at hop
  case h_2=>cases hop
  rename_i y' ys U ab;simp only[u8,bU.fQ.injEq] at hop;obtain ⟨rfl,rfl⟩:=hop;have hv:=b5 hs U;rw[hx] at hv;obtain ⟨cs,q1,q2⟩:=hv;simp only[ao] at q2;obtain ⟨vs,q3,q4⟩:=q2;have hval:a.eval y=kp f vs:=by simpa[bI,I.isAgg,q3] using q1.symm
  have e:xs.map a.eval=(xs.toList.map a.eval).toArray:=by apply Array.ext';simp
  have hargs:=me hs xs.toList ts.toList ys ab;rcases Nat.lt_or_ge f 1000000 with hf | hf
  ·rw[xV hf,xU hf] at h;rw[oC hf] at hval;refine zp (vs:=xs.toList.map a.eval++vs) hop0 h hs (hargs.append (tS q4)) fun hc =>?_;simp only[execOp,ho,resolve,hval,Deferred.ofValue,Sem.run_bind,Sem.run_pure,Result.andThen_ok,invoke,Array.empty_append,oU hc];rw[e];simp
  ·obtain ⟨g,rfl⟩:∃ g:Nat,f=g+1000000:=⟨Nat.sub f 1000000,(Nat.sub_add_cancel hf).symm⟩
   rw[uZ,xT] at h;rw[sH] at hval;refine zp (vs:=vs++xs.toList.map a.eval) hop0 h hs ((tS q4).append hargs) fun hc =>?_;simp only[execOp,ho,resolve,hval,Deferred.ofValue,Sem.run_bind,Sem.run_pure,Result.andThen_ok,invoke,Array.append_empty,oU hc];rw[e];simp
theorem ae.abb{gs:List aw}(k:Nat){g:bU}{dst:Option Nat}(hk:gs=gs.take k++⟨dst,g,none⟩::gs.drop (k+1))(h:∀ K:ai→Prop,(∀ B,od c.P Q g B→K B)→aW c.P c.Y false K (aC (gs.take k) A)):ae c (.cj none gs) Q A:=by
 intro code hc a w hs;cases code <;>simp only[eJ] at hc <;>try (first | (cases hc;done) | ((repeat' split at hc) <;>cases hc;done))
 rename_i id bo draw;split at hc
 case h_2=>cases hc
 rename_i gs' hgs;split at hc
 case isFalse=>cases hc
 simp only[u8,bH.cj.injEq] at hc;obtain ⟨hdr,rfl⟩:=hc;cases draw with
 |true=>simp at hdr
 |false =>
  refine wpIn_region_list ?_;rw[hk] at hgs;obtain ⟨l1,o,l2,hl,U,ab⟩:=BZ hgs;rw[hl];refine ve (K:=od c.P Q g) (fun B a' w' hp hs' =>?_) l1 _ A a w U (h _ fun _ hb=>hb) hs;obtain ⟨q1,q2,q3,q4⟩:=pA ab;have wn:Region.wanted o (yielded bo a'.tmps)=true:=by
   rcases q4 with ⟨a5,_⟩ | ⟨_,_,_,_,_,a5⟩
   ·simp[Region.wanted,a5]
   ·simp at a5
  simp only[wpListIn,wn,if_true];exact FW q1 hp hs'
theorem ae.p9{gs gs1 gs2:List aw}{g:bU}{dst:Option Nat}(e:gs=gs1++⟨dst,g,none⟩::gs2)(h:∀ K:ai→Prop,(∀ B,od c.P Q g B→K B)→aW c.P c.Y false K (aC gs1 A)):ae c (.cj none gs) Q A:=by
 subst e;refine ae.abb gs1.length (g:=g) (dst:=dst) ?_ fun K hK =>?_
 ·simp
 ·simpa using h K hK
end
theorem abN{w:World}{b:Nat}{cs:Array Value}{T:TypeId}{fr:Nat×Nat}{v:Value}(h:w.heap[b]?=some (.cells cs T fr)):w.setCell ⟨b,0,none⟩ v=w.setRow b (cs.setIfInBounds 0 v):=by
 unfold World.setCell World.setRow
 congr 1
 apply Array.ext
 ·simp
 ·intro i U ab;simp only[Array.getElem_modify];split
  ·rename_i e;subst e;obtain ⟨_,hv⟩:=zx1.1 h;simp[hv]
  ·rfl
def ur(P:Program)(f:FuncId):Prop:=fq P f=true∧∀ (b:Nat) (T:TypeId) (w:World) (x:Bool),w.heap[b]?=some (.cells #[.bool x] T (0,0))→CallsDIn Fence.wide 8 P f #[.pointer (some ⟨b,0,none⟩)] .returning w fun e u' w'=>(∃ v,e=.returned v)∧u'=.returning∧w'=w
def uk(P:Program)(f:FuncId)(ch:List PanicEntry):Prop:=fq P f=true∧∀ (b:Nat) (T:TypeId) (w:World) (x:Bool),w.heap[b]?=some (.cells #[.bool x] T (0,0)) →
 CallsDIn Fence.wide 8 P f #[.pointer (some ⟨b,0,none⟩)] (.panicking ch) w fun e u' w'=>(∃ v,e=.returned v)∧settle u'=.returning∧∃ w2,Below w.heap.size w w2∧w'=w2.setCell ⟨b,0,none⟩ (.bool false)
def lI(f:FuncId)(v:Value):Deferred := { target:=.fn (.func f) #[v],args := #[] }
def tJ(rs:List bR)(post:cE)(ch:List PanicEntry)(N:Nat):Exit→ai→Prop
 | .ret,A=>(∃ x,A.o N=some (.box (.bool x)))∧jS rs post A
 | .panic ch',A=>ch'=ch∧(∃ x,A.o N=some (.box (.bool x)))∧jS rs post (A.aZ N (.box (.bool false)))
 |_,_=>False
section
variable {P:Program} {n:Nat} {w:World} {D:aX} {E:bj} {rs:List bR} {post:cE} {fn:Func} {ch:List PanicEntry} {f:FuncId} {N b:Nat}
theorem EU(hrs:iG P fn.results.toList=some rs)(hEN:E N=some (.aR b .one)){A:ai}{D':aX}{E':bj}{u:FrameMode}(hx:∃ x,A.o N=some (.box (.bool x)))
  (hcase:(u=.returning∧jS rs post A∧ur P f)∨(u=.panicking ch∧jS rs post (A.aZ N (.box (.bool false)))∧uk P f ch)) :
  ∀ (ds:List Deferred) (a:Act) (w':World),a.defers=ds→bg ⟨P,w,D,n,cI E,E,dq,none,some [lI f (.pointer (some ⟨b,0,none⟩))]⟩ A a w' D' E'→LeavesInM Fence.wide 9 P fn a.tmps (fun e w'=>∃ v,e=.returned v∧mV w D E post v w') ds u w'
 | [],a,w',ah,hs=>by
  have U:a.defers=[lI f (.pointer (some ⟨b,0,none⟩))]:=hs.eC;rw[ah] at U;cases U
 |d::ds,a,w',ah,hs=>by
  have U:a.defers=[lI f (.pointer (some ⟨b,0,none⟩))]:=hs.eC;rw[ah] at U;simp only[zv6] at U;obtain ⟨rfl,rfl⟩:=U
  ·skip
   obtain ⟨x,hx⟩:=hx;obtain ⟨b',cs,T,e1,e2,e3,e4,e5⟩:cS _ w' D' E' N (some (.box (.bool x))):=hx▸hs.bP N;have hfx:E' N=none∨E' N=some (.aR b .one):=hs.x3 (n:=N) (e:=.aR b .one) hEN rfl;have hE':E' N=some (.aR b .one):=by
    rcases hfx with h | h
    ·rw[h] at e1;cases e1
    ·exact h
   rw[hE'] at e1;simp only[u8,bO.aR.injEq] at e1;obtain ⟨rfl,_⟩:=e1;have hcs:cs = #[.bool x]:=by
    simp only[ao] at e4;apply Array.ext';simpa using e4
   subst hcs;refine ⟨by rcases hcase with ⟨rfl,_⟩ | ⟨rfl,_⟩ <;>simp,.inr ⟨fun _=>by decide,.func f,#[.pointer (some ⟨b,0,none⟩)],f,#[.pointer (some ⟨b,0,none⟩)],rfl,?_,fun _ _=>trivial,?_⟩⟩
   ·have hcb:fq P f=true:=by rcases hcase with ⟨_,_,h⟩ | ⟨_,_,h⟩ <;>exact h.1
    simp only[lI,invoke,oU hcb,Array.empty_append]
   ·rcases hcase with ⟨rfl,hr,hi⟩ | ⟨rfl,hr,hc⟩
    ·refine (hi.2 b T w' x e3).mono ?_;rintro e u' w'' ⟨⟨v,rfl⟩,rfl,rfl⟩;obtain ⟨v,U,ab⟩:=hs.vp hrs hr;exact ⟨v,U,v,rfl,ab⟩
    ·refine (hc.2 b T w' x e3).mono ?_;rintro e u' w'' ⟨⟨v,rfl⟩,hu,w2,hb2,rfl⟩;have hs1:=hs.grow (D':=D') hb2 (fun _ _ h=>h) (fun _ _ h _=>h) (fun b o ah=>Nat.lt_of_lt_of_le (hs.aK b o ah) hb2.size);have e3':w2.heap[b]?=some (.cells #[.bool x] T (0,0)):=(hb2.block b (gu e3)).trans e3;have hs2:=hs1.zU (y:=.bool false) (cs' := #[.bool false]) hx hE' rfl (by simp[ao]);have hw:w2.setCell ⟨b,0,none⟩ (.bool false)=w2.setRow b #[.bool false]:=by
      rw[abN e3'];rfl
     rw[←hw] at hs2;obtain ⟨v,U,ab⟩:=hs2.vp hrs hr;simp only[hu];exact ⟨v,U,v,rfl,ab⟩
theorem rz{aY:Fence}{m:Nat}{tmps:Array Value}{R R':Ending→World→Prop}(hr:∀ e w,R e w→R' e w):∀ (ds:List Deferred) (u:FrameMode) (w:World),LeavesInM aY m P fn tmps R ds u w→LeavesInM aY m P fn tmps R' ds u w
 | [],u,w,h=>by
  cases u with
  |run=>exact h
  |returning=>obtain ⟨v,U,ab⟩:=h;exact ⟨v,U,hr _ _ ab⟩
  |panicking c=>exact hr _ _ h
 |d::ds,u,w,h=>by
  obtain ⟨U,ab⟩:=h;refine ⟨U,?_⟩;rcases ab with ⟨r,w',k1,k2,k3⟩ | ⟨k1,fv,cap,g,args,k2,k3,k4,k5⟩
  ·exact .inl ⟨r,w',k1,k2,rz hr ds u w' k3⟩
  ·refine .inr ⟨k1,fv,cap,g,args,k2,k3,k4,k5.mono fun e u' w' h =>?_⟩;cases e with
   |returned v=>exact rz hr ds _ w' h
   |panicked c=>exact rz hr ds _ w' h
   |outgrown=>exact hr _ _ h
def tR(P:Program)(fn:Func)(rest:Code)(slots:List Nat)(a:Act)(vs:Array Value)(w:World)(R:Ending→World→Prop):Prop :=
 vs.toList=slots.map (fun t=>a.tmps.getD t undef)→rest.wpIn Fence.wide 9 P (bodyPostM Fence.wide 9 P fn R) a w
theorem tR.mono{rest:Code}{slots:List Nat}{a:Act}{vs:Array Value}{w:World}{R R':Ending→World→Prop}(h:tR P fn rest slots a vs w R)(hr:∀ e w,R e w→R' e w):tR P fn rest slots a vs w R':=fun hv=>by
 refine wpIn_mono (h hv) fun e a' w' q =>?_;cases e <;>simp only[bodyPostM] at q ⊢ <;>first
  |exact rz hr _ _ _ q
  |exact hr _ _ q
  |exact q
theorem Ia{w:World}{D:aX}{E:bj}(g:Nat→Value):∀ (slots:List Nat) (args:List I),aO w D E args (slots.map g)→∀ t,bl w D E (bC (slots.zip args) t) (g t)
 | [],args,h,t=>by simp[bC,bl]
 |s::slots,[],h,t=>by simp[bC,bl]
 |s::slots,x::args,h,t=>by
  simp only[aO,zz7] at h;obtain ⟨v,rest,cs,e,U,ab,af⟩:=h;simp only[zv6] at e;obtain ⟨rfl,rfl⟩:=e;simp only[List.zip_cons_cons,bC];split
  ·rename_i hk;subst hk;exact ku U ab
  ·exact Ia g slots args af t
theorem abm{rest:Code}{x:bH}{slots:List Nat}{a:Act}{args:List I}{os:List (Nat×ak)}{ts:Nat}(hrs:iG P fn.results.toList=some rs)(hx:eJ P n rest=some x)(hsz:a.tmps.size=n)(ah:a.defers=[lI f (a.tmps.getD ts undef)])(hos:∀ m,av os m=true→n≤m∧1000000≤m)
  (hts:bC (slots.zip args) ts=.ptr N []) {y:Bool} (hN:aj os N=some (.box (.bool y))) (hi:ur P f) (hc:uk P f ch)
  (hAW:∀ (w:World) (D:aX) (E:bj) (d:Deferred),ae ⟨P,w,D,n,cI E,E,dq,none,some [d]⟩ x (tJ rs post ch N) (au (slots.zip args) os)):pk (tR P fn rest slots a) (fun w _ E=>iD P w (cI E)) args os post:=by
 intro w D E vs hl hD ho hv hvs;have hvs':vs=slots.map (fun t=>a.tmps.getD t undef):=by simpa using hvs
 subst hvs';have htm:=Ia (fun t=>a.tmps.getD t undef) slots args hv;have hp:=htm ts;rw[hts] at hp;obtain ⟨b,bh,off,p1,p2,p3⟩:=mG hp;have hob:cS _ w D E N (some (.box (.bool y))):=hN▸ho.bP N;obtain ⟨b',cs,T,e1,_⟩:=hob;have hsh:bh=.one:=by
  rw[p1] at e1;simp only[u8,bO.aR.injEq] at e1;rw[e1.2];rfl
 subst hsh;have hoff:off=0:=by simpa[cW.off] using p2.symm
 subst hoff;simp only[p3] at ah;have hsim:bg ⟨P,w,D,n,cI E,E,dq,none,some [lI f (.pointer (some ⟨b,0,none⟩))]⟩ (au (slots.zip args) os) a w D E:=by
  refine ⟨hsz,ah,htm,fm.refl _ _,fun _ _ h _=>h,hD,fun m =>?_,ho.cQ,fun m e h=>.inr ⟨e,h,.refl e⟩,fun m hm =>?_,fun _ _ h=>h,rY hl,.refl _ _⟩
  ·have h:=ho.bP m;simp only[au];cases hx:aj os m with
   |none=>rw[hx] at h;exact h
   |some x=>rw[hx] at h;exact cS.kZ h fun e b he hb=>.inr ⟨m,e,he,hb⟩
  ·refine hos m ?_;cases hx:aj os m with
   |none=>have h:=ho.bP m;rw[hx] at h;exact absurd h hm
   |some x=>simp[av,hx]
 refine wpIn_mono ((hAW w D E _) rest hx a w ⟨D,E,hsim⟩) ?_;rintro e a' w' ⟨A,hq,D',E',hs⟩;have br:∀ e w',(∃ v,e=Ending.returned v∧mV w D E post v w')→∃ v D' E' r os',e=.returned v∧post r os'∧bl w' D' E' r v∧kO (fun b=>w.heap.size≤b∨cI E b) w' D' E' (aj os') ∧
   fm (fun b=>w.heap.size≤b∨cI E b) w w'∧(∀ b o,D b o→D' b o)∧(∀ b o,D' b o→b<w'.heap.size)∧(∀ b o,D' b o→b<w.heap.size→¬ cI E b→D b o) ∧
   (∀ n e,E n=some e→av os' n=true→∃ e',E' n=some e'∧e.le e')∧iE w D w':=fun e w' ⟨v,U,D',E',r,os',ab⟩=>⟨v,D',E',r,os',U,ab⟩
 cases e <;>simp only[tJ] at hq
 ·obtain ⟨U,ab⟩:=hq;exact rz br _ _ _ (EU (ch:=ch) hrs p1 U (.inl ⟨rfl,ab,hi⟩) a'.defers a' w' rfl hs)
 ·obtain ⟨rfl,U,ab⟩:=hq;exact rz br _ _ _ (EU hrs p1 U (.inr ⟨rfl,ab,hc⟩) a'.defers a' w' rfl hs)
end
def xB(P:Program)(n:Nat):Code→Option (bH×FuncId×Nat×Nat×bH)
 | .seq mC (.seq (.region _ bo false) rest)=>match bo.toList with
  | [o1,o2]=>match nd P n bo o1,o2.op with
   |some ⟨some t5,.mk g [.t ts],none⟩,.defer { callee:=.value (.tmp t),args,.. } =>if t=t5∧args = #[]∧o2.guard=none∧o2.dst=none then (match eJ P n mC,eJ P n rest with
     |some x0,some x=>some (x0,g,ts,t5,x)
     |_,_=>none)
    else none
   |_,_=>none
  |_=>none
 |_=>none
structure Jw (P:Program) (n:Nat) (x:bH) (rs:List bR) (post:cE) (ch:List PanicEntry) (g:FuncId) (ts t5:Nat) (tsl:List (Nat×I)) (os0:List (Nat×ak)) (ρ:List (Nat×Nat)) (os1:List (Nat×ak)) (slots:List Nat) (cargs:List I) (N:Nat) (y:Bool) (post1:cE):Prop where
 gp:bC tsl ts=.ptr (bB ρ N) []
 Ep:hd ρ os1 os0
 arg:iF false (au ((t5,.func g [.ptr (bB ρ N) []])::tsl) (dY (jg ρ os1) os0)) ρ os1 (slots.map (bC ((t5,.func g [.ptr (bB ρ N) []])::tsl))) cargs
 A1:∀ r os',post1 r os'→gJ false ρ os1 os0 r os'
 HR:bC (slots.zip cargs) ts=.ptr N []
 box:aj os1 N=some (.box (.bool y))
 nl:∀ m,av os1 m=true→n≤m∧1000000≤m
 rest:∀ (w:World) (D:aX) (E:bj) (d:Deferred),ae ⟨P,w,D,n,cI E,E,dq,none,some [d]⟩ x (tJ rs post1 ch N) (au (slots.zip cargs) os1)
 gL:∀ r os',post1 r os'→∃ osF,r.flat=true∧r.bd (bB ρ)=r∧(∀ m z,aj osF m=some z→aj (dc ρ os'++os0) m=some z∧z.only (av osF)=true∧z.en=true)∧post r osF
abbrev uP(P:Program)(w:World)(D:aX)(n:Nat)(E:bj)(b:Option (List Deferred)):c4:=⟨P,w,D,n,cI E,E,dq,none,b⟩
theorem bg.Y1{P:Program}{n:Nat}{w:World}{D:aX}{E:bj}{fO:Option (List Deferred)}{post:cE}{A:ai}{a:Act}{w':World}{D':aX}{E':bj}{r:I}{v:Value}{os:List (Nat×ak)}
  (hs:bg (uP P w D n E fO) A a w' D' E') (U:∀ m z,aj os m=some z→A.o m=some z∧z.only (av os)=true∧z.en=true) (hf:r.flat=true) (hv:bl w' D' E' r v) (hp:post r os):mV w D E post v w':=by
 obtain ⟨D2,E2,hw,e2,e2n,q1,q2,q3,q4,q5,q6⟩:=hs.yD U;exact ⟨D2,E2,r,os,hp,bl.flat hf hv,q1,q2,q3,q4,q5,q6⟩
theorem cU.aar{P:Program}{f:FuncId}{fn:Func}{x0 x:bH}{g:FuncId}{ts t5:Nat}{rs:List bR}{args:List I}{os:List (Nat×ak)}{post:cE}{ch:List PanicEntry}(hf:P.funcs[f]?=some fn)(hcall:fq P f=true)(hc:(fn.body.bind (xB P fn.ntmps))=some (x0,g,ts,t5,x))
  (hrs:iG P fn.results.toList=some rs) (hn:args.length≤fn.ntmps) (hn2:fn.ntmps≤1000000) (hos:∀ m,av os m=true→1000000≤m) (hi:ur P g) (hca:uk P g ch) (hts:ts≠t5)
  (h:I.gX args→∀ (w:World) (D:aX) (E:bj),ae ⟨P,w,D,fn.ntmps,cI E,E,dq,none,some []⟩ x0 (ee (fun B=>∃ tsl os0 ρ os1 slots cargs N y post1,B=au tsl os0∧Jw P fn.ntmps x rs post ch g ts t5 tsl os0 ρ os1 slots cargs N y post1) (fun _ _=>False)) (au (bS 0 args) os)):cU P f args os post:=by
 obtain ⟨body,hb,hc⟩:=zv5.1 hc;refine ⟨hcall,fun w D E vs hl hD ho hv =>?_⟩;have hlen:=tT hv;have s0:=Aa (P:=P) (n:=fn.ntmps) (Y:=dq) hD ho hv (by omega) (fun m hm=>⟨zv9 hn2 (hos m hm),hos m hm⟩) (rY hl);have hsim:bg (uP P w D fn.ntmps E (some [])) (qw args os) { tmps:=vs.toArray++Array.replicate (fn.ntmps-vs.toArray.size) undef,defers:=[] } w D E :=
  ⟨s0.sz,rfl,s0.dO,s0.dK,s0.c6,s0.aK,s0.bP,s0.cQ,s0.dR,s0.eL,s0.cT,rY hl,s0.fA⟩
 obtain ⟨RR,hRR⟩:∃ RR:Ending→World→Prop,RR=fun e w'=>∃ v,e=.returned v∧mV w D E post v w':=⟨_,rfl⟩
 refine Calls.mono (R:=RR) ?_ (fun e w' q=>by rw[hRR] at q;obtain ⟨v,he,D',E',r,os',k⟩:=q;exact ⟨v,D',E',r,os',he,k⟩);refine (callsIn_wide (n:=9)).1 (callsIn_of_wp_marks hf hb trivial ?_);unfold xB at hc;split at hc
 case h_2=>cases hc
 rename_i mC id bo rest;split at hc
 case h_2=>cases hc
 rename_i o1 o2 hops;split at hc
 case h_2=>cases hc
 rename_i t5' g' ts' t dargs _ hg1 ho2;split at hc
 case isFalse=>cases hc
 rename_i hok;obtain ⟨rfl,rfl,hgd,hdst⟩:=hok;split at hc
 case h_2=>cases hc
 rename_i y0 y hx0 hx;simp only[u8,Prod.mk.injEq] at hc;obtain ⟨rfl,rfl,rfl,rfl,rfl⟩:=hc;refine wpIn_seq ?_;have hw0:=((h (rS _ _ hv) w D E).sub (wz args os)) mC hx0 _ w ⟨D,E,hsim⟩;refine wpIn_mono hw0 ?_;rintro e a1 w1 ⟨B,hq,D1,E1,hs1⟩;cases e <;>simp only[ee] at hq
 obtain ⟨tsl,os0,ρ,os1,slots,cargs,N,yb,post1,rfl,R⟩:=hq;simp only[Exit.then];refine wpIn_seq (wpIn_region_list ?_);rw[hops];obtain ⟨q1,q2,q3,q4⟩:=pA hg1;simp only at q1 q2;have wn1:∀ a:Act,Region.wanted o1 (yielded bo a.tmps)=true:=fun a=>by
  rcases q4 with ⟨a5,_⟩ | ⟨_,_,_,_,_,a5⟩
  ·simp[Region.wanted,a5]
  ·simp at a5
 have wn2:∀ a:Act,Region.wanted o2 (yielded bo a.tmps)=true:=fun a=>by simp[Region.wanted,hgd]
 simp only[wpListIn,wn1,if_true];have hmk:bu (au tsl os0) (.mk g' [.t ts'])=some (.func g' [.ptr (bB ρ N) []]):=by
  simp[bu,al,au,R.gp,I.bV]
 have d1:=(Ga (c:=uP P w D fn.ntmps E (some [])) q1 hmk).does q3;rw[←q2] at d1;refine d1.wp q1 ⟨D1,E1,hs1⟩ fun a2 w2 hs2 =>?_;obtain ⟨D2,E2,hs2⟩:=hs2;simp only[wn2,if_true];rw[Fo] at hs2
 -- the deferred call
 have hglt:=Cm hi.1;have hfv:=hs2.dO t;simp only[au,bC,if_true] at hfv;obtain ⟨fc,f1,f2⟩:=hfv;simp only[ao] at f2;obtain ⟨fvs,f3,f4⟩:=f2;have hval:a2.tmps.getD t undef=.func (.func g') #[] fvs.toArray:=by
  rw[←oC hglt];simpa[bI,I.isAgg,f3] using f1.symm
 simp only[aO] at f4;obtain ⟨pv,prest,pcs,rfl,p1,p2,rfl⟩:=f4;have hpv:=hs2.dO ts';simp only[au,bC,if_neg hts,R.gp] at hpv;obtain ⟨pb,psh,poff,b1,b2,b3⟩:=mG hpv;obtain ⟨pb',psh',poff',b1',b2',b3'⟩:=mG (ku p1 p2);have hpeq:pv=a2.tmps.getD ts' undef:=by
  rw[b1] at b1';simp only[u8,bO.aR.injEq] at b1';obtain ⟨rfl,rfl⟩:=b1';rw[b2] at b2';simp only[u8] at b2';subst b2';rw[b3,b3']
 have hdf:a2.defers=[]:=hs2.eC;obtain ⟨a3,ha3⟩:∃ a3:Act,a3 = { a2 with defers:=[lI g' (a2.tmps.getD ts' undef)] } :=⟨_,rfl⟩
 have hrun:(o2.semAt Fence.wide.round a2.eval).run P w2=.ok (.defer (lI g' (a2.tmps.getD ts' undef))) w2:=by
  show (execOp a2.eval o2).run P w2=_
  have he:a2.eval (.tmp t)=.func (.func g') #[] #[pv]:=hval;simp[execOp,ho2,resolve,he,Deferred.ofValue,lI,hpeq]
 refine ⟨fun _ _=>trivial,?_⟩;rw[hrun,Oper.uponIn_defer,hdf,hdst];simp only[Exit.then];have hput:({ tmps:=a2.tmps,defers:=[lI g' (a2.tmps.getD ts' undef)] } : Act).put none undef=a3:=by rw[ha3];rfl
 rw[hput]
 -- the rest
 have hand:=abm (P:=P) (n:=fn.ntmps) (fn:=fn) (f:=g') (N:=N) (ch:=ch) (slots:=slots) (a:=a3) (args:=cargs) (os:=os1) (ts:=ts') hrs hx (by rw[ha3];exact hs2.sz) (by rw[ha3]) R.nl R.HR R.box hi hca R.rest;have hs3:bg (uP P w D fn.ntmps E (some [lI g' (a2.tmps.getD ts' undef)])) (au ((t,.func g' [.ptr (bB ρ N) []])::tsl) os0) a3 w2 D2 E2:=by
  rw[ha3];exact ⟨hs2.sz,rfl,hs2.dO,hs2.dK,hs2.c6,hs2.aK,hs2.bP,hs2.cQ,hs2.dR,hs2.eL,hs2.cT,rY hl,hs2.fA⟩
 have hall:∀ l:List Nat,ga (bl w2 D2 E2) (l.map (bC ((t,.func g' [.ptr (bB ρ N) []])::tsl))) (l.map fun k=>a3.tmps.getD k undef):=fun l=>by
  induction l with
  |nil=>exact .nil
  |cons k l ih=>exact .cons (hs3.dO k) ih
 have hus:=hand.use hs3 false (fun h hr=>h.mono hr) ⟨(fun h=>by cases h),fun _=>hs3.ry⟩ R.Ep R.arg R.A1 (hall slots);refine tR.mono hus ?_ (by simp);rintro e w' ⟨v,r,os',D4,E4,rfl,hp,hs4,hv4,_⟩;rw[hRR];obtain ⟨osF,g1,g2,g3,g4⟩:=R.gL r os' hp;rw[g2] at hv4;exact ⟨v,rfl,hs4.Y1 g3 g1 hv4 g4⟩
def ic:aw:=⟨none,.mv (.c (.bool true)),none⟩
theorem KB{l:List Oper}{cl:List Nat}(h7:∀ i,i<l.length→(((l.map cC).getD i []).all (fun k=>decide (k<i))&&Nat.beq (cl.getD i 0) (mR cl ((l.map cC).getD i [])))=true)
  {S:Nat→Prop} (hS:∀ i o,l[i]?=some o→S i→∀ k∈cC o,S k):∀ n i o,i≤n→l[i]?=some o→(∀ k∈cC o,S k)→∀ j,(cl.getD i 0).testBit j=true→S j:=by
 have gp:∀ i o,l[i]?=some o→(∀ k∈cC o,k<i)∧(∀ j,(cl.getD i 0).testBit j=true→j∈cC o∨∃ k∈cC o,(cl.getD k 0).testBit j=true):=by
  intro i o ho;have hi:i<l.length:=(zy0.1 ho).1;have h8:=h7 i hi;have hon:(l.map cC).getD i []=cC o:=by simp[zz2,ho]
  rw[hon] at h8;simp only[zz1,zx6,decide_eq_true_eq] at h8;have hb:=Nat.eq_of_beq_eq_true h8.2;exact ⟨h8.1,fun j hj=>uf (by rw[←hb];exact hj)⟩
 intro n
 induction n with
 |zero =>
  intro i o hi ho hon j hj;obtain ⟨h8,h9⟩:=gp i o ho;rcases h9 j hj with h | ⟨k,hk,_⟩
  ·exact hon j h
  ·have:=h8 k hk;omega
 |succ n ih =>
  intro i o hi ho hon j hj;obtain ⟨h8,h9⟩:=gp i o ho;rcases h9 j hj with h | ⟨k,hk,hjk⟩
  ·exact hon j h
  ·have hki:=h8 k hk;have hkl:k<l.length:=Nat.lt_trans hki (zy0.1 ho).1;obtain ⟨ok,hok⟩:∃ ok,l[k]?=some ok:=⟨l[k],zx3 hkl⟩
   exact ih k ok (by omega) hok (hS k ok hok (hon k hk)) j hjk
def FV(hs:List FuncId)(aG:ez)(on:List (List Nat))(gs:List aw)(σ:List Nat)(m:Nat):Bool :=
 vS hs aG on (gs.take m++[ic]) (nf on) (σ++[m])&&(vm (m+1) (nf on) m&&Nat.beq gs.length (m+1))
section
variable {c:c4}
theorem JR{K:ai→Prop}{fs:List FuncId}{aG:ez}{bo:Array Oper}{gs0 gs:List aw}{σ:List Nat}{Q:Exit→Act→World→Prop}{m:Nat}(hm:m<bo.size)(hQ:∀ (B:ai) (a:Act) (w:World) (Kw:Act→World→Prop),K B→cd c B a w→wpOpIn c.aY 9 c.P bo Q m Kw a w)
  (hgs:gO c.P c.n bo bo.toList=some gs0) (hsame:∀ i,i≠m→gs[i]?=gs0[i]?) (hgm:gs[m]?=some ic) (hgl:gs.length=bo.size) (ah:AD fs aG bo.toList gs σ)
  (hlast:∀ (S:Nat→Prop),(∀ i o,bo.toList[i]?=some o→S i→∀ k∈cC o,S k)→∀ o,bo.toList[m]?=some o→(∀ k∈cC o,S k)→∀ j,j<gs.length→j≠m→S j) :
  ∀ (fuel:Nat) (listed:Array Bool) (A:ai) (a:Act) (w:World),listed.size=bo.size→(∀ i o,bo.toList[i]?=some o→listed.getD i false=true→∀ k∈cC o,listed.getD k false=true)→(gm σ listed).length≤fuel →
   dC aG A→listed.getD m true=false→cz c.P c.Y fs K (aC (kD gs σ listed) A)→cd c A a w→wpAnyIn c.aY 9 c.P .any bo Q fuel listed a w:=by
 obtain ⟨hlen,hat⟩:=lH hgs;have onOf_mem:∀ (o:Oper) (e:Edge),e∈o.after→Region.binds .any e=true→e.on∈cC o:=fun o e he hb=>by
  simp only[cC,zy7,zx5];exact ⟨e,⟨by simpa using he,hb⟩,rfl⟩
 have of_onOf:∀ (o:Oper) (k:Nat),k∈cC o→∃ e∈o.after,Region.binds .any e=true∧e.on=k:=fun o k hk=>by
  simp only[cC,zy7,zx5] at hk;obtain ⟨e,⟨U,ab⟩,af⟩:=hk;exact ⟨e,by simpa using U,ab,af⟩
 have last:∀ (listed:Array Bool),listed.size=bo.size→Region.ready .any bo listed=[]→listed.getD m true=false→False:=by
  intro listed hsz hr hml;have all:∀ n,∀ i,i<n→i<bo.size→listed.getD i true=true:=by
   intro n
   induction n with
   |zero=>intro i hi;omega
   |succ n ih =>
    intro i hi his;cases hb:listed.getD i true with
    |true=>rfl
    |false =>
     exfalso
     have ho:bo[i]?=some bo[i]:=Array.getElem?_eq_getElem his;have:i∈Region.ready .any bo listed:=mem_ready.2 ⟨hb,bo[i],ho,fun e he hbd=>by
      have hlt:=ah.gL i bo[i] (by simp) e.on (onOf_mem _ e he hbd);have U:=ih e.on (by omega) (by omega);have ab:e.on<listed.size:=by omega
      simpa[Array.getD_eq_getD_getElem?,ab] using U⟩
     rw[hr] at this;cases this
  have:=all (m+1) m (by omega) hm;rw[hml] at this;cases this
 intro fuel
 induction fuel with
 |zero =>
  intro listed A a w hsz hcl hcnt hinv hml hwp hs;have hnone:gm σ listed=[]:=List.length_eq_zero_iff.1 (by omega);have:m∈gm σ listed:=by
   simp only[gm,zx5,hml,Bool.not_false,and_true];exact ah.all m (by omega)
  rw[hnone] at this;cases this
 |succ fuel ih =>
  intro listed A a w hsz hcl hcnt hinv hml hwp hs;refine ⟨fun hr=>(last listed hsz hr hml).elim,fun i hi =>?_⟩;obtain ⟨hun,o,ho,hall⟩:=mem_ready.1 hi;have hin:i<bo.size:=(zx1.1 ho).1;obtain ⟨s1,s2,hσ,e1,e2⟩:=Hl ah.tl (ah.all i (by omega)) (by omega) hun;have hol:bo.toList[i]?=some o:=by simpa using ho
  obtain ⟨g,hgi0,hcg⟩:=hat i o hol;have hon:∀ k∈cC o,listed.getD k false=true:=fun k hk=>by
   obtain ⟨e,U,ab,af⟩:=of_onOf o k hk;exact af▸hall e U ab
  by_cases him:i=m
  ·subst him;have hnil:gm σ listed=[i]:=by
    have hz:∀ j∈s1++s2,(!listed.getD j true)=false:=fun j hj=>by
     have hjσ:j∈σ:=by rw[hσ];rcases zy8.1 hj with h | h <;>simp[h]
     have hjl:=ah.lt j hjσ;have hji:j≠i:=fun e=>by
      subst e;have hnd:=ah.tl;rw[hσ] at hnd;rcases zy8.1 hj with h | h
      ·exact (zv8.1 hnd).2.2 j h j (by simp) rfl
      ·exact (List.nodup_cons.1 (zv8.1 hnd).2.1).1 h
     have h5:=hlast (fun k=>listed.getD k false=true) hcl o hol hon j hjl hji;have hjs:j<listed.size:=by omega
     simp[Array.getD_eq_getD_getElem?,hjs] at h5 ⊢;exact h5
    rw[e1];have f1:(s1.filter fun j => !listed.getD j true)=[]:=List.filter_eq_nil_iff.2 fun j hj=>by rw[hz j (zv7 _ hj)];simp
    have f2:(s2.filter fun j => !listed.getD j true)=[]:=List.filter_eq_nil_iff.2 fun j hj=>by rw[hz j (List.mem_append_right _ hj)];simp
    rw[f1,f2];rfl
   have hgd:gs.getD i default=ic:=by simp[zz2,hgm]
   simp only[kD,hnil,zz7,zx8,hgd] at hwp;have e:aC [ic] A=.done A:=rfl;rw[e] at hwp;cases hwp with
   |done hk=>exact hQ A a w _ hk hs
  have hgi:gs[i]?=some g:=by rw[hsame i him];exact hgi0
  have hgd:gs.getD i default=g:=by simp[zz2,hgi]
  have hwp':cz c.P c.Y fs K (aC (g::kD gs σ (listed.setIfInBounds i true)) A):=by
   simp only[kD,e1,zx2,zz7,hgd] at hwp;simp only[kD,e2,zx2];refine cz.qS hinv (fun j hj =>?_) hwp;obtain ⟨k,hk,rfl⟩:=zy7.1 hj;obtain ⟨hk1,hk2⟩:=zx5.1 hk;have:=ah.sR (fun k=>listed.getD k false=true) hcl s1 i s2 o hσ hol hon k hk1 (by
    have hks:k<listed.size:=by
     have:=ah.lt k (by rw[hσ];exact zv7 _ hk1);omega
    simp[Array.getD_eq_getD_getElem?,hks] at hk2 ⊢;exact hk2)
   rw[hgd] at this;have hkl:=ah.lt k (by rw[hσ];exact zv7 _ hk1);have hks:k<bo.size:=by omega
   refine ⟨this,?_⟩;rcases ah.yz k bo[k] (by simp) with h | h
   ·exact h
   ·exfalso
    have h9:=h.1;rw[hσ,List.getLast?_append] at h9;have hne:(i::s2).getLast?=some k:=by
     cases h10:(i::s2).getLast? with
     |none=>simp at h10
     |some q=>rw[h10] at h9;simpa using h9
    have hk2:k∈i::s2:=List.mem_of_getLast? hne;have hnd:=ah.tl;rw[hσ] at hnd;exact (zv8.1 hnd).2.2 k hk1 k hk2 rfl
  unfold wpOpIn;rw[ho];have hokg:pU g.op=true:=by
   have:=ah.ok i (by omega)
   rwa [hgd] at this
  have hcl':∀ m om,bo.toList[m]?=some om→(listed.setIfInBounds i true).getD m false=true→∀ k∈cC om,(listed.setIfInBounds i true).getD k false=true:=by
   intro m om hom hm k hk;by_cases hmi:m=i
   ·subst hmi;rw[hol,u8] at hom;subst hom;exact getD_set_true (hon k hk)
   ·rw[getD_set_ne false (Ne.symm hmi)] at hm;exact getD_set_true (hcl m om hom hm k hk)
  have hfu:(gm σ (listed.setIfInBounds i true)).length≤fuel:=by
   have:(gm σ listed).length=(gm σ (listed.setIfInBounds i true)).length+1:=by
    rw[e1,e2];simp;omega
   omega
  have hml':(listed.setIfInBounds i true).getD m true=false:=by rw[getD_set_ne true him];exact hml
  rcases ah.yz i o hol with hlb | ⟨hla,hlb⟩
  ·rw[hgd] at hlb;exact Ec hcg hinv ⟨hokg,hlb⟩ hwp' hs fun B a' w' hw hiB hs'=>ih _ B a' w' (by simpa using hsz) hcl' hfu hiB hml' hw hs'
  ·exfalso
   have h5:=hlb (fun k=>listed.getD k false=true) hcl hon m (by omega) (Ne.symm him);have hms:m<listed.size:=by omega
   simp[Array.getD_eq_getD_getElem?,hms] at h5 hml;rw[hml] at h5;cases h5
theorem ae.kC{Q:Exit→ai→Prop}{A:ai}{on:List (List Nat)}{gs:List aw}(m:Nat)(hs:List FuncId)(aG:ez)(σ:List Nat){g:bU}{dst:Option Nat}(ah:FV hs aG on gs σ m=true)(hk:gs[m]?=some ⟨dst,g,none⟩)(hi:dC aG A)
  (h:∀ K:ai→Prop,(∀ B,od c.P Q g B→K B)→cz c.P c.Y hs K (aC (hZ (σ++[m]) (gs.take m++[ic])) A)):ae c (.cj (some on) gs) Q A:=by
 intro code hc a w hs';cases code <;>simp only[eJ] at hc <;>try (first | (cases hc;done) | ((repeat' split at hc) <;>cases hc;done))
 rename_i id bo draw;split at hc
 case h_2=>cases hc
 rename_i gs' hgs;split at hc
 case isFalse=>cases hc
 rename_i hok;simp only[u8,bH.cj.injEq] at hc;obtain ⟨he,rfl⟩:=hc;cases draw with
 |false=>cases he
 |true =>
  simp only[cond_true,u8] at he;subst he;simp only[Bool.not_true,Bool.false_or] at hok;simp only[FV,zz1] at ah;obtain ⟨hd1,hd2,hd3⟩:=ah;have hglen:=Nat.eq_of_beq_eq_true hd3;have hops:gs'.length=bo.size:=by rw[(lH hgs).1,zw4]
  have hXl:(gs'.take m++[ic]).length=bo.size:=by simp;omega
  have hp:=aaF (l:=bo.toList) (by rw[hXl,zw4]) hd1;have h7:∀ i,i<bo.toList.length→(((bo.toList.map cC).getD i []).all (fun k=>decide (k<i))&&Nat.beq ((nf (bo.toList.map cC)).getD i 0) (mR (nf (bo.toList.map cC)) ((bo.toList.map cC).getD i [])))=true:=by
   simp only[vS,zz1,zx6,zy9] at hd1;intro i hi;have:=hd1.2.2 i (by rw[hXl];simpa using hi);simpa only[zz1,zx6] using this
  have hmlt:m<bo.size:=by omega
  refine wpIn_region_any hok (JR (K:=od c.P Q g) (m:=m) hmlt (fun B a' w' Kw hpn hs2 =>?_) hgs (gs:=gs'.take m++[ic]) (fun i him =>?_) ?_ hXl hp (fun S hS o ho hon j hj hjm =>?_) bo.size (Array.replicate bo.size false) A a _ (by simp) ?_ ?_ hi (by simp[Array.getD_eq_getD_getElem?,hmlt]) ?_ ?_)
  ·obtain ⟨g1,hg1,hg2⟩:=(lH hgs).2 m bo[m] (by simp[hmlt]);rw[hk,u8] at hg1;subst hg1;obtain ⟨q1,q2,q3,q4⟩:=pA hg2;have wn:Region.wanted bo[m] (yielded bo a'.tmps)=true:=by
    rcases q4 with ⟨a5,_⟩ | ⟨_,_,_,_,_,a5⟩
    ·simp[Region.wanted,a5]
    ·simp at a5
   unfold wpOpIn;rw[Array.getElem?_eq_getElem hmlt];simp only[wn,if_true];exact FW q1 hpn hs2
  ·rcases Nat.lt_or_ge i m with hl | hl
   ·rw[zx0 (by simp;omega),List.getElem?_take,if_pos hl]
   ·rw[List.getElem?_eq_none (by rw[hXl];omega),List.getElem?_eq_none (by omega)]
  ·rw[zv1 (by simp;omega)];simp[show min m gs'.length=m by omega]
  ·have hb:(nf (bo.toList.map cC)).getD m 0 |>.testBit j:=by
    simp only[vm,zx6,zy9,Bool.or_eq_true,beq_iff_eq] at hd2;rcases hd2 j (by omega) with e | e
    ·exact absurd e hjm
    ·exact e
   exact KB h7 hS m m o (zz9 _) ho hon j hb
  ·intro i o _ h
   exfalso
   simp only[Array.getD_eq_getD_getElem?,Array.getElem?_replicate] at h;split at h <;>simp at h
  ·refine zv9 (List.length_filter_le _ _) ?_;rw[hp.len,hXl];exact zz9 _
  ·have hall:gm (σ++[m]) (Array.replicate bo.size false)=σ++[m]:=by
    simp only[gm];refine List.filter_eq_self.2 fun i hi =>?_;have U:=hp.lt i hi;rw[hXl] at U;simp[U]
   simp only[kD,hall];exact h _ fun _ hb=>hb
  ·obtain ⟨D,E,hs'⟩:=hs';exact ⟨D,E,hs'.grow (w' := { w with drawn:=w.drawn+1 }) ⟨rfl,rfl,rfl,zz9 _,fun _ _=>rfl⟩ (fun _ _ h=>h) (fun _ _ h _=>h) (fun b o h=>hs'.aK b o h)⟩
end
end Go.Abs
namespace Go.Abs
open Go Go.RowKit
open Enc (enc)
def oj(w:World):aX:=fun b _=>b<w.heap.size
structure mW (P:Program) (t:TypeId) (α:Type) [Enc α]:Prop where
 cells:P.cellsOf t=Enc.sz α
 aaL:0<Enc.sz α
 zh:∀ {H:Type} {enc0:TypeId×Value→H} {w:World} {fuel:Nat} {cs:List Value} {x:DataW H×List MemPlace},DataW.trod enc0 P w 0 (fun _=>true) true fuel t cs=some x→∃ a:α,ao w (oj w) E0 (enc a) cs
theorem aaA{P:Program}{t:TypeId}(ht:P.underlying t=some (.int .i64))(hc:P.cellsOf t=1):mW P t Int :=
 ⟨hc,by decide,fun h=>by
  obtain ⟨n,rfl,_,hw⟩:=DataW.trod_int ht h;refine ⟨n,?_⟩;rw[eQ,ao];simp only[Lit.wf,zz1,decide_eq_true_eq] at hw;exact ⟨rfl,hw.1,hw.2⟩⟩
theorem JJ(a:Addr)(i j:Nat):(a.add i).add j=a.add (i+j):=by
 unfold Addr.add;by_cases hi:i=0 <;>by_cases hj:j=0 <;>simp[hi,hj,Nat.add_assoc]
theorem aaB{P:Program}{t e:TypeId}{α:Type}[Enc α](ht:P.underlying t=some (.slice e))(he:mW P e α)(hc:P.cellsOf t=1):mW P t (List α) :=
 ⟨hc,by rw[sv];exact Nat.one_pos,fun {H enc0 w fuel cs x} h=>by
  rcases DataW.trod_slice ht h with ⟨rfl,_⟩ | ⟨a,len,cap,elems,rest,n,_,rfl,_,hb,hl,hm,hlen,hel,_⟩
  ·refine ⟨[],?_⟩;simp only[iR,zx8];rw[ao];exact ⟨none,0,rfl,zz9 _,by decide,.inl rfl,by simp⟩
  ·have key:∀ k,k≤len→∃ (l:List α) (cs':List Value),l.length=k∧aU w (oj w) E0 (l.map enc) cs'∧cs'.length=k*Enc.sz α∧∀ j v,cs'[j]?=some v→w.cell? (a.add j)=some v:=by
    intro k
    induction k with
    |zero=>exact fun _=>⟨[],[],rfl,by simp[aU],by simp,by simp⟩
    |succ k ih =>
     intro hk;obtain ⟨l,cs',U,ab,af,ar⟩:=ih (by omega);have h5:=hel k (by omega);have h6:k<elems.length:=by omega
     rw[zx3 h6] at h5;obtain ⟨ce,h7,h8⟩:=zv5.1 h5;obtain ⟨y,hy⟩:=he.zh h8;rw[he.cells] at h7;obtain ⟨_,h9,h10⟩:=World.cells?_some h7;refine ⟨l++[y],cs'++ce,by simp[U],?_,by rw[zz6,af,h9,Nat.succ_mul],fun j v hj =>?_⟩
     ·rw[zx2];refine lu _ _ _ _ ab ?_;simp only[zz7,zx8,aU];exact ⟨ce,[],by simp,hy,rfl⟩
     ·rcases Nat.lt_or_ge j cs'.length with hlt | hge
      ·rw[zx0 hlt] at hj;exact ar j v hj
      ·rw[zv1 hge] at hj;have hlt:j-cs'.length<Enc.sz α:=by
        have:=(zy0.1 hj).1;omega
       have:=h10 (j-cs'.length) hlt;rw[JJ,←af,Nat.add_sub_cancel' hge] at this;rw[this];exact hj
   obtain ⟨l,cs',U,ab,af,ar⟩:=key len (zz9 _);refine ⟨l,?_⟩;simp only[iR,ao,zz8];refine ⟨some a,cap,by rw[U],by omega,hm,?_,JQ l⟩;by_cases hz:len=0
   ·left;have:l=[]:=List.length_eq_zero_iff.1 (by omega);rw[this];rfl
   right
   have hpos:0<cs'.length:=by rw[af];exact Nat.mul_pos (Nat.pos_of_ne_zero hz) he.aaL
   have bf:=ar 0 cs'[0] (zx3 hpos);have hsp:a.spot=none:=by
    simp only[Addr.add,if_true] at bf;unfold World.cell? at bf;split at bf
    ·split at bf
     ·cases bf
     ·rename_i hs;cases hh:a.spot <;>simp_all
    ·cases bf
   have ha:∀ j,a.add j=⟨a.block,a.off+j,none⟩:=fun j=>by
    unfold Addr.add;split
    ·rename_i hj;subst hj;cases a;simp_all
    ·rfl
   refine ⟨a.block,a.off,cs',by cases a;simp_all,fun j v hj =>?_,ab⟩;have h5:=ar j v hj;rw[ha] at h5;refine ⟨h5,?_⟩
   show (⟨a.block,a.off+j,none⟩:Addr).block<_
   exact World.block_lt_of_cell? w _ h5⟩
end Go.Abs
namespace Go.Abs
open Go Go.RowKit Go.ChangeShapes
open Enc (enc)
def vk(P:Program)(t:TypeId)(l:List (TypeId×Nat)):Bool:=match P.underlying t with
 |some (.struct fs)=>fs.toList.map (fun f=>(f.type,f.offset))==l
 |_=>false
def Ez(P:Program)(t:TypeId)(n:Nat)(e:TypeId):Bool:=match P.underlying t with
 |some (.array n' e')=>n'==n&&e'==e
 |_=>false
theorem YC{P:Program}{t:TypeId}{n:Nat}{e:TypeId}(h:Ez P t n e=true):P.underlying t=some (.array n e):=by
 unfold Ez at h;split at h
 ·rename_i n' e' ht;simp only[zz1,beq_iff_eq] at h;rw[ht,h.1,h.2]
 ·cases h
theorem YG{P:Program}{t:TypeId}{l:List (TypeId×Nat)}(h:vk P t l=true):∃ fs,P.underlying t=some (.struct fs)∧fs.toList.map (fun f=>(f.type,f.offset))=l:=by
 unfold vk at h;split at h
 ·rename_i fs ht;exact ⟨fs,ht,by simpa using h⟩
 ·cases h
theorem ab9{H:Type}{enc0:TypeId×Value→H}{P:Program}{w:World}{fuel:Nat}{t:TypeId}{l:List (TypeId×Nat)}{cs:List Value}{x:DataW H×List MemPlace}(ht:vk P t l=true)(h:DataW.trod enc0 P w 0 (fun _=>true) true fuel t cs=some x) :
  cs.length=P.cellsOf t∧∃ m:Nat,∀ (i:Nat) (u:TypeId) (o:Nat),l[i]?=some (u,o)→∃ y,DataW.trod enc0 P w 0 (fun _=>true) true m u ((cs.drop o).take (P.cellsOf u))=some y:=by
 obtain ⟨fs,U,ab⟩:=YG ht;obtain ⟨xs,m,_,_,af,ar,h5⟩:=DataW.trod_struct U h;refine ⟨af,m,fun i u o hi =>?_⟩;rw[←ab] at hi;simp only[zx7,zz0,Prod.mk.injEq] at hi;obtain ⟨f,hf,rfl,rfl⟩:=hi;have hf':fs[i]?=some f:=by simpa using hf
 have h6:=h5 i f hf';have hlt:i<fs.size:=(zx1.1 hf').1;rw[zx3 (by omega)] at h6;exact ⟨_,h6⟩
section
variable {P:Program} {t:TypeId} {α β γ:Type} [Enc α] [Enc β] [Enc γ] {H:Type} {enc0:TypeId×Value→H} {w:World} {fuel:Nat} {cs:List Value} {x:DataW H×List MemPlace}
theorem aaz{fO:Nat}{v:Value}{d:DataW H}{p:List MemPlace}(ho:mW P t α)(hA:Enc.iL α=false)(hst:(match P.underlying t with | some (.slice _) | some (.int _) | some .bool=>true | _=>false)=true)(hv:Value.okWide P w .any fO t v)
  (h:DataW.Trod enc0 P w 0 (fun _=>true) true t v d p):∃ (a:α) (cs:List Value),bI (enc a) v cs∧ao w (oj w) E0 (enc a) cs:=by
 obtain ⟨fuel,h⟩:=h;have hone:v.cells.toList=[v]:=by
  unfold Value.okWide at hv;split at hst
  ·rename_i e ht;rw[ht] at hv;simp only[Cell.okWide,ht] at hv;cases v <;>simp_all[Cell.ok,Value.cells]
  ·rename_i e ht;rw[ht] at hv;simp only[Cell.okWide,ht] at hv;cases v <;>simp_all[Cell.ok,Value.cells]
  ·rename_i ht;rw[ht] at hv;simp only[Cell.okWide,ht] at hv;cases v <;>simp_all[Cell.ok,Value.cells]
  ·cases hst
 rw[hone] at h;obtain ⟨a,ha⟩:=ho.zh h;exact ⟨a,[v],by simp[bI,Enc.agg,hA],ha⟩
end
theorem aaP{H:Type}{enc0:TypeId×Value→H}{P:Program}{f:Func}{s:ChangeSpec}{apart lK handsOn again:Bool}{W W':World}{args:Array Value}{v:Value}{ds gs:List (DataW H)}{before pa pv:List MemPlace}
  (hW:DataW.Whole enc0 P f.params.toList s.vars apart W args.toList ds gs before)
  (hres:∀ (b:Nat) (sp:Nat→Bool) (ah:Bool),DataW.TrodAll enc0 P W' b sp ah f.resultTypes.toList (v.resultList f.resultTypes.size) (s.fn H (ds++gs)).results [])
  (hargs:∀ sp:Nat→Bool,(∀ p∈before,sp p.block=true)→DataW.TrodAll enc0 P W' 0 sp true f.params.toList args.toList (s.fn H (ds++gs)).args pa)
  (hvars:∀ sp:Nat→Bool,(∀ p∈before,sp p.block=true)→DataW.TrodVars enc0 P W' sp s.vars (s.fn H (ds++gs)).vars pv)
  (hps:before=pa++pv) (hb:Below W.heap.size W W')
  (hok:∀ (j:Nat) (t:TypeId) (r:Value),f.resultTypes[j]?=some t→(v.resultList f.resultTypes.size)[j]?=some r→Value.okWide P W' .any 0 t r) :
  s.post enc0 P f apart lK handsOn again W args v W':=by
 have hlt:∀ p∈before,p.block<W.heap.size:=fun p hp=>by simpa using hW.lt p hp
 have hold:∀ p∈before,(fun b=>decide (b<W.heap.size)) p.block=true:=fun p hp=>by simpa using hlt p hp
 refine ⟨ds,gs,before,[],pa,pv,hW,hres _ _ _,hargs _ hold,hvars _ hold,World.keptBut_mono (fun p hp=>⟨hp,?_⟩) (hb.frame (· ∈ before)),fun _ =>?_⟩
 ·rw[hps,zy8] at hp;exact Or.inr hp
 ·obtain ⟨_,_,_,_,_,hz,hn⟩:=hW;refine ⟨hok,_,_,([]++pa)++pv,⟨[]++pa,pv,trodAll_append (hargs _ (fun _ _=>rfl)) (hres _ _ _),hvars _ (fun _ _=>rfl),rfl,?_,?_⟩,?_⟩
  ·intro b off hp;have hp':MemPlace.cell b off∈before:=by rw[hps];simpa using hp
   rw[hb.frozen (p:=⟨b,off,none⟩) (hlt _ hp')];exact hz b off hp'
  ·intro ha;have:=hn ha;rw[hps] at this;simpa using this
  ·intro p hp _;rw[hps];simpa using hp
end Go.Abs
