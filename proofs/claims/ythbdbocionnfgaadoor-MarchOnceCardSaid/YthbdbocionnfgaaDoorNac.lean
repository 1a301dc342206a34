/-
  A part of the proof that the law MarchOnce returns true for every input; three tables of Go's library start as the text lays them (the card ties them); conditions: none beyond the statement's own. (part 3 of 7)
-/
import Derived.Test.YthbdbocionnfgaaDoorChecked
import Derived.KernelRfl
import Derived.RangeFuncIn
import Derived.Laws.Externs
import Derived.RecoverIn
import Derived.ProofKit
import Derived.SizedLaws
import Derived.Test.YthbdbocionnfgaaDoorNab
set_option linter.unusedSimpArgs false
set_option linter.unusedVariables false
set_option maxHeartbeats 16000000
set_option maxRecDepth 100000
namespace Go.Proofs.YthbdbocionnfgaaDoor
open Go Go.Abs Go.Abs.C
def SG:=[o 2 (.mv bH)]
def SH:=[m 6 0,o 7 (.call 5 [.t 6,(ar 60)]),m 5 7,o 8 (.ext (.t 5) 0),o 9 (.ext (.t 5) 1),o 3 (.alloc (.agg [.nils 3,.nils 5,.nils 1])),p (.bl (some 3) (.t 3) (.t 8)),m 4 9]
def SI:=[m 10 4,m 11 10,ca 12 (.call 6 []) 11,and 13 11 12,m 2 13]
def c3:bD:=(s (r SG) (s (r SH) (s (r SI) .ret)))
def lY:List bV:=[.tmp 2]
theorem KP:cI Tryd.prog Tryd.f3 c3:=e (by kernel_rfl)
theorem LP:cF Tryd.prog Tryd.f3 lY:=e (by kernel_rfl)
theorem JV:cz Tryd.prog 3:=e (by kernel_rfl)
def TX:=[o 4 (.alloc (.agg [.nils 3,.nils 5,.nils 1])),o 5 (.mv bH)]
def TY:=[o 11 (.call 10 []),m 10 11,o 12 (.ext (.t 10) 0),o 13 (.ext (.t 10) 1),o 6 (.alloc (.agg [.nils 3,.nils 5,.nils 1])),p (.bl (some 3) (.t 6) (.t 12)),m 7 13]
def T0:=[cd 8 0]
def T1:=[m 14 8,m 15 0,o 16 (.len (.t 15)),lt 17 14 16,m 18 17,dK 19 8 18,dK 20 1 18,ca 21 (.bin .lss (.t 19) (.t 20)) 18,and 22 18 21,m 23 22,dK 24 7 23,and 25 23 24]
def T2:=[aE 29 3 6,m 30 0,m 31 8,o 32 (.is 5 (.t 30) (.t 31)),aE 33 5 32,o 34 (.call 11 [.t 29,.t 33]),m 28 34,o 35 (.ext (.t 28) 0),o 36 (.ext (.t 28) 1),p (.bl (some 3) (.t 6) (.t 35)),m 7 36]
def MR:=some [[],[],[],[1,2],[3],[0,4],[5],[6],[6],[7,5,0,1,2,3,4,5,6,7],[8,9,0,1,2,3,4,5,6,7,8,9]]
def T3:=[cd 9 1]
def T4:=[m 37 9,o 38 (.bin .leq (.t 37) (ar 5))]
def T5:=[m 41 7,m 42 41,ca 43 (.ld (some 3) (.t 6)) 42,dK 44 9 42,ca 45 (.call 8 [.t 43,.t 44]) 42,and 46 42 45,m 7 46]
def T6:=[m 39 9,ad 40 39 1,m 9 40]
def T7:=[m 26 8,ad 27 26 1,m 8 27]
def TZ:=[aE 47 3 6,m 48 7,p (.bl (some 3) (.t 4) (.t 47)),m 5 48]
def mC:bD:=(s (r TX) (s (r TY) (s (s (r T0) (.block 0 (.loop (s (s (r T1) (.cond (.t 25) .skip (.exit 0))) (s (.block 1 (s (.cm MR T2) (s (r T3) (.block 2 (.loop (s (s (r T4) (.cond (.t 38) .skip (.exit 2))) (s (.block 3 (r T5)) (r T6)))))))) (r T7)))))) (s (r TZ) .ret))))
def FH:List bV:=[.cell 4 (some 3),.tmp 5]
theorem K5:cI Tryd.prog Tryd.f5 mC:=e (by kernel_rfl)
theorem L7:cF Tryd.prog Tryd.f5 FH:=e (by kernel_rfl)
theorem Kc:cz Tryd.prog 5:=e (by kernel_rfl)
def UD:=[o 0 (.mv bH)]
def UE:=[o 28 (.call 12 [(ar 0)]),m 27 28,o 29 (.ext (.t 27) 0),o 30 (.ext (.t 27) 1),o 1 (.alloc (.agg [.int .i64 0,.nils 4,.int .i64 0])),p (.bl (some 3) (.t 1) (.t 29)),m 2 30]
def UO:=[o 32 (.call 12 [(ar 1)]),m 31 32,o 33 (.ext (.t 31) 0),o 34 (.ext (.t 31) 1),o 3 (.alloc (.agg [.int .i64 0,.nils 4,.int .i64 0])),p (.bl (some 3) (.t 3) (.t 33)),m 4 34]
def UP:=[aE 36 3 1,o 37 (.call 13 [.t 36,(ar 7)]),m 35 37,o 38 (.ext (.t 35) 0),o 39 (.ext (.t 35) 1),p (.bl (some 3) (.t 1) (.t 38)),m 5 39]
def UQ:=[aE 41 3 1,o 42 (.call 14 [.t 41]),m 40 42,o 43 (.ext (.t 40) 0),o 44 (.ext (.t 40) 1),p (.bl (some 3) (.t 1) (.t 43)),m 6 44]
def UR:=[aE 46 3 1,o 47 (.call 15 [.t 46,(ar 7),(ar 1)]),m 45 47,o 48 (.ext (.t 45) 0),o 49 (.ext (.t 45) 1),o 50 (.ext (.t 45) 2),o 7 (.alloc (.agg [.int .i64 0,.int .i64 0,.int .i64 0,.bool false])),p (.bl (some 3) (.t 1) (.t 48)),p (.bl (some 4) (.t 7) (.t 49)),m 8 50]
def US:=[aE 52 3 1,o 53 (.call 16 [.t 52,(ar 1)]),m 51 53,o 54 (.ext (.t 51) 0),o 55 (.ext (.t 51) 1),m 9 54,m 10 55]
def UT:=[aE 57 3 1,o 58 (.call 17 [.t 57]),m 56 58,o 59 (.ext (.t 56) 0),o 60 (.ext (.t 56) 1),m 11 59,m 12 60]
def UU:=[aE 62 3 1,o 63 (.call 14 [.t 62]),m 61 63,o 64 (.ext (.t 61) 0),o 65 (.ext (.t 61) 1),p (.bl (some 3) (.t 1) (.t 64)),m 13 65]
def UW:=[aE 67 3 1,o 68 (.call 16 [.t 67,(ar 1)]),m 66 68,o 69 (.ext (.t 66) 0),o 70 (.ext (.t 66) 1),m 14 69,m 15 70]
def UF:=[o 71 (.bld [.int .i64 0,.int .i64 0,.int .i64 0,.int .i64 0,.int .i64 0] [(0,(ar 1)),(2,(ar 1)),(3,(ar 7)),(4,(ar 1))]),o 16 (.alloc (.agg [.int .i64 0,.int .i64 0,.int .i64 0,.int .i64 0,.int .i64 0])),p (.bl (some 5) (.t 16) (.t 71))]
def UG:=[aE 73 3 3,aE 74 5 16,o 75 (.call 18 [.t 73,.t 74]),m 72 75,o 76 (.ext (.t 72) 0),o 77 (.ext (.t 72) 1),p (.bl (some 3) (.t 3) (.t 76)),m 17 77]
def UH:=[aE 79 3 1,aE 80 3 3,o 81 (.bs 36 3 [.t 79,.t 80]),o 82 (.call 19 [.t 81,(ar 7)]),m 78 82,o 83 (.ext (.t 78) 0),o 84 (.ext (.t 78) 1),m 18 83,m 19 84]
def UI:=[aE 86 3 3,o 87 (.call 14 [.t 86]),m 85 87,o 88 (.ext (.t 85) 0),o 89 (.ext (.t 85) 1),p (.bl (some 3) (.t 3) (.t 88)),m 20 89]
def UJ:=[aE 91 3 3,o 92 (.call 16 [.t 91,(ar 0)]),m 90 92,o 93 (.ext (.t 90) 0),o 94 (.ext (.t 90) 1),m 21 93,m 22 94]
def UK:=[aE 96 3 1,o 97 (.bld [.int .i64 0,.int .i64 0,.int .i64 0,.int .i64 0,.int .i64 0] [(0,(ar 2)),(1,(ar 1)),(3,(ar 7)),(4,(ar 1))]),o 98 (.call 18 [.t 96,.t 97]),m 95 98,o 99 (.ext (.t 95) 0),o 100 (.ext (.t 95) 1),p (.bl (some 3) (.t 1) (.t 99)),m 23 100]
def UL:=[aE 102 3 1,o 103 (.call 9 [.t 102]),m 101 103,o 104 (.ext (.t 101) 0),o 105 (.ext (.t 101) 1),m 24 104,m 25 105]
def UM:=[m 106 2,o 107 (.bin .eql (.t 106) (ar 0)),m 108 107,dK 109 4 108,ca 110 (.bin .eql (.t 109) (ar 0)) 108,and 111 108 110,m 112 111,dK 113 5 112,ca 114 (.bin .eql (.t 113) (ar 0)) 112,and 115 112 114,m 116 115,dK 117 6 116,ca 118 (.bin .eql (.t 117) (ar 0)) 116,and 119 116 118,m 120 119,dK 121 8 120,ca 122 (.bin .eql (.t 121) (ar 0)) 120,and 123 120 122,m 124 123,dK 125 10 124,ca 126 (.bin .eql (.t 125) (ar 0)) 124,and 127 124 126,m 128 127,dK 129 12 128,ca 130 (.bin .eql (.t 129) (ar 0)) 128,and 131 128 130,m 132 131,dK 133 13 132,ca 134 (.bin .eql (.t 133) (ar 0)) 132,and 135 132 134,m 136 135,dK 137 15 136,ca 138 (.bin .eql (.t 137) (ar 0)) 136,and 139 136 138,m 140 139,dK 141 17 140,ca 142 (.bin .eql (.t 141) (ar 0)) 140,and 143 140 142,m 144 143,dK 145 19 144,ca 146 (.bin .eql (.t 145) (ar 0)) 144,and 147 144 146,m 148 147,dK 149 20 148,ca 150 (.bin .eql (.t 149) (ar 0)) 148,and 151 148 150,m 152 151,dK 153 22 152,ca 154 (.bin .eql (.t 153) (ar 0)) 152,and 155 152 154,m 156 155,dK 157 23 156,ca 158 (.bin .eql (.t 157) (ar 0)) 156,and 159 156 158,m 160 159,dK 161 25 160,ca 162 (.bin .eql (.t 161) (ar 0)) 160,and 163 160 162,m 26 163]
def UN:=[m 164 26,m 165 164,ca 166 (.ld (some 4) (.t 7)) 165,ca 167 (.bld [.int .i64 0,.int .i64 0,.int .i64 0,.bool false] [(0,(ar 1)),(1,(ar 1)),(2,(ar 7))]) 165,ca 168 (.eqv (.bl [(.i .i64),(.i .i64),(.i .i64),.b]) false (.t 166) (.t 167)) 165,and 169 165 168,m 170 169,dK 171 9 170,ca 172 (.len (.t 171)) 170,ca 173 (.bin .eql (.t 172) (ar 0)) 170,and 174 170 173,m 175 174,dK 176 11 175,ca 177 (.bin .eql (.t 176) (.c (.bR ⟨#[112,111,117,110,100,32,48,32,49,10,112,111,117,110,100,32,55,10,115,101,110,100,32,55,32,49,32,49,10]⟩))) 175,and 178 175 177,m 179 178,dK 180 14 179,ca 181 (.ld (some 5) (.t 16)) 179,ca 182 (.bs 57 5 [.t 181]) 179,ca 183 (.call 20 [.t 180,.t 182]) 179,and 184 179 183,m 185 184,dK 186 18 185,ca 187 (.bs 3 1 [(ar 1)]) 185,ca 188 (.call 21 [.t 186,.t 187]) 185,and 189 185 188,m 190 189,dK 191 21 190,ca 192 (.bld [.int .i64 0,.int .i64 0,.int .i64 0,.int .i64 0,.int .i64 0] [(0,(ar 2)),(1,(ar 1)),(3,(ar 7)),(4,(ar 1))]) 190,ca 193 (.bs 57 5 [.t 192]) 190,ca 194 (.call 20 [.t 191,.t 193]) 190,and 195 190 194,m 196 195,dK 197 24 196,ca 198 (.len (.t 197)) 196,ca 199 (.bin .eql (.t 198) (ar 0)) 196,and 200 196 199,m 0 200]
def A2:bD:=(s (r UD) (s (r UE) (s (r UO) (s (r UP) (s (r UQ) (s (r UR) (s (r US) (s (r UT) (s (r UU) (s (r UW) (s (r UF) (s (r UG) (s (r UH) (s (r UI) (s (r UJ) (s (r UK) (s (r UL) (s (r UM) (s (r UN) .ret)))))))))))))))))))
def FP:List bV:=[.tmp 0]
theorem Ld:cI Tryd.prog Tryd.f6 A2:=e (by kernel_rfl)
theorem Mf:cF Tryd.prog Tryd.f6 FP:=e (by kernel_rfl)
theorem Kj:cz Tryd.prog 6:=e (by kernel_rfl)
def U8:=[b 2 0,o 4 (.mv bH)]
def U9:=[f 18 0 0 2,l 19 18,m 20 1,o 21 (.call 19 [.t 19,.t 20]),m 17 21,o 22 (.ext (.t 17) 0),o 23 (.ext (.t 17) 1),m 5 22,m 6 23]
def Vk:=[f 25 0 0 2,l 26 25,m 27 1,o 28 (.call 22 [.t 26,.t 27]),m 24 28,o 29 (.ext (.t 24) 0),o 30 (.ext (.t 24) 1),m 7 29,m 8 30]
def Vo:=[m 31 6,o 32 (.bin .neq (.t 31) (ar 0)),m 33 32,iu 34 8 33,on 35 (.bin .neq (.t 34) (ar 0)) 33,or 36 33 35,m 37 36,iu 38 5 37,on 39 (.len (.t 38)) 37,on 40 (.bin .gtr (.t 39) (ar 1)) 37,or 41 37 40,m 42 41,iu 43 5 42,on 44 (.len (.t 43)) 42,on 45 (.bin .eql (.t 44) (ar 1)) 42,iu 46 45 42,dK 47 7 46,ca 48 (.len (.t 47)) 46,ca 49 (.bin .gtr (.t 48) (ar 0)) 46,on 50 (.pick (.t 46) (.t 49) bH) 42,or 51 42 50]
def Vp:=[o 4 (.mv bH)]
def Vq:=[o 9 (.mv bH)]
def Vr:=[o 10 (.mv bH)]
def Vs:=[f 52 0 0 2,l 53 52,o 54 (.len (.t 53)),cd 55 0]
def Vt:=[lt 56 55 54]
def Vu:=[o 57 (.is 3 (.t 53) (.t 55)),aE 58 3 57,o 12 (.alloc (.agg [.int .i64 0,.nils 4,.int .i64 0])),p (.bl (some 3) (.t 12) (.t 58))]
def Va:=[aE 60 3 12,m 61 1,o 62 (.call 23 [.t 60,.t 61]),m 59 62,o 63 (.ext (.t 59) 0),o 64 (.ext (.t 59) 1),m 13 63,m 14 64]
def Vb:=[m 65 14,o 66 (.bin .neq (.t 65) (ar 0))]
def Vc:=[o 4 (.mv bH)]
def Vd:=[m 67 13,o 68 (.len (.t 67)),cd 69 0]
def Ve:=[lt 70 69 68]
def Vf:=[o 71 (.is 4 (.t 67) (.t 69)),aE 72 4 71,o 16 (.alloc (.agg [.int .i64 0,.int .i64 0,.int .i64 0,.int .i64 0])),p (.bl (some 4) (.t 16) (.t 72))]
def Vg:=[m 73 9,m 74 73,fn 75 0 0 16 74,ku 76 75 74,on 77 (.bin .eql (.t 76) (ar 1)) 74,or 78 74 77,m 9 78]
def Vh:=[m 79 10,m 80 79,fn 81 0 0 16 80,ku 82 81 80,on 83 (.bin .eql (.t 82) (ar 2)) 80,or 84 80 83,m 10 84]
def Vi:=[ad 85 69 1,m 69 85]
def Vj:=[ad 86 55 1,m 55 86]
def Vl:=[m 87 9,no 88 87,m 89 88,iu 90 10 89,or 91 89 90]
def Vm:=[o 4 (.mv T)]
def Vn:=[m 92 5,o 93 (.len (.t 92)),m 94 7,o 95 (.len (.t 94)),o 96 (.bin .add (.t 93) (.t 95)),o 97 (.bin .eql (.t 96) (ar 1)),m 4 97]
def A6:bD:=(s (r U8) (s (r U9) (s (r Vk) (s (s (r Vo) (.cond (.t 51) (s (r Vp) .ret) .skip)) (s (r Vq) (s (r Vr) (s (s (r Vs) (.block 0 (.loop (s (r Vt) (s (.cond (.t 56) .skip (.exit 0)) (s (.block 1 (s (r Vu) (s (r Va) (s (s (r Vb) (.cond (.t 66) (s (r Vc) .ret) .skip)) (s (r Vd) (.block 2 (.loop (s (r Ve) (s (.cond (.t 70) .skip (.exit 2)) (s (.block 3 (s (r Vf) (s (r Vg) (r Vh)))) (r Vi))))))))))) (r Vj))))))) (s (s (r Vl) (.cond (.t 91) (s (r Vm) .ret) .skip)) (s (r Vn) .ret)))))))))
def F1:List bV:=[.tmp 4]
theorem Lg:cI Tryd.prog Tryd.f8 A6:=e (by kernel_rfl)
theorem Mq:cF Tryd.prog Tryd.f8 F1:=e (by kernel_rfl)
theorem Km:cz Tryd.prog 8:=e (by kernel_rfl)
def Vv:=[b 1 0,o 2 (.mv (.c (.nils 4))),cd 3 0]
def Vw:=[aE 10 3 1,o 11 (.call 24 [.t 10]),m 9 11,o 12 (.ext (.t 9) 0),o 13 (.ext (.t 9) 1),m 4 12,m 5 13]
def Vy:=[m 14 5,o 15 (.bin .neq (.t 14) (ar 0))]
def Vz:=[m 16 5,o 2 (.mv (.c (.nils 4))),m 3 16]
def VA:=[o 6 (.mv (.c (.nils 4)))]
def VB:=[m 17 4,o 18 (.call 25 [.t 17]),o 19 (.len (.t 18)),cd 20 0]
def VC:=[lt 21 20 19]
def VD:=[o 22 (.is 1 (.t 18) (.t 20)),l 23 22,m 8 23]
def VE:=[m 24 6,m 25 4,o 26 (.nilC (.t 25)),f 27 2 2 26,l 28 27,m 29 8,o 30 (.lk (.i .i64) (.nilp) false (.t 28) (.t 29)),o 31 (.nilC (.t 30)),aE 32 4 31,o 33 (.bs 49 4 [.t 32]),o 34 (.dB 49 4 32 (.agg [.int .i64 0,.int .i64 0,.int .i64 0,.bool false]) (.t 24) (.t 33)),m 6 34]
def VF:=[ad 35 20 1,m 20 35]
def Vx:=[m 36 6,m 2 36,cd 3 0]
def A8:bD:=(s (r Vv) (s (r Vw) (s (s (r Vy) (.cond (.t 15) (s (r Vz) .ret) .skip)) (s (r VA) (s (s (r VB) (.block 0 (.loop (s (r VC) (s (.cond (.t 21) .skip (.exit 0)) (s (.block 1 (s (r VD) (r VE))) (r VF))))))) (s (r Vx) .ret))))))
def F4:List bV:=[.tmp 2,.tmp 3]
theorem Li:cI Tryd.prog Tryd.f9 A8:=e (by kernel_rfl)
theorem Mt:cF Tryd.prog Tryd.f9 F4:=e (by kernel_rfl)
theorem Ko:cz Tryd.prog 9:=e (by kernel_rfl)
def Ow:=[o 0 (.alloc (.agg [.nils 3,.nils 5,.nils 1])),o 1 (.mv bH)]
def Ox:=[o 2 (.alloc (.agg [.nils 3,.nils 5,.nils 1]))]
def Oy:=[cd 3 0]
def Oz:=[m 6 3,o 7 (.bin .lss (.t 6) (ar 6))]
def OA:=[m 11 3,o 12 (.call 12 [.t 11]),m 10 12,o 13 (.ext (.t 10) 0),o 14 (.ext (.t 10) 1),o 4 (.alloc (.agg [.int .i64 0,.nils 4,.int .i64 0])),p (.bl (some 3) (.t 4) (.t 13)),m 5 14]
def OB:=[m 15 5,o 16 (.bin .neq (.t 15) (ar 0))]
def OC:=[aE 17 3 2,p (.bl (some 3) (.t 0) (.t 17)),o 1 (.mv bH)]
def OD:=[f 18 0 0 2,l 19 18,aE 20 3 4,o 21 (.bs 36 3 [.t 20]),o 22 (.dB 36 3 40 (.agg [.int .i64 0,.nils 4,.int .i64 0]) (.t 19) (.t 21)),f 23 0 0 2,p (.bl none (.t 23) (.t 22))]
def OE:=[m 8 3,ad 9 8 1,m 3 9]
def OF:=[aE 24 3 2,p (.bl (some 3) (.t 0) (.t 24)),o 1 (.mv T)]
def Al:bD:=(s (r Ow) (s (r Ox) (s (s (r Oy) (.block 0 (.loop (s (s (r Oz) (.cond (.t 7) .skip (.exit 0))) (s (.block 1 (s (r OA) (s (s (r OB) (.cond (.t 16) (s (r OC) .ret) .skip)) (r OD)))) (r OE)))))) (s (r OF) .ret))))
def E6:List bV:=[.cell 0 (some 3),.tmp 1]
theorem Kx:cI Tryd.prog Tryd.f10 Al:=e (by kernel_rfl)
theorem Lw:cF Tryd.prog Tryd.f10 E6:=e (by kernel_rfl)
theorem JD:cz Tryd.prog 10:=e (by kernel_rfl)
def CE:=[b 2 0,b 3 1,o 4 (.alloc (.agg [.nils 3,.nils 5,.nils 1])),o 5 (.mv bH)]
def CF:=[o 17 (.bs0 3),f 18 0 0 2,l 19 18,o 20 (.dB 36 3 40 (.agg [.int .i64 0,.nils 4,.int .i64 0]) (.t 17) (.t 19)),f 21 0 0 2,p (.bl none (.t 21) (.t 20))]
def CG:=[f 22 1 1 3,l 23 22,o 24 (.call 26 [.t 23,(ar 6)]),m 6 24]
def CH:=[f 25 2 2 3,l 26 25,o 27 (.call 26 [.t 26,(ar 5)]),o 28 (.bin .add (ar 1) (.t 27)),m 7 28]
def CI:=[f 29 3 3 3,l 30 29,o 31 (.call 26 [.t 30,(ar 6)]),m 8 31]
def CJ:=[f 32 0 0 2,l 33 32,m 34 6,o 35 (.is 3 (.t 33) (.t 34)),aE 36 3 35,o 9 (.alloc (.agg [.int .i64 0,.nils 4,.int .i64 0])),p (.bl (some 3) (.t 9) (.t 36))]
def CK:=[cd 10 0]
def Pf:=[f 37 0 0 3,l 38 37,o 39 (.call 26 [.t 38,(ar 10)])]
def Pg:=[o 68 (.bin .eql (.t 39) (ar 0)),m 67 68]
def Ph:=[f 69 2 2 2,l 70 69,m 71 7,o 72 (.call 27 [.t 70,.t 71])]
def OG:=[aE 73 3 2,p (.bl (some 3) (.t 4) (.t 73)),o 5 (.mv T)]
def OH:=[aE 75 3 9,m 76 7,o 77 (.call 13 [.t 75,.t 76]),m 74 77,o 78 (.ext (.t 74) 0),o 79 (.ext (.t 74) 1),p (.bl (some 3) (.t 9) (.t 78)),m 10 79]
def OI:=[m 80 10,o 81 (.bin .eql (.t 80) (ar 0))]
def OJ:=[o 82 (.bs0 1),f 83 2 2 2,l 84 83,o 85 (.dB 3 1 8 (.int .i64 0) (.t 82) (.t 84)),m 86 7,o 87 (.bs 3 1 [.t 86]),o 88 (.dB 3 1 8 (.int .i64 0) (.t 85) (.t 87)),f 89 2 2 2,p (.bl none (.t 89) (.t 88))]
def OK:=[o 91 (.bin .eql (.t 39) (ar 1)),m 90 91]
def OL:=[f 92 4 4 3,l 93 92,o 94 (.bin .rem (.t 93) (ar 3)),o 95 (.bin .neq (.t 94) (ar 0))]
def OM:=[aE 96 3 2,p (.bl (some 3) (.t 4) (.t 96)),o 5 (.mv T)]
def ON:=[aE 98 3 9,m 99 7,o 100 (.call 28 [.t 98,.t 99]),m 97 100,o 101 (.ext (.t 97) 0),o 102 (.ext (.t 97) 1),p (.bl (some 3) (.t 9) (.t 101)),m 10 102]
def OO:=[o 104 (.bin .eql (.t 39) (ar 2)),m 103 104]
def OP:=[o 105 (.bin .eql (.t 39) (ar 3)),m 103 105]
def OQ:=[aE 107 3 9,m 108 7,m 109 8,o 110 (.call 15 [.t 107,.t 108,.t 109]),m 106 110,o 111 (.ext (.t 106) 0),o 112 (.ext (.t 106) 1),o 113 (.ext (.t 106) 2),p (.bl (some 3) (.t 9) (.t 111)),m 10 113]
def OR:=[o 115 (.bin .eql (.t 39) (ar 4)),m 114 115]
def OS:=[aE 117 3 9,o 118 (.call 9 [.t 117]),m 116 118,o 119 (.ext (.t 116) 0),o 120 (.ext (.t 116) 1),m 11 119,m 12 120]
def OT:=[m 121 12,o 122 (.bin .neq (.t 121) (ar 0)),m 123 122,iu 124 11 123,on 125 (.len (.t 124)) 123,on 126 (.bin .eql (.t 125) (ar 0)) 123,or 127 123 126]
def OU:=[aE 128 3 2,m 129 12,o 130 (.bin .eql (.t 129) (ar 0)),p (.bl (some 3) (.t 4) (.t 128)),m 5 130]
def OV:=[aE 132 3 9,m 133 11,f 134 4 4 3,l 135 134,m 136 11,o 137 (.len (.t 136)),o 138 (.call 26 [.t 135,.t 137]),o 139 (.is 4 (.t 133) (.t 138)),f 140 0 0 139,l 141 140,o 142 (.call 29 [.t 132,.t 141]),m 131 142,o 143 (.ext (.t 131) 0),o 144 (.ext (.t 131) 1),p (.bl (some 3) (.t 9) (.t 143)),m 10 144]
def Mu:=some [[],[],[],[2],[],[4],[3,5],[1,6],[7],[8],[0,9,6],[10],[11],[11],[12,10,0,1,2,3,4,5,6,7,8,9,10,11,12],[13,14,0,1,2,3,4,5,6,7,8,9,10,11,12,13,14]]
def OW:=[o 146 (.bin .eql (.t 39) (ar 5)),m 145 146]
def OX:=[aE 148 3 9,f 149 4 4 3,l 150 149,o 151 (.call 30 [.t 148,.t 150]),m 147 151,o 152 (.ext (.t 147) 0),o 153 (.ext (.t 147) 1),p (.bl (some 3) (.t 9) (.t 152)),m 10 153]
def OY:=[o 155 (.bin .eql (.t 39) (ar 6)),m 154 155]
def OZ:=[aE 157 3 9,o 158 (.call 14 [.t 157]),m 156 158,o 159 (.ext (.t 156) 0),o 160 (.ext (.t 156) 1),p (.bl (some 3) (.t 9) (.t 159)),m 10 160]
def O0:=[cd 13 0]
def O1:=[m 161 13,o 162 (.bin .lss (.t 161) (ar 6)),m 163 162,dK 164 10 163,ca 165 (.bin .eql (.t 164) (ar 0)) 163,and 166 163 165]
def O2:=[m 169 13,m 170 6,o 171 (.bin .eql (.t 169) (.t 170))]
def O3:=[aE 173 3 9,m 174 13,o 175 (.call 16 [.t 173,.t 174]),m 172 175,o 176 (.ext (.t 172) 0),o 177 (.ext (.t 172) 1),m 14 176,m 15 177]
def O4:=[m 178 15,m 10 178]
def O5:=[o 179 (.bs0 5),f 180 1 1 2,l 181 180,o 182 (.dB 57 5 40 (.agg [.int .i64 0,.int .i64 0,.int .i64 0,.int .i64 0,.int .i64 0]) (.t 179) (.t 181)),m 183 14,o 184 (.dB 57 5 40 (.agg [.int .i64 0,.int .i64 0,.int .i64 0,.int .i64 0,.int .i64 0]) (.t 182) (.t 183)),f 185 1 1 2,p (.bl none (.t 185) (.t 184))]
def O6:=[m 167 13,ad 168 167 1,m 13 168]
def O7:=[f 40 1 1 2,l 41 40,o 42 (.len (.t 41)),o 43 (.bin .eql (.t 42) (ar 0))]
def O8:=[aE 44 3 2,p (.bl (some 3) (.t 4) (.t 44)),o 5 (.mv T)]
def O9:=[f 45 1 1 2,l 46 45,f 47 4 4 3,l 48 47,f 49 1 1 2,l 50 49,o 51 (.len (.t 50)),o 52 (.call 26 [.t 48,.t 51]),o 53 (.is 5 (.t 46) (.t 52)),aE 54 5 53,o 16 (.alloc (.agg [.int .i64 0,.int .i64 0,.int .i64 0,.int .i64 0,.int .i64 0])),p (.bl (some 5) (.t 16) (.t 54))]
def Mv:=some [[],[0],[],[2],[],[4],[5],[3,6],[1,7],[8],[],[10,9,7,0,1,2,3,4,5,6,7,8,9,10]]
def Pa:=[f 55 2 2 16,l 56 55,m 6 56]
def Pb:=[f 58 0 0 2,l 59 58,m 60 6,o 61 (.is 3 (.t 59) (.t 60)),aE 62 3 61,aE 63 5 16,o 64 (.call 18 [.t 62,.t 63]),m 57 64,o 65 (.ext (.t 57) 0),o 66 (.ext (.t 57) 1),p (.bl (some 3) (.t 9) (.t 65)),m 10 66]
def Mw:=some [[],[0],[],[1,2],[3],[],[4,5],[6],[7],[7],[8,6,0,1,2,3,4,5,6,7,8],[9,10,0,1,2,3,4,5,6,7,8,9,10]]
def Pc:=[m 186 10,o 187 (.bin .eql (.t 186) (ar 0))]
def Pd:=[f 188 0 0 2,l 189 188,m 190 6,aE 191 3 9,o 192 (.is 3 (.t 189) (.t 190)),p (.bl (some 3) (.t 192) (.t 191))]
def Pe:=[aE 193 3 2,m 194 10,o 195 (.call 31 [.t 194]),p (.bl (some 3) (.t 4) (.t 193)),m 5 195]
def Mx:=some [[],[],[1],[0,2,0],[2,3,0,1,2,3]]
def mB:bD:=(s (r CE) (s (r CF) (s (r CG) (s (r CH) (s (r CI) (s (r CJ) (s (r CK) (s (s (r Pf) (.block 0 (s (r Pg) (.cond (.t 67) (s (s (r Ph) (.cond (.t 72) (s (r OG) .ret) .skip)) (s (r OH) (s (r OI) (.cond (.t 81) (r OJ) .skip)))) (s (r OK) (.cond (.t 90) (s (s (r OL) (.cond (.t 95) (s (r OM) .ret) .skip)) (r ON)) (s (s (r OO) (.cond (.t 103) .skip (r OP))) (.cond (.t 103) (r OQ) (s (r OR) (.cond (.t 114) (s (r OS) (s (s (r OT) (.cond (.t 127) (s (r OU) .ret) .skip)) (.cm Mu OV))) (s (r OW) (.cond (.t 145) (r OX) (s (r OY) (.cond (.t 154) (s (r OZ) (s (r O0) (.block 1 (.loop (s (s (r O1) (.cond (.t 166) .skip (.exit 1))) (s (.block 2 (s (s (r O2) (.cond (.t 171) (.exit 2) .skip)) (s (r O3) (s (r O4) (r O5))))) (r O6))))))) (s (s (r O7) (.cond (.t 43) (s (r O8) .ret) .skip)) (s (.cm Mv O9) (s (r Pa) (.cm Mw Pb)))))))))))))))))) (s (s (r Pc) (.cond (.t 187) (r Pd) .skip)) (s (.cm Mx Pe) .ret))))))))))
def nf:List bV:=[.cell 4 (some 3),.tmp 5]
theorem nR:cI Tryd.prog Tryd.f11 mB:=e (by kernel_rfl)
theorem nT:cF Tryd.prog Tryd.f11 nf:=e (by kernel_rfl)
theorem nP:cz Tryd.prog 11:=e (by kernel_rfl)
def Pj:=[o 2 (.alloc (.agg [.int .i64 0,.nils 4,.int .i64 0])),cd 3 0]
def Pk:=[m 4 0,o 5 (.call 32 [.t 4]),no 6 5]
def Pl:=[o 7 (.bld [.int .i64 0,.nils 4,.int .i64 0] []),p (.bl (some 3) (.t 2) (.t 7)),cd 3 90]
def Pm:=[m 8 0,o 9 (.bld [.int .i64 0,.nils 4,.int .i64 0] [(0,(.t 8))]),p (.bl (some 3) (.t 2) (.t 9)),cd 3 0]
def Am:bD:=(s (r Pj) (s (s (r Pk) (.cond (.t 6) (s (r Pl) .ret) .skip)) (s (r Pm) .ret)))
def E7:List bV:=[.cell 2 (some 3),.tmp 3]
theorem Ky:cI Tryd.prog Tryd.f12 Am:=e (by kernel_rfl)
theorem Lx:cF Tryd.prog Tryd.f12 E7:=e (by kernel_rfl)
theorem JE:cz Tryd.prog 12:=e (by kernel_rfl)
def Pn:=[b 2 0,o 4 (.alloc (.agg [.int .i64 0,.nils 4,.int .i64 0])),cd 5 0]
def Po:=[aE 9 3 2,o 10 (.call 24 [.t 9]),m 8 10,o 11 (.ext (.t 8) 0),o 12 (.ext (.t 8) 1),m 6 11,m 7 12]
def Pp:=[m 14 7,o 15 (.bin .neq (.t 14) (ar 0)),m 13 15]
def Pq:=[o 16 (.bld [.int .i64 0,.nils 4,.int .i64 0] []),m 17 7,p (.bl (some 3) (.t 4) (.t 16)),m 5 17]
def Pr:=[m 19 1,o 20 (.call 33 [.t 19]),no 21 20,m 18 21]
def Ps:=[o 22 (.bld [.int .i64 0,.nils 4,.int .i64 0] []),p (.bl (some 3) (.t 4) (.t 22)),cd 5 1]
def Pt:=[m 24 6,o 25 (.nilC (.t 24)),f 26 1 1 25,l 27 26,m 28 1,o 29 (.lk (.i .i64) (.bool false) false (.t 27) (.t 28)),m 30 29,iu 31 6 30,iu 32 1 30,on 33 (.call 34 [.t 31,.t 32]) 30,or 34 30 33,m 23 34]
def Pu:=[o 35 (.bld [.int .i64 0,.nils 4,.int .i64 0] []),p (.bl (some 3) (.t 4) (.t 35)),cd 5 92]
def Pv:=[aE 36 3 2,m 37 1,o 38 (.bld [.int .i64 0,.int .i64 0,.int .i64 0,.int .i64 0] [(0,(ar 1)),(1,(.t 37))]),o 39 (.call 35 [.t 36,.t 38]),o 40 (.ext (.t 39) 0),o 41 (.ext (.t 39) 1),p (.bl (some 3) (.t 4) (.t 40)),m 5 41]
def An:bD:=(s (r Pn) (s (r Po) (s (.block 0 (s (r Pp) (.cond (.t 13) (s (r Pq) .ret) (s (r Pr) (.cond (.t 18) (s (r Ps) .ret) (s (r Pt) (.cond (.t 23) (s (r Pu) .ret) .skip))))))) (s (r Pv) .ret))))
def E8:List bV:=[.cell 4 (some 3),.tmp 5]
theorem Kz:cI Tryd.prog Tryd.f13 An:=e (by kernel_rfl)
theorem Ly:cF Tryd.prog Tryd.f13 E8:=e (by kernel_rfl)
theorem JF:cz Tryd.prog 13:=e (by kernel_rfl)
def Pw:=[b 1 0,o 2 (.alloc (.agg [.int .i64 0,.nils 4,.int .i64 0])),cd 3 0]
def Px:=[aE 5 3 1,o 6 (.call 36 [.t 5]),m 4 6]
def Py:=[m 7 4,o 8 (.bin .neq (.t 7) (ar 0))]
def Pz:=[o 9 (.bld [.int .i64 0,.nils 4,.int .i64 0] []),m 10 4,p (.bl (some 3) (.t 2) (.t 9)),m 3 10]
def PA:=[aE 11 3 1,o 12 (.call 37 [.t 11]),p (.bl (some 3) (.t 1) (.t 12))]
def PB:=[f 13 1 1 1,l 14 13,o 15 (.len (.t 14)),f 16 2 2 1,p (.bl none (.t 16) (.t 15))]
def PC:=[aE 17 3 1,p (.bl (some 3) (.t 2) (.t 17)),cd 3 0]
def Ao:bD:=(s (r Pw) (s (s (r Px) (s (r Py) (.cond (.t 8) (s (r Pz) .ret) .skip))) (s (r PA) (s (r PB) (s (r PC) .ret)))))
def E9:List bV:=[.cell 2 (some 3),.tmp 3]
theorem KA:cI Tryd.prog Tryd.f14 Ao:=e (by kernel_rfl)
theorem Lz:cF Tryd.prog Tryd.f14 E9:=e (by kernel_rfl)
theorem JG:cz Tryd.prog 14:=e (by kernel_rfl)
def PD:=[b 3 0,o 6 (.alloc (.agg [.int .i64 0,.nils 4,.int .i64 0])),o 7 (.alloc (.agg [.int .i64 0,.int .i64 0,.int .i64 0,.bool false])),cd 8 0]
def PE:=[aE 13 3 3,o 14 (.call 24 [.t 13]),m 12 14,o 15 (.ext (.t 12) 0),o 16 (.ext (.t 12) 1),m 9 15,m 10 16]
def PJ:=[m 18 10,o 19 (.bin .neq (.t 18) (ar 0)),m 17 19]
def PK:=[o 20 (.bld [.int .i64 0,.nils 4,.int .i64 0] []),o 21 (.bld [.int .i64 0,.int .i64 0,.int .i64 0,.bool false] []),m 22 10,p (.bl (some 3) (.t 6) (.t 20)),p (.bl (some 4) (.t 7) (.t 21)),m 8 22]
def PL:=[m 24 1,o 25 (.call 33 [.t 24]),no 26 25,m 23 26]
def PM:=[o 27 (.bld [.int .i64 0,.nils 4,.int .i64 0] []),o 28 (.bld [.int .i64 0,.int .i64 0,.int .i64 0,.bool false] []),p (.bl (some 3) (.t 6) (.t 27)),p (.bl (some 4) (.t 7) (.t 28)),cd 8 1]
def PN:=[m 30 2,o 31 (.call 32 [.t 30]),no 32 31,m 33 32,iu 34 2 33,fn 35 0 0 3 33,ku 36 35 33,on 37 (.bin .eql (.t 34) (.t 36)) 33,or 38 33 37,m 29 38]
def PO:=[o 39 (.bld [.int .i64 0,.nils 4,.int .i64 0] []),o 40 (.bld [.int .i64 0,.int .i64 0,.int .i64 0,.bool false] []),p (.bl (some 3) (.t 6) (.t 39)),p (.bl (some 4) (.t 7) (.t 40)),cd 8 90]
def PQ:=[m 42 9,o 43 (.nilC (.t 42)),f 44 1 1 43,l 45 44,m 46 1,o 47 (.lk (.i .i64) (.bool false) false (.t 45) (.t 46)),no 48 47,m 41 48]
def PR:=[o 49 (.bld [.int .i64 0,.nils 4,.int .i64 0] []),o 50 (.bld [.int .i64 0,.int .i64 0,.int .i64 0,.bool false] []),p (.bl (some 3) (.t 6) (.t 49)),p (.bl (some 4) (.t 7) (.t 50)),cd 8 93]
def PF:=[m 51 9,o 52 (.nilC (.t 51)),f 53 3 3 52,l 54 53,ad 55 54 1,m 56 2,m 57 1,o 58 (.bld [.int .i64 0,.int .i64 0,.int .i64 0,.bool false] [(0,(.t 55)),(1,(.t 56)),(2,(.t 57))]),o 11 (.alloc (.agg [.int .i64 0,.int .i64 0,.int .i64 0,.bool false])),p (.bl (some 4) (.t 11) (.t 58))]
def PG:=[aE 60 3 3,m 61 1,m 62 2,f 63 0 0 11,l 64 63,o 65 (.bld [.int .i64 0,.int .i64 0,.int .i64 0,.int .i64 0] [(0,(ar 3)),(1,(.t 61)),(2,(.t 62)),(3,(.t 64))]),o 66 (.call 35 [.t 60,.t 65]),m 59 66,o 67 (.ext (.t 59) 0),o 68 (.ext (.t 59) 1),p (.bl (some 3) (.t 3) (.t 67)),m 10 68]
def PH:=[m 69 10,o 70 (.bin .neq (.t 69) (ar 0))]
def PI:=[o 71 (.bld [.int .i64 0,.nils 4,.int .i64 0] []),o 72 (.bld [.int .i64 0,.int .i64 0,.int .i64 0,.bool false] []),m 73 10,p (.bl (some 3) (.t 6) (.t 71)),p (.bl (some 4) (.t 7) (.t 72)),m 8 73]
def xq:=[aE 74 3 3,aE 75 4 11,p (.bl (some 3) (.t 6) (.t 74)),p (.bl (some 4) (.t 7) (.t 75)),cd 8 0]
def My:=some [[],[],[0,0],[1,2,0,1,2],[3,0,1,2,3]] -- DRAW BAD
def Ap:bD:=(s (r PD) (s (r PE) (s (.block 0 (s (r PJ) (.cond (.t 17) (s (r PK) .ret) (s (r PL) (.cond (.t 23) (s (r PM) .ret) (s (r PN) (.cond (.t 29) (s (r PO) .ret) (s (r PQ) (.cond (.t 41) (s (r PR) .ret) .skip))))))))) (s (r PF) (s (r PG) (s (s (r PH) (.cond (.t 70) (s (r PI) .ret) .skip)) (s (.cm My xq) .ret)))))))
def Fa:List bV:=[.cell 6 (some 3),.cell 7 (some 4),.tmp 8]
theorem KB:cI Tryd.prog Tryd.f15 Ap:=e (by kernel_rfl)
theorem LA:cF Tryd.prog Tryd.f15 Fa:=e (by kernel_rfl)
theorem JH:cz Tryd.prog 15:=e (by kernel_rfl)
def PS:=[b 2 0,o 4 (.mv (.c (.nils 5))),cd 5 0]
def PT:=[aE 11 3 2,o 12 (.call 36 [.t 11]),m 6 12]
def PX:=[m 13 6,o 14 (.bin .neq (.t 13) (ar 0))]
def PY:=[m 15 6,o 4 (.mv (.c (.nils 5))),m 5 15]
def PZ:=[m 16 1,o 17 (.call 32 [.t 16]),no 18 17,m 19 18,iu 20 1 19,fn 21 0 0 2 19,ku 22 21 19,on 23 (.bin .eql (.t 20) (.t 22)) 19,or 24 19 23]
def P0:=[o 4 (.mv (.c (.nils 5))),cd 5 90]
def P1:=[f 26 0 0 2,l 27 26,f 28 1 1 2,l 29 28,f 30 2 2 2,l 31 30,f 32 2 2 2,l 33 32,o 34 (.sl 4 (.t 29) none (some (.t 31)) (some (.t 33))),o 35 (.call 38 [.t 27,.t 34]),m 25 35,o 36 (.ext (.t 25) 0),o 37 (.ext (.t 25) 1),m 7 36,m 8 37]
def MA:=some [[],[0],[],[2],[],[4],[],[6],[3,5,7],[1,8],[9],[10],[10],[11,9,0,1,2,3,4,5,6,7,8,9,10,11],[12,13,0,1,2,3,4,5,6,7,8,9,10,11,12,13]]
def P3:=[o 9 (.alloc (.nils 5))]
def P4:=[m 38 7,m 39 1,o 40 (.call 39 [.t 38,.t 39])]
def P5:=[o 10 (.alloc (.agg [.int .i64 0,.int .i64 0,.int .i64 0,.int .i64 0,.int .i64 0])),p (.bl (some 5) (.t 10) (.t 41))]
def PU:=[l 42 9,o 43 (.len (.t 42)),o 44 (.bin .eql (.t 43) (ar 0)),m 45 44,ku 46 9 45,ku 47 9 45,on 48 (.len (.t 47)) 45,on 49 (.bin .sub (.t 48) (ar 1)) 45,on 50 (.is 5 (.t 46) (.t 49)) 45,on 51 (.ld (some 5) (.t 50)) 45,on 52 (.ld (some 5) (.t 10)) 45,on 53 (.eqv (.bl [(.i .i64),(.i .i64),(.i .i64),(.i .i64),(.i .i64)]) true (.t 51) (.t 52)) 45,or 54 45 53]
def Mz:=some [[],[0],[1],[2],[3],[3],[5,3],[6,3],[4,7,3],[8,3],[3],[9,10,3],[3,11]]
def PV:=[l 55 9,aE 56 5 10,o 57 (.bs 57 5 [.t 56]),o 58 (.dB 57 5 40 (.agg [.int .i64 0,.int .i64 0,.int .i64 0,.int .i64 0,.int .i64 0]) (.t 55) (.t 57)),p (.bl none (.t 9) (.t 58))]
def PW:=[l 59 9,m 4 59,cd 5 0]
def Aq:bD:=(s (r PS) (s (s (r PT) (s (r PX) (.cond (.t 14) (s (r PY) .ret) .skip))) (s (s (r PZ) (.cond (.t 24) (s (r P0) .ret) .skip)) (s (.cm MA P1) (s (r P3) (s (s (r P4) (.block 0 (.np (.t 40) [41] (r P5) (.block 1 (s (.cm Mz PU) (.cond (.t 54) (r PV) .skip)))))) (s (r PW) .ret)))))))
def Fb:List bV:=[.tmp 4,.tmp 5]
theorem KC:cI Tryd.prog Tryd.f16 Aq:=e (by kernel_rfl)
theorem LB:cF Tryd.prog Tryd.f16 Fb:=e (by kernel_rfl)
theorem JI:cz Tryd.prog 16:=e (by kernel_rfl)
def P6:=[b 1 0,o 2 (.mv (.c (.bR ⟨#[]⟩))),cd 3 0]
def P7:=[aE 8 3 1,o 9 (.call 36 [.t 8]),m 4 9]
def Qb:=[m 10 4,o 11 (.bin .neq (.t 10) (ar 0))]
def Qc:=[m 12 4,o 2 (.mv (.c (.bR ⟨#[]⟩))),m 3 12]
def Qd:=[f 13 0 0 1,l 14 13,f 15 2 2 1,l 16 15,o 17 (.bs 3 1 [.t 14,.t 16]),o 18 (.call 40 [(.c (.bR ⟨#[112,111,117,110,100]⟩)),.t 17]),m 5 18]
def Qe:=[f 19 1 1 1,l 20 19,o 21 (.len (.t 20)),cd 22 0]
def Qf:=[lt 23 22 21]
def Qg:=[o 24 (.is 4 (.t 20) (.t 22)),aE 25 4 24,o 7 (.alloc (.agg [.int .i64 0,.int .i64 0,.int .i64 0,.int .i64 0])),p (.bl (some 4) (.t 7) (.t 25))]
def Qh:=[f 26 0 0 7,l 27 26,o 28 (.bin .leq (.t 27) (ar 2))]
def Qi:=[m 29 5,o 30 (.call 41 []),f 31 0 0 7,l 32 31,o 33 (.is 1 (.t 30) (.t 32)),l 34 33,f 35 1 1 7,l 36 35,o 37 (.bs 3 1 [.t 36]),o 38 (.call 40 [.t 34,.t 37]),o 39 (.bin .add (.t 29) (.t 38)),m 5 39]
def MC:=some [[],[],[],[2],[1,3],[4],[],[6],[7],[5,8,1],[0,9],[10,9,0,1,2,3,4,5,6,7,8,9,10]]
def P8:=[m 40 5,o 41 (.call 41 []),f 42 0 0 7,l 43 42,o 44 (.is 1 (.t 41) (.t 43)),l 45 44,f 46 1 1 7,l 47 46,f 48 2 2 7,l 49 48,f 50 3 3 7,l 51 50,o 52 (.bs 3 1 [.t 47,.t 49,.t 51]),o 53 (.call 40 [.t 45,.t 52]),o 54 (.bin .add (.t 40) (.t 53)),m 5 54]
def MB:=some [[],[],[],[2],[1,3],[4],[],[6],[],[8],[],[10],[7,9,11],[5,12,1],[0,13],[14,13,0,1,2,3,4,5,6,7,8,9,10,11,12,13,14]]
def P9:=[ad 55 22 1,m 22 55]
def Qa:=[m 56 5,m 2 56,cd 3 0]
def Ar:bD:=(s (r P6) (s (s (r P7) (s (r Qb) (.cond (.t 11) (s (r Qc) .ret) .skip))) (s (r Qd) (s (s (r Qe) (.block 0 (.loop (s (r Qf) (s (.cond (.t 23) .skip (.exit 0)) (s (.block 1 (s (r Qg) (s (r Qh) (.cond (.t 28) (.cm MC Qi) (.cm MB P8))))) (r P9))))))) (s (r Qa) .ret)))))
def Fc:List bV:=[.tmp 2,.tmp 3]
theorem KD:cI Tryd.prog Tryd.f17 Ar:=e (by kernel_rfl)
theorem LC:cF Tryd.prog Tryd.f17 Fc:=e (by kernel_rfl)
theorem JJ:cz Tryd.prog 17:=e (by kernel_rfl)
def Qj:=[b 2 0,b 3 1,o 4 (.alloc (.agg [.int .i64 0,.nils 4,.int .i64 0])),cd 5 0]
def Qk:=[aE 10 3 2,o 11 (.call 24 [.t 10]),m 9 11,o 12 (.ext (.t 9) 0),o 13 (.ext (.t 9) 1),m 6 12,m 7 13]
def Ql:=[m 15 7,o 16 (.bin .neq (.t 15) (ar 0)),m 14 16]
def Qm:=[o 17 (.bld [.int .i64 0,.nils 4,.int .i64 0] []),m 18 7,p (.bl (some 3) (.t 4) (.t 17)),m 5 18]
def Qn:=[aE 20 5 3,o 21 (.call 42 [.t 20]),no 22 21,m 23 22,fn 24 2 2 3 23,ku 25 24 23,fn 26 0 0 2 23,ku 27 26 23,on 28 (.bin .neq (.t 25) (.t 27)) 23,or 29 23 28,m 19 29]
def Qo:=[o 30 (.bld [.int .i64 0,.nils 4,.int .i64 0] []),p (.bl (some 3) (.t 4) (.t 30)),cd 5 95]
def Qp:=[f 31 0 0 3,l 32 31,o 33 (.call 43 [.t 32]),f 34 3 3 3,l 35 34,f 36 1 1 3,l 37 36,f 38 4 4 3,l 39 38,o 40 (.bld [.int .i64 0,.int .i64 0,.int .i64 0,.int .i64 0] [(0,(.t 33)),(1,(.t 35)),(2,(.t 37)),(3,(.t 39))]),o 8 (.alloc (.agg [.int .i64 0,.int .i64 0,.int .i64 0,.int .i64 0])),p (.bl (some 4) (.t 8) (.t 40))]
def MD:=some [[],[0],[1],[],[3],[],[5],[],[7],[2,4,6,8],[],[10,9,2,0,1,2,3,4,5,6,7,8,9,10]]
def Qq:=[m 41 6,aE 42 4 8,o 43 (.call 44 [.t 41,.t 42]),no 44 43]
def Qr:=[aE 45 3 2,o 46 (.call 37 [.t 45]),p (.bl (some 3) (.t 4) (.t 46)),cd 5 0]
def Qs:=[aE 47 3 2,aE 48 4 8,o 49 (.call 35 [.t 47,.t 48]),o 50 (.ext (.t 49) 0),o 51 (.ext (.t 49) 1),p (.bl (some 3) (.t 4) (.t 50)),m 5 51]
def As:bD:=(s (r Qj) (s (r Qk) (s (.block 0 (s (r Ql) (.cond (.t 14) (s (r Qm) .ret) (s (r Qn) (.cond (.t 19) (s (r Qo) .ret) .skip))))) (s (.cm MD Qp) (s (s (r Qq) (.cond (.t 44) (s (r Qr) .ret) .skip)) (s (r Qs) .ret))))))
def Fe:List bV:=[.cell 4 (some 3),.tmp 5]
theorem KE:cI Tryd.prog Tryd.f18 As:=e (by kernel_rfl)
theorem LD:cF Tryd.prog Tryd.f18 Fe:=e (by kernel_rfl)
theorem JK:cz Tryd.prog 18:=e (by kernel_rfl)
def Qt:=[o 4 (.mv (.c (.nils 1))),cd 5 0]
def Qu:=[m 12 0,m 13 1,o 14 (.call 45 [.t 12,.t 13]),m 11 14,o 15 (.ext (.t 11) 0),o 16 (.ext (.t 11) 1),m 6 15,m 7 16]
def Qv:=[o 8 (.mv (.c (.nils 1)))]
def Qw:=[m 17 6,o 18 (.len (.t 17)),cd 19 0]
def Qx:=[lt 20 19 18]
def Qy:=[o 21 (.is 1 (.t 17) (.t 19)),l 22 21,m 10 22]
def Qz:=[m 23 10,o 24 (.nilC (.t 23)),f 25 1 1 24,l 26 25,m 27 1,o 28 (.lk (.i .i64) (.bool false) false (.t 26) (.t 27))]
def QA:=[m 29 8,m 30 10,o 31 (.nilC (.t 30)),f 32 0 0 31,l 33 32,o 34 (.bs 3 1 [.t 33]),o 35 (.dB 3 1 8 (.int .i64 0) (.t 29) (.t 34)),m 8 35]
def QB:=[ad 36 19 1,m 19 36]
def QC:=[m 37 8,m 38 7,m 4 37,m 5 38]
def Au:bD:=(s (r Qt) (s (r Qu) (s (r Qv) (s (s (r Qw) (.block 0 (.loop (s (r Qx) (s (.cond (.t 20) .skip (.exit 0)) (s (.block 1 (s (r Qy) (s (r Qz) (.cond (.t 28) (r QA) .skip)))) (r QB))))))) (s (r QC) .ret)))))
def Ff:List bV:=[.tmp 4,.tmp 5]
theorem KF:cI Tryd.prog Tryd.f19 Au:=e (by kernel_rfl)
theorem LF:cF Tryd.prog Tryd.f19 Ff:=e (by kernel_rfl)
theorem JL:cz Tryd.prog 19:=e (by kernel_rfl)
def QD:=[o 4 (.mv bH)]
def QE:=[m 6 0,o 7 (.len (.t 6)),m 8 1,o 9 (.len (.t 8)),o 10 (.bin .neq (.t 7) (.t 9))]
def QF:=[o 4 (.mv bH)]
def QG:=[m 11 0,o 12 (.len (.t 11)),cd 13 0]
def QH:=[lt 14 13 12]
def QI:=[m 15 13,m 5 15]
def QJ:=[m 16 0,m 17 5,o 18 (.is 5 (.t 16) (.t 17)),aE 19 5 18,m 20 1,m 21 5,o 22 (.is 5 (.t 20) (.t 21)),aE 23 5 22,o 24 (.eqv (.bl [(.i .i64),(.i .i64),(.i .i64),(.i .i64),(.i .i64)]) true (.t 19) (.t 23))]
def ME:=some [[],[],[0,1],[2],[],[],[4,5],[6],[3,7]]
def QK:=[o 4 (.mv bH)]
def QL:=[ad 25 13 1,m 13 25]
def QM:=[o 4 (.mv T)]
def Av:bD:=(s (r QD) (s (s (r QE) (.cond (.t 10) (s (r QF) .ret) .skip)) (s (s (r QG) (.block 0 (.loop (s (r QH) (s (.cond (.t 14) .skip (.exit 0)) (s (.block 1 (s (r QI) (s (.cm ME QJ) (.cond (.t 24) (s (r QK) .ret) .skip)))) (r QL))))))) (s (r QM) .ret))))
def Fg:List bV:=[.tmp 4]
theorem KG:cI Tryd.prog Tryd.f20 Av:=e (by kernel_rfl)
theorem LG:cF Tryd.prog Tryd.f20 Fg:=e (by kernel_rfl)
theorem JM:cz Tryd.prog 20:=e (by kernel_rfl)
def QN:=[o 4 (.mv bH)]
def QO:=[m 6 0,o 7 (.len (.t 6)),m 8 1,o 9 (.len (.t 8)),o 10 (.bin .neq (.t 7) (.t 9))]
def QP:=[o 4 (.mv bH)]
def QR:=[m 11 0,o 12 (.len (.t 11)),cd 13 0]
def QS:=[lt 14 13 12]
def QT:=[m 15 13,m 5 15]
def QU:=[m 16 0,m 17 5,o 18 (.is 1 (.t 16) (.t 17)),l 19 18,m 20 1,m 21 5,o 22 (.is 1 (.t 20) (.t 21)),l 23 22,o 24 (.bin .neq (.t 19) (.t 23))]
def MF:=some [[],[],[0,1],[2],[],[],[4,5],[6],[3,7]]
def QV:=[o 4 (.mv bH)]
def QW:=[ad 25 13 1,m 13 25]
def QX:=[o 4 (.mv T)]
def Aw:bD:=(s (r QN) (s (s (r QO) (.cond (.t 10) (s (r QP) .ret) .skip)) (s (s (r QR) (.block 0 (.loop (s (r QS) (s (.cond (.t 14) .skip (.exit 0)) (s (.block 1 (s (r QT) (s (.cm MF QU) (.cond (.t 24) (s (r QV) .ret) .skip)))) (r QW))))))) (s (r QX) .ret))))
def Fh:List bV:=[.tmp 4]
theorem KH:cI Tryd.prog Tryd.f21 Aw:=e (by kernel_rfl)
theorem LH:cF Tryd.prog Tryd.f21 Fh:=e (by kernel_rfl)
theorem JN:cz Tryd.prog 21:=e (by kernel_rfl)
def QY:=[o 4 (.mv (.c (.nils 4))),cd 5 0]
def QZ:=[m 16 0,m 17 1,o 18 (.call 45 [.t 16,.t 17]),m 15 18,o 19 (.ext (.t 15) 0),o 20 (.ext (.t 15) 1),m 6 19,m 7 20]
def Q6:=[o 8 (.mv (.c (.nils 4)))]
def Q7:=[m 21 6,o 22 (.len (.t 21)),cd 23 0]
def Q8:=[lt 24 23 22]
def Q9:=[o 25 (.is 1 (.t 21) (.t 23)),l 26 25,o 10 (.alloc (.nilp)),p (.bl none (.t 10) (.t 26))]
def Ra:=[l 27 10,o 28 (.call 25 [.t 27]),o 29 (.len (.t 28)),cd 30 0]
def Rb:=[lt 31 30 29]
def Rc:=[o 32 (.is 1 (.t 28) (.t 30)),l 33 32,o 12 (.alloc (.int .i64 0)),p (.bl none (.t 12) (.t 33))]
def Re:=[l 34 10,o 35 (.nilC (.t 34)),f 36 2 2 35,l 37 36,l 38 12,o 39 (.lk (.i .i64) (.nilp) false (.t 37) (.t 38)),o 40 (.nilC (.t 39)),aE 41 4 40,o 13 (.alloc (.agg [.int .i64 0,.int .i64 0,.int .i64 0,.bool false])),p (.bl (some 4) (.t 13) (.t 41))]
def MG:=some [[],[0],[1],[2],[],[3,4],[5],[6],[],[8,7,0,1,2,3,4,5,6,7,8]]
def Q0:=[m 42 6,o 43 (.mk 47 [.t 13,.t 10,.t 12]),o 44 (.call 46 [.t 42,.t 43]),m 14 44]
def Q1:=[f 45 2 2 13,l 46 45,m 47 1,o 48 (.bin .eql (.t 46) (.t 47)),m 49 48,dK 50 14 49,ca 51 (.un .not (.t 50)) 49,and 52 49 51]
def Q2:=[m 53 8,aE 54 4 13,o 55 (.bs 49 4 [.t 54]),o 56 (.dB 49 4 32 (.agg [.int .i64 0,.int .i64 0,.int .i64 0,.bool false]) (.t 53) (.t 55)),m 8 56]
def Q3:=[ad 57 30 1,m 30 57]
def Q4:=[ad 58 23 1,m 23 58]
def Q5:=[m 59 8,m 60 7,m 4 59,m 5 60]
def Ax:bD:=(s (r QY) (s (r QZ) (s (r Q6) (s (s (r Q7) (.block 0 (.loop (s (r Q8) (s (.cond (.t 24) .skip (.exit 0)) (s (.block 1 (s (r Q9) (s (r Ra) (.block 2 (.loop (s (r Rb) (s (.cond (.t 31) .skip (.exit 2)) (s (.block 3 (s (r Rc) (s (.cm MG Re) (s (r Q0) (s (r Q1) (.cond (.t 52) (r Q2) .skip)))))) (r Q3))))))))) (r Q4))))))) (s (r Q5) .ret)))))
def Fi:List bV:=[.tmp 4,.tmp 5]
theorem KI:cI Tryd.prog Tryd.f22 Ax:=e (by kernel_rfl)
theorem LI:cF Tryd.prog Tryd.f22 Fi:=e (by kernel_rfl)
theorem JO:cz Tryd.prog 22:=e (by kernel_rfl)
def Rf:=[b 2 0,b 3 1,o 4 (.mv (.c (.nils 4))),cd 5 0]
def Rg:=[aE 7 3 2,o 8 (.call 36 [.t 7]),m 6 8]
def Rh:=[m 9 6,o 10 (.bin .neq (.t 9) (ar 0))]
def Ri:=[m 11 6,o 4 (.mv (.c (.nils 4))),m 5 11]
def Rj:=[l 12 3,o 13 (.call 33 [.t 12]),no 14 13]
def Rk:=[o 4 (.mv (.c (.nils 4))),cd 5 1]
def Rl:=[f 15 1 1 2,l 16 15,o 17 (.call 49 [.t 16]),o 18 (.mk 50 [.t 3]),o 19 (.call 48 [.t 17,.t 18]),m 4 19,cd 5 0]
def Ay:bD:=(s (r Rf) (s (s (r Rg) (s (r Rh) (.cond (.t 10) (s (r Ri) .ret) .skip))) (s (s (r Rj) (.cond (.t 14) (s (r Rk) .ret) .skip)) (s (r Rl) .ret))))
def Fj:List bV:=[.tmp 4,.tmp 5]
theorem KJ:cI Tryd.prog Tryd.f23 Ay:=e (by kernel_rfl)
theorem LJ:cF Tryd.prog Tryd.f23 Fj:=e (by kernel_rfl)
theorem JP:cz Tryd.prog 23:=e (by kernel_rfl)
def Rm:=[b 1 0,o 2 (.mv (.c (.nilp))),cd 3 0]
def Rn:=[f 6 0 0 1,l 7 6,o 8 (.call 32 [.t 7]),no 9 8,m 10 9,fn 11 1 1 1 10,ku 12 11 10,on 13 (.len (.t 12)) 10,on 14 (.bin .gtr (.t 13) (ar 200)) 10,or 15 10 14,m 16 15,fn 17 2 2 1 16,ku 18 17 16,fn 19 1 1 1 16,ku 20 19 16,on 21 (.len (.t 20)) 16,on 22 (.call 51 [.t 18,(ar 0),.t 21]) 16,on 23 (.un .not (.t 22)) 16,or 24 16 23]
def Ro:=[o 2 (.mv (.c (.nilp))),cd 3 91]
def Rp:=[f 26 0 0 1,l 27 26,f 28 1 1 1,l 29 28,o 30 (.call 38 [.t 27,.t 29]),m 25 30,o 31 (.ext (.t 25) 0),o 32 (.ext (.t 25) 1),m 4 31,m 5 32]
def Rq:=[m 33 5,no 34 33]
def Rr:=[o 2 (.mv (.c (.nilp))),cd 3 91]
def Rs:=[m 35 4,m 2 35,cd 3 0]
def wq:bD:=(s (r Rm) (s (s (r Rn) (.cond (.t 24) (s (r Ro) .ret) .skip)) (s (r Rp) (s (s (r Rq) (.cond (.t 34) (s (r Rr) .ret) .skip)) (s (r Rs) .ret)))))
def yD:List bV:=[.tmp 2,.tmp 3]
theorem Bx:cI Tryd.prog Tryd.f24 wq:=e (by kernel_rfl)
theorem BQ:cF Tryd.prog Tryd.f24 yD:=e (by kernel_rfl)
theorem Bb:cz Tryd.prog 24:=e (by kernel_rfl)
def CL:=[o 2 (.mv (.c (.nils 1)))]
def CM:=[o 3 (.mv (.c (.nils 1)))]
def CN:=[m 5 0,o 6 (.nilC (.t 5)),f 7 2 2 6,l 8 7,o 9 (.j9 (.t 8))]
def xr:=[o 10 (.iR (.t 9)),o 11 (.ext (.t 10) 0)]
def Rt:=[o 12 (.ent (.t 9)),o 13 (.ext (.t 12) 0),m 4 13]
def Ru:=[m 14 3,m 15 4,o 16 (.bs 3 1 [.t 15]),o 17 (.dB 3 1 8 (.int .i64 0) (.t 14) (.t 16)),m 3 17]
def Rv:=[m 18 3,o 19 (.call 52 [.t 18])]
def Rw:=[m 20 3,m 2 20]
def Az:bD:=(s (r CL) (s (r CM) (s (s (r CN) (.block 0 (.loop (s (r xr) (s (.cond (.t 11) .skip (.exit 0)) (.block 1 (s (r Rt) (r Ru)))))))) (s (r Rv) (s (r Rw) .ret)))))
def Fk:List bV:=[.tmp 2]
theorem KK:cI Tryd.prog Tryd.f25 Az:=e (by kernel_rfl)
theorem LK:cF Tryd.prog Tryd.f25 Fk:=e (by kernel_rfl)
theorem JQ:cz Tryd.prog 25:=e (by kernel_rfl)
def Rx:=[cd 4 0]
def Ry:=[m 5 0,m 6 1,o 7 (.bin .rem (.t 5) (.t 6)),m 8 1,o 9 (.bin .add (.t 7) (.t 8)),m 10 1,o 11 (.bin .rem (.t 9) (.t 10)),m 4 11]
def AA:bD:=(s (r Rx) (s (r Ry) .ret))
def Fl:List bV:=[.tmp 4]
theorem KL:cI Tryd.prog Tryd.f26 AA:=e (by kernel_rfl)
theorem LL:cF Tryd.prog Tryd.f26 Fl:=e (by kernel_rfl)
theorem JR:cz Tryd.prog 26:=e (by kernel_rfl)
def Rz:=[o 4 (.mv bH)]
def RA:=[m 7 0,o 8 (.len (.t 7)),cd 9 0]
def RB:=[lt 10 9 8]
def RC:=[o 11 (.is 1 (.t 7) (.t 9)),l 12 11,m 6 12]
def RD:=[m 13 6,m 14 1,o 15 (.bin .eql (.t 13) (.t 14))]
def RE:=[o 4 (.mv T)]
def RF:=[ad 16 9 1,m 9 16]
def RG:=[o 4 (.mv bH)]
def AB:bD:=(s (r Rz) (s (s (r RA) (.block 0 (.loop (s (r RB) (s (.cond (.t 10) .skip (.exit 0)) (s (.block 1 (s (r RC) (s (r RD) (.cond (.t 15) (s (r RE) .ret) .skip)))) (r RF))))))) (s (r RG) .ret)))
def Fm:List bV:=[.tmp 4]
theorem KM:cI Tryd.prog Tryd.f27 AB:=e (by kernel_rfl)
theorem LM:cF Tryd.prog Tryd.f27 Fm:=e (by kernel_rfl)
theorem JS:cz Tryd.prog 27:=e (by kernel_rfl)
def RH:=[b 2 0,o 4 (.alloc (.agg [.int .i64 0,.nils 4,.int .i64 0])),cd 5 0]
def RI:=[aE 9 3 2,o 10 (.call 24 [.t 9]),m 8 10,o 11 (.ext (.t 8) 0),o 12 (.ext (.t 8) 1),m 6 11,m 7 12]
def RJ:=[m 14 7,o 15 (.bin .neq (.t 14) (ar 0)),m 13 15]
def RK:=[o 16 (.bld [.int .i64 0,.nils 4,.int .i64 0] []),m 17 7,p (.bl (some 3) (.t 4) (.t 16)),m 5 17]
def RL:=[m 19 1,o 20 (.call 33 [.t 19]),no 21 20,m 18 21]
def RM:=[o 22 (.bld [.int .i64 0,.nils 4,.int .i64 0] []),p (.bl (some 3) (.t 4) (.t 22)),cd 5 1]
def RN:=[m 24 6,o 25 (.nilC (.t 24)),f 26 1 1 25,l 27 26,m 28 1,o 29 (.lk (.i .i64) (.bool false) false (.t 27) (.t 28)),no 30 29,m 23 30]
def RO:=[o 31 (.bld [.int .i64 0,.nils 4,.int .i64 0] []),p (.bl (some 3) (.t 4) (.t 31)),cd 5 93]
def RP:=[aE 32 3 2,m 33 1,o 34 (.bld [.int .i64 0,.int .i64 0,.int .i64 0,.int .i64 0] [(0,(ar 2)),(1,(.t 33))]),o 35 (.call 35 [.t 32,.t 34]),o 36 (.ext (.t 35) 0),o 37 (.ext (.t 35) 1),p (.bl (some 3) (.t 4) (.t 36)),m 5 37]
def AD:bD:=(s (r RH) (s (r RI) (s (.block 0 (s (r RJ) (.cond (.t 13) (s (r RK) .ret) (s (r RL) (.cond (.t 18) (s (r RM) .ret) (s (r RN) (.cond (.t 23) (s (r RO) .ret) .skip))))))) (s (r RP) .ret))))
def Fo:List bV:=[.cell 4 (some 3),.tmp 5]
theorem KN:cI Tryd.prog Tryd.f28 AD:=e (by kernel_rfl)
theorem LN:cF Tryd.prog Tryd.f28 Fo:=e (by kernel_rfl)
theorem JT:cz Tryd.prog 28:=e (by kernel_rfl)
def RQ:=[b 2 0,o 4 (.alloc (.agg [.int .i64 0,.nils 4,.int .i64 0])),cd 5 0]
def RS:=[aE 11 3 2,o 12 (.call 24 [.t 11]),m 10 12,o 13 (.ext (.t 10) 0),o 14 (.ext (.t 10) 1),m 6 13,m 7 14]
def RT:=[m 15 7,o 16 (.bin .neq (.t 15) (ar 0))]
def RU:=[o 17 (.bld [.int .i64 0,.nils 4,.int .i64 0] []),m 18 7,p (.bl (some 3) (.t 4) (.t 17)),m 5 18]
def RV:=[m 20 6,o 21 (.nilC (.t 20)),f 22 2 2 21,l 23 22,m 24 1,o 25 (.lk (.i .i64) (.nilp) true (.t 23) (.t 24)),m 19 25,o 26 (.ext (.t 19) 0),o 27 (.ext (.t 19) 1),m 8 26,m 9 27]
def RW:=[m 28 9,no 29 28,m 30 29,iu 31 8 30,on 32 (.nilC (.t 31)) 30,fn 33 3 3 32 30,ku 34 33 30,or 35 30 34]
def RX:=[o 36 (.bld [.int .i64 0,.nils 4,.int .i64 0] []),p (.bl (some 3) (.t 4) (.t 36)),cd 5 94]
def RY:=[aE 37 3 2,m 38 8,o 39 (.nilC (.t 38)),f 40 2 2 39,l 41 40,m 42 8,o 43 (.nilC (.t 42)),f 44 1 1 43,l 45 44,m 46 1,o 47 (.bld [.int .i64 0,.int .i64 0,.int .i64 0,.int .i64 0] [(0,(ar 4)),(1,(.t 41)),(2,(.t 45)),(3,(.t 46))]),o 48 (.call 35 [.t 37,.t 47]),o 49 (.ext (.t 48) 0),o 50 (.ext (.t 48) 1),p (.bl (some 3) (.t 4) (.t 49)),m 5 50]
def MH:=some [[],[],[1],[2],[3],[],[5],[6],[7],[],[4,8,9],[0,10],[11],[11],[12,11,0,1,2,3,4,5,6,7,8,9,10,11,12,13],[13,14,0,1,2,3,4,5,6,7,8,9,10,11,12,13,14]]
def AE:bD:=(s (r RQ) (s (r RS) (s (s (r RT) (.cond (.t 16) (s (r RU) .ret) .skip)) (s (r RV) (s (s (r RW) (.cond (.t 35) (s (r RX) .ret) .skip)) (s (.cm MH RY) .ret))))))
def Fp:List bV:=[.cell 4 (some 3),.tmp 5]
theorem KO:cI Tryd.prog Tryd.f29 AE:=e (by kernel_rfl)
theorem LO:cF Tryd.prog Tryd.f29 Fp:=e (by kernel_rfl)
theorem JU:cz Tryd.prog 29:=e (by kernel_rfl)
def RZ:=[b 2 0,o 4 (.alloc (.agg [.int .i64 0,.nils 4,.int .i64 0])),cd 5 0]
def R0:=[aE 8 3 2,o 9 (.call 36 [.t 8]),m 6 9]
def R1:=[m 10 6,o 11 (.bin .neq (.t 10) (ar 0))]
def R2:=[o 12 (.bld [.int .i64 0,.nils 4,.int .i64 0] []),m 13 6,p (.bl (some 3) (.t 4) (.t 12)),m 5 13]
def R3:=[f 14 1 1 2,l 15 14,o 16 (.len (.t 15)),f 17 2 2 2,l 18 17,o 19 (.bin .sub (.t 16) (.t 18)),ad 20 19 1,m 7 20]
def R4:=[f 21 2 2 2,l 22 21,m 23 1,m 24 7,o 25 (.bin .rem (.t 23) (.t 24)),m 26 7,o 27 (.bin .add (.t 25) (.t 26)),m 28 7,o 29 (.bin .rem (.t 27) (.t 28)),o 30 (.bin .add (.t 22) (.t 29)),f 31 2 2 2,p (.bl none (.t 31) (.t 30))]
def MI:=some [[],[0],[],[],[2,3],[],[4,5],[],[6,7],[1,8],[0,1,2,3,4,5,6,7,8,9],[10,9,0,1,2,3,4,5,6,7,8,9]]
def R5:=[f 32 1 1 2,l 33 32,f 34 2 2 2,l 35 34,o 36 (.sl 4 (.t 33) none (some (.t 35)) none),o 37 (.call 49 [.t 36]),f 38 1 1 2,p (.bl none (.t 38) (.t 37))]
def R6:=[aE 39 3 2,p (.bl (some 3) (.t 4) (.t 39)),cd 5 0]
def AF:bD:=(s (r RZ) (s (s (r R0) (s (r R1) (.cond (.t 11) (s (r R2) .ret) .skip))) (s (r R3) (s (.cm MI R4) (s (r R5) (s (r R6) .ret))))))
def Fq:List bV:=[.cell 4 (some 3),.tmp 5]
theorem KQ:cI Tryd.prog Tryd.f30 AF:=e (by kernel_rfl)
theorem LQ:cF Tryd.prog Tryd.f30 Fq:=e (by kernel_rfl)
theorem JW:cz Tryd.prog 30:=e (by kernel_rfl)
def R7:=[o 2 (.mv bH)]
def R8:=[m 3 0,o 4 (.bin .eql (.t 3) (ar 0)),m 5 4,iu 6 0 5,on 7 (.bin .eql (.t 6) (ar 2)) 5,or 8 5 7,m 9 8,iu 10 0 9,on 11 (.bin .eql (.t 10) (ar 92)) 9,or 12 9 11,m 13 12,iu 14 0 13,on 15 (.bin .eql (.t 14) (ar 93)) 13,or 16 13 15,m 17 16,iu 18 0 17,on 19 (.bin .eql (.t 18) (ar 94)) 17,or 20 17 19,m 21 20,iu 22 0 21,on 23 (.bin .eql (.t 22) (ar 90)) 21,or 24 21 23,m 2 24]
def AG:bD:=(s (r R7) (s (r R8) .ret))
def Fs:List bV:=[.tmp 2]
theorem KR:cI Tryd.prog Tryd.f31 AG:=e (by kernel_rfl)
theorem LR:cF Tryd.prog Tryd.f31 Fs:=e (by kernel_rfl)
theorem JX:cz Tryd.prog 31:=e (by kernel_rfl)
def R9:=[o 2 (.mv bH)]
def Sa:=[m 3 0,o 4 (.call 51 [.t 3,(ar 0),(ar 5)]),m 2 4]
def AH:bD:=(s (r R9) (s (r Sa) .ret))
def Ft:List bV:=[.tmp 2]
theorem KS:cI Tryd.prog Tryd.f32 AH:=e (by kernel_rfl)
theorem LS:cF Tryd.prog Tryd.f32 Ft:=e (by kernel_rfl)
theorem JY:cz Tryd.prog 32:=e (by kernel_rfl)
def Sb:=[o 2 (.mv bH)]
def Sc:=[m 3 0,o 4 (.call 51 [.t 3,(ar 1),(ar 9999)]),m 2 4]
def AI:bD:=(s (r Sb) (s (r Sc) .ret))
def Fu:List bV:=[.tmp 2]
theorem KT:cI Tryd.prog Tryd.f33 AI:=e (by kernel_rfl)
theorem LU:cF Tryd.prog Tryd.f33 Fu:=e (by kernel_rfl)
theorem JZ:cz Tryd.prog 33:=e (by kernel_rfl)
def CO:=[o 4 (.mv bH)]
def CP:=[m 7 0,o 8 (.nilC (.t 7)),f 9 2 2 8,l 10 9,o 11 (.j9 (.t 10))]
def xt:=[o 12 (.iR (.t 11)),o 13 (.ext (.t 12) 0)]
def Sd:=[o 14 (.ent (.t 11)),o 15 (.ext (.t 14) 1),m 6 15]
def Se:=[m 16 6,o 17 (.nilC (.t 16)),f 18 2 2 17,l 19 18,m 20 1,o 21 (.bin .eql (.t 19) (.t 20))]
def Sf:=[o 4 (.mv T)]
def Sg:=[o 4 (.mv bH)]
def AJ:bD:=(s (r CO) (s (s (r CP) (.block 0 (.loop (s (r xt) (s (.cond (.t 13) .skip (.exit 0)) (.block 1 (s (r Sd) (s (r Se) (.cond (.t 21) (s (r Sf) .ret) .skip))))))))) (s (r Sg) .ret)))
def Fv:List bV:=[.tmp 4]
theorem KU:cI Tryd.prog Tryd.f34 AJ:=e (by kernel_rfl)
theorem LV:cF Tryd.prog Tryd.f34 Fv:=e (by kernel_rfl)
theorem J0:cz Tryd.prog 34:=e (by kernel_rfl)
def Sh:=[b 2 0,b 3 1,o 4 (.alloc (.agg [.int .i64 0,.nils 4,.int .i64 0])),cd 5 0]
def Si:=[f 6 1 1 2,l 7 6,o 8 (.len (.t 7)),o 9 (.bin .eql (.t 8) (ar 200))]
def Sj:=[o 10 (.bld [.int .i64 0,.nils 4,.int .i64 0] []),p (.bl (some 3) (.t 4) (.t 10)),cd 5 2]
def Sk:=[aE 11 3 2,o 12 (.call 37 [.t 11]),p (.bl (some 3) (.t 2) (.t 12))]
def Sl:=[f 13 1 1 2,l 14 13,aE 15 4 3,o 16 (.bs 67 4 [.t 15]),o 17 (.dB 67 4 32 (.agg [.int .i64 0,.int .i64 0,.int .i64 0,.int .i64 0]) (.t 14) (.t 16)),f 18 1 1 2,p (.bl none (.t 18) (.t 17))]
def Sm:=[aE 19 3 2,p (.bl (some 3) (.t 4) (.t 19)),cd 5 0]
def AK:bD:=(s (r Sh) (s (s (r Si) (.cond (.t 9) (s (r Sj) .ret) .skip)) (s (r Sk) (s (r Sl) (s (r Sm) .ret)))))
def Fw:List bV:=[.cell 4 (some 3),.tmp 5]
theorem KV:cI Tryd.prog Tryd.f35 AK:=e (by kernel_rfl)
theorem LW:cF Tryd.prog Tryd.f35 Fw:=e (by kernel_rfl)
theorem J1:cz Tryd.prog 35:=e (by kernel_rfl)
def Sn:=[b 1 0,cd 2 0]
def Sp:=[aE 6 3 1,o 7 (.call 24 [.t 6]),m 5 7,o 8 (.ext (.t 5) 0),o 9 (.ext (.t 5) 1),m 3 8,m 4 9]
def Sq:=[m 10 4,m 2 10]
def AL:bD:=(s (r Sn) (s (r Sp) (s (r Sq) .ret)))
def Fx:List bV:=[.tmp 2]
theorem KW:cI Tryd.prog Tryd.f36 AL:=e (by kernel_rfl)
theorem LX:cF Tryd.prog Tryd.f36 Fx:=e (by kernel_rfl)
theorem J2:cz Tryd.prog 36:=e (by kernel_rfl)
def Sr:=[b 1 0,o 2 (.alloc (.agg [.int .i64 0,.nils 4,.int .i64 0]))]
def St:=[f 3 1 1 1,l 4 3,o 5 (.call 49 [.t 4]),f 6 1 1 1,p (.bl none (.t 6) (.t 5))]
def Su:=[aE 7 3 1,p (.bl (some 3) (.t 2) (.t 7))]
def wu:bD:=(s (r Sr) (s (r St) (s (r Su) .ret)))
def yE:List bV:=[.cell 2 (some 3)]
theorem By:cI Tryd.prog Tryd.f37 wu:=e (by kernel_rfl)
theorem BR:cF Tryd.prog Tryd.f37 yE:=e (by kernel_rfl)
theorem Bc:cz Tryd.prog 37:=e (by kernel_rfl)
def Sv:=[o 4 (.mv (.c (.nilp))),o 5 (.mv bH)]
def Sw:=[m 9 0,o 10 (.call 53 [.t 9]),m 6 10]
def Sx:=[m 11 1,o 12 (.len (.t 11)),cd 13 0]
def Sy:=[lt 14 13 12]
def Sz:=[o 15 (.is 4 (.t 11) (.t 13)),aE 16 4 15,o 8 (.alloc (.agg [.int .i64 0,.int .i64 0,.int .i64 0,.int .i64 0])),p (.bl (some 4) (.t 8) (.t 16))]
def SA:=[m 17 6,aE 18 4 8,o 19 (.call 44 [.t 17,.t 18]),no 20 19]
def SB:=[o 4 (.mv (.c (.nilp))),o 5 (.mv bH)]
def SC:=[ad 21 13 1,m 13 21]
def SD:=[m 22 6,m 4 22,o 5 (.mv T)]
def wv:bD:=(s (r Sv) (s (r Sw) (s (s (r Sx) (.block 0 (.loop (s (r Sy) (s (.cond (.t 14) .skip (.exit 0)) (s (.block 1 (s (r Sz) (s (r SA) (.cond (.t 20) (s (r SB) .ret) .skip)))) (r SC))))))) (s (r SD) .ret))))
def yF:List bV:=[.tmp 4,.tmp 5]
theorem Bz:cI Tryd.prog Tryd.f38 wv:=e (by kernel_rfl)
theorem BS:cF Tryd.prog Tryd.f38 yF:=e (by kernel_rfl)
theorem Bd:cz Tryd.prog 38:=e (by kernel_rfl)
def SE:=[b 2 0,b 3 1,o 4 (.mv (.c (.dA)))]
def SF:=[o 5 (.mk 54 [.t 2,.t 3]),m 4 5]
def AM:bD:=(s (r SE) (s (r SF) .ret))
def Fy:List bV:=[.tmp 4]
theorem KX:cI Tryd.prog Tryd.f39 AM:=e (by kernel_rfl)
theorem LY:cF Tryd.prog Tryd.f39 Fy:=e (by kernel_rfl)
theorem J3:cz Tryd.prog 39:=e (by kernel_rfl)
def CQ:=[o 4 (.mv (.c (.bR ⟨#[]⟩)))]
def CR:=[m 7 1,o 8 (.len (.t 7)),cd 9 0]
def CS:=[lt 10 9 8]
def CT:=[o 11 (.is 1 (.t 7) (.t 9)),l 12 11,m 6 12]
def CU:=[m 13 0,m 14 6,o 15 (.call 55 [.t 14]),o 16 (.bin .add (.c (.bR ⟨#[32]⟩)) (.t 15)),o 17 (.bin .add (.t 13) (.t 16)),m 0 17]
def CV:=[ad 18 9 1,m 9 18]
def CW:=[m 19 0,o 20 (.bin .add (.t 19) (.c (.bR ⟨#[10]⟩))),m 4 20]
def AN:bD:=(s (r CQ) (s (s (r CR) (.block 0 (.loop (s (r CS) (s (.cond (.t 10) .skip (.exit 0)) (s (.block 1 (s (r CT) (r CU))) (r CV))))))) (s (r CW) .ret)))
def FA:List bV:=[.tmp 4]
theorem KY:cI Tryd.prog Tryd.f40 AN:=e (by kernel_rfl)
theorem LZ:cF Tryd.prog Tryd.f40 FA:=e (by kernel_rfl)
theorem J4:cz Tryd.prog 40:=e (by kernel_rfl)
def SJ:=[o 0 (.mv (.c (.nils 1)))]
def SK:=[o 1 (.bs 9 1 [(.c (.bR ⟨#[]⟩)),(.c (.bR ⟨#[112,111,117,110,100]⟩)),(.c (.bR ⟨#[114,101,108,101,97,115,101]⟩)),(.c (.bR ⟨#[115,101,110,100]⟩)),(.c (.bR ⟨#[99,97,108,108]⟩)),(.c (.bR ⟨#[100,111,110,101]⟩)),(.c (.bR ⟨#[98,97,99,107]⟩)),(.c (.bR ⟨#[116,97,107,101]⟩)),(.c (.bR ⟨#[114,101,102,117,115,101]⟩))]),m 0 1]
def AO:bD:=(s (r SJ) (s (r SK) .ret))
def FB:List bV:=[.tmp 0]
theorem KZ:cI Tryd.prog Tryd.f41 AO:=e (by kernel_rfl)
theorem L0:cF Tryd.prog Tryd.f41 FB:=e (by kernel_rfl)
theorem J5:cz Tryd.prog 41:=e (by kernel_rfl)
def SL:=[b 1 0,o 2 (.mv bH)]
def SM:=[f 3 0 0 1,l 4 3,o 5 (.call 51 [.t 4,(ar 1),(ar 4)]),m 6 5,fD 7 1 1 1 6,fh 8 7 6,ca 9 (.call 32 [.t 8]) 6,and 10 6 9,m 11 10,fD 12 2 2 1 11,fh 13 12 11,ca 14 (.call 32 [.t 13]) 11,and 15 11 14,m 16 15,fD 17 1 1 1 16,fh 18 17 16,fD 19 2 2 1 16,fh 20 19 16,ca 21 (.bin .neq (.t 18) (.t 20)) 16,and 22 16 21,m 23 22,fD 24 3 3 1 23,fh 25 24 23,ca 26 (.call 33 [.t 25]) 23,and 27 23 26,m 28 27,fD 29 4 4 1 28,fh 30 29 28,ca 31 (.call 56 [.t 30]) 28,and 32 28 31,m 2 32]
def AP:bD:=(s (r SL) (s (r SM) .ret))
def FC:List bV:=[.tmp 2]
theorem K0:cI Tryd.prog Tryd.f42 AP:=e (by kernel_rfl)
theorem L1:cF Tryd.prog Tryd.f42 FC:=e (by kernel_rfl)
theorem J6:cz Tryd.prog 42:=e (by kernel_rfl)
def SN:=[cd 2 0]
def SO:=[o 3 (.jg),p (.eX (.i .i64) (.t 3) (ar 1) (ar 7)),p (.eX (.i .i64) (.t 3) (ar 2) (ar 5)),p (.eX (.i .i64) (.t 3) (ar 3) (ar 8)),p (.eX (.i .i64) (.t 3) (ar 4) (ar 6)),m 4 3,m 5 0,o 6 (.lk (.i .i64) (.int .i64 0) false (.t 4) (.t 5)),m 2 6]
def AQ:bD:=(s (r SN) (s (r SO) .ret))
def FD:List bV:=[.tmp 2]
theorem K1:cI Tryd.prog Tryd.f43 AQ:=e (by kernel_rfl)
theorem L2:cF Tryd.prog Tryd.f43 FD:=e (by kernel_rfl)
theorem J7:cz Tryd.prog 43:=e (by kernel_rfl)
def CX:=[b 3 1,o 4 (.alloc (.bool false))]
def CY:=[aE 6 4 3,o 7 (.call 59 [.t 6]),o 8 (.call 58 [.t 7])]
def r2:=[m 9 0,o 10 (.nilC (.t 9)),f 11 5 5 10,l 12 11,f 13 0 0 3,l 14 13,o 15 (.lk (.i .i64) (.dA) false (.t 12) (.t 14)),aE 16 4 3,o 17 (.fy (.t 15) [.t 16])]
def MJ:=some [[],[0],[1],[2],[],[4],[3,5],[],[6,7]]
def SP:=[p (.bl none (.t 4) T)]
def Y4:List bV:=[.cell 4 none]
theorem L3:cF Tryd.prog Tryd.f44 Y4:=e (by kernel_rfl)
theorem J8:cz Tryd.prog 44:=e (by kernel_rfl)
def SQ:=[o 4 (.mv (.c (.nils 1))),cd 5 0]
def SR:=[o 6 (.mv (.c (.nils 1)))]
def SW:=[m 11 0,o 12 (.len (.t 11)),cd 13 0]
def SX:=[lt 14 13 12]
def SY:=[m 15 13,o 16 (.is 3 (.t 11) (.t 13)),aE 17 3 16,o 8 (.alloc (.agg [.int .i64 0,.nils 4,.int .i64 0])),m 7 15,p (.bl (some 3) (.t 8) (.t 17))]
def SZ:=[aE 19 3 8,o 20 (.call 24 [.t 19]),m 18 20,o 21 (.ext (.t 18) 0),o 22 (.ext (.t 18) 1),m 9 21,m 10 22]
def S0:=[m 23 10,o 24 (.bin .neq (.t 23) (ar 0)),m 25 24,iu 26 7 25,on 27 (.bin .gtr (.t 26) (ar 0)) 25,iu 28 27 25,dK 29 0 28,dK 30 7 28,ca 31 (.bin .sub (.t 30) (ar 1)) 28,ca 32 (.is 3 (.t 29) (.t 31)) 28,fD 33 0 0 32 28,fh 34 33 28,fD 35 0 0 8 28,fh 36 35 28,ca 37 (.bin .geq (.t 34) (.t 36)) 28,on 38 (.pick (.t 28) (.t 37) bH) 25,or 39 25 38]
def MK:=some [[],[0],[1],[2],[3,2],[4,2,2],[5],[5],[7,5],[6,8,5],[9,5],[10,5],[5],[12,5],[11,13,5],[5,14,2],[2,15]]
def S1:=[o 4 (.mv (.c (.nils 1))),cd 5 96]
def S2:=[m 40 6,m 41 9,o 42 (.bs 68 1 [.t 41]),o 43 (.dB 68 1 8 (.nilp) (.t 40) (.t 42)),m 6 43]
def S3:=[ad 44 13 1,m 13 44]
def SS:=[m 45 1,o 46 (.call 33 [.t 45]),no 47 46]
def SU:=[o 4 (.mv (.c (.nils 1))),cd 5 1]
def SV:=[m 48 6,m 4 48,cd 5 0]
def AR:bD:=(s (r SQ) (s (r SR) (s (s (r SW) (.block 0 (.loop (s (r SX) (s (.cond (.t 14) .skip (.exit 0)) (s (.block 1 (s (r SY) (s (r SZ) (s (s (.cm MK S0) (.cond (.t 39) (s (r S1) .ret) .skip)) (r S2))))) (r S3))))))) (s (s (r SS) (.cond (.t 47) (s (r SU) .ret) .skip)) (s (r SV) .ret)))))
def FE:List bV:=[.tmp 4,.tmp 5]
theorem K2:cI Tryd.prog Tryd.f45 AR:=e (by kernel_rfl)
theorem L4:cF Tryd.prog Tryd.f45 FE:=e (by kernel_rfl)
theorem J9:cz Tryd.prog 45:=e (by kernel_rfl)
def S4:=[o 4 (.mv bH)]
def S5:=[m 5 0,m 6 1,o 7 (.call 60 [.t 5,.t 6]),o 8 (.bin .geq (.t 7) (ar 0)),m 4 8]
def AS:bD:=(s (r S4) (s (r S5) .ret))
def FF:List bV:=[.tmp 4]
theorem K3:cI Tryd.prog Tryd.f46 AS:=e (by kernel_rfl)
theorem L5:cF Tryd.prog Tryd.f46 FF:=e (by kernel_rfl)
theorem Ka:cz Tryd.prog 46:=e (by kernel_rfl)
def S6:=[o 5 (.mv bH)]
def S7:=[m 6 0,o 7 (.nilC (.t 6)),f 8 0 0 7,l 9 8,f 10 1 1 1,l 11 10,o 12 (.bin .eql (.t 9) (.t 11)),m 13 12,dK 14 0 13,ca 15 (.nilC (.t 14)) 13,fD 16 4 4 15 13,fh 17 16 13,fh 18 2 13,ca 19 (.nilC (.t 18)) 13,fD 20 0 0 19 13,fh 21 20 13,fh 22 3 13,ca 23 (.bld [.int .i64 0,.int .i64 0] [(0,(.t 21)),(1,(.t 22))]) 13,ca 24 (.lk (.bl [(.i .i64),(.i .i64)]) (.agg [.int .i64 0,.int .i64 0,.int .i64 0,.int .i64 0]) false (.t 17) (.t 23)) 13,ca 25 (.fl 0 0 none (.t 24)) 13,ca 26 (.bin .eql (.t 25) (ar 7)) 13,and 27 13 26,m 5 27]
def ML:=some [[],[0],[1],[2],[],[4],[3,5],[6],[7],[8,7],[9,7],[10,7],[7],[12,7],[13,7],[14,7],[7],[15,16,7],[11,17,7],[18,7],[19,7],[7,20],[21,7,0,1,2,3,4,5,6,7,8,9,10,11,12,13,14,15,16,17,18,19,20,21]]
def AT:bD:=(s (r S6) (s (.cm ML S7) .ret))
def FG:List bV:=[.tmp 5]
theorem K4:cI Tryd.prog Tryd.f47 AT:=e (by kernel_rfl)
theorem L6:cF Tryd.prog Tryd.f47 FG:=e (by kernel_rfl)
theorem Kb:cz Tryd.prog 47:=e (by kernel_rfl)
def S8:=[o 4 (.mv (.c (.nils 4)))]
def S9:=[m 8 0,m 9 1,o 10 (.call 61 [.t 8,.t 9]),m 5 10]
def Tb:=[m 11 5,o 12 (.bin .eql (.t 11) (.c (.int .i64 (-1))))]
def Tc:=[m 13 0,m 4 13]
def Td:=[m 14 5,ad 15 14 1,m 6 15]
def C1:=[m 16 6,m 17 0,o 18 (.len (.t 17)),lt 19 16 18]
def Te:=[m 22 0,m 23 6,o 24 (.is 4 (.t 22) (.t 23)),aE 25 4 24,o 7 (.alloc (.agg [.int .i64 0,.int .i64 0,.int .i64 0,.int .i64 0])),p (.bl (some 4) (.t 7) (.t 25))]
def Tf:=[m 26 1,aE 27 4 7,o 28 (.fy (.t 26) [.t 27]),no 29 28]
def Tg:=[m 30 0,m 31 5,aE 32 4 7,o 33 (.is 4 (.t 30) (.t 31)),p (.bl (some 4) (.t 33) (.t 32))]
def Th:=[m 34 5,ad 35 34 1,m 5 35]
def Ta:=[m 20 6,ad 21 20 1,m 6 21]
def CZ:=[m 36 0,m 37 5,o 38 (.sl 4 (.t 36) (some (.t 37)) none none),p (.jQ 4 (.agg [.int .i64 0,.int .i64 0,.int .i64 0,.int .i64 0]) (.t 38))]
def C0:=[m 39 0,m 40 5,o 41 (.sl 4 (.t 39) none (some (.t 40)) none),m 4 41]
def wy:bD:=(s (r S8) (s (r S9) (s (s (r Tb) (.cond (.t 12) (s (r Tc) .ret) .skip)) (s (s (r Td) (.block 0 (.loop (s (s (r C1) (.cond (.t 19) .skip (.exit 0))) (s (.block 1 (s (r Te) (s (r Tf) (.cond (.t 29) (s (r Tg) (r Th)) .skip)))) (r Ta)))))) (s (r CZ) (s (r C0) .ret))))))
def yG:List bV:=[.tmp 4]
theorem BA:cI Tryd.prog Tryd.f48 wy:=e (by kernel_rfl)
theorem BT:cF Tryd.prog Tryd.f48 yG:=e (by kernel_rfl)
theorem Be:cz Tryd.prog 48:=e (by kernel_rfl)
def xu:=[o 2 (.mv (.c (.nils 4)))]
def r3:=[m 3 0,o 4 (.nilS false (.t 3))]
def xv:=[o 2 (.mv (.c (.nils 4)))]
def r4:=[o 5 (.bs0 4),m 6 0,o 7 (.dB 67 4 32 (.agg [.int .i64 0,.int .i64 0,.int .i64 0,.int .i64 0]) (.t 5) (.t 6)),m 2 7]
def wz:bD:=(s (r xu) (s (s (r r3) (.cond (.t 4) (s (r xv) .ret) .skip)) (s (r r4) .ret)))
def yH:List bV:=[.tmp 2]
theorem BB:cI Tryd.prog Tryd.f49 wz:=e (by kernel_rfl)
theorem BU:cF Tryd.prog Tryd.f49 yH:=e (by kernel_rfl)
theorem Bf:cz Tryd.prog 49:=e (by kernel_rfl)
def Ti:=[b 2 0,o 3 (.mv bH)]
def Tj:=[f 4 1 1 2,l 5 4,l 6 1,o 7 (.bin .neq (.t 5) (.t 6)),m 3 7]
def AU:bD:=(s (r Ti) (s (r Tj) .ret))
def FI:List bV:=[.tmp 3]
theorem K6:cI Tryd.prog Tryd.f50 AU:=e (by kernel_rfl)
theorem L8:cF Tryd.prog Tryd.f50 FI:=e (by kernel_rfl)
theorem Kd:cz Tryd.prog 50:=e (by kernel_rfl)
def Tk:=[o 6 (.mv bH)]
def Tl:=[m 7 0,m 8 1,o 9 (.bin .geq (.t 7) (.t 8)),m 10 9,dK 11 0 10,dK 12 2 10,ca 13 (.bin .leq (.t 11) (.t 12)) 10,and 14 10 13,m 6 14]
def AV:bD:=(s (r Tk) (s (r Tl) .ret))
def FJ:List bV:=[.tmp 6]
theorem K7:cI Tryd.prog Tryd.f51 AV:=e (by kernel_rfl)
theorem L9:cF Tryd.prog Tryd.f51 FJ:=e (by kernel_rfl)
theorem Ke:cz Tryd.prog 51:=e (by kernel_rfl)
theorem Bg:cz Tryd.prog 52:=e (by kernel_rfl)
def Tm:=[o 2 (.mv (.c (.nilp)))]
def Tn:=[m 4 0,o 5 (.jg),o 6 (.jg),o 7 (.jg),o 8 (.bld [.int .i64 0,.raw (.map none),.raw (.map none),.int .i64 0,.raw (.map none),.raw (.map none)] [(0,(.t 4)),(1,(.t 5)),(2,(.t 6)),(4,(.t 7))]),b 9 8,m 3 9]
def Tp:=[m 10 3,o 11 (.jg),m 12 3,o 13 (.mk 1000064 [.t 12]),p (.eX (.i .i64) (.t 11) (ar 1) (.t 13)),m 14 3,o 15 (.mk 1000065 [.t 14]),p (.eX (.i .i64) (.t 11) (ar 2) (.t 15)),m 16 3,o 17 (.mk 1000066 [.t 16]),p (.eX (.i .i64) (.t 11) (ar 3) (.t 17)),m 18 3,o 19 (.mk 1000067 [.t 18]),p (.eX (.i .i64) (.t 11) (ar 4) (.t 19)),m 20 3,o 21 (.mk 1000068 [.t 20]),p (.eX (.i .i64) (.t 11) (ar 5) (.t 21)),m 22 3,o 23 (.mk 1000069 [.t 22]),p (.eX (.i .i64) (.t 11) (ar 6) (.t 23)),m 24 3,o 25 (.mk 1000070 [.t 24]),p (.eX (.i .i64) (.t 11) (ar 7) (.t 25)),m 26 3,o 27 (.mk 1000071 [.t 26]),p (.eX (.i .i64) (.t 11) (ar 8) (.t 27)),m 28 11,o 29 (.nilC (.t 10)),f 30 5 5 29,p (.bl none (.t 30) (.t 28))]
def Tq:=[m 31 3,m 2 31]
def AW:bD:=(s (r Tm) (s (r Tn) (s (r Tp) (s (r Tq) .ret))))
def FK:List bV:=[.tmp 2]
theorem K8:cI Tryd.prog Tryd.f53 AW:=e (by kernel_rfl)
theorem Ma:cF Tryd.prog Tryd.f53 FK:=e (by kernel_rfl)
theorem Kf:cz Tryd.prog 53:=e (by kernel_rfl)
def Tr:=[l 12 1,o 13 (.call 25 [.t 12]),o 14 (.len (.t 13)),cd 15 0]
def Ts:=[lt 16 15 14]
def TA:=[o 17 (.is 1 (.t 13) (.t 15)),l 18 17,m 5 18]
def TB:=[l 19 1,o 20 (.nilC (.t 19)),f 21 2 2 20,l 22 21,m 23 5,o 24 (.lk (.i .i64) (.nilp) false (.t 22) (.t 23)),m 6 24]
def TC:=[l 25 1,o 26 (.nilC (.t 25)),f 27 0 0 26,l 28 27,l 29 2,m 30 6,o 31 (.nilC (.t 30)),f 32 2 2 31,l 33 32,m 34 5,o 35 (.bld [.int .i64 0,.int .i64 0,.int .i64 0,.int .i64 0,.int .i64 0] [(0,(ar 1)),(1,(.t 28)),(2,(.t 29)),(3,(.t 33)),(4,(.t 34))]),o 7 (.alloc (.agg [.int .i64 0,.int .i64 0,.int .i64 0,.int .i64 0,.int .i64 0])),p (.bl (some 5) (.t 7) (.t 35))]
def MP:=some [[],[0],[1],[2],[],[],[5],[6],[7],[],[3,4,8,9],[],[11,10,0,1,2,3,4,5,6,7,8,9,10,11]]
def TD:=[m 36 6,o 37 (.nilC (.t 36)),f 38 3 3 37,l 39 38]
def TE:=[f 40 0 0 7,p (.bl none (.t 40) (ar 3))]
def o5:=[m 41 6,o 42 (.nilC (.t 41)),f 43 1 1 42,l 44 43,l 45 2,o 46 (.bin .eql (.t 44) (.t 45)),m 47 46,dK 48 0 47,ca 49 (.ld (some 5) (.t 7)) 47,ca 50 (.fy (.t 48) [.t 49]) 47,ca 51 (.un .not (.t 50)) 47,and 52 47 51]
def MQ:=some [[],[0],[1],[2],[],[3,4],[5],[6],[6],[7,8,6,6],[9,6],[6,10]]
def TF:=[ad 53 15 1,m 15 53]
def TG:=[cd 8 1]
def Tt:=[m 54 8,o 55 (.bin .leq (.t 54) (ar 200))]
def Tu:=[l 59 1,o 60 (.nilC (.t 59)),f 61 4 4 60,l 62 61,l 63 2,m 64 8,o 65 (.bld [.int .i64 0,.int .i64 0] [(0,(.t 63)),(1,(.t 64))]),o 66 (.lk (.bl [(.i .i64),(.i .i64)]) (.agg [.int .i64 0,.int .i64 0,.int .i64 0,.int .i64 0]) true (.t 62) (.t 65)),m 58 66,o 67 (.ext (.t 58) 0),o 68 (.ext (.t 58) 1),o 9 (.alloc (.agg [.int .i64 0,.int .i64 0,.int .i64 0,.int .i64 0])),p (.bl (some 4) (.t 9) (.t 67)),m 10 68]
def MN:=some [[],[0],[1],[2],[],[],[4,5],[3,6],[7],[8],[8],[],[11,9,0,1,2,3,4,5,6,7,8,9,11],[10,12,0,1,2,3,4,5,6,7,8,9,10,11,12]]
def Tv:=[l 69 1,o 70 (.nilC (.t 69)),f 71 0 0 70,l 72 71,l 73 2,f 74 1 1 9,l 75 74,m 76 8,o 77 (.bld [.int .i64 0,.int .i64 0,.int .i64 0,.int .i64 0,.int .i64 0] [(0,(ar 2)),(1,(.t 72)),(2,(.t 73)),(3,(.t 75)),(4,(.t 76))]),o 11 (.alloc (.agg [.int .i64 0,.int .i64 0,.int .i64 0,.int .i64 0,.int .i64 0])),p (.bl (some 5) (.t 11) (.t 77))]
def MO:=some [[],[0],[1],[2],[],[],[5],[],[3,4,6,7],[],[9,8,0,1,2,3,4,5,6,7,8,9]]
def Tw:=[f 78 0 0 9,l 79 78,o 80 (.bin .eql (.t 79) (ar 8))]
def Tx:=[f 81 0 0 11,p (.bl none (.t 81) (ar 4))]
def Ty:=[m 82 10,m 83 82,dK 84 0 83,ca 85 (.ld (some 5) (.t 11)) 83,ca 86 (.fy (.t 84) [.t 85]) 83,ca 87 (.un .not (.t 86)) 83,and 88 83 87]
def Tz:=[m 56 8,ad 57 56 1,m 8 57]
def AX:bD:=(s (s (r Tr) (.block 0 (.loop (s (r Ts) (s (.cond (.t 16) .skip (.exit 0)) (s (.block 1 (s (r TA) (s (r TB) (s (.cm MP TC) (s (s (r TD) (.cond (.t 39) (r TE) .skip)) (s (.cm MQ o5) (.cond (.t 52) .ret .skip))))))) (r TF))))))) (s (r TG) (.block 2 (.loop (s (s (r Tt) (.cond (.t 55) .skip (.exit 2))) (s (.block 3 (s (.cm MN Tu) (s (.cm MO Tv) (s (s (r Tw) (.cond (.t 80) (r Tx) .skip)) (s (r Ty) (.cond (.t 88) .ret .skip)))))) (r Tz)))))))
def FL:List bV:=[]
theorem K9:cI Tryd.prog Tryd.f54 AX:=e (by kernel_rfl)
theorem Mb:cF Tryd.prog Tryd.f54 FL:=e (by kernel_rfl)
theorem Bh:cz Tryd.prog 54:=e (by kernel_rfl)
theorem Kg:cz Tryd.prog 55:=e (by kernel_rfl)
def TH:=[o 2 (.mv bH)]
def TI:=[m 3 0,o 4 (.call 51 [.t 3,(ar 1),(ar 200)]),m 2 4]
def AY:bD:=(s (r TH) (s (r TI) .ret))
def FM:List bV:=[.tmp 2]
theorem La:cI Tryd.prog Tryd.f56 AY:=e (by kernel_rfl)
theorem Mc:cF Tryd.prog Tryd.f56 FM:=e (by kernel_rfl)
theorem Kh:cz Tryd.prog 56:=e (by kernel_rfl)
theorem Bi:cz Tryd.prog 57:=e (by kernel_rfl)
def TJ:=[m 2 0,no 3 2]
def AZ:bD:=(s (r TJ) (.cond (.t 3) .wi .skip))
def FN:List bV:=[]
theorem Lb:cI Tryd.prog Tryd.f58 AZ:=e (by kernel_rfl)
theorem Md:cF Tryd.prog Tryd.f58 FN:=e (by kernel_rfl)
theorem Bj:cz Tryd.prog 58:=e (by kernel_rfl)
def TK:=[b 1 0,o 2 (.mv bH)]
def TL:=[f 3 0 0 1,l 4 3]
def TP:=[o 6 (.bin .eql (.t 4) (ar 1)),m 5 6]
def TQ:=[o 7 (.bin .eql (.t 4) (ar 2)),m 5 7]
def TR:=[f 8 1 1 1,l 9 8,o 10 (.call 33 [.t 9]),m 11 10,fD 12 2 2 1 11,fh 13 12 11,ca 14 (.bin .eql (.t 13) (ar 0)) 11,and 15 11 14,m 16 15,fD 17 3 3 1 16,fh 18 17 16,ca 19 (.bin .eql (.t 18) (ar 0)) 16,and 20 16 19,m 2 20]
def TS:=[o 22 (.bin .eql (.t 4) (ar 3)),m 21 22]
def TT:=[o 23 (.bin .eql (.t 4) (ar 4)),m 21 23]
def TU:=[o 24 (.bin .eql (.t 4) (ar 5)),m 21 24]
def TV:=[o 25 (.bin .eql (.t 4) (ar 6)),m 21 25]
def TW:=[o 26 (.bin .eql (.t 4) (ar 7)),m 21 26]
def TM:=[o 27 (.bin .eql (.t 4) (ar 8)),m 21 27]
def TN:=[f 28 1 1 1,l 29 28,o 30 (.call 33 [.t 29]),m 31 30,fD 32 2 2 1 31,fh 33 32 31,ca 34 (.call 32 [.t 33]) 31,and 35 31 34,m 36 35,fD 37 3 3 1 36,fh 38 37 36,ca 39 (.call 56 [.t 38]) 36,and 40 36 39,m 2 40]
def TO:=[o 2 (.mv bH)]
def A1:bD:=(s (r TK) (s (s (r TL) (.block 0 (s (s (r TP) (.cond (.t 5) .skip (r TQ))) (.cond (.t 5) (s (r TR) .ret) (s (s (r TS) (.cond (.t 21) .skip (s (r TT) (.cond (.t 21) .skip (s (r TU) (.cond (.t 21) .skip (s (r TV) (.cond (.t 21) .skip (s (r TW) (.cond (.t 21) .skip (r TM))))))))))) (.cond (.t 21) (s (r TN) .ret) .skip)))))) (s (r TO) .ret)))
def FO:List bV:=[.tmp 2]
theorem Lc:cI Tryd.prog Tryd.f59 A1:=e (by kernel_rfl)
theorem Me:cF Tryd.prog Tryd.f59 FO:=e (by kernel_rfl)
theorem Ki:cz Tryd.prog 59:=e (by kernel_rfl)
def T8:=[cd 4 0]
def T9:=[m 6 0,o 7 (.len (.t 6)),cd 8 0]
def Ua:=[lt 9 8 7]
def Ub:=[m 10 8,m 5 10]
def Uc:=[m 11 1,m 12 0,m 13 5,o 14 (.is 1 (.t 12) (.t 13)),l 15 14,o 16 (.fy (.t 11) [.t 15])]
def Ud:=[m 17 5,m 4 17]
def Ue:=[ad 18 8 1,m 8 18]
def Uf:=[cd 4 (-1)]
def A4:bD:=(s (r T8) (s (s (r T9) (.block 0 (.loop (s (r Ua) (s (.cond (.t 9) .skip (.exit 0)) (s (.block 1 (s (r Ub) (s (r Uc) (.cond (.t 16) (s (r Ud) .ret) .skip)))) (r Ue))))))) (s (r Uf) .ret)))
def FQ:List bV:=[.tmp 4]
theorem Le:cI Tryd.prog Tryd.f60 A4:=e (by kernel_rfl)
theorem Mg:cF Tryd.prog Tryd.f60 FQ:=e (by kernel_rfl)
theorem Kk:cz Tryd.prog 60:=e (by kernel_rfl)
def Ug:=[cd 4 0]
def Uh:=[m 6 0,o 7 (.len (.t 6)),cd 8 0]
def Ui:=[lt 9 8 7]
def Uj:=[m 10 8,m 5 10]
def Uk:=[m 11 1,m 12 0,m 13 5,o 14 (.is 4 (.t 12) (.t 13)),aE 15 4 14,o 16 (.fy (.t 11) [.t 15])]
def Ul:=[m 17 5,m 4 17]
def Um:=[ad 18 8 1,m 8 18]
def Un:=[cd 4 (-1)]
def A5:bD:=(s (r Ug) (s (s (r Uh) (.block 0 (.loop (s (r Ui) (s (.cond (.t 9) .skip (.exit 0)) (s (.block 1 (s (r Uj) (s (r Uk) (.cond (.t 16) (s (r Ul) .ret) .skip)))) (r Um))))))) (s (r Un) .ret)))
def FR:List bV:=[.tmp 4]
theorem Lf:cI Tryd.prog Tryd.f61 A5:=e (by kernel_rfl)
theorem Mh:cF Tryd.prog Tryd.f61 FR:=e (by kernel_rfl)
theorem Kl:cz Tryd.prog 61:=e (by kernel_rfl)
def Uo:=[b 3 1]
def r5:=[m 4 0,o 5 (.nilC (.t 4)),f 6 1 1 5,l 7 6,f 8 1 1 3,l 9 8,o 10 (.lk (.i .i64) (.bool false) false (.t 7) (.t 9)),no 11 10,m 12 11,dK 13 0 12,fD 14 1 1 3 12,fh 15 14 12,ca 16 (.call 34 [.t 13,.t 15]) 12,ca 17 (.un .not (.t 16)) 12,and 18 12 17,o 19 (.call 58 [.t 18])]
def MS:=some [[],[0],[1],[2],[],[4],[3,5],[6],[7],[8],[8],[10,8],[9,11,8,8],[12,8],[8,13],[14,12]]
def Up:=[m 20 0,o 21 (.nilC (.t 20)),f 22 1 1 21,l 23 22,f 24 1 1 3,l 25 24,p (.eX (.i .i64) (.t 23) (.t 25) T)]
def MT:=some [[],[0],[1],[2],[],[4],[3,5,0,1,2,3,4,5]]
def wA:bD:=(s (r Uo) (s (.cm MS r5) (.cm MT Up)))
def FT:List bV:=[]
theorem BC:cI Tryd.prog Tryd.f64 wA:=e (by kernel_rfl)
theorem Mi:cF Tryd.prog Tryd.f64 FT:=e (by kernel_rfl)
theorem Bk:cz Tryd.prog 64:=e (by kernel_rfl)
def Uq:=[b 3 1]
def xw:=[m 4 0,o 5 (.nilC (.t 4)),f 6 1 1 5,l 7 6,f 8 1 1 3,l 9 8,o 10 (.lk (.i .i64) (.bool false) false (.t 7) (.t 9)),o 11 (.call 58 [.t 10])]
def MU:=some [[],[0],[1],[2],[],[4],[3,5],[6]]
def Ur:=[m 12 0,o 13 (.nilC (.t 12)),f 14 1 1 13,l 15 14,f 16 1 1 3,l 17 16,p (.jf (.i .i64) (.t 15) (.t 17))]
def MV:=some [[],[0],[1],[2],[],[4],[3,5]]
def wB:bD:=(s (r Uq) (s (.cm MU xw) (.cm MV Ur)))
def FU:List bV:=[]
theorem BD:cI Tryd.prog Tryd.f65 wB:=e (by kernel_rfl)
theorem Mj:cF Tryd.prog Tryd.f65 FU:=e (by kernel_rfl)
theorem Bl:cz Tryd.prog 65:=e (by kernel_rfl)
def Us:=[b 3 1]
def o6:=[m 4 0,o 5 (.nilC (.t 4)),f 6 1 1 5,l 7 6,f 8 1 1 3,l 9 8,o 10 (.lk (.i .i64) (.bool false) false (.t 7) (.t 9)),m 11 10,fD 12 2 2 3 11,fh 13 12 11,dK 14 0 11,ca 15 (.nilC (.t 14)) 11,fD 16 0 0 15 11,fh 17 16 11,ca 18 (.bin .neq (.t 13) (.t 17)) 11,and 19 11 18,m 20 19,fD 21 3 3 3 20,fh 22 21 20,dK 23 0 20,ca 24 (.nilC (.t 23)) 20,fD 25 3 3 24 20,fh 26 25 20,ca 27 (.bin .add (.t 26) (ar 1)) 20,ca 28 (.bin .eql (.t 22) (.t 27)) 20,and 29 20 28,o 30 (.call 58 [.t 29])]
def MW:=some [[],[0],[1],[2],[],[4],[3,5],[6],[7],[8,7],[7],[10,7],[11,7],[12,7],[9,13,7],[7,14],[15,7],[16],[17,16],[16],[19,16],[20,16],[21,16],[22,16],[18,23,16],[16,24],[25,16]]
def Ut:=[m 31 0,o 32 (.nilC (.t 31)),f 33 1 1 32,l 34 33,f 35 1 1 3,l 36 35,p (.jf (.i .i64) (.t 34) (.t 36))]
def MX:=some [[],[0],[1],[2],[],[4],[3,5]]
def Uu:=[m 37 0,o 38 (.nilC (.t 37)),f 39 3 3 38,l 40 39,ad 41 40 1,o 42 (.nilC (.t 37)),f 43 3 3 42,p (.bl none (.t 43) (.t 41))]
def Uv:=[m 44 0,o 45 (.nilC (.t 44)),f 46 2 2 45,l 47 46,f 48 3 3 3,l 49 48,f 50 3 3 3,l 51 50,f 52 2 2 3,l 53 52,f 54 1 1 3,l 55 54,o 56 (.bld [.int .i64 0,.int .i64 0,.int .i64 0,.bool false] [(0,(.t 51)),(1,(.t 53)),(2,(.t 55))]),b 57 56,p (.eX (.i .i64) (.t 47) (.t 49) (.t 57))]
def MY:=some [[],[0],[1],[2],[],[4],[],[6],[],[8],[],[10],[7,9,11],[12],[3,5,13,0,1,2,3,4,5,6,7,8,9,10,11,12,13]]
def wC:bD:=(s (r Us) (s (.cm MW o6) (s (.cm MX Ut) (s (r Uu) (.cm MY Uv)))))
def FV:List bV:=[]
theorem BE:cI Tryd.prog Tryd.f66 wC:=e (by kernel_rfl)
theorem Mk:cF Tryd.prog Tryd.f66 FV:=e (by kernel_rfl)
theorem Bm:cz Tryd.prog 66:=e (by kernel_rfl)
def Uw:=[b 3 1]
def C2:=[m 5 0,aE 6 4 3,o 7 (.call 84 [.t 5,.t 6]),m 4 7]
def C3:=[m 8 4,o 9 (.nilC (.t 8)),f 10 3 3 9,l 11 10,no 12 11,o 13 (.call 58 [.t 12])]
def Ux:=[m 14 4,o 15 (.nilC (.t 14)),f 16 3 3 15,p (.bl none (.t 16) T)]
def wD:bD:=(s (r Uw) (s (r C2) (s (r C3) (r Ux))))
def FW:List bV:=[]
theorem BF:cI Tryd.prog Tryd.f67 wD:=e (by kernel_rfl)
theorem Ml:cF Tryd.prog Tryd.f67 FW:=e (by kernel_rfl)
theorem Bn:cz Tryd.prog 67:=e (by kernel_rfl)
def Uy:=[b 3 1]
def C4:=[m 4 0,aE 5 4 3,o 6 (.call 84 [.t 4,.t 5])]
def Uz:=[m 7 0,o 8 (.nilC (.t 7)),f 9 2 2 8,l 10 9,f 11 3 3 3,l 12 11,p (.jf (.i .i64) (.t 10) (.t 12))]
def MZ:=some [[],[0],[1],[2],[],[4],[3,5]]
def wE:bD:=(s (r Uy) (s (r C4) (.cm MZ Uz)))
def FX:List bV:=[]
theorem BG:cI Tryd.prog Tryd.f68 wE:=e (by kernel_rfl)
theorem Mm:cF Tryd.prog Tryd.f68 FX:=e (by kernel_rfl)
theorem Bo:cz Tryd.prog 68:=e (by kernel_rfl)
def UA:=[b 3 1]
def xy:=[m 4 0,aE 5 4 3,o 6 (.call 84 [.t 4,.t 5]),o 7 (.nilC (.t 6)),f 8 3 3 7,l 9 8,o 10 (.call 58 [.t 9])]
def UB:=[m 11 0,o 12 (.nilC (.t 11)),f 13 2 2 12,l 14 13,f 15 3 3 3,l 16 15,p (.jf (.i .i64) (.t 14) (.t 16))]
def M0:=some [[],[0],[1],[2],[],[4],[3,5]]
def UC:=[m 17 0,o 18 (.nilC (.t 17)),f 19 1 1 18,l 20 19,f 21 1 1 3,l 22 21,p (.eX (.i .i64) (.t 20) (.t 22) T)]
def M2:=some [[],[0],[1],[2],[],[4],[3,5,0,1,2,3,4,5]]
def wF:bD:=(s (r UA) (s (r xy) (s (.cm M0 UB) (.cm M2 UC))))
def FY:List bV:=[]
theorem BH:cI Tryd.prog Tryd.f69 wF:=e (by kernel_rfl)
theorem Mn:cF Tryd.prog Tryd.f69 FY:=e (by kernel_rfl)
theorem Bp:cz Tryd.prog 69:=e (by kernel_rfl)
def UX:=[b 3 1]
def o7:=[m 4 0,aE 5 4 3,o 6 (.call 85 [.t 4,.t 5]),m 7 6,dK 8 0 7,ca 9 (.nilC (.t 8)) 7,fD 10 1 1 9 7,fh 11 10 7,fD 12 1 1 3 7,fh 13 12 7,ca 14 (.lk (.i .i64) (.bool false) false (.t 11) (.t 13)) 7,ca 15 (.un .not (.t 14)) 7,and 16 7 15,m 17 16,dK 18 0 17,fD 19 1 1 3 17,fh 20 19 17,ca 21 (.call 34 [.t 18,.t 20]) 17,ca 22 (.un .not (.t 21)) 17,and 23 17 22,o 24 (.call 58 [.t 23])]
def M3:=some [[],[],[0,1],[2,2],[3],[4,3],[5,3],[6,3],[3],[8,3],[7,9,3],[10,3],[3,11],[12,3],[13],[13],[15,13],[14,16,13,13],[17,13],[13,18],[19,17]]
def UY:=[m 25 0,o 26 (.nilC (.t 25)),f 27 4 4 26,l 28 27,f 29 2 2 3,l 30 29,f 31 3 3 3,l 32 31,o 33 (.bld [.int .i64 0,.int .i64 0] [(0,(.t 30)),(1,(.t 32))]),aE 34 4 3,p (.eX (.bl [(.i .i64),(.i .i64)]) (.t 28) (.t 33) (.t 34))]
def M4:=some [[],[0],[1],[2],[],[4],[],[6],[5,7],[],[3,8,9,0,1,2,3,4,5,6,7,8,9]]
def UZ:=[m 35 0,o 36 (.nilC (.t 35)),f 37 1 1 36,l 38 37,f 39 1 1 3,l 40 39,p (.eX (.i .i64) (.t 38) (.t 40) T)]
def M5:=some [[],[0],[1],[2],[],[4],[3,5,0,1,2,3,4,5]]
def wG:bD:=(s (r UX) (s (.cm M3 o7) (s (.cm M4 UY) (.cm M5 UZ))))
def FZ:List bV:=[]
theorem BI:cI Tryd.prog Tryd.f70 wG:=e (by kernel_rfl)
theorem Mo:cF Tryd.prog Tryd.f70 FZ:=e (by kernel_rfl)
theorem Bq:cz Tryd.prog 70:=e (by kernel_rfl)
def U0:=[b 3 1]
def C5:=[m 4 0,aE 5 4 3,o 6 (.call 85 [.t 4,.t 5]),o 7 (.call 58 [.t 6])]
def U1:=[m 8 0,o 9 (.nilC (.t 8)),f 10 4 4 9,l 11 10,f 12 2 2 3,l 13 12,f 14 3 3 3,l 15 14,o 16 (.bld [.int .i64 0,.int .i64 0] [(0,(.t 13)),(1,(.t 15))]),aE 17 4 3,p (.eX (.bl [(.i .i64),(.i .i64)]) (.t 11) (.t 16) (.t 17))]
def M6:=some [[],[0],[1],[2],[],[4],[],[6],[5,7],[],[3,8,9,0,1,2,3,4,5,6,7,8,9]]
def wH:bD:=(s (r U0) (s (r C5) (.cm M6 U1)))
def F0:List bV:=[]
theorem BJ:cI Tryd.prog Tryd.f71 wH:=e (by kernel_rfl)
theorem Mp:cF Tryd.prog Tryd.f71 F0:=e (by kernel_rfl)
theorem Br:cz Tryd.prog 71:=e (by kernel_rfl)
def U2:=[b 3 1,o 4 (.mv (.c (.nilp)))]
def U3:=[m 8 0,o 9 (.nilC (.t 8)),f 10 2 2 9,l 11 10,f 12 3 3 3,l 13 12,o 14 (.lk (.i .i64) (.nilp) true (.t 11) (.t 13)),m 7 14,o 15 (.ext (.t 7) 0),o 16 (.ext (.t 7) 1),m 5 15,m 6 16]
def M7:=some [[],[0],[1],[2],[],[4],[3,5],[6],[7],[7],[8,0,1,2,3,4,5,6,7,8],[9,10,0,1,2,3,4,5,6,7,8,9,10]]
def o8:=[m 17 6,m 18 17,dK 19 5 18,ca 20 (.nilC (.t 19)) 18,fD 21 1 1 20 18,fh 22 21 18,fD 23 2 2 3 18,fh 24 23 18,ca 25 (.bin .eql (.t 22) (.t 24)) 18,and 26 18 25,m 27 26,dK 28 5 27,ca 29 (.nilC (.t 28)) 27,fD 30 2 2 29 27,fh 31 30 27,fD 32 1 1 3 27,fh 33 32 27,ca 34 (.bin .eql (.t 31) (.t 33)) 27,and 35 27 34,o 36 (.call 58 [.t 35])]
def M8:=some [[],[0],[1],[2,1],[3,1],[4,1],[1],[6,1],[5,7,1],[1,8],[9,1],[10],[11,10],[12,10],[13,10],[10],[15,10],[14,16,10],[10,17],[18,10]]
def U4:=[m 37 5,m 4 37]
def wI:bD:=(s (r U2) (s (.cm M7 U3) (s (.cm M8 o8) (s (r U4) .ret))))
def F2:List bV:=[.tmp 4]
theorem BK:cI Tryd.prog Tryd.f84 wI:=e (by kernel_rfl)
theorem Mr:cF Tryd.prog Tryd.f84 F2:=e (by kernel_rfl)
theorem Bt:cz Tryd.prog 84:=e (by kernel_rfl)
def U5:=[b 3 1,o 4 (.mv bH)]
def U6:=[m 8 0,o 9 (.nilC (.t 8)),f 10 4 4 9,l 11 10,f 12 2 2 3,l 13 12,f 14 3 3 3,l 15 14,o 16 (.bld [.int .i64 0,.int .i64 0] [(0,(.t 13)),(1,(.t 15))]),o 17 (.lk (.bl [(.i .i64),(.i .i64)]) (.agg [.int .i64 0,.int .i64 0,.int .i64 0,.int .i64 0]) true (.t 11) (.t 16)),m 7 17,o 18 (.ext (.t 7) 0),o 19 (.ext (.t 7) 1),o 5 (.alloc (.agg [.int .i64 0,.int .i64 0,.int .i64 0,.int .i64 0])),p (.bl (some 4) (.t 5) (.t 18)),m 6 19]
def M9:=some [[],[0],[1],[2],[],[4],[],[6],[5,7],[3,8],[9],[10],[10],[],[13,11,0,1,2,3,4,5,6,7,8,9,10,11,13],[12,14,0,1,2,3,4,5,6,7,8,9,10,11,12,13,14]]
def U7:=[f 20 2 2 3,l 21 20,m 22 0,o 23 (.nilC (.t 22)),f 24 0 0 23,l 25 24,o 26 (.bin .neq (.t 21) (.t 25)),m 27 26,dK 28 6 27,ca 29 (.un .not (.t 28)) 27,and 30 27 29,m 4 30]
def Na:=some [[],[0],[],[2],[3],[4],[1,5],[6],[7],[8,7],[7,9],[10,7,0,1,2,3,4,5,6,7,8,9,10]]
def A7:bD:=(s (r U5) (s (.cm M9 U6) (s (.cm Na U7) .ret)))
def F3:List bV:=[.tmp 4]
theorem Lh:cI Tryd.prog Tryd.f85 A7:=e (by kernel_rfl)
theorem Ms:cF Tryd.prog Tryd.f85 F3:=e (by kernel_rfl)
theorem Kn:cz Tryd.prog 85:=e (by kernel_rfl)
end Go.Proofs.YthbdbocionnfgaaDoor
namespace Go.Abs
open Go Go.RowKit
open Enc (enc)
def aF(x:I)(p q:Prop):Prop:=match x with
 | .bool t=>(t=true→p)∧(t=false→q)
 |_=>False
theorem ae.jW{c:cX}{A:ai}{Q:Exit→ai→Prop}{b:aR}{x y:bD}(h:aF (ak A b) (ae c x Q A) (ae c y Q A)):ae c (.cond b x y) Q A:=by
 generalize hb:ak A b=v at h;unfold aF at h;split at h
 ·exact ae.cond hb h.1 h.2
 ·exact h.elim
def pG(r:I):Option (List I)→Prop
 |some xs=>kF xs=r
 |none=>False
theorem Zv(rs:List bV)(r:I)(A:ai):kZ rs r .ret A=pG r (fi A rs):=by
 simp only[kZ,pG];cases fi A rs <;>simp
theorem Zu(rs:List bV)(r:I)(A:ai):kZ rs r .normal A=pG r (fi A rs):=by
 simp only[kZ,pG];cases fi A rs <;>simp
def s8(s:Option Nat)(A:ai):Option I→Option I
 |some x=>if b8 s x=true then bn true A x else none
 |none=>none
def lG:Option I→Option (List I)→Option (List I)
 |some x,some xs=>some (x::xs)
 |_,_=>none
theorem Zo(A:ai):fi A []=some []:=rfl
theorem Zp(A:ai)(t:Nat)(rs:List bV):fi A (.tmp t::rs)=lG (bn true A (A.t t)) (fi A rs):=by
 simp only[fi,vu];cases bn true A (A.t t) <;>cases fi A rs <;>rfl
theorem Zn(A:ai)(a:Nat)(s:Option Nat)(rs:List bV):fi A (.cell a s::rs)=lG (s8 s A (ij A (A.t a))) (fi A rs):=by
 simp only[fi,vu,mG];cases ij A (A.t a) with
 |none=>cases fi A rs <;>rfl
 |some x =>
  by_cases h:b8 s x=true
  ·simp only[s8,if_pos h];cases bn true A x <;>cases fi A rs <;>rfl
  ·simp only[s8,if_neg h];cases fi A rs <;>rfl
def uj(aJ:Bool)(A:ai):Option I→Option I
 |some x=>if x.bC=true then some (.ref x) else (c4 A 9 x).map .ref
 |none=>none
theorem On(A:ai)(n:Nat)(p:List Nat):bn true A (.ptr n p)=uj true A (fA p (A.o n)):=by
 simp only[bn,mG,ij,if_true,uj];cases fA p (A.o n) <;>rfl
open Classical in
noncomputable def jT(sz lo k:Nat):Option (List I)→Option I
 |some fs=>if I.b9 ((fs.drop lo).take k)=true then some (.slice sz ((fs.drop lo).take k)) else none
 |none=>none
theorem um(A:ai)(n:Nat)(p:List Nat)(sz lo k:Nat):bn true A (.view n p sz lo k)=jT sz lo k (fR (fA p (A.o n))):=by
 simp only[bn,mG,ij,if_true];cases fA p (A.o n) with
 |none=>rfl
 |some c=>cases c <;>simp only[fR,I.dP,jT] <;>(split <;>simp_all)
open Classical in
noncomputable def jS(k:Nat):Option ao→Option I
 |some (.bU _ sz es)=>if k=es.length∧I.b9 es=true then some (.slice sz es) else none
 |_=>none
theorem Cq(aJ:Bool)(A:ai)(n k:Nat):bn aJ A (.own n k)=jS k (A.o n):=by
 simp only[bn];cases A.o n with
 |none=>rfl
 |some y=>cases y <;>simp only[jS] <;>(split <;>simp_all)
theorem Co(aJ:Bool)(A:ai)(fs:List I):bn aJ A (.agg fs)=(bX aJ A fs).map .agg:=by simp only[bn]
theorem Oi(aJ:Bool)(A:ai)(f:FuncId)(fs:List I):bn aJ A (.func f fs)=if f<1000000 then (bX aJ A fs).map (.func f) else some .any:=by simp only[bn]
theorem Oj(aJ:Bool)(A:ai)(k:IntKind)(n:Int):bn aJ A (.int k n)=some (.int k n):=by simp only[bn]
theorem Oh(aJ:Bool)(A:ai)(n:Bool):bn aJ A (.bool n)=some (.bool n):=by simp only[bn]
theorem Ot(aJ:Bool)(A:ai)(n:ByteArray):bn aJ A (.bR n)=some (.bR n):=by simp only[bn]
theorem Om(aJ:Bool)(A:ai)(n:Nat):bn aJ A (.nils n)=some (.slice n []):=by simp only[bn]
theorem Oq(aJ:Bool)(A:ai)(n:Nat)(es:List I):bn aJ A (.slice n es)=if I.b9 es=true then some (.slice n es) else none:=by simp only[bn]
theorem Oo(aJ:Bool)(A:ai)(x:I):bn aJ A (.ref x)=if x.bC=true then some (.ref x) else none:=by simp only[bn]
theorem Cz(aJ:Bool)(A:ai):bX aJ A []=some []:=by simp only[bX]
theorem Cy(aJ:Bool)(A:ai)(x:I)(xs:List I):bX aJ A (x::xs)=lG (bn aJ A x) (bX aJ A xs):=by
 simp only[bX];cases bn aJ A x <;>cases bX aJ A xs <;>rfl
theorem Lk(fs:List I):(I.agg fs).bC=I.b9 fs:=by simp only[I.bC]
theorem Lp(n:Nat)(fs:List I):(I.slice n fs).bC=I.b9 fs:=by simp only[I.bC]
theorem Lo(x:I):(I.ref x).bC=x.bC:=by simp only[I.bC]
theorem Ln(k:IntKind)(n:Int):(I.int k n).bC=true:=by simp only[I.bC]
theorem Ll(n:Bool):(I.bool n).bC=true:=by simp only[I.bC]
theorem Lq(n:ByteArray):(I.bR n).bC=true:=by simp only[I.bC]
theorem Lm(f:FuncId)(fs:List I):(I.func f fs).bC=I.b9 fs:=by simp only[I.bC]
theorem Ls:I.b9 []=true:=by simp only[I.b9]
theorem Lr(x:I)(xs:List I):I.b9 (x::xs)=(x.bC&&I.b9 xs):=by simp only[I.b9]
theorem I9(k:IntKind)(a b:Int):cC .add (.int k a) (.int k b)=some (.int k (k.wrap (a+b))):=by simp[cC]
theorem Jp(k:IntKind)(a b:Int):cC .sub (.int k a) (.int k b)=some (.int k (k.wrap (a-b))):=by simp[cC]
theorem Jh(k:IntKind)(a b:Int):cC .mul (.int k a) (.int k b)=some (.int k (k.wrap (a*b))):=by simp[cC]
theorem Jl(k:IntKind)(a b:Int):cC .quo (.int k a) (.int k b)=if b=0 then none else some (.int k (k.wrap (a.tdiv b))):=by simp[cC]
theorem Jm(k:IntKind)(a b:Int):cC .rem (.int k a) (.int k b)=if b=0 then none else some (.int k (a.tmod b)):=by simp[cC]
theorem Ja(k:IntKind)(a b:Int):cC .and (.int k a) (.int k b)=some (.int k (k.wrap ((BitVec.ofInt k.bits a &&& BitVec.ofInt k.bits b).toNat:Int))):=by simp[cC]
theorem Jk(k:IntKind)(a b:Int):cC .or (.int k a) (.int k b)=some (.int k (k.wrap ((BitVec.ofInt k.bits a ||| BitVec.ofInt k.bits b).toNat:Int))):=by simp[cC]
theorem Jq(k:IntKind)(a b:Int):cC .xor (.int k a) (.int k b)=some (.int k (k.wrap ((BitVec.ofInt k.bits a ^^^ BitVec.ofInt k.bits b).toNat:Int))):=by simp[cC]
theorem Jb(k:IntKind)(a b:Int):cC .andNot (.int k a) (.int k b)=some (.int k (k.wrap ((BitVec.ofInt k.bits a &&& ~~~ BitVec.ofInt k.bits b).toNat:Int))):=by simp[cC]
theorem Jn(k k':IntKind)(a b:Int):cC .shl (.int k a) (.int k' b)=if 0≤b then some (.int k (k.wrap (a*2^(min b.toNat k.bits)))) else none:=by simp[cC]
theorem Jo(k k':IntKind)(a b:Int):cC .shr (.int k a) (.int k' b)=if 0≤b then some (.int k (a.fdiv (2^(min b.toNat k.bits)))) else none:=by simp[cC]
theorem Jc(k:IntKind)(a b:Int):cC .eql (.int k a) (.int k b)=some (.bool (a==b)):=by simp[cC]
theorem Ji(k:IntKind)(a b:Int):cC .neq (.int k a) (.int k b)=some (.bool (a != b)):=by simp[cC]
theorem Jg(k:IntKind)(a b:Int):cC .lss (.int k a) (.int k b)=some (.bool (decide (a<b))):=by simp[cC]
theorem Jf(k:IntKind)(a b:Int):cC .leq (.int k a) (.int k b)=some (.bool (decide (a≤b))):=by simp[cC]
theorem Je(k:IntKind)(a b:Int):cC .gtr (.int k a) (.int k b)=some (.bool (decide (b<a))):=by simp[cC]
theorem Jd(k:IntKind)(a b:Int):cC .geq (.int k a) (.int k b)=some (.bool (decide (b≤a))):=by simp[cC]
theorem zN :
  (∀ ts os d v,(au ts os).put d v=au ((d,v)::ts) os)∧(∀ ts os d v,(au ts os).aX (some d) v=au ((d,v)::ts) os)∧(∀ (A:ai) v,A.aX none v=A) ∧
  (∀ ts os d x,(au ts os).aV d x=au ts ((d,x)::os))∧(∀ ts os k,(au ts os).t k=bI ts k)∧(∀ ts os k,(au ts os).o k=aj os k) ∧
  (∀ j v r k,bI ((j,v)::r) k=if k=j then v else bI r k)∧(∀ j v r k,aj ((j,v)::r) k=if k=j then some v else aj r k)∧(∀ k,aj [] k=none) ∧
  (∀ A k,ak A (.t k)=A.t k)∧(∀ A x,ak A (.c x)=x)∧(∀ d rest A v,dj d rest A v=aA rest (A.aX d v))∧(∀ v k,cT (some v) k=k v)∧(∀ A,aA [] A=.done A) :=
 ⟨uR,Ef,Xy,sA,Xz,Xx,cw,cW,sw,NQ,NP,W3,Jr,IJ⟩
theorem EI :
  (∀ d rest A op,aA (⟨d,op,none⟩::rest) A=bL A d op rest)∧(∀ d rest A op t b,aA (⟨d,op,some (t,b)⟩::rest) A=il (A.t t) b d op rest A) ∧
  (∀ d rest A op,il (.bool true) true d op rest A=bL A d op rest)∧(∀ d rest A op,il (.bool false) false d op rest A=bL A d op rest) ∧
  (∀ d rest A op,il (.bool true) false d op rest A=aA rest (A.aX d .undef))∧(∀ d rest A op,il (.bool false) true d op rest A=aA rest (A.aX d .undef))∧(∀ d rest A op b,il .undef b d op rest A=aA rest (A.aX d .undef)) ∧
  (∀ d rest A x,bL A d (.mv x) rest=aA rest (A.aX d (ak A x)))∧(∀ d rest A c a b,bL A d (.pick c a b) rest=sP A d a b rest (ak A c)) ∧
  (∀ A d a b rest,sP A d a b rest (.bool true)=aA rest (A.aX d (ak A a)))∧(∀ A d a b rest,sP A d a b rest (.bool false)=aA rest (A.aX d (ak A b))) ∧
  (∀ d rest A op x y,bL A d (.bin op x y) rest=cT (cC op (ak A x) (ak A y)) (dj d rest A)) ∧
  (∀ d rest A ty neg x y,bL A d (.eqv ty neg x y) rest=cT ((b7 ty (ak A x) (ak A y)).map fun b=>.bool (if neg then !b else b)) (dj d rest A)) ∧
  (∀ d rest A op x,bL A d (.un op x) rest=cT (tu op (ak A x)) (dj d rest A))∧(∀ b,tu .not (.bool b)=some (.bool !b))∧(∀ k n,tu .neg (.int k n)=some (.int k (k.wrap (0-n))))∧(∀ k n,tu .xor (.int k n)=some (.int k (qp k n))) ∧
  (∀ d rest A k x,bL A d (.conv k x) rest=cT (wQ k (ak A x)) (dj d rest A))∧(∀ k k' n,wQ k (.int k' n)=some (.int k (k.wrap n))) ∧
  (∀ d rest A s x,bL A d (.ld s x) rest=cT (pn s (ij A (ak A x))) (dj d rest A))∧(∀ d rest A f off x,bL A d (.fa f off x) rest=cT (jy A f off (ak A x)) (dj d rest A)) ∧
  (∀ d rest A f off s x,bL A d (.fl f off s x) rest=cT (r0 f off s (ak A x).dP) (dj d rest A))∧(∀ d rest A n esz x i,bL A d (.ia n esz x i) rest=cT (r7 A n esz (ak A x) (ak A i)) (dj d rest A)) ∧
  (∀ d rest A esz x i,bL A d (.is esz x i) rest=cT (sd A esz (ak A x) (ak A i)) (dj d rest A))∧(∀ d rest A n esz s x i,bL A d (.ix n esz s x i) rest=cT (sg n esz s (ak A x) (ak A i)) (dj d rest A)) ∧
  (∀ d rest A x,bL A d (.len x) rest=cT (jX A (ak A x)) (dj d rest A))∧(∀ d rest A n esz x,bL A d (.va n esz x) rest=cT (pW A n esz (ak A x)) (dj d rest A)) ∧
  (∀ d rest A zs ps,bL A d (.bld zs ps) rest=cT ((dY zs (ps.map fun p=>(p.1,ak A p.2))).map .agg) (dj d rest A))∧(∀ d rest A x i,bL A d (.ext x i) rest=cT (xc i (ak A x)) (dj d rest A))∧(∀ i fs,xc i (.tuple fs)=fs[i]?) ∧
  (∀ d rest A f caps,bL A d (.mk f caps) rest=cT (if ((caps.map (ak A)).all fun y=>y.bT)=true then some (.func f (caps.map (ak A))) else none) (dj d rest A)) ∧
  (∀ rest A d z,bL A (some d) (.alloc z) rest=wb A d z rest (A.o d))∧(∀ A d z rest,wb A d z rest none=aA rest ((A.aV d (.box z)).put d (.ptr d []))) ∧
  (∀ rest A d x,bL A (some d) (.box x) rest=tW A d (ak A x) rest (A.o d))∧(∀ A d z rest,tW A d z rest none=tX A d z rest z.bT)∧(∀ A d z rest,tX A d z rest true=aA rest ((A.aV d (.box z)).put d (.ptr d []))) ∧
  (∀ rest A s x v,bL A none (.bl s x v) rest=c7 A s (ak A v) rest (ak A x))∧(∀ A s v rest n p,c7 A s v rest (.ptr n p)=vD A s n p v rest (A.o n))∧(∀ A s n p v rest b,vD A s n p v rest (some (.box b))=da A s n p b v rest (b.at p)) ∧
  (∀ d rest A f args,bL A d (.call f args) rest=.call f (args.map (ak A)) (bX true A (args.map (ak A))) (bX false A (args.map (ak A))) d rest A) ∧
  (∀ d rest A x args,bL A d (.fy x args) rest=rK A d (args.map (ak A)) rest (ak A x))∧(∀ A d args rest f caps,rK A d args rest (.func f caps)=if f<1000000 then .call f (args++caps) (bX true A (args++caps)) (bX false A (args++caps)) d rest A else .call (lL f) (caps++args) (bX true A (caps++args)) (bX false A (caps++args)) d rest A) :=
 ⟨It,Iu,V2,VZ,V1,V0,V3,Yf,Yj,fun _ _ _ _ _=>rfl,fun _ _ _ _ _=>rfl,XQ,XZ,Yo,fun _=>rfl,fun _ _=>rfl,fun _ _=>rfl,XX,fun _ _ _=>rfl,X6,X1,X2,X3,X4,X5,X7,Yp,XR,X0,fun _ _=>rfl,Yb,
  XO,fun _ _ _ _=>rfl,XS,fun _ _ _ _=>rfl,fun _ _ _ _=>rfl,Yn,fun _ _ _ _ _ _=>rfl,fun _ _ _ _ _ _ _=>rfl,XU,XV,fun A d args rest f caps=>by
   simp only[rK];split
   ·rename_i h;rw[xf h,xe h]
   ·rename_i h;simp only[iL,if_neg h]⟩
theorem dS{A:ai}{s:Option Nat}{n:Nat}{p:List Nat}{b v old:I}{rest:List aw}(U:v.bT=true)(ab:b8 s v=true)(af:v.bd=old.bd):da A s n p b v rest (some old)=aA rest (A.aV n (.box (b.eA p v))):=by
 simp only[da];rw[if_pos ⟨U,ab,af⟩]
theorem G9 :
  (∀ A x,ij A (.ref x)=some x)∧(∀ A n p,ij A (.ptr n p)=fA p (A.o n))∧(∀ p c,fA p (some (.box c))=c.at p)∧(∀ c:I,c.at []=some c)∧(∀ (c:I) i p,c.at (i::p)=nN i p c.dP) ∧
  (∀ i p fs,nN i p (some fs)=qg p fs[i]?)∧(∀ p f,qg p (some f)=f.at p)∧(∀ c v:I,c.eA [] v=v)∧(∀ (c:I) i p v,c.eA (i::p) v=vz c i p v c.dP)∧(∀ c i p v fs,vz c i p v (some fs)=y8 fs i p v fs[i]?) ∧
  (∀ fs i p v f,y8 fs i p v (some f)=.agg (fs.set i (f.eA p v)))∧(∀ fs,(I.agg fs).dP=some fs)∧(∀ x:I,fR (some x)=x.dP) ∧
  (∀ s x,pn s (some x)=if b8 s x=true then some x else none) ∧
  (∀ A f off c,jy A f off (.ref c)=rW f off c.dP)∧(∀ A f off n p,jy A f off (.ptr n p)=rV n p f off (fR (fA p (A.o n))))∧(∀ f off fs,rW f off (some fs)=qz fs f off fs[f]?)∧(∀ fs f off v,qz fs f off (some v)=dR fs f off (.ref v)) ∧
  (∀ n p f off fs,rV n p f off (some fs)=dR fs f off (.ptr n (p++[f])))∧(∀ A n esz x kk k,r7 A n esz x (.int kk k)=o9 A n esz k x)∧(∀ A n esz k c,o9 A n esz k (.ref c)=mN k n (uC n esz k c.dP)) ∧
  (∀ A n esz k m p,o9 A n esz k (.ptr m p)=mN k n (r8 n esz m p k (fR (fA p (A.o m)))))∧(∀ n esz k fs,uC n esz k (some fs)=mM n esz fs ((fs[k.toNat]?).map .ref))∧(∀ n esz m p k fs,r8 n esz m p k (some fs)=mM n esz fs (some (.ptr m (p++[k.toNat])))) ∧
  (∀ A esz x kk k,sd A esz x (.int kk k)=kq A esz k x)∧(∀ n esz s x kk k,sg n esz s x (.int kk k)=uF n esz s k x.dP)∧(∀ n esz s k fs,uF n esz s k (some fs)=mN k n (mM n esz fs (pn s fs[k.toNat]?))) ∧
  (∀ A n esz m p,pW A n esz (.ptr m p)=tx n esz m p (fR (fA p (A.o m))))∧(∀ n esz m p fs,tx n esz m p (some fs)=tw n esz fs (.view m p esz 0 n)) ∧
  (∀ A sz es,jX A (.slice sz es)=some (.int .i64 es.length))∧(∀ A n,jX A (.nils n)=some (.int .i64 0))∧(∀ A n,jX A (.c0 n)=some (.int .i64 0)) :=
 ⟨fun _ _=>rfl,fun _ _ _=>rfl,fun _ _=>rfl,IZ,IY,fun _ _ _=>rfl,fun _ _=>rfl,ri,ZO,fun _ _ _ _ _=>rfl,fun _ _ _ _ _=>rfl,fun _=>rfl,fun _=>rfl,fun _ _=>rfl,fun _ _ _ _=>rfl,fun _ _ _ _ _=>rfl,fun _ _ _=>rfl,fun _ _ _ _=>rfl,
  fun _ _ _ _ _=>rfl,fun _ _ _ _ _ _=>rfl,fun _ _ _ _ _=>rfl,fun _ _ _ _ _ _=>rfl,fun _ _ _ _=>rfl,fun _ _ _ _ _ _=>rfl,fun _ _ _ _ _=>rfl,fun _ _ _ _ _ _=>rfl,fun _ _ _ _ _=>rfl,fun _ _ _ _ _=>rfl,fun _ _ _ _ _=>rfl,fun _ _ _=>rfl,fun _ _=>rfl,fun _ _=>rfl⟩
theorem Cm :
  (∀ A n p,bn true A (.ptr n p)=uj true A (fA p (A.o n)))∧(∀ A x,uj true A (some x)=if x.bC=true then some (.ref x) else (c4 A 9 x).map .ref)∧(∀ A n p sz lo k,bn true A (.view n p sz lo k)=jT sz lo k (fR (fA p (A.o n)))) ∧
  (∀ A n p,bn false A (.ptr n p)=none)∧(∀ A n p sz lo k,bn false A (.view n p sz lo k)=none)∧(∀ x,lG none x=none)∧(∀ x,lG x none=none) ∧
  (∀ aJ A n k,bn aJ A (.own n k)=jS k (A.o n))∧(∀ aJ A fs,bn aJ A (.agg fs)=(bX aJ A fs).map .agg)∧(∀ aJ A f fs,bn aJ A (.func f fs)=if f<1000000 then (bX aJ A fs).map (.func f) else some .any)∧(∀ aJ A k n,bn aJ A (.int k n)=some (.int k n))∧(∀ aJ A b,bn aJ A (.bool b)=some (.bool b)) ∧
  (∀ aJ A s,bn aJ A (.bR s)=some (.bR s))∧(∀ aJ A n,bn aJ A (.nils n)=some (.slice n []))∧(∀ aJ A n es,bn aJ A (.slice n es)=if I.b9 es=true then some (.slice n es) else none)∧(∀ aJ A x,bn aJ A (.ref x)=if x.bC=true then some (.ref x) else none) ∧
  (∀ aJ A,bX aJ A []=some [])∧(∀ aJ A x xs,bX aJ A (x::xs)=lG (bn aJ A x) (bX aJ A xs))∧(∀ x xs,lG (some x) (some xs)=some (x::xs)) ∧
  (∀ fs,(I.agg fs).bC=I.b9 fs)∧(∀ n fs,(I.slice n fs).bC=I.b9 fs)∧(∀ x,(I.ref x).bC=x.bC)∧(∀ k n,(I.int k n).bC=true)∧(∀ n,(I.bool n).bC=true)∧(∀ n,(I.bR n).bC=true)∧(∀ f fs,(I.func f fs).bC=I.b9 fs) ∧
  I.b9 []=true∧(∀ x xs,I.b9 (x::xs)=(x.bC&&I.b9 xs)) ∧
  (∀ rs r A,kZ rs r .ret A=pG r (fi A rs))∧(∀ rs r A,kZ rs r .normal A=pG r (fi A rs))∧(∀ r xs,pG r (some xs)=(kF xs=r))∧(∀ A,fi A []=some [])∧(∀ A t rs,fi A (.tmp t::rs)=lG (bn true A (A.t t)) (fi A rs)) ∧
  (∀ A a s rs,fi A (.cell a s::rs)=lG (s8 s A (ij A (A.t a))) (fi A rs))∧(∀ s A x,s8 s A (some x)=if b8 s x=true then bn true A x else none)∧(∀ x,kF [x]=x)∧(∀ x y xs,kF (x::y::xs)=.tuple (x::y::xs)) :=
 ⟨On,fun _ _=>rfl,um,fun _ _ _=>rfl,fun _ _ _ _ _ _=>rfl,fun _=>rfl,fun x=>by cases x <;>rfl,Cq,Co,Oi,Oj,Oh,Ot,Om,Oq,Oo,Cz,Cy,fun _ _=>rfl,Lk,Lp,Lo,Ln,Ll,Lq,Lm,Ls,Lr,
  Zv,Zu,fun _ _=>rfl,Zo,Zp,Zn,fun _ _ _=>rfl,fun _=>rfl,fun _ _ _=>rfl⟩
theorem Ad :
  (∀ k a b,cC .add (.int k a) (.int k b)=some (.int k (k.wrap (a+b))))∧(∀ k a b,cC .sub (.int k a) (.int k b)=some (.int k (k.wrap (a-b))))∧(∀ k a b,cC .mul (.int k a) (.int k b)=some (.int k (k.wrap (a*b)))) ∧
  (∀ k a b,cC .quo (.int k a) (.int k b)=if b=0 then none else some (.int k (k.wrap (a.tdiv b))))∧(∀ k a b,cC .rem (.int k a) (.int k b)=if b=0 then none else some (.int k (a.tmod b))) ∧
  (∀ k a b,cC .and (.int k a) (.int k b)=some (.int k (k.wrap ((BitVec.ofInt k.bits a &&& BitVec.ofInt k.bits b).toNat:Int))))∧(∀ k a b,cC .or (.int k a) (.int k b)=some (.int k (k.wrap ((BitVec.ofInt k.bits a ||| BitVec.ofInt k.bits b).toNat:Int)))) ∧
  (∀ k a b,cC .xor (.int k a) (.int k b)=some (.int k (k.wrap ((BitVec.ofInt k.bits a ^^^ BitVec.ofInt k.bits b).toNat:Int))))∧(∀ k a b,cC .andNot (.int k a) (.int k b)=some (.int k (k.wrap ((BitVec.ofInt k.bits a &&& ~~~ BitVec.ofInt k.bits b).toNat:Int)))) ∧
  (∀ k k' a b,cC .shl (.int k a) (.int k' b)=if 0≤b then some (.int k (k.wrap (a*2^(min b.toNat k.bits)))) else none)∧(∀ k k' a b,cC .shr (.int k a) (.int k' b)=if 0≤b then some (.int k (a.fdiv (2^(min b.toNat k.bits)))) else none) ∧
  (∀ k a b,cC .eql (.int k a) (.int k b)=some (.bool (a==b)))∧(∀ k a b,cC .neq (.int k a) (.int k b)=some (.bool (a != b)))∧(∀ k a b,cC .lss (.int k a) (.int k b)=some (.bool (decide (a<b))))∧(∀ k a b,cC .leq (.int k a) (.int k b)=some (.bool (decide (a≤b)))) ∧
  (∀ k a b,cC .gtr (.int k a) (.int k b)=some (.bool (decide (b<a))))∧(∀ k a b,cC .geq (.int k a) (.int k b)=some (.bool (decide (b≤a)))) :=
 ⟨I9,Jp,Jh,Jl,Jm,Ja,Jk,Jq,Jb,Jn,Jo,Jc,Ji,Jg,Jf,Je,Jd⟩
end Go.Abs
namespace Go.Abs
open Go Go.RowKit
open Enc (enc)
section
variable {α:Type} [Enc α]
theorem Xd(A:ai)(l:List α):jX A (enc l)=some (.int .i64 l.length):=by simp[iy,jX]
theorem WL{A:ai}(esz:Nat){k:Int}{l:List α}(h:0≤k∧k.toNat<l.length)(hs:Enc.sz α=esz):kq A esz k (enc l)=some (.ref (enc l[k.toNat])):=by
 simp only[iy,kq,hs,zz7,true_and];rw[if_pos ⟨h.1,by omega⟩];simp[h.2]
theorem fT{A:ai}(esz:Nat){k:Nat}{l:List α}(h:k<l.length)(hs:Enc.sz α=esz):kq A esz k (enc l)=some (.ref (enc l[k])):=by
 have:=WL (A:=A) esz (k:=(k:Int)) (l:=l) ⟨by omega,by simpa using h⟩ hs;simpa using this
end
mutual
/-- What every value in memory keeps to: whole numbers within their kind,slices no longer than a slice can be. -/
def I.wf:I→Prop
 | .agg fs=>I.gB fs
 | .int k n=>k.min≤n∧n≤k.max
 | .bR s=>s.size≤maxLen
 | .slice _ es=>es.length≤maxLen∧I.gB es
 | .ref c=>c.wf
 | .func _ caps=>I.gB caps
 | .iface _ v=>v.wf
 |_=>True
def I.gB:List I→Prop
 | []=>True
 |x::xs=>x.wf∧I.gB xs
end
mutual
theorem vl{w:World}{D:aU}{E:bf} : ∀ (x:I) (cs:List Value),al w D E x cs→x.wf
 | .agg fs,cs,h=>by simp only[al,I.wf] at *;exact yJ fs cs h
 | .int k n,cs,h=>by simp only[al,I.wf] at *;exact h.2
 | .bR s,cs,h=>by simp only[al,I.wf] at *;exact h.2
 | .slice sz es,cs,h=>by
  simp only[al,I.wf] at *;obtain ⟨a,cap,_,U,ab,af,_⟩:=h;refine ⟨by omega,?_⟩;rcases af with rfl | ⟨b,off,cs',_,_,aq⟩
  ·simp[I.gB]
  ·exact yJ es cs' aq
 | .ref c,cs,h=>by simp only[al,I.wf] at *;obtain ⟨b,off,cs',_,_,h⟩:=h;exact vl c cs' h
 | .func f caps,cs,h=>by simp only[al,I.wf] at *;obtain ⟨vs,_,h⟩:=h;exact rh caps vs h
 | .iface t v,cs,h=>by simp only[al,I.wf] at *;obtain ⟨u,cs',_,_,h⟩:=h;exact vl v cs' h
 | .bool _,_,_ | .nilp,_,_ | .dA,_,_ | .dW,_,_ | .any,_,_ | .raw _,_,_ | .nils _,_,_ | .c0 _,_,_ | .ptr _ _,_,_ | .own _ _,_,_ | .view _ _ _ _ _,_,_ | .mref _,_,_ | .dp _,_,_ | .dk _ _,_,_ | .undef,_,_ | .du,_,_ | .tuple _,_,_=>by simp[I.wf]
theorem yJ{w:World}{D:aU}{E:bf} : ∀ (xs:List I) (cs:List Value),aP w D E xs cs→I.gB xs
 | [],_,_=>by simp[I.gB]
 |x::xs,cs,h=>by
  simp only[aP,I.gB] at *;obtain ⟨c1,c2,_,U,ab⟩:=h;exact ⟨vl x c1 U,yJ xs c2 ab⟩
theorem rh{w:World}{D:aU}{E:bf} : ∀ (xs:List I) (vs:List Value),aG w D E xs vs→I.gB xs
 | [],_,_=>by simp[I.gB]
 |x::xs,vs,h=>by
  simp only[aG,I.gB] at *;obtain ⟨v,rest,cs,_,_,U,ab⟩:=h;exact ⟨vl x cs U,rh xs rest ab⟩
end
theorem aaE{α:Type}[Enc α](l:List α):I.gB (l.map enc)↔∀ x∈l,(enc x:I).wf:=by
 induction l with
 |nil=>simp[I.gB]
 |cons x l ih=>simp[I.gB,ih]
theorem pY{α:Type}[Enc α](l:List α):(enc l:I).wf↔l.length≤maxLen∧∀ x∈l,(enc x:I).wf:=by
 simp only[iy,I.wf,zz7,aaE]
theorem bm.wf{P:Program}{f:FuncId}{args:List I}{r:I}(hc:fe P f=true)(h:I.gB args→bm P f args r):bm P f args r :=
 ⟨hc,fun w D vs hl U ab=>(h (rh _ _ ab)).2 w D vs hl U ab⟩
theorem bm.cg{P:Program}{f:FuncId}{fn:Func}{x:bD}{rs:List bV}{args:List I}{r:I}(hf:P.funcs[f]?=some fn)(hcall:fe P f=true)(hc:(fn.body.bind (eE P fn.ntmps))=some x)
  (hrs:ig P fn.results.toList=some rs) (hn:args.length≤fn.ntmps) (h:I.gB args→∀ (w:World) (D:aU) (E:bf),ae ⟨P,w,D,fn.ntmps,cE E,E,dv,none,none⟩ x (kZ rs r) (au (bQ 0 args) [])):bm P f args r :=
 bm.wf hcall fun hw=>bm.mk hf hcall hc hrs hn (h hw)
theorem oF{α:Type}[Enc α] :
  (∀ A (l:List α),jX A (enc l)=some (.int .i64 l.length))∧(∀ n (x:zn n α),(enc x).dP=some (x.l.map enc)) :=
 ⟨Xd,fun _ _=>rfl⟩
end Go.Abs
namespace Go.Abs
open Go Go.RowKit
open Enc (enc)
def qO(neg:Bool):I→Option I
 | .nils _=>some (.bool (!neg))
 | .slice _ es=>if es.isEmpty then none else some (.bool neg)
 | .view _ _ _ _ _=>some (.bool neg)
 |_=>none
def DS:I→Option I
 | .bR s=>some (.int .i64 s.size)
 |_=>none
open Classical in
noncomputable def nA(n:Nat)(p:List Nat)(sz l0 k esz:Nat)(lo hi mx:Option I):Option (List I)→Option I
 |some fs=>if sz=esz then ma n p sz l0 k fs.length lo hi mx else none
 |none=>none
noncomputable def ln(A:ai)(esz:Nat)(lo hi mx:Option I):I→Option I
 | .slice sz es=>if sz=esz then jD sz es lo hi mx else none
 | .nils sz=>if sz=esz then jD sz [] lo hi mx else none
 | .c0 sz=>if sz=esz then jD sz [] lo hi mx else none
 | .view n p sz l0 k=>nA n p sz l0 k esz lo hi mx (fR (fA p (A.o n)))
 |_=>none
open Classical in
noncomputable def fV(esz:Nat):Option (List I)→Option I
 |some es=>if (es.all fun e=>e.size==esz)=true∧I.b9 es=true then some (.slice esz es) else none
 |none=>none
open Classical in
noncomputable def rG(A:ai)(d:Option Nat)(e esz bytes n l T sz':Nat)(es:List I)(rest:List aw):I→cM
 | .slice sz ys=>if yh e esz bytes l sz ys T sz' es then aA rest ((A.aV n (.bU e esz (es++ys))).aX d (.own n (es.length+ys.length))) else .fail
 |_=>.fail
open Classical in
noncomputable def qe(A:ai)(d:Option Nat)(e esz bytes:Nat)(z:I)(n l T:Nat)(xs:List Int)(rest:List aw):I→cM
 | .slice _ ys=>if yi e esz bytes l ys T xs z then aA rest ((A.aV n (.dD e (xs++sa ys))).aX d (.own n (xs.length+ys.length))) else .fail
 |_=>.fail
noncomputable def rF(A:ai)(d:Option Nat)(e esz bytes:Nat)(z:I)(n l:Nat)(x:I)(rest:List aw):Option ao→cM
 |some (.bU T sz' es)=>rG A d e esz bytes n l T sz' es rest x
 |some (.dD T xs)=>qe A d e esz bytes z n l T xs rest x
 |_=>.fail
noncomputable def fp(A:ai)(d:Option Nat)(e esz bytes:Nat)(z x:I)(rest:List aw):I→cM
 | .own n l=>rF A d e esz bytes z n l x rest (A.o n)
 |s=>fb A d esz bytes z s (eC A esz s) (eC A esz x) (aA rest)
section
variable (d:Option Nat) (rest:List aw) (A:ai)
noncomputable def qP(neg:Bool)(x:I):Bool→cM
 |true=>.any (fun m=>m<2) (fun m=>aA rest (A.aX d (.bool (m==0))))
 |false=>cT (qO neg x) (dj d rest A)
theorem Yh(neg:Bool)(x:aR):bL A d (.nilS neg x) rest=qP d rest A neg (ak A x) (kg (ak A x)):=by
 simp only[bL,bo,bq];cases kg (ak A x)
 ·simp only[zz3,if_false,qP,qO];cases ak A x <;>rfl
 ·rfl
theorem X8(x:aR):bL A d (.lenT x) rest=cT (DS (ak A x)) (dj d rest A):=by
 simp only[bL,bo,bq];cases ak A x <;>rfl
theorem Ym(esz:Nat)(x:aR)(lo hi mx:Option aR):bL A d (.sl esz x lo hi mx) rest=cT (ln A esz (lo.map (ak A)) (hi.map (ak A)) (mx.map (ak A)) (ak A x)) (dj d rest A):=by
 simp only[bL,bo,bq];cases ak A x <;>try rfl
 rename_i n p sz l0 k;simp only[ln,mG,ij];cases fA p (A.o n) with
 |none=>rfl
 |some c=>cases c <;>simp only[fR,I.dP,nA] <;>(first | rfl | (split <;>rfl))
theorem XT(T esz:Nat)(ps:List aR):bL A d (.bs T esz ps) rest=cT (fV esz (bX false A (ps.map (ak A)))) (dj d rest A):=by
 simp only[bL,bo,bq];cases bX false A (ps.map (ak A)) <;>simp only[fV] <;>rfl
theorem XP(e esz bytes:Nat)(z:I)(s x:aR):bL A d (.dB e esz bytes z s x) rest=fp A d e esz bytes z (ak A x) rest (ak A s):=by
 simp only[bL,bo];generalize ak A s=s';generalize ak A x=x';cases s' <;>simp only[fp]
 rename_i n l;cases x' <;>simp only <;>generalize A.o n=z <;>(cases z with
  |none=>rfl
  |some y=>cases y <;>simp only[rF,rG,qe])
end
theorem EJ :
  (∀ d rest A neg x,bL A d (.nilS neg x) rest=qP d rest A neg (ak A x) (kg (ak A x)))∧(∀ d rest A neg x,qP d rest A neg x false=cT (qO neg x) (dj d rest A))∧(∀ z,kg (.nils z)=false)∧(∀ n p sz lo k,kg (.view n p sz lo k)=false)∧(∀ d rest A x,bL A d (.lenT x) rest=cT (DS (ak A x)) (dj d rest A)) ∧
  (∀ d rest A esz x lo hi mx,bL A d (.sl esz x lo hi mx) rest=cT (ln A esz (lo.map (ak A)) (hi.map (ak A)) (mx.map (ak A)) (ak A x)) (dj d rest A)) ∧
  (∀ d rest A T esz ps,bL A d (.bs T esz ps) rest=cT (fV esz (bX false A (ps.map (ak A)))) (dj d rest A))∧(∀ d rest A e esz bytes z s x,bL A d (.dB e esz bytes z s x) rest=fp A d e esz bytes z (ak A x) rest (ak A s)) ∧
  (∀ A d e esz bytes z x rest n l,fp A d e esz bytes z x rest (.own n l)=rF A d e esz bytes z n l x rest (A.o n))∧(∀ A d e esz bytes z n l x rest T sz es,rF A d e esz bytes z n l x rest (some (.bU T sz es))=rG A d e esz bytes n l T sz es rest x)∧(∀ A d e esz bytes z n l x rest T xs,rF A d e esz bytes z n l x rest (some (.dD T xs))=qe A d e esz bytes z n l T xs rest x) ∧
  (∀ neg z,qO neg (.nils z)=some (.bool (!neg))) :=
 ⟨Yh,fun _ _ _ _ _=>rfl,fun _=>rfl,fun _ _ _ _ _=>rfl,X8,Ym,XT,XP,fun _ _ _ _ _ _ _ _ _ _=>rfl,fun _ _ _ _ _ _ _ _ _ _ _ _ _=>rfl,fun _ _ _ _ _ _ _ _ _ _ _ _=>rfl,fun _ _=>rfl⟩
theorem j0(p:Nat→Bool)(xs ys:List I):I.b6 p (xs++ys)=(I.b6 p xs&&I.b6 p ys):=by
 induction xs with
 |nil=>simp[I.b6]
 |cons x xs ih=>simp[I.b6,ih,Bool.and_assoc]
section
variable {α:Type} [Enc α]
theorem qf{A:ai}{d:Option Nat}(e:Nat)(esz bytes n:Nat){l:Nat}{es ys:List α}{rest:List aw}(hl:l=es.length)(hs:Enc.sz α=esz)(hy:ys≠[])(U:es.length+ys.length≤maxLen)(ab:(es.length+ys.length)*bytes≤140737488355328) :
  rG A d e esz bytes n l e esz (es.map enc) rest (enc ys)=aA rest ((A.aV n (.bU e esz ((es++ys).map enc))).aX d (.own n (es++ys).length)):=by
 simp only[iy,rG];rw[if_pos ⟨by simpa using hl,hs,rfl,rfl,by simpa using hy,by simpa using U,by simpa using ab⟩];simp
theorem rJ(esz:Nat){ys:List α}(hs:Enc.sz α=esz):fV esz (some (ys.map enc))=some (enc ys):=by
 have U:((ys.map enc).all fun e:I=>e.size==esz)=true:=by
  simp only[zx2,zy5];rintro x ⟨y,_,rfl⟩;simp[Enc.size,hs]
 simp only[fV,iy];rw[if_pos ⟨U,iJ ys⟩,hs]
theorem kO(esz:Nat)(y:α)(hs:Enc.sz α=esz):fV esz (some [enc y])=some (enc [y]):=rJ (ys:=[y]) esz hs
theorem oY(sz:Nat){T k:Nat}{es:List α}(hk:k=es.length)(hs:Enc.sz α=sz):jS k (some (.bU T sz (es.map enc)))=some (enc es):=by
 simp only[jS,zz7];rw[if_pos ⟨hk,iJ es⟩,iy,hs]
theorem eN(p:Nat→Bool)(l:List α):I.b6 p (l.map enc)=true:=by
 induction l with
 |nil=>rfl
 |cons x l ih=>simp only[zz4,I.b6,cv,ih,Bool.and_self]
theorem Xe(A:ai)(n k T sz:Nat)(es:List α)(ho:A.o n=some (.bU T sz (es.map enc)))(hk:k=es.length):jX A (.own n k)=some (.int .i64 es.length):=by
 simp only[jX,ho,zz7,hk,if_true]
end
theorem Ds :
  (∀ n:Int,fV 1 (some [.int .i64 n])=some (enc [n]))∧(∀ (T:Nat) (es:List Int),jS es.length (some (.bU T 1 (es.map enc)))=some (enc es)) :=
 ⟨fun n=>kO 1 n rfl,fun _ _=>oY 1 rfl rfl⟩
theorem bt.Iz{A:ai}{d n T sz z:Nat}(ah:A.t d=.nils z)(hn:A.o n=none)(hlt:n<1000000):bt A ((A.aV n (.bU T sz [])).put d (.own n 0)):=by
 rintro c a w ⟨D,E,h⟩;have ay:E n=none:=by have:=h.bP n;rw[hn] at this;exact this
 have hl:dU w D E w D (fun m=>if m=n then some (.rw none 0) else E m):=by
  have eP:∀ {m:Nat} {e:bM},E m=some e→(if m=n then some (.rw none 0) else E m)=some e:=fun {m e} he=>by
   have:m≠n:=fun e=>by rw[e,ay] at he;cases he
   rw[if_neg this];exact he
  refine ⟨fun _ _ h=>h,fun _ _ _ _ h=>h,fun m b bd he=>eP he,fun m aH l he =>?_,fun m b he=>eP he,fun m b he=>eP he,fun _ _ _ _ h=>h⟩
  ·have:m≠n:=fun e=>by rw[e,ay] at he;cases he
   exact ⟨aH,l,by simp only[if_neg this];exact he,zz5 _,fun _=>rfl⟩
 refine ⟨D,fun m=>if m=n then some (.rw none 0) else E m,h.sz,h.eB,fun t =>?_,h.dG,h.cZ,h.aQ,fun m =>?_,fun m m' e e' b U ab af aq =>?_,fun m e hm =>?_,h.eL,h.cR,h.eV,h.fw⟩
 ·simp only[ai.put,ai.aV];by_cases ht:t=d
  ·subst ht;simp only[if_true];have hv:=h.dN t;rw[ah] at hv;obtain ⟨cs,q1,q2⟩:=hv;simp only[al] at q2;subst q2;refine ⟨[.slice none 0 0],by simpa[bG,I.isAgg] using q1,?_⟩;simp only[al,if_true];exact ⟨none,0,rfl,zz5 _,⟨_,_,_,rfl⟩,fun _=>trivial⟩
  ·simp only[if_neg ht];exact bg.later hl (h.dN t)
 ·simp only[ai.put,ai.aV];by_cases hm:m=n
  ·subst hm;simp only[if_true,cN];exact ⟨none,by simp,by simp,trivial⟩
  ·simp only[if_neg hm];exact (h.bP m).later hl (by simp only[if_neg hm]) fun _ _ _ _=>⟨rfl,fun _ ho=>ho⟩
 ·by_cases hm:m=n <;>by_cases hm':m'=n
  ·rw[hm,hm']
  ·simp only[if_pos hm,v6] at U;subst U;simp[bM.aH] at af
  ·simp only[if_pos hm',v6] at ab;subst ab;simp[bM.aH] at aq
  ·simp only[if_neg hm] at U;simp only[if_neg hm'] at ab;exact h.cO m m' e e' b U ab af aq
 ·have hmn:m≠n:=fun e=>by rw[e,h.kT (.inr hlt)] at hm;cases hm
  simp only[if_neg hmn];exact h.dQ m e hm
theorem bt.tP{ts:List (Nat×I)}{os:List (Nat×ao)}(d n T sz z:Nat)(ah:bI ts d=.nils z)(hn:aj os n=none){B:ai}(h:bt (au ((d,.own n 0)::ts) ((n,.bU T sz [])::os)) B)(hlt:n<1000000:=by decide):bt (au ts os) B :=
 ((bt.Iz (A:=au ts os) (T:=T) (sz:=sz) ah hn hlt).trans (by rw[sA,uR];exact bt.refl _)).trans h
theorem EA:(∀ k n,b8 none (.int k n)=true)∧(∀ b,b8 none (.bool b)=true)∧(∀ z es,b8 none (.slice z es)=true)∧(∀ f es,b8 none (.func f es)=true)∧(∀ z,b8 none (.nils z)=true)∧(∀ n k,b8 none (.own n k)=true) :=
 ⟨fun _ _=>rfl,fun _=>rfl,fun _ _=>rfl,fun _ _=>rfl,fun _=>rfl,fun _ _=>rfl⟩
theorem bK:(type_of% @zN)∧(type_of% @EI)∧(type_of% @EJ)∧(type_of% @Ds)∧(type_of% @EA)∧(type_of% @G9)∧(type_of% @Cm)∧(type_of% @Ad)∧(∀ n:Int,(enc n:I)=.int .i64 n)∧(∀ n:Bool,(enc n:I)=.bool n) ∧
  (∀ {α β:Type} (f:α→β) (x:α) (xs:List α),List.map f (x::xs)=f x::List.map f xs)∧(∀ {α β:Type} (f:α→β),List.map f []=[])∧(∀ {α:Type} (xs:List α),[]++xs=xs)∧(∀ n:Nat,(n:Int).toNat=n)∧(∀ {α β:Type} (f:α→β) (x:α),Option.map f (some x)=some (f x)) ∧
  (∀ n:Nat,0≤(n:Int))∧((!true)=false)∧((!false)=true)∧((false=true)=False)∧((true=false)=False) :=
 ⟨@zN,@EI,@EJ,@Ds,@EA,@G9,@Cm,@Ad,eJ,NG,fun _ _ _=>rfl,fun _=>rfl,fun _=>rfl,fun _=>rfl,fun _ _=>rfl,fun n=>Int.natCast_nonneg n,rfl,rfl,by simp,by simp⟩
end Go.Abs
namespace Go.Abs
open Go Go.RowKit
open Enc (enc)
theorem lq.cg{P:Program}{f:FuncId}{fn:Func}{x:bD}{rs:List bV}{Y:Value→List I→List (Nat×ao)→cA→Prop}{args:List I}{os:List (Nat×ao)}{post:cA}(hf:P.funcs[f]?=some fn)(hcall:fe P f=true)(hc:(fn.body.bind (eE P fn.ntmps))=some x)
  (hrs:ig P fn.results.toList=some rs) (hn:args.length≤fn.ntmps) (hn2:fn.ntmps≤1000000) (hos:∀ m,av os m=true→1000000≤m) (h:I.gB args→∀ (w:World) (D:aU) (E:bf),ae ⟨P,w,D,fn.ntmps,cE E,E,Y,none,none⟩ x (pF rs post) (au (bQ 0 args) os)):lq P f Y args os post:=by
 obtain ⟨body,hb,hc'⟩:=zw8.1 hc;refine ⟨hcall,fun w D E vs hy hD ho hv =>?_⟩;exact (lq.uY hf hb hcall hc' hrs hn (fun m hm=>⟨Nat.le_trans hn2 (hos m hm),hos m hm⟩) (fun w D E=>(h (rh _ _ hv) w D E).sub (vE args os))).2 w D E vs hy hD ho hv
theorem cQ.cg{P:Program}{f:FuncId}{fn:Func}{x:bD}{rs:List bV}{args:List I}{os:List (Nat×ao)}{post:cA}(hf:P.funcs[f]?=some fn)(hcall:fe P f=true)(hc:(fn.body.bind (eE P fn.ntmps))=some x)
  (hrs:ig P fn.results.toList=some rs) (hn:args.length≤fn.ntmps) (hn2:fn.ntmps≤1000000) (hos:∀ m,av os m=true→1000000≤m) (h:I.gB args→∀ (w:World) (D:aU) (E:bf),ae ⟨P,w,D,fn.ntmps,cE E,E,dv,none,none⟩ x (pF rs post) (au (bQ 0 args) os)):cQ P f args os post :=
 cQ.Et (lq.cg hf hcall hc hrs hn hn2 hos h)
theorem Dn{A:ai} : ∀ n x,aj [] n=some x→A.o n=some x∧x.only (av [])=true∧x.eg=true:=fun n x h=>by simp[aj] at h
theorem xE{A:ai}{k:Nat}{c:I}(U:A.o k=some (.box c))(ab:∀ p,c.only p=true):∀ n x,aj [(k,.box c)] n=some x→A.o n=some x∧x.only (av [(k,.box c)])=true∧x.eg=true:=fun n x h=>by
 simp only[aj] at h;split at h
 ·rename_i hn;subst hn;simp only[v6] at h;subst h;exact ⟨U,ab _,rfl⟩
 ·cases h
theorem hU{k:Nat}{x:ao}{m:Nat} : av [(k,x)] m=true↔m=k:=by
 simp only[av,aj];split <;>simp_all
theorem gm.one{aJ:Bool}{k d:Nat}{x:ao}{os0:List (Nat×ao)}{r c:I}(U:∀ p,c.only p=true)(ab:aJ=true→c.dJ=true)(af:r.only (av [(k,.box c)])=true)(aq:aJ=true→r.dJ=true):gm aJ [(k,d)] [(k,x)] os0 r [(k,.box c)]:=by
 refine ⟨fun m x h =>?_,fun m m' h h' _ =>?_,fun m h =>?_,fun m h h' =>?_,af,aq⟩
 ·simp only[aj] at h;split at h
  ·simp only[v6] at h;subst h;exact ⟨U _,rfl,ab⟩
  ·cases h
 ·rw[hU.1 h,hU.1 h']
 ·rw[hU.1 h];exact hU.2 rfl
 ·rw[hU.1 h] at h';have:av [(k,x)] k=true:=hU.2 rfl;rw[this] at h';cases h'
mutual
theorem s7(ρ:Nat→Nat):∀ x:I,x.bC=true→x.a8 ρ=x
 | .agg fs,h=>by simp only[I.a8,I.bC] at *;rw[oq ρ fs h]
 | .slice _ es,h=>by simp only[I.a8,I.bC] at *;rw[oq ρ es h]
 | .ref x,h=>by simp only[I.a8,I.bC] at *;rw[s7 ρ x h]
 | .func _ caps,h=>by simp only[I.a8,I.bC] at *;rw[oq ρ caps h]
 | .iface _ v,h=>by simp only[I.a8,I.bC] at *;rw[s7 ρ v h]
 | .bool _,_ | .int _ _,_ | .bR _,_ | .nilp,_ | .dA,_ | .dW,_ | .any,_ | .raw _,_ | .nils _,_ | .c0 _,_=>by simp only[I.a8]
 | .dk ks vs,h=>by simp only[I.a8,I.bC,t8] at *;rw[oq ρ ks h.1,oq ρ vs h.2]
 | .ptr _ _,h | .own _ _,h | .view _ _ _ _ _,h | .mref _,h | .dp _,h | .undef,h | .du,h | .tuple _,h=>by simp[I.bC] at h
theorem oq(ρ:Nat→Nat):∀ xs:List I,I.b9 xs=true→I.dm ρ xs=xs
 | [],_=>rfl
 |x::xs,h=>by
  simp only[I.b9,t8] at h;simp only[I.dm,s7 ρ x h.1,oq ρ xs h.2]
end
theorem yL :
  (∀ (k:IntKind) n (ρ:Nat→Nat),(I.int k n).a8 ρ=.int k n)∧(∀ (b:Bool) (ρ:Nat→Nat),(I.bool b).a8 ρ=.bool b)∧(∀ n p (ρ:Nat→Nat),(I.ptr n p).a8 ρ=.ptr (ρ n) p) ∧
  (∀ n p sz lo k (ρ:Nat→Nat),(I.view n p sz lo k).a8 ρ=.view (ρ n) p sz lo k)∧(∀ fs (ρ:Nat→Nat),(I.agg fs).a8 ρ=.agg (I.dm ρ fs))∧(∀ fs (ρ:Nat→Nat),(I.tuple fs).a8 ρ=.tuple (I.dm ρ fs))∧(∀ f fs (ρ:Nat→Nat),(I.func f fs).a8 ρ=.func f (I.dm ρ fs)) ∧
  (∀ ρ:Nat→Nat,I.dm ρ []=[])∧(∀ (ρ:Nat→Nat) x xs,I.dm ρ (x::xs)=x.a8 ρ::I.dm ρ xs)∧(∀ (ρ:Nat→Nat) (x:I),(ao.box x).a8 ρ=.box (x.a8 ρ)) ∧
  (∀ (z:Nat) (ρ:Nat→Nat),(I.nils z).a8 ρ=.nils z)∧(∀ (z:Nat) (ρ:Nat→Nat),(I.c0 z).a8 ρ=.c0 z) ∧
  (∀ n,bx [] n=n)∧(∀ a b r n,bx ((a,b)::r) n=if n=a then b else bx r n)∧(∀ ρ,df ρ []=[])∧(∀ ρ k x os,df ρ ((k,x)::os)=(bx ρ k,x.a8 (bx ρ))::df ρ os) :=
 ⟨fun _ _ _=>by simp only[I.a8],fun _ _=>by simp only[I.a8],fun _ _ _=>by simp only[I.a8],fun _ _ _ _ _ _=>by simp only[I.a8],fun _ _=>by simp only[I.a8],fun _ _=>by simp only[I.a8],fun _ _ _=>by simp only[I.a8],
  fun _=>rfl,fun _ _ _=>by simp only[I.dm],fun _ _=>rfl,fun _ _=>by simp only[I.a8],fun _ _=>by simp only[I.a8],fun _=>rfl,fun _ _ _ _=>rfl,fun _=>rfl,fun _ _ _ _=>rfl⟩
section
variable {α:Type} [Enc α]
theorem km(ρ:Nat→Nat)(x:α):(enc x).a8 ρ=enc x:=s7 ρ _ (kl x)
theorem pE(ρ:Nat→Nat)(l:List α):I.dm ρ (l.map enc)=l.map enc:=oq ρ _ (iJ l)
class tH (α:Type) [Enc α]:Prop where
 dJ:∀ x:α,(enc x).dJ=true
theorem NH[tH α](x:α):(enc x).dJ=true:=tH.dJ x
theorem Xa[tH α](l:List α):I.jA (l.map enc)=true:=by
 induction l with
 |nil=>rfl
 |cons x l ih=>simp only[zz4,I.jA,NH,ih,Bool.and_self]
theorem mb(A:ai)(esz:Nat)(l:List α)(hs:Enc.sz α=esz):eC A esz (enc l)=some (l.map enc):=by
 simp only[iy,eC,hs,if_true]
theorem vK(l:List α):kg (enc l)=l.isEmpty:=by
 simp only[iy,kg];cases l <;>rfl
theorem Eo(neg:Bool)(l:List α)(h:l≠[]):qO neg (enc l)=some (.bool neg):=by
 simp only[iy,qO];cases l with
 |nil=>exact absurd rfl h
 |cons=>rfl
section
variable {P:Program} {Y:Value→List I→List (Nat×ao)→cA→Prop} {K:ai→Prop} {A:ai} {rest:List aw} {d:Nat} {e esz bytes:Nat} {q:Nat}
theorem aT.wc(z:α){l:List α}(hs:Enc.sz α=esz)(hl:l≠[])(hf:A.o d=none)(hb:l.length*bytes≤140737488355328)(hml:l.length≤maxLen)
  (h:∀ m,aT P Y false K (aA rest ((A.aV d (.box (.agg ((l++List.replicate m z).map enc)))).aX (some d) (.view d [] esz 0 l.length)))):aT P Y false K (fp A (some d) e esz bytes (enc z) (enc l) rest (.c0 q)):=by
 have hne:l.map (enc (α:=α))≠[]:=by simpa using hl
 have U:eC A esz (.c0 q)=some []:=rfl;simp only[fp,U,mb A esz l hs,fb,if_neg hne,gn,hf,List.length_nil,zz1,zz7,if_pos (y6 hb hml),zx3];refine .any rfl fun m _ =>?_;have:=h m;simp only[zy8,List.map_replicate] at this;exact this
theorem IU(z:I)(hs:Enc.sz α=esz):fp A (some d) e esz bytes z (enc ([]:List α)) rest (.c0 q)=aA rest (A.aX (some d) (.c0 q)):=by
 have U:eC A esz (.c0 q)=some []:=rfl;simp only[fp,U,mb A esz ([]:List α) hs,fb,zx6,if_true]
theorem XW(esz:Nat)(z:I)(x:aR)(rest:List aw)(A:ai):bL A none (.jQ esz z x) rest=nS A esz z (aA rest) (ak A x):=rfl
theorem ZS(z:α)(k:Nat):I.cV (List.replicate k (enc z))=List.replicate k (Enc.bd α):=by
 have:List.replicate k (enc z)=(List.replicate k z).map (enc (α:=α)):=by simp
 rw[this,tg];simp
theorem Lt(z:α){n lo k:Nat}{xs:List α}(ho:A.o n=some (.box (.agg (xs.map enc))))(hk:lo+k≤xs.length) :
  nS A esz (enc z) (aA rest) (.view n [] esz lo k)=aA rest (A.aV n (.box (.agg ((xs.take lo++(List.replicate k z++xs.drop (lo+k))).map enc)))):=by
 have U:I.cV (List.replicate k (enc z))=I.cV (((xs.map (enc (α:=α))).drop lo).take k):=by
  rw[ZS,←List.map_drop,←List.map_take,tg,zx7,List.length_drop]
  congr 1;omega
 have ab:(I.agg (xs.map (enc (α:=α)))).at []=some (.agg (xs.map enc)):=rfl;simp only[nS,ho,ab];rw[if_pos ⟨rfl,U⟩];simp only[jo,ri,zy8,List.map_take,List.map_drop,List.map_replicate,List.length_replicate]
theorem ZY{n:Nat}{p:List Nat}{sz k total i:Nat}(h:i≤total)(aZ:0<total):ma n p sz 0 k total none (some (.int .i64 i)) none=some (.view n p sz 0 i):=by
 simp only[ma,jM];rw[if_pos ⟨by omega,by omega,by omega⟩,if_neg (by omega)];simp
theorem ZZ{n:Nat}{p:List Nat}{sz k total i:Nat}(h:i≤k)(hk:k≤total)(aZ:i<total):ma n p sz 0 k total (some (.int .i64 i)) none none=some (.view n p sz i (k-i)):=by
 simp only[ma,jM];rw[if_pos ⟨by omega,by omega,by omega⟩,if_neg (by omega)];simp
theorem WR{m:Nat}{p:List Nat}{sz lo l j:Nat}{fs:List I}(h:j<l):mP m p sz lo l sz (j:Int) (some fs)=some (.ptr m (p++[lo+j])):=by
 simp only[mP,true_and];rw[if_pos ⟨by omega,by omega⟩];simp
theorem rX{sz k:Nat}{xs:List α}(hs:Enc.sz α=sz):jT sz 0 k (some (xs.map enc))=some (enc (xs.take k)):=by
 have h:((xs.map (enc (α:=α))).drop 0).take k=(xs.take k).map enc:=by rw[List.drop_zero,List.map_take]
 simp only[jT,h];rw[if_pos (iJ _),iy,hs]
end
end
theorem WM(A:ai)(esz m:Nat)(p:List Nat)(sz lo l:Nat)(k:Int):kq A esz k (.view m p sz lo l)=mP m p sz lo l esz k (fR (fA p (A.o m))):=rfl
theorem Xf(A:ai)(m:Nat)(p:List Nat)(sz lo l:Nat):jX A (.view m p sz lo l)=some (.int .i64 l):=rfl
theorem ZW(A:ai)(esz:Nat)(lo hi mx:Option I)(n:Nat)(p:List Nat)(l0 k:Nat):ln A esz lo hi mx (.view n p esz l0 k)=nA n p esz l0 k esz lo hi mx (fR (fA p (A.o n))):=rfl
theorem ZX(n:Nat)(p:List Nat)(sz l0 k:Nat)(lo hi mx:Option I)(fs:List I):nA n p sz l0 k sz lo hi mx (some fs)=ma n p sz l0 k fs.length lo hi mx:=by simp[nA]
theorem dX :
  (∀ A esz m p sz lo l k,kq A esz k (.view m p sz lo l)=mP m p sz lo l esz k (fR (fA p (A.o m))))∧(∀ A m p sz lo l,jX A (.view m p sz lo l)=some (.int .i64 l)) ∧
  (∀ A esz lo hi mx n p l0 k,ln A esz lo hi mx (.view n p esz l0 k)=nA n p esz l0 k esz lo hi mx (fR (fA p (A.o n))))∧(∀ n p sz l0 k lo hi mx fs,nA n p sz l0 k sz lo hi mx (some fs)=ma n p sz l0 k fs.length lo hi mx) ∧
  (∀ esz z x rest A,bL A none (.jQ esz z x) rest=nS A esz z (aA rest) (ak A x))∧(∀ rest A d esz,bL A d (.bs0 esz) rest=aA rest (A.aX d (.c0 esz))) :=
 ⟨WM,Xf,ZW,ZX,XW,fun _ _ _ _=>rfl⟩
theorem nm(rs:List bV)(post:cA)(A:ai):pF rs post .ret A=jw rs post A:=rfl
theorem bt.jz{ts:List (Nat×I)}{os0:List (Nat×ao)}(ns:List Nat)(d:Nat){x y:I}(ah:bI ts d=x)(h:bn true (au ts (lQ ns os0)) x=some y)(ho:cB (fun n => !ns.contains n) (ef ns os0)) :
  bt (au ts os0) (au ((d,y)::kS ns ts) (ef ns os0)):=by
 rintro c a w ⟨D,E,hs⟩;obtain ⟨D1,E1,hs1,hw⟩:=hs.CB ns ho;have hu:ep (au ts (lQ ns os0)) (au ts os0):=fun n z hz=>by
  simp only[au,qK] at hz ⊢;split at hz
  ·exact hz
  ·cases hz
 have hx:x.bT=true:=by cases x <;>first | rfl | simp[bn] at h
 have hv:=hs.dN d;simp only[au] at hv;rw[ah] at hv;have U:aG w D E [x] [a.tmps.getD d undef]:=l6 [x] _ (.cons hv .nil) (by intro z hz;simp only[zy1] at hz;subst hz;exact hx);have ab:=mJ (E':=E1) hs hu hw [x] [y] _ U (by simp only[bX,h]);have af:bg w D1 E1 y (a.tmps.getD d undef):=by
  simp only[aG] at ab;obtain ⟨v',rest,cs,e,k1,k2,_⟩:=ab;simp only[zv0] at e;obtain ⟨e1,_⟩:=e;rw[e1];exact jY k1 k2
 refine ⟨D1,E1,hs1.sz,hs1.eB,fun t =>?_,hs1.dG,hs1.cZ,hs1.aQ,hs1.bP,hs1.cO,hs1.dQ,hs1.eL,hs1.cR,hs1.eV,hs1.fw⟩;simp only[au,bI];split
 ·rename_i ht;subst ht;exact af
 ·exact hs1.dN t
theorem Y7{w:World}{D:aU}{E:bf}{p:List Nat}{c x y:I}{cs:List Value}(hr:al w D E c cs)(h:c.at p=some x)(hxy:∀ ds,al w D E x ds→al w D E y ds)(hs:y.bd=x.bd):al w D E (c.eA p y) cs∧(c.eA p y).bd=c.bd:=by
 obtain ⟨off,c1,c2,c3,U,rfl,ab,af⟩:=yI p c x cs hr h;obtain ⟨off',k1,k2,k3,k4⟩:=vk p c x y _ c2 hr h (hxy c2 af) hs;rw[U,v6] at k1;subst k1;refine ⟨?_,k4⟩;have e:(c1++c2++c3).take off++c2++(c1++c2++c3).drop (off+c2.length)=c1++c2++c3:=by
  rw[zz9 c1 c2 c3,←ab,List.take_left,List.drop_length_add_append,List.drop_left,zz9]
 rw[←e];exact k3
theorem bt.IA{A:ai}{m n T sz z:Nat}{p:List Nat}{b:I}(hm:A.o m=some (.box b))(hp:b.at p=some (.nils z))(hn:A.o n=none)(hlt:n<1000000):bt A ((A.aV n (.bU T sz [])).aV m (.box (b.eA p (.own n 0)))):=by
 rintro c a w ⟨D,E,h⟩;have ay:E n=none:=by have:=h.bP n;rw[hn] at this;exact this
 have hmn:m≠n:=fun e=>by rw[e,hn] at hm;cases hm
 have hl:dU w D E w D (fun m=>if m=n then some (.rw none 0) else E m):=by
  have eP:∀ {m:Nat} {e:bM},E m=some e→(if m=n then some (.rw none 0) else E m)=some e:=fun {m e} he=>by
   have:m≠n:=fun e=>by rw[e,ay] at he;cases he
   rw[if_neg this];exact he
  refine ⟨fun _ _ h=>h,fun _ _ _ _ h=>h,fun m b bd he=>eP he,fun m aH l he =>?_,fun m b he=>eP he,fun m b he=>eP he,fun _ _ _ _ h=>h⟩
  ·have:m≠n:=fun e=>by rw[e,ay] at he;cases he
   exact ⟨aH,l,by simp only[if_neg this];exact he,zz5 _,fun _=>rfl⟩
 refine ⟨D,fun m=>if m=n then some (.rw none 0) else E m,h.sz,h.eB,fun t=>bg.later hl (h.dN t),h.dG,h.cZ,h.aQ,fun k =>?_,fun m m' e e' b U ab af aq =>?_,fun m e hm =>?_,h.eL,h.cR,h.eV,h.fw⟩
 ·simp only[ai.aV];by_cases hk:k=m
  ·subst hk;have ho:=h.bP k;rw[hm] at ho;obtain ⟨b',cs,T',U,ab,af,aq,h5⟩:=ho;obtain ⟨q1,q2⟩:=Y7 (y:=.own n 0) (al.later hl _ _ aq) hp (fun ds ah=>by
    simp only[al] at ah;subst ah;simp only[al,if_true];exact ⟨none,0,rfl,zz5 _,⟨_,_,_,rfl⟩,fun _=>trivial⟩) rfl
   simp only[if_true,cN];exact ⟨b',cs,T',by rw[q2];simp only[if_neg hmn];exact U,ab,af,q1,h5⟩
  ·simp only[if_neg hk];by_cases hkn:k=n
   ·subst hkn;simp only[if_true,cN];exact ⟨none,by simp,by simp,trivial⟩
   ·simp only[if_neg hkn];exact (h.bP k).later hl (by simp only[if_neg hkn]) fun _ _ _ _=>⟨rfl,fun _ ho=>ho⟩
 ·by_cases hm:m=n <;>by_cases hm':m'=n
  ·rw[hm,hm']
  ·simp only[if_pos hm,v6] at U;subst U;simp[bM.aH] at af
  ·simp only[if_pos hm',v6] at ab;subst ab;simp[bM.aH] at aq
  ·simp only[if_neg hm] at U;simp only[if_neg hm'] at ab;exact h.cO m m' e e' b U ab af aq
 ·have hmn:m≠n:=fun e=>by rw[e,h.kT (.inr hlt)] at hm;cases hm
  simp only[if_neg hmn];exact h.dQ m e hm
theorem bt.zP{ts:List (Nat×I)}{os:List (Nat×ao)}(m n T sz z:Nat)(p:List Nat)(b:I)(hm:aj os m=some (.box b))(hp:b.at p=some (.nils z))(hn:aj os n=none){B:ai}(h:bt (au ts ((m,.box (b.eA p (.own n 0)))::(n,.bU T sz [])::os)) B)(hlt:n<1000000:=by decide):bt (au ts os) B :=
 ((bt.IA (A:=au ts os) (T:=T) (sz:=sz) hm hp hn hlt).trans (by rw[sA,sA];exact bt.refl _)).trans h
mutual
theorem jh{p q:Nat→Bool}(h:∀ n,p n=true→q n=true):∀ x:I,x.only p=true→x.only q=true
 | .agg fs,hx | .tuple fs,hx=>by simp only[I.only] at *;exact iT h fs hx
 | .slice _ es,hx=>by simp only[I.only] at *;exact iT h es hx
 | .ref x,hx=>by simp only[I.only] at *;exact jh h x hx
 | .func _ caps,hx=>by simp only[I.only] at *;exact iT h caps hx
 | .iface _ v,hx=>by simp only[I.only] at *;exact jh h v hx
 | .ptr _ _,hx | .own _ _,hx | .view _ _ _ _ _,hx | .mref _,hx | .dp _,hx=>by simp only[I.only] at *;exact h _ hx
 | .dk ks vs,hx=>by simp only[I.only,t8] at *;exact ⟨iT h ks hx.1,iT h vs hx.2⟩
 | .bool _,_ | .int _ _,_ | .bR _,_ | .nilp,_ | .dA,_ | .dW,_ | .any,_ | .raw _,_ | .nils _,_ | .c0 _,_ | .undef,_ | .du,_=>by simp[I.only]
theorem iT{p q:Nat→Bool}(h:∀ n,p n=true→q n=true):∀ xs:List I,I.b6 p xs=true→I.b6 q xs=true
 | [],_=>rfl
 |x::xs,hx=>by
  simp only[I.b6,t8] at *;exact ⟨jh h x hx.1,iT h xs hx.2⟩
end
theorem ao.jh{p q:Nat→Bool}(h:∀ n,p n=true→q n=true)(x:ao)(hx:x.only p=true):x.only q=true:=by
 cases x with
 |box y=>simp only[ao.only] at *;exact Abs.jh h y hx
 |bU T sz es=>simp only[ao.only] at *;exact iT h es hx
 |dC o=>rfl
 |dD T xs=>rfl
 |bA ks vs=>simp only[ao.only,t8] at *;exact ⟨iT h ks hx.1,iT h vs hx.2⟩
 |it ks vs left cur=>simp only[ao.only,t8] at *;exact ⟨iT h ks hx.1,iT h vs hx.2⟩
theorem Dy{x:I}(h:x.bC=true):x.bT=true:=by
 cases x <;>first | rfl | simp[I.bC] at h
theorem tT{aJ:Bool}{A0:ai}{ρ:List (Nat×Nat)}{os:List (Nat×ao)} : ∀ xs:List I,I.b9 xs=true→ib aJ A0 ρ os xs xs
 | [],_=>trivial
 |x::xs,h=>by
  simp only[I.b9,t8] at h;exact ⟨.inl ⟨(s7 _ x h.1).symm,kD _ x h.1,Dy h.1⟩,tT xs h.2⟩
structure e7 (os os':List (Nat×ao)):Prop where
 same:∀ m,av os' m=av os m
 ok:∀ m x,aj os' m=some x→x.only (av os')=true∧x.eg=true
 mL:∀ m,av os m=true→1000000≤m
def zF(P:Program)(g:FuncId)(caps:List I)(N:Nat)(item:Nat→List I):Prop :=
 ∀ (Y:Value→List I→List (Nat×ao)→cA→Prop) (v:Value) (ar:Nat→List (Nat×ao)→Prop) (Ix:List (Nat×ao)→Prop) (os:List (Nat×ao)),v.oneCell'=true →
  (∀ k os' post,k<N→ar k os'→(∀ r os2,(r=.bool true∧ar (k+1) os2)∨(r=.bool false∧Ix os2)→post r os2)→Y v (item k) os' post) →
  (∀ k os',ar k os'→e7 os os')→(∀ os',Ix os'→e7 os os')→ar 0 os→lq P g Y (.raw v::caps) os (fun r os'=>r=.tuple []∧(ar N os'∨Ix os'))
def ej(o:Obj)(os:List (Nat×ao)):List (Nat×ao):=(1999999,.dC o)::os
theorem lO(o:Obj)(os:List (Nat×ao))(m:Nat):av (ej o os) m=(decide (m=1999999)||av os m):=by
 simp only[ej,av,aj];by_cases h:m=1999999 <;>simp[h]
theorem qL(o:Obj)(os:List (Nat×ao))(m:Nat):aj (ej o os) m=if m=1999999 then some (.dC o) else aj os m:=rfl
theorem e7.ej{os os':List (Nat×ao)}(h:e7 os os')(o o':Obj):e7 (ej o os) (ej o' os'):=by
 refine ⟨fun m=>by rw[lO,lO,h.same],fun m x hx =>?_,fun m hm =>?_⟩
 ·rw[qL] at hx;split at hx
  ·cases hx;exact ⟨rfl,rfl⟩
  ·obtain ⟨U,ab⟩:=h.ok m x hx;exact ⟨x.jh (fun n hn=>by rw[lO,hn];simp) U,ab⟩
 ·rw[lO] at hm;simp only[Bool.or_eq_true,decide_eq_true_eq] at hm;rcases hm with rfl | hm
  ·decide
  ·exact h.mL m hm
def vj:List Nat→List I→List (Nat×I)→List (Nat×I)
 |p::ps,v::vs,ts=>vj ps vs ((p,v)::ts)
 |_,_,ts=>ts
def oA(ρ:List (Nat×Nat))(p:Nat→Bool)(ts:List (Nat×I)):List (Nat×I)→Prop
 | []=>True
 |(k,v)::r=>bI ts k=v.a8 (bx ρ)∧v.only p=true∧oA ρ p ts r
theorem GN{ρ:List (Nat×Nat)}{p:Nat→Bool}{ts:List (Nat×I)} : ∀ {tsR:List (Nat×I)},oA ρ p ts tsR→∀ k,bI tsR k=.du∨(bI ts k=(bI tsR k).a8 (bx ρ)∧(bI tsR k).only p=true)
 | [],_,k=>.inl rfl
 |(j,v)::r,h,k=>by
  simp only[oA] at h;simp only[bI];split
  ·rename_i hk;subst hk;exact .inr ⟨h.1,h.2.1⟩
  ·exact GN h.2.2 k
section
variable {c:cX} {a:Act} {w:World} {D:aU} {E:bf}
theorem aY.y9{A:ai}(h:aY c A a w D E){n b:Nat}{o o':Obj}(hn:A.o n=some (.dC o))(ay:E n=some (.op b))(ho:qE o'=true):aY c (A.aV n (.dC o')) a (w.putObj b o') D E:=by
 have hob:=h.bP n;rw[hn] at hob;obtain ⟨b',k1,k2,k3,k4,k5⟩:=hob;rw[ay] at k1;cases k1;have hnc:o.isCells=false:=by cases o <;>first | rfl | cases k4
 have hlt:b<w.heap.size:=fS k3;have hl:dU w D E (w.putObj b o') D E:=⟨fun _ _ h=>h,fun b1 o1 v _ hv=>wM k3 hnc hv,fun _ _ _ h=>h,fun _ aH l h=>⟨aH,l,h,zz5 _,fun _=>rfl⟩,fun _ _ h=>h,fun _ _ h=>h,fun b1 es ck ah hm=>(World.putObj_heap_other (fun e1=>k5 0 (by rw[←e1];exact ah))).trans hm⟩
 refine ⟨h.sz,h.eB.mono fun B _ hB=>(World.putObj_heap_other (fun e=>by rw[e,k3] at hB;cases hB;cases k4)).trans hB,fun t=>bg.later hl (h.dN t),h.dG.trans ⟨rfl,rfl,rfl,by simp,fun k hk=>World.putObj_heap_other (fun e=>hk (e▸k2))⟩,h.cZ,
  fun b1 o1 ah=>by have:=h.aQ b1 o1 ah;simpa using this,fun m =>?_,h.cO,h.dQ,h.eL,h.cR,h.eV,h.lp hl⟩
 simp only[ai.aV];by_cases hm:m=n
 ·subst hm;simp only[if_true,cN];exact ⟨b,ay,k2,World.putObj_heap_same hlt,ho,k5⟩
 ·simp only[if_neg hm];exact (h.bP m).later hl rfl fun e b1 he hb=>⟨World.putObj_heap_other (fun e1=>hm (h.cO m n e _ b1 he ay hb (by rw[e1];rfl))),fun _ ho=>ho⟩
theorem aY.NF{A:ai}(h:aY c A a w D E){n b:Nat}(ay:E n=some (.op b)):aY c ⟨A.t,fun m=>if m=n then none else A.o m⟩ a w D (fun m=>if m=n then none else E m):=by
 have hne:∀ {m:Nat} {e:bM},E m=some e→(∀ b,e≠.op b)→m≠n:=fun he ab e'=>by
  subst e';rw[ay] at he;cases he;exact ab _ rfl
 have hl:dU w D E w D (fun m=>if m=n then none else E m):=by
  refine ⟨fun _ _ h=>h,fun _ _ _ _ h=>h,fun m b bd he =>?_,fun m aH l he=>⟨aH,l,?_,zz5 _,fun _=>rfl⟩,fun m b he =>?_,fun m b he =>?_,fun _ _ _ _ h=>h⟩
  ·simp only[if_neg (hne he (fun b=>by simp))];exact he
  ·simp only[if_neg (hne he (fun b=>by simp))];exact he
  ·simp only[if_neg (hne he (fun b=>by simp))];exact he
  ·simp only[if_neg (hne he (fun b=>by simp))];exact he
 refine ⟨h.sz,h.eB,fun t=>bg.later hl (h.dN t),h.dG,h.cZ,h.aQ,fun m =>?_,fun m m' e e' b U ab af aq =>?_,fun m e hm =>?_,h.eL,h.cR,h.eV,h.fw⟩
 ·by_cases hm:m=n
  ·simp only[hm,if_true,cN]
  ·simp only[if_neg hm];exact (h.bP m).later hl (by simp only[if_neg hm]) fun _ _ _ _=>⟨rfl,fun _ ho=>ho⟩
 ·split at U
  ·cases U
  ·split at ab
   ·cases ab
   ·exact h.cO m m' e e' b U ab af aq
 ·by_cases hmn:m=n
  ·left;simp only[hmn,if_true]
  ·simp only[if_neg hmn];exact h.dQ m e hm
theorem aY.enter{ts:List (Nat×I)}{os0:List (Nat×ao)}(h:aY c (au ts os0) a w D E)(hbase:c.fx=none)(hfree:aj os0 999999=none)(hE0:c.dn 999999=none){o:Obj}(ho:qE o=true) :
  ∃ E1,aY c (au ts ((999999,.dC o)::os0)) { a with defers := { target:=.collected w.heap.size,args := #[] } :: a.defers } ((w.alloc (.deferred (some []))).alloc o) D E1∧E1 999999=some (.op (w.heap.size+1))∧∀ xs vs,aG w D E xs vs→aG ((w.alloc (.deferred (some []))).alloc o) D E1 xs vs:=by
 have hb:Below w.heap.size w ((w.alloc (.deferred (some []))).alloc o):=((Below.refl _ w).alloc (zz5 _) _).alloc (by simp) _;have U:=h.grow (D':=D) hb (fun _ _ h=>h) (fun _ _ h _=>h) (fun b o' ah=>by have:=h.aQ b o' ah;simp;omega);obtain ⟨W,hW⟩:∃ W,W=(w.alloc (.deferred (some []))).alloc o:=⟨_,rfl⟩
 have hL:W.heap[w.heap.size+1]?=some o:=by
  rw[hW];have:=World.alloc_heap_new (w.alloc (.deferred (some []))) o;rwa [World.size_alloc] at this
 have hK:W.heap[w.heap.size]?=some (.deferred (some [])):=by
  rw[hW];exact (Below.heap_alloc _ _ _ (by simp)).trans (World.alloc_heap_new w _)
 rw[←hW] at U hb ⊢;have hEn:E 999999=none:=by have:=h.bP 999999;simp only[au,hfree] at this;exact this
 have hl:dU W D E W D (fun m=>if m=999999 then some (.op (w.heap.size+1)) else E m):=by
  refine ⟨fun _ _ h=>h,fun _ _ _ _ h=>h,fun m b bd he =>?_,fun m aH l he=>⟨aH,l,?_,zz5 _,fun _=>rfl⟩,fun m b he =>?_,fun m b he =>?_,fun _ _ _ _ h=>h⟩
  all_goals
   have:m≠999999:=fun e=>by rw[e,hEn] at he;cases he
   simp only[if_neg this];exact he
 have hsz:c.eZ.heap.size≤w.heap.size:=h.dG.size;have nb:∀ {m:Nat} {e:bM} {b:Nat},E m=some e→e.aH=some b→b<w.heap.size:=fun he hb'=>h.gq he hb';refine ⟨fun m=>if m=999999 then some (.op (w.heap.size+1)) else E m,⟨U.sz,?_,fun t=>bg.later hl (U.dN t),U.dG,U.cZ,U.aQ,fun m =>?_,fun m m' e e' b g1 g2 g3 g4 =>?_,fun m e hm =>?_,U.eL,U.cR,U.eV,U.fw⟩,by simp,fun xs vs hx=>aG.later hl xs vs (aG.later (dU.grow hb fun _ _ h=>h) xs vs hx)⟩
 ·have hdf:=U.eB;rw[hbase] at hdf ⊢;obtain ⟨Bs,k1,k2,k3⟩:=hdf;refine ⟨w.heap.size::Bs,by simp only[zz4];rw[←k1],List.nodup_cons.2 ⟨fun hin =>?_,k2⟩,fun B hB =>?_⟩
  ·have hdf':=h.eB;rw[hbase] at hdf';obtain ⟨Bs',j1,_,j3⟩:=hdf';have e1:Bs=Bs':=by
    have:Bs.map (fun B=>({ target:=.collected B,args := #[] } : Deferred))=Bs'.map (fun B => { target:=.collected B,args := #[] }):=by rw[←k1,←j1]
    exact (List.map_inj_right (fun x y hxy=>by simpa using hxy)).1 this
   rw[e1] at hin;have:=fS (j3 _ hin).2;omega
  ·rcases zw9.1 hB with rfl | hB
   ·exact ⟨hsz,hK⟩
   ·exact k3 B hB
 ·simp only[au,aj];by_cases hm:m=999999
  ·subst hm;simp only[if_true,cN];exact ⟨_,rfl,.inl (by omega),hL,ho,fun o' ah=>by have:=h.aQ _ o' ah;omega⟩
  ·simp only[if_neg hm];exact (U.bP m).later hl (by simp only[if_neg hm]) fun _ _ _ _=>⟨rfl,fun _ ho=>ho⟩
 ·by_cases hm:m=999999 <;>by_cases hm':m'=999999
  ·rw[hm,hm']
  ·simp only[if_pos hm,v6] at g1;simp only[if_neg hm'] at g2;subst g1;simp only[bM.aH,v6] at g3;have:=nb g2 g4;omega
  ·simp only[if_neg hm] at g1;simp only[if_pos hm',v6] at g2;subst g2;simp only[bM.aH,v6] at g4;have:=nb g1 g3;omega
  ·simp only[if_neg hm] at g1;simp only[if_neg hm'] at g2;exact h.cO m m' e e' b g1 g2 g3 g4
 ·have hmn:m≠999999:=fun e=>by rw[e,hE0] at hm;cases hm
  simp only[if_neg hmn];exact h.dQ m e hm
theorem cN.kv{M M':Nat→Prop}{n:Nat}{x:Option ao}(h:cN M w D E n x)(hM:∀ e b,E n=some e→e.aH=some b→M' b):cN M' w D E n x:=by
 unfold cN at *;split
 ·exact h
 ·obtain ⟨b,cs,T,U,_,af⟩:=h;exact ⟨b,cs,T,U,hM _ b U rfl,af⟩
 ·obtain ⟨aH,U,ab,af⟩:=h;refine ⟨aH,U,ab,?_⟩;split
  ·exact af
  ·obtain ⟨cs,pre,rest,_,aq⟩:=af;exact ⟨cs,pre,rest,hM _ _ U rfl,aq⟩
 ·obtain ⟨b,U,_,af⟩:=h;exact ⟨b,U,hM _ b U rfl,af⟩
 ·obtain ⟨b,es,ck,U,_,af⟩:=h;exact ⟨b,es,ck,U,hM _ b U rfl,af⟩
 ·obtain ⟨r,b,es,ck,si,se,la,U,_,af⟩:=h;exact ⟨r,b,es,ck,si,se,la,U,hM _ r U rfl,af⟩
 ·obtain ⟨aH,U,ab,af⟩:=h;refine ⟨aH,U,ab,?_⟩;split
  ·exact af
  ·obtain ⟨cs,m,_,aq⟩:=af;exact ⟨cs,m,hM _ _ U rfl,aq⟩
theorem aY.E5{os:List (Nat×ao)} : ∀ (ps:List Nat) (vs:List Value) (xs:List I) (ts:List (Nat×I)) (a:Act),aY c (au ts os) a w D E→(∀ p∈ps,p<c.n)→aG w D E xs vs→ps.length=vs.length →
  aY c (au (vj ps xs ts) os) { a with tmps:=(ps.zip vs).foldl (fun t q=>t.setIfInBounds q.1 q.2) a.tmps } w D E
 | [],[],xs,ts,a,h,_,hv,_=>by
  cases xs with
  |nil=>exact h
  |cons x xs=>simp[aG] at hv
 | [],_::_,_,_,_,_,_,_,hl=>by simp at hl
 |_::_,[],_,_,_,_,_,_,hl=>by simp at hl
 |p::ps,v::vs,xs,ts,a,h,hp,hv,hl=>by
  cases xs with
  |nil=>simp[aG] at hv
  |cons x xs =>
   simp only[aG] at hv;obtain ⟨v',rest,cs,e,U,ab,af⟩:=hv;simp only[zv0] at e;obtain ⟨rfl,rfl⟩:=e;have aq:=h.put (hp p (by simp)) (jY U ab);rw[uR] at aq;have:=aY.E5 ps vs xs ((p,x)::ts) (a.put (some p) v) aq (fun q hq=>hp q (by simp[hq])) af (by simpa using hl);exact this
end
end Go.Abs
namespace Go.Abs
open Go Go.RowKit
def jr:bS→Bool
 | .mv _ | .pick .. | .bin .. | .eqv .. | .conv .. | .un .. | .fl .. | .ix .. | .lenT _ | .bld .. | .ext .. | .mk .. | .nilC _ | .ptrE .. | .max2 .. =>true
 | .ld .. | .fa .. | .ia .. | .is .. | .len _ | .va .. | .bs .. | .sl .. | .cap _ | .bs0 _ | .lk .. =>true
 |_=>false
def po:bS→Bool
 | .alloc _ | .box _ | .bl .. | .call .. | .fy .. | .dB .. =>true
 |op=>jr op
def qJ(hs:List FuncId):bS→Bool
 | .alloc _ | .box _=>true
 | .call f _ => !hs.contains f
 |op=>jr op
abbrev en:=List (Nat×List Nat)
def iP(aE:en)(s:Nat):Option (List Nat):=(aE.find? fun q=>q.1==s).map (·.2)
def dy(aE:en)(A:ai):Prop:=∀ s ns,iP aE s=some ns→(A.t s).only (fun n=>ns.contains n)=true
def sq(aE:en):aR→Option (List Nat)
 | .t s=>iP aE s
 | .c x=>if x.bC then some [] else none
def vF(a:Option (List Nat))(ns:List Nat):Bool:=match a with
 |some ms=>ms.all fun m=>ns.contains m
 |none=>false
def iS(aE:en)(g:aw):Bool:=match g.dst with
 |none=>true
 |some d=>match iP aE d with
  |none=>true
  |some ns=>match g.op with
   | .mv x | .nilC x | .fa _ _ x | .ia _ _ x _=>vF (sq aE x) ns
   | .bin .. | .len _ | .bs .. | .bs0 _ | .conv .. | .lenT _=>true
   | .box _ | .alloc _=>ns.contains d
   |_=>false
def n8:bS→Option (List Nat)
 | .ld _ (.t x) | .fa _ _ (.t x) | .ia _ _ (.t x) _ | .is _ (.t x) _ | .len (.t x) | .va _ _ (.t x) | .sl _ (.t x) _ _ _ | .cap (.t x) | .lk _ _ _ (.t x) _=>some [x]
 | .bs _ _ ps=>if (ps.all fun x=>match x with | .t _=>true | .c _=>false)=true then some (kc ps) else none
 | .bs0 _=>some []
 |op=>if op.gZ=0∧jr op=true then some [] else none
def tR(aE:en)(g:aw)(p:Nat→Bool):Bool:=match n8 g.op with
 |some xs=>xs.all fun s=>match iP aE s with | some ns=>ns.all p | none=>false
 |none=>false
def pt(hs:List FuncId)(aE:en)(g h:aw):Bool:=qJ hs h.op||match h.op with
 | .bl _ (.t y) _=>match n8 g.op with
  |some []=>true
  |_=>match iP aE y with
   |some ms=>tR aE g fun n => !ms.contains n
   |none=>false
 | .bl .. =>match n8 g.op with
  |some []=>true
  |_=>false
 | .dB _ _ _ _ s _=>tR aE g (fun _=>false)||vF (sq aE s) []
 |_=>false
def nZ(hs:List FuncId)(aE:en)(g h:aw):Bool:=jr g.op&&(pt hs aE g h&&((match g.dst with
  |some d => !h.cU.contains d&&h.dst != some d
  |none=>true)&&(match h.dst with
  |some d => !g.cU.contains d
  |none=>true)))
theorem xz{op:bS}(h:jr op=true)(A:ai)(dst:Option Nat)(rest:List aw)(k:ai→cM):bo A dst op rest k=cT (bq A op) fun v=>k (A.aX dst v):=by
 cases op <;>first | rfl | cases h
inductive cj (P:Program) (Y:Value→List I→List (Nat×ao)→cA→Prop) (hs:List FuncId) (K:ai→Prop):cM→Prop where
 |done {A:ai} : K A→cj P Y hs K (.done A)
 |flat {f:FuncId} {avs cargs:List I} {a2:Option (List I)} {dst:Option Nat} {rest:List aw} {A:ai} (r:I):bm P f cargs r→r.flat=true→cj P Y hs K (aA rest (A.aX dst r))→cj P Y hs K (.call f avs (some cargs) a2 dst rest A)
 |lead {f:FuncId} {avs cargs:List I} {a1:Option (List I)} {dst:Option Nat} {rest:List aw} {A:ai} (r:I):bm P f cargs r→cj P Y hs K (aA rest (A.aX dst r))→cj P Y hs K (.call f avs a1 (some cargs) dst rest A)
 |bP {f:FuncId} {avs:List I} {a1 a2:Option (List I)} {dst:Option Nat} {rest:List aw} {ts:List (Nat×I)} {os0:List (Nat×ao)} (ρ:List (Nat×Nat)) (cargs:List I) (post:cA):cQ P f cargs [] post →
   gE ρ [] os0→ib false (au ts os0) ρ [] avs cargs→(∀ r os',post r os'→gm false ρ [] os0 r os') →
   (∀ r os',post r os'→cj P Y hs K (aA rest ((au ts (df ρ os'++os0)).aX dst (r.a8 (bx ρ)))))→cj P Y hs K (.call f avs a1 a2 dst rest (au ts os0))
 |any {p:Nat→Prop} {k:Nat→cM} : (∀ m,p m→cj P Y hs K (k m))→cj P Y hs K (.any p k)
 |yf {f:FuncId} {avs:List I} {a1 a2:Option (List I)} {dst:Option Nat} {rest:List aw} {ts:List (Nat×I)} {os0:List (Nat×ao)} (aJ:Bool) (ρ:List (Nat×Nat)) (os:List (Nat×ao)) (cargs:List I) (post:cA):hs.contains f=true→cQ P f cargs os post →
   gE ρ os os0→ib aJ (au ts (ef (iQ ρ os) os0)) ρ os avs cargs→(∀ r os',post r os'→gm aJ ρ os os0 r os') →
   (∀ r os',post r os'→cj P Y hs K (aA rest ((au ts (df ρ os'++os0)).aX dst (r.a8 (bx ρ)))))→cj P Y hs K (.call f avs a1 a2 dst rest (au ts os0))
 |Hf {v:Value} {avs:List I} {dst:Option Nat} {rest:List aw} {ts:List (Nat×I)} {os0:List (Nat×ao)} (os:List (Nat×ao)) (cargs:List I) (post:cA):Y v cargs os post →
   gE [] os os0→ib false (au ts (ef (iQ [] os) os0)) [] os avs cargs→(∀ r os',post r os'→gm false [] os os0 r os') →
   (∀ r os',post r os'→cj P Y hs K (aA rest ((au ts (df [] os'++os0)).aX dst (r.a8 (bx [])))))→cj P Y hs K (.lE v avs dst rest (au ts os0))
theorem B3(os:List (Nat×ao)):ef [] os=os:=by simp[ef]
section
variable {P:Program} {hs:List FuncId} {K:ai→Prop} {Y:Value→List I→List (Nat×ao)→cA→Prop}
theorem cj.zU{p:Nat→Prop}{k:Nat→cM}(h:cj P Y hs K (.any p k)):∀ m,p m→cj P Y hs K (k m):=by cases h;assumption
theorem dy.put{aE:en}{A B:ai}(h:dy aE A)(ht:∀ k,B.t k=A.t k){dst:Option Nat}{v:I}(hv:∀ d,dst=some d→∀ ns,iP aE d=some ns→v.only (fun n=>ns.contains n)=true):dy aE (B.aX dst v):=by
 intro s ns hs';cases dst with
 |none=>exact (ht s).symm▸h s ns hs'
 |some d =>
  simp only[ai.aX,ai.put];by_cases ah:s=d
  ·rw[if_pos ah];exact hv d rfl ns (ah▸hs')
  ·rw[if_neg ah,ht];exact h s ns hs'
theorem tm{aE:en}{A:ai}(h:dy aE A){x:aR}{ns:List Nat}(hx:vF (sq aE x) ns=true):(ak A x).only (fun n=>ns.contains n)=true:=by
 cases x with
 |c x =>
  simp only[sq] at hx;split at hx
  ·rename_i hc;exact kD _ x hc
  ·cases hx
 |t s =>
  simp only[sq] at hx;cases hl:iP aE s with
  |none=>rw[hl] at hx;cases hx
  |some ms =>
   rw[hl] at hx;simp only[vF,zx2] at hx;exact jh (fun n hn=>hx n (by simpa using hn)) _ (h s ms hl)
theorem Jj{op:BinOp}{x y v:I}(p:Nat→Bool)(h:cC op x y=some v):v.only p=true:=by
 unfold cC at h
 (repeat' split at h) <;>first | (cases h;done) | (simp only[v6] at h;subst h;rfl)
theorem yl{p:Nat→Bool} : ∀ {xs:List I} {i:Nat} {x:I},I.b6 p xs=true→xs[i]?=some x→x.only p=true
 | [],_,_,_,h=>by simp at h
 |a::xs,0,x,h,e=>by
  simp only[I.b6,t8] at h;simp only[List.getElem?_cons_zero,v6] at e;exact e▸h.1
 |a::xs,i+1,x,h,e=>by
  simp only[I.b6,t8] at h;exact yl (xs:=xs) h.2 (by simpa using e)
theorem Ey{aE:en}{A:ai}{g:aw}(h:dy aE A)(hg:iS aE g=true){v:I}(hv:bq A g.op=some v):∀ d,g.dst=some d→∀ ns,iP aE d=some ns→v.only (fun n=>ns.contains n)=true:=by
 intro d ah ns hn;obtain ⟨dst,op,gd⟩:=g;simp only at ah hv;subst ah;simp only[iS,hn] at hg;cases op <;>simp only at hg <;>(try (cases hg;done)) <;>simp only[bq] at hv <;>(try (cases hv;done))
 case mv x=>simp only[v6] at hv;exact hv▸tm h hg
 case nilC x =>
  have:=tm h hg;generalize ak A x=u at hv this;cases u <;>simp only[mU] at hv <;>first | (cases hv;done) | (simp only[v6] at hv;exact hv▸this)
 case bin op x y=>exact Jj _ hv
 case conv k x=>split at hv <;>first | (cases hv;done) | (simp only[v6] at hv;subst hv;rfl)
 case lenT x=>split at hv <;>first | (cases hv;done) | (simp only[v6] at hv;subst hv;rfl)
 case len x=>(repeat' split at hv) <;>first | (cases hv;done) | (simp only[v6] at hv;subst hv;rfl)
 case bs0 e=>simp only[v6] at hv;subst hv;rfl
 case bs e ps =>
  split at hv
  ·split at hv
   ·rename_i hc;simp only[v6] at hv;subst hv;simp only[I.only];exact lU _ _ hc.2
   ·cases hv
  ·cases hv
 case fa f off x =>
  have hx:=tm h hg;split at hv
  ·rename_i fs he;rw[he] at hx;simp only[I.only] at hx;split at hv
   ·rename_i u hu;split at hv
    ·simp only[v6] at hv;subst hv;simp only[I.only];exact yl hx hu
    ·cases hv
   ·cases hv
  ·rename_i n q he;rw[he] at hx;simp only[I.only] at hx;split at hv
   ·split at hv
    ·simp only[v6] at hv;subst hv;simpa only[I.only] using hx
    ·cases hv
   ·cases hv
  ·cases hv
 case ia n esz x i =>
  have hx:=tm h hg;split at hv
  case h_2=>cases hv
  split at hv
  case isFalse=>cases hv
  split at hv
  ·rename_i fs he;rw[he] at hx;simp only[I.only] at hx;split at hv
   ·simp only[t7] at hv;obtain ⟨u,hu,rfl⟩:=hv;simp only[I.only];exact yl hx hu
   ·cases hv
  ·rename_i m q he;rw[he] at hx;simp only[I.only] at hx;split at hv
   ·split at hv
    ·simp only[v6] at hv;subst hv;simpa only[I.only] using hx
    ·cases hv
   ·cases hv
  ·cases hv
def gN(A:ai)(dst:Option Nat)(s:I)(B:ai):Prop:=(∀ t,dst≠some t→B.t t=A.t t)∧(s.only (fun _=>false)=true→ep A B)
def oJ(A:ai)(dst:Option Nat)(s:I)(R:(ai→cM)→cM):Prop :=
 (∀ k,R k=.fail)∨(∃ B,(∀ k,R k=k B)∧gN A dst s B)∨∃ (p:Nat→Prop) (bH:Nat→ai),(∀ k,R k=.any p fun m=>k (bH m))∧∀ m,gN A dst s (bH m)
theorem sR{A B:ai}{dst:Option Nat}{v:I}{t:Nat}(ht:∀ k,B.t k=A.t k)(h:dst≠some t):(B.aX dst v).t t=A.t t:=by
 cases dst with
 |none=>exact ht t
 |some d =>
  have:t≠d:=fun e=>h (by rw[e]);simp only[ai.aX,ai.put,if_neg this];exact ht t
theorem IK(A:ai)(dst:Option Nat)(esz bytes:Nat)(z s:I)(es ys:List I):oJ A dst s (gn A dst esz bytes z es ys):=by
 cases dst with
 |none=>exact .inl fun _=>rfl
 |some d =>
  cases ho:A.o d with
  |some y=>exact .inl fun k=>by simp only[gn,ho]
  |none =>
   by_cases hc:(es.length+ys.length)*bytes≤140737488355328∧es.length+ys.length≤maxLen
   ·refine .inr (.inr ⟨_,fun m=>(A.aV d (.box (.agg (es++(ys++List.replicate m z))))).aX (some d) (.view d [] esz 0 (es.length+ys.length)),fun k=>by simp only[gn,ho];rw[if_pos hc],fun m=>⟨fun t ht=>sR (A:=A) (B:=A.aV d _) (fun _=>rfl) ht,fun _ n y hy =>?_⟩⟩);have:n≠d:=fun e=>by rw[e,ho] at hy;cases hy
    rw[iW];simp only[ai.aV,if_neg this];exact hy
   ·exact .inl fun k=>by simp only[gn,ho];rw[if_neg hc]
theorem IQ(A:ai)(dst:Option Nat)(esz bytes:Nat)(z s:I)(es ys:Option (List I)):oJ A dst s (fb A dst esz bytes z s es ys):=by
 cases es with
 |none=>exact .inl fun _=>rfl
 |some es =>
  cases ys with
  |none=>exact .inl fun _=>rfl
  |some ys =>
   by_cases aZ:ys=[]
   ·exact .inr (.inl ⟨A.aX dst s,fun k=>by simp only[fb,if_pos aZ],fun t ht=>sR (A:=A) (fun _=>rfl) ht,fun _ n y hy=>by rw[iW];exact hy⟩)
   ·have gg:=fun s'=>IK A dst esz bytes z s' es ys;cases s
    case nils=>simp only[oJ,fb,if_neg aZ];exact gg _
    case c0=>simp only[oJ,fb,if_neg aZ];exact gg _
    case view n p sz lo l =>
     cases ho:A.o n with
     |none=>exact .inl fun k=>by simp only[fb,if_neg aZ,ho]
     |some y =>
      cases y with
      |box b =>
       cases hb:b.at p with
       |none=>exact .inl fun k=>by simp only[fb,if_neg aZ,ho,hb]
       |some c =>
        cases c
        case agg fs =>
         by_cases U:lo+l+ys.length≤fs.length
         ·by_cases ab:sz=esz∧I.cV ys=I.cV ((fs.drop (lo+l)).take ys.length)
          ·exact .inr (.inl ⟨(A.aV n (.box (jo b p (lo+l) fs ys))).aX dst (.view n p esz lo (l+ys.length)),fun k=>by simp only[fb,if_neg aZ,ho,hb,if_pos U];rw[if_pos ab],fun t ht=>sR (A:=A) (B:=A.aV n _) (fun _=>rfl) ht,fun h=>by simp[I.only] at h⟩)
          ·exact .inl fun k=>by simp only[fb,if_neg aZ,ho,hb,if_pos U];rw[if_neg ab]
         ·simp only[oJ,fb,if_neg aZ,ho,hb,if_neg U];exact gg _
        all_goals exact .inl fun k=>by simp only[fb,if_neg aZ,ho,hb]
      |_=>exact .inl fun k=>by simp only[fb,if_neg aZ,ho]
    all_goals exact .inl fun k=>by simp only[fb,if_neg aZ]
theorem zY(A:ai)(dst:Option Nat)(e esz bytes:Nat)(z:I)(s x:aR)(rest:List aw):oJ A dst (ak A s) (bo A dst (.dB e esz bytes z s x) rest):=by
 generalize hs:ak A s=zh;cases zh
 case own n l =>
  cases hx:ak A x
  case slice sz ys =>
   cases ho:A.o n with
   |none=>exact .inl fun k=>by simp only[bo,hs,hx,ho]
   |some y =>
    cases y with
    |bU T sz' es =>
     by_cases hc:yh e esz bytes l sz ys T sz' es
     ·exact .inr (.inl ⟨(A.aV n (.bU e esz (es++ys))).aX dst (.own n (es.length+ys.length)),fun k=>by simp only[bo,hs,hx,ho];rw[if_pos hc],fun t ht=>sR (A:=A) (B:=A.aV n _) (fun _=>rfl) ht,fun h=>by simp[I.only] at h⟩)
     ·exact .inl fun k=>by simp only[bo,hs,hx,ho];rw[if_neg hc]
    |dD T xs =>
     by_cases hc:yi e esz bytes l ys T xs z
     ·exact .inr (.inl ⟨(A.aV n (.dD e (xs++sa ys))).aX dst (.own n (xs.length+ys.length)),fun k=>by simp only[bo,hs,hx,ho];rw[if_pos hc],fun t ht=>sR (A:=A) (B:=A.aV n _) (fun _=>rfl) ht,fun h=>by simp[I.only] at h⟩)
     ·exact .inl fun k=>by simp only[bo,hs,hx,ho];rw[if_neg hc]
    |_=>exact .inl fun k=>by simp only[bo,hs,hx,ho]
  all_goals exact .inl fun k=>by simp only[bo,hs,hx]
 all_goals (simp only[oJ,bo,hs];exact IQ ..)
theorem yC{A:ai}{d:Nat}{v:I}{n:Nat}{y:ao}{dst:Option Nat}{u:I}(h:dst≠some d):((A.put d v).aV n y).aX dst u=((A.aV n y).aX dst u).put d v:=by
 cases dst with
 |none=>rfl
 |some e =>
  have:e≠d:=fun he=>h (by rw[he]);simp only[ai.aX,ai.put,ai.aV,ai.mk.injEq,and_true]
  funext k
  by_cases U:k=e <;>by_cases ab:k=d <;>simp_all
theorem Y3{A:ai}{d:Nat}{v:I}{dst:Option Nat}{u:I}(h:dst≠some d):(A.put d v).aX dst u=(A.aX dst u).put d v:=by
 cases dst with
 |none=>rfl
 |some e =>
  have:e≠d:=fun he=>h (by rw[he]);simp only[ai.aX,ai.put,ai.mk.injEq,and_true]
  funext k
  by_cases U:k=e <;>by_cases ab:k=d <;>simp_all
theorem IL{A:ai}{d:Nat}{v:I}{dst:Option Nat}(h:dst≠some d)(esz bytes:Nat)(z:I)(es ys:List I)(k:ai→cM):gn (A.put d v) dst esz bytes z es ys k=gn A dst esz bytes z es ys fun B=>k (B.put d v):=by
 cases dst with
 |none=>rfl
 |some e =>
  simp only[gn];have:(A.put d v).o=A.o:=rfl;rw[this];cases A.o e with
  |some _=>rfl
  |none =>
   simp only;split
   ·simp only[yC h]
   ·rfl
theorem IS{A:ai}{d:Nat}{v:I}{dst:Option Nat}(h:dst≠some d)(esz bytes:Nat)(z s:I)(es ys:Option (List I))(k:ai→cM):fb (A.put d v) dst esz bytes z s es ys k=fb A dst esz bytes z s es ys fun B=>k (B.put d v):=by
 have ho:(A.put d v).o=A.o:=rfl;cases es with
 |none=>rfl
 |some es =>
  cases ys with
  |none=>rfl
  |some ys =>
   simp only[fb];split
   ·rw[Y3 h]
   ·cases s <;>simp only[IL h,ho]
    rename_i n p sz lo l;cases A.o n with
    |none=>rfl
    |some y =>
     cases y with
     |box b =>
      simp only;cases b.at p with
      |none=>rfl
      |some c =>
       cases c <;>simp only[yC h]
     |_=>rfl
theorem IV{A:ai}{d:Nat}{v:I}{dst:Option Nat}(h:dst≠some d){e esz bytes:Nat}{z:I}{s x:aR}(hag:ed A (A.put d v) (s.sl++x.sl))(rest rest':List aw)(k:ai→cM) :
  bo (A.put d v) dst (.dB e esz bytes z s x) rest k=bo A dst (.dB e esz bytes z s x) rest' fun B=>k (B.put d v):=by
 have ho:(A.put d v).o=A.o:=rfl;have hsrc:∀ y,eC (A.put d v) esz y=eC A esz y:=fun y=>by cases y <;>rfl
 simp only[bo,dc hag.l,dc hag.r,hsrc];cases ak A s <;>simp only[IS h]
 rename_i n l;cases ak A x <;>simp only[ho]
 cases A.o n with
 |none=>rfl
 |some y=>cases y <;>simp only[yC h]
theorem cj.Bu{aE:en}{f:FuncId}{avs:List I}{a1 a2:Option (List I)}{dst:Option Nat}{rest:List aw}{A:ai}(hi:dy aE A)(ah:∀ d,dst=some d→iP aE d=none)(h:cj P Y hs K (.call f avs a1 a2 dst rest A)) :
  aT P Y false (fun B=>cj P Y hs K (aA rest B)∧dy aE B) (.call f avs a1 a2 dst [] A):=by
 have no:∀ {v:I},∀ d,dst=some d→∀ ns,iP aE d=some ns→v.only (fun n=>ns.contains n)=true:=fun d e ns hn=>by rw[ah d e] at hn;cases hn
 cases h with
 |flat r hc hf hw=>exact .flat r hc hf (.done ⟨hw,hi.put (fun _=>rfl) no⟩)
 |lead r hc hw=>exact .lead r hc (.done ⟨hw,hi.put (fun _=>rfl) no⟩)
 |bP ρ cargs post hc hg ha hb hw=>exact .bP false ρ [] cargs post rfl hc hg (by simp only[iQ,zx6,B3];exact ha) hb fun r os' hp=>.done ⟨hw r os' hp,hi.put (B:=au _ (df ρ os'++_)) (fun _=>rfl) no⟩
 |yf aJ ρ os cargs post _ hc hg ha hb hw=>exact .bP aJ ρ os cargs post rfl hc hg ha hb fun r os' hp=>.done ⟨hw r os' hp,hi.put (B:=au _ (df ρ os'++_)) (fun _=>rfl) no⟩
theorem cj.Kt{aE:en}{v:Value}{avs:List I}{dst:Option Nat}{rest:List aw}{A:ai}(hi:dy aE A)(ah:∀ d,dst=some d→iP aE d=none)(h:cj P Y hs K (.lE v avs dst rest A)) :
  aT P Y false (fun B=>cj P Y hs K (aA rest B)∧dy aE B) (.lE v avs dst [] A):=by
 have no:∀ {v:I},∀ d,dst=some d→∀ ns,iP aE d=some ns→v.only (fun n=>ns.contains n)=true:=fun d e ns hn=>by rw[ah d e] at hn;cases hn
 cases h with
 |Hf os cargs post hc hg ha hb hw=>exact .vN os cargs post rfl hc hg ha hb fun r os' hp=>.done ⟨hw r os' hp,hi.put (B:=au _ (df [] os'++_)) (fun _=>rfl) no⟩
theorem cj.one{aE:en}{A:ai}{g:aw}{rest:List aw}(hi:dy aE A)(ho:po g.op=true)(hL:iS aE g=true)(h:cj P Y hs K (bo A g.dst g.op rest (aA rest))):aT P Y false (fun B=>cj P Y hs K (aA rest B)∧dy aE B) (bo A g.dst g.op [] (aA [])):=by
 have hval:=fun v (hv:bq A g.op=some v)=>Ey hi hL hv;obtain ⟨dst,op,gd⟩:=g;simp only at ho h hval ⊢;have pure:jr op=true→aT P Y false (fun B=>cj P Y hs K (aA rest B)∧dy aE B) (bo A dst op [] (aA [])):=by
  intro hsm;rw[xz hsm] at h ⊢;cases hv:bq A op with
  |none=>rw[hv] at h;cases h
  |some v=>rw[hv] at h;exact .done ⟨h,hi.put (fun _=>rfl) (hval v hv)⟩
 have unl:(∀ ns d,dst=some d→iP aE d=some ns→iS aE ⟨dst,op,gd⟩=false)→∀ d,dst=some d→iP aE d=none:=fun U d ah=>by
  cases hn:iP aE d with
  |none=>rfl
  |some ns=>rw[U ns d ah hn] at hL;cases hL
 cases op with
 |alloc z =>
  cases dst with
  |none=>simp only[bo] at h;cases h
  |some d =>
   simp only[bo] at h ⊢;split at h
   case h_2=>cases h
   refine .done ⟨h,hi.put (B:=A.aV d _) (dst:=some d) (fun _=>rfl) fun d' e ns hn =>?_⟩;simp only[v6] at e;subst e;simpa only[iS,hn,I.only] using hL
 |box x =>
  cases dst with
  |none=>simp only[bo] at h;cases h
  |some d =>
   simp only[bo] at h ⊢;split at h
   case h_2=>cases h
   split at h
   case isFalse=>cases h
   rename_i hv;rw[if_pos hv];refine .done ⟨h,hi.put (B:=A.aV d _) (dst:=some d) (fun _=>rfl) fun d' e ns hn =>?_⟩;simp only[v6] at e;subst e;simpa only[iS,hn,I.only] using hL
 |bl s x v =>
  cases dst with
  |some d=>simp only[bo] at h;cases h
  |none =>
   simp only[bo] at h ⊢;split at h
   case h_2=>cases h
   rename_i n p hx;split at h
   case h_2=>cases h
   rename_i b hb;split at h
   case h_2=>cases h
   rename_i old hold;split at h
   case isFalse=>cases h
   rename_i hok;simp only[if_pos hok];exact .done ⟨h,fun s ns hn=>hi s ns hn⟩
 |call f args=>exact cj.Bu hi (unl fun ns d e hn=>by subst e;simp only[iS,hn]) h
 |fy x args =>
  have hu:=unl fun ns d e hn=>by subst e;simp only[iS,hn]
  simp only[bo] at h ⊢;split at h
  ·exact cj.Bu hi hu h
  ·exact cj.Kt hi hu h
  ·cases h
 |dB e esz bytes z s x =>
  have hu:=unl fun ns d e hn=>by subst e;simp only[iS,hn]
  have uD:∀ B,gN A dst (ak A s) B→dy aE B:=fun B hB t ns hn=>by
   rw[hB.1 t fun e=>by rw[hu t e] at hn;cases hn];exact hi t ns hn
  have hf:=zY A dst e esz bytes z s x;rcases hf rest with U | ⟨B,U,ab⟩ | ⟨p,bH,U,ab⟩
  ·rw[U] at h;cases h
  ·rw[U] at h;have:bo A dst (.dB e esz bytes z s x) [] (aA [])=aA [] B:=(show bo A dst (.dB e esz bytes z s x) [] (aA [])=bo A dst (.dB e esz bytes z s x) rest (aA []) from rfl).trans (U _);rw[this];exact .done ⟨h,uD B ab⟩
  ·rw[U] at h;have:bo A dst (.dB e esz bytes z s x) [] (aA [])=.any p fun m=>aA [] (bH m):=(show bo A dst (.dB e esz bytes z s x) [] (aA [])=bo A dst (.dB e esz bytes z s x) rest (aA []) from rfl).trans (U _);rw[this];exact .any rfl fun m hm=>.done ⟨h.zU m hm,uD _ (ab m)⟩
 |_=>first | exact pure rfl | cases ho
def gO(g:aw)(A:ai)(v:I):Prop:=(gT A g∧v=.undef)∨(pass A g∧bq A g.op=some v)
theorem cj.zb{A:ai}{g:aw}{rest:List aw}(hs':jr g.op=true)(h:cj P Y hs K (aA (g::rest) A)):∃ v,gO g A v∧cj P Y hs K (aA rest (A.aX g.dst v)):=by
 have step:pass A g→cj P Y hs K (bo A g.dst g.op rest (aA rest))→∃ v,gO g A v∧cj P Y hs K (aA rest (A.aX g.dst v)):=by
  intro hp h;rw[xz hs'] at h;cases hv:bq A g.op with
  |none=>rw[hv] at h;cases h
  |some v=>rw[hv] at h;exact ⟨v,.inr ⟨hp,hv⟩,h⟩
 simp only[aA] at h;split at h
 ·rename_i hg;exact step (by simp only[pass,hg]) h
 ·rename_i t b hg;split at h
  ·rename_i b' hb;split at h
   ·rename_i hbb;subst hbb;exact step (by simp only[pass,hg];exact hb) h
   ·rename_i hbb;exact ⟨_,.inl ⟨by simp only[gT,hg];exact .inl (by rw[hb,wo hbb]),rfl⟩,h⟩
  ·rename_i hb;exact ⟨_,.inl ⟨by simp only[gT,hg];exact .inr hb,rfl⟩,h⟩
  ·cases h
theorem tQ{A:ai}{g:aw}{rest:List aw}(hn:gT A g):aA (g::rest) A=aA rest (A.aX g.dst .undef):=by
 simp only[aA];cases hg:g.guard with
 |none=>simp only[gT,hg] at hn
 |some tb =>
  obtain ⟨t,b⟩:=tb;simp only[gT,hg] at hn;rcases hn with hn | hn
  ·simp only[hn];rw[if_neg (by cases b <;>simp)]
  ·simp only[hn]
theorem gO.to{A:ai}{g:aw}{rest:List aw}{v:I}(hs':jr g.op=true)(h:gO g A v):aA (g::rest) A=aA rest (A.aX g.dst v):=by
 rcases h with ⟨hn,rfl⟩ | ⟨hp,hv⟩
 ·exact tQ hn
 ·rw[oQ hp,xz hs',hv];rfl
theorem Nd{A A':ai}{p:Nat→Bool}(ho:∀ n,p n=true→A'.o n=A.o n){x:I}(hx:x.only p=true):cJ A' x=cJ A x:=by
 cases x <;>simp only[cJ]
 rename_i n q;rw[ho n (by simpa[I.only] using hx)]
mutual
theorem Ol{A A':ai}{p:Nat→Bool}(ho:∀ n,p n=true→A'.o n=A.o n):∀ {x:I},x.only p=true→bn false A' x=bn false A x
 | .own n k,h=>by simp only[bn];rw[ho n (by simpa[I.only] using h)]
 | .func f caps,h=>by simp only[bn];rw[ur ho (xs:=caps) (by simpa[I.only] using h)]
 | .agg fs,h=>by simp only[bn];rw[ur ho (xs:=fs) (by simpa[I.only] using h)]
 | .undef,_ | .du,_ | .bool _,_ | .int _ _,_ | .bR _,_ | .nilp,_ | .dA,_ | .dW,_ | .any,_ | .raw _,_ | .nils _,_ | .c0 _,_ | .slice _ _,_ | .tuple _,_ | .ref _,_ | .iface _ _,_ | .ptr _ _,_ | .view _ _ _ _ _,_ | .mref _,_ | .dp _,_ | .dk _ _,_=>by simp[bn]
theorem ur{A A':ai}{p:Nat→Bool}(ho:∀ n,p n=true→A'.o n=A.o n):∀ {xs:List I},I.b6 p xs=true→bX false A' xs=bX false A xs
 | [],_=>rfl
 |x::xs,h=>by
  simp only[I.b6,t8] at h;simp only[bX,Ol ho h.1,ur ho h.2]
end
theorem EC{p:Nat→Bool}{f:aR→I} : ∀ {xs:List aR},(∀ x∈xs,(f x).only p=true)→I.b6 p (xs.map f)=true
 | [],_=>rfl
 |x::xs,h=>by
  simp only[zz4,I.b6,t8];exact ⟨h x (by simp),EC fun y hy=>h y (by simp[hy])⟩
theorem Xk{A A':ai}{p:Nat→Bool}(ho:∀ n,p n=true→A'.o n=A.o n){x:I}(hx:x.only p=true):gx A' x=gx A x:=by
 cases x with
 |mref n=>simp only[gx];rw[ho n (by simpa[I.only] using hx)]
 |raw v=>cases v <;>first | rfl | (rename_i o;cases o <;>rfl)
 |_=>rfl
theorem YT{A A':ai}{op:bS}{xs:List Nat}{p:Nat→Bool}(hm:n8 op=some xs)(h:ed A A' op.cU)(hx:∀ s∈xs,(A.t s).only p=true)(ho:∀ n,p n=true→A'.o n=A.o n):bq A' op=bq A op:=by
 have jz:op.gZ=0→bq A' op=bq A op:=fun hc=>yB hc h;have dl:=fun {x:I} (hx:x.only p=true)=>Nd ho hx;unfold n8 at hm;split at hm
 ·rename_i s x;simp only[v6] at hm;subst hm;have e:=h x (by simp[bS.cU,aR.sl]);simp only[bq,ak,e,dl (hx x (by simp))]
 ·rename_i f off x;simp only[v6] at hm;subst hm;have e:=h x (by simp[bS.cU,aR.sl]);have k:=hx x (by simp);simp only[bq,ak,e];generalize A.t x=u at k ⊢;cases u with
  |ptr n q=>simp only[dl (x:=.ptr n q) k]
  |ref c=>cases c <;>rfl
  |_=>rfl
 ·rename_i n esz x i;simp only[v6] at hm;subst hm;have e:=h x (by simp[bS.cU,aR.sl]);have ei:=dc (x:=i) (fun m hm=>h m (by simp[bS.cU,hm]));have k:=hx x (by simp);simp only[bq,ei];generalize ak A i=w;simp only[ak,e];generalize A.t x=u at k ⊢;cases u with
  |ptr n q=>simp only[dl (x:=.ptr n q) k]
  |ref c=>cases c <;>rfl
  |_=>rfl
 ·rename_i esz x i;simp only[v6] at hm;subst hm;have e:=h x (by simp[bS.cU,aR.sl]);have ei:=dc (x:=i) (fun m hm=>h m (by simp[bS.cU,hm]));have k:=hx x (by simp);simp only[bq,ei];generalize ak A i=w;simp only[ak,e];generalize A.t x=u at k ⊢;cases u with
  |own n l=>simp only[ho n (by simpa[I.only] using k)]
  |view n q=>simp only[dl (x:=.ptr n q) (by simpa[I.only] using k)]
  |_=>rfl
 ·rename_i x;simp only[v6] at hm;subst hm;have e:=h x (by simp[bS.cU,aR.sl]);have k:=hx x (by simp);simp only[bq,ak,e];generalize A.t x=u at k ⊢;cases u with
  |own n l=>simp only[ho n (by simpa[I.only] using k)]
  |_=>rfl
 ·rename_i n esz x;simp only[v6] at hm;subst hm;have e:=h x (by simp[bS.cU,aR.sl]);have k:=hx x (by simp);simp only[bq,ak,e];generalize A.t x=u at k ⊢;cases u with
  |ptr n q=>simp only[dl (x:=.ptr n q) k]
  |ref c=>cases c <;>rfl
  |_=>rfl
 ·rename_i esz x lo hi mx;simp only[v6] at hm;subst hm;have e:=h x (by simp[bS.cU,aR.sl]);have e1:=qw (x:=lo) (fun m hm=>h m (by simp[bS.cU,hm]));have e2:=qw (x:=hi) (fun m hm=>h m (by simp[bS.cU,hm]));have e3:=qw (x:=mx) (fun m hm=>h m (by simp[bS.cU,hm]));have k:=hx x (by simp);simp only[bq,e1,e2,e3];generalize lo.map (ak A)=w1;generalize hi.map (ak A)=w2;generalize mx.map (ak A)=w3;simp only[ak,e];generalize A.t x=u at k ⊢;cases u with
  |view n q=>simp only[dl (x:=.ptr n q) (by simpa[I.only] using k)]
  |_=>rfl
 ·rename_i x;simp only[v6] at hm;subst hm;have e:=h x (by simp[bS.cU,aR.sl]);have k:=hx x (by simp);simp only[bq,ak,e];generalize A.t x=u at k ⊢;cases u with
  |view n q=>simp only[dl (x:=.ptr n q) (by simpa[I.only] using k)]
  |_=>rfl
 ·rename_i ty z ok x kk;simp only[v6] at hm;subst hm;have e:=h x (by simp[bS.cU,aR.sl]);have ek:=dc (x:=kk) (fun m hm=>h m (by simp[bS.cU,hm]));have k:=hx x (by simp);simp only[bq,ek];generalize ak A kk=w;simp only[ak,e,Xk ho k]
 ·rename_i esz ps;split at hm
  case isFalse=>cases hm
  rename_i hall;simp only[v6] at hm;subst hm;have hev:ps.map (ak A')=ps.map (ak A):=mI h;have hon:I.b6 p (ps.map (ak A))=true:=EC fun x hx'=>by
   have U:=zx2.1 hall x hx';cases x with
   |c _=>cases U
   |t s=>exact hx s (by simp only[kc,List.mem_flatMap];exact ⟨_,hx',by simp[aR.sl]⟩)
  simp only[bq,hev,ur ho hon]
 ·rfl
 ·split at hm
  ·rename_i hc;exact jz hc.1
  ·cases hm
theorem zV{aE:en}{A:ai}{g:aw}{p:Nat→Bool}(hi:dy aE A)(h:tR aE g p=true):∃ xs,n8 g.op=some xs∧∀ s∈xs,(A.t s).only p=true:=by
 unfold tR at h;split at h
 case h_2=>cases h
 rename_i xs hm;refine ⟨xs,hm,fun s hs' =>?_⟩;have U:=zx2.1 h s hs';split at U
 case h_2=>cases U
 rename_i ns hn;exact jh (fun n ab=>zx2.1 U n (by simpa using ab)) _ (hi s ns hn)
theorem gO.xV{A A':ai}{g:aw}{v:I}{xs:List Nat}{p:Nat→Bool}(h:gO g A v)(hm:n8 g.op=some xs)(ha:ed A A' g.cU)(hx:∀ s∈xs,(A.t s).only p=true)(ho:∀ n,p n=true→A'.o n=A.o n):gO g A' v:=by
 rcases h with ⟨h,rfl⟩ | ⟨h,k⟩
 ·exact .inl ⟨qQ ha h,rfl⟩
 ·exact .inr ⟨oc ha h,by rw[YT hm (aw.kE ha) hx ho];exact k⟩
theorem gO.uD{aE:en}{A:ai}{g:aw}{v:I}(hi:dy aE A)(hg:iS aE g=true)(h:gO g A v):dy aE (A.aX g.dst v):=by
 rcases h with ⟨_,rfl⟩ | ⟨_,k⟩
 ·exact hi.put (fun _=>rfl) fun _ _ _ _=>rfl
 ·exact hi.put (fun _=>rfl) (Ey hi hg k)
theorem gO.cR{A A':ai}{g:aw}{v:I}(h:gO g A v)(hu:ep A A')(ha:ed A A' g.cU):gO g A' v:=by
 rcases h with ⟨h,rfl⟩ | ⟨h,k⟩
 ·exact .inl ⟨qQ ha h,rfl⟩
 ·exact .inr ⟨oc ha h,EZ hu (aw.kE ha) k⟩
theorem Dr{aE:en}{g h:aw}(hi:nZ hs aE g h=true):jr g.op=true∧pt hs aE g h=true∧(∀ d,g.dst=some d→d∉h.cU)∧(∀ d,g.dst=some d→h.dst≠some d)∧(∀ d,h.dst=some d→d∉g.cU):=by
 simp only[nZ,t8] at hi;obtain ⟨U,ab,af,aq⟩:=hi;refine ⟨U,ab,fun d ah =>?_,fun d ah =>?_,fun d ah =>?_⟩
 ·rw[ah] at af;simp at af;exact af.1
 ·rw[ah] at af;simp at af;exact af.2
 ·rw[ah] at aq;simpa using aq
theorem zZ{aJ:Bool}{A A':ai}{ρ:List (Nat×Nat)}{os:List (Nat×ao)}(hu:ep A A'):∀ {xs cs:List I},ib aJ A ρ os xs cs→ib aJ A' ρ os xs cs
 | [],[],_=>trivial
 |x::xs,c::cs,h=>⟨h.1.imp id fun h=>Ct hu h,zZ hu h.2⟩
 | [],_::_,h=>h.elim
 |_::_,[],h=>h.elim
theorem Xw{A:ai}{d:Option Nat}{v:I}{ts:List (Nat×I)}{os:List (Nat×ao)}(h:A.aX d v=au ts os):∃ ts2,A=au ts2 os∧∀ X:List (Nat×ao),(au ts2 X).aX d v=au ts X:=by
 cases d with
 |none=>exact ⟨ts,h,fun _=>rfl⟩
 |some d =>
  have ht:∀ k,(A.aX (some d) v).t k=bI ts k:=fun k=>by rw[h];rfl
  have ho:A.o=aj os:=by
   have:(A.aX (some d) v).o=aj os:=by rw[h];rfl
   rwa [iW] at this
  refine ⟨(d,A.t d)::ts,?_,fun X =>?_⟩
  ·cases A with
   |mk t o =>
    simp only[au,ai.mk.injEq];refine ⟨funext fun k =>?_,ho⟩;have:=ht k;simp only[ai.aX,ai.put] at this;simp only[bI];by_cases hk:k=d
    ·subst hk;simp
    ·rw[if_neg hk] at this;have hk':¬ d=k:=fun e=>hk e.symm;simp only[hk,if_false];exact this
  ·simp only[ai.aX,ai.put,au,ai.mk.injEq,and_true]
   funext k
   have:=ht k;simp only[ai.aX,ai.put] at this;by_cases hk:k=d
   ·subst hk;simp at this ⊢;exact this
   ·have hk':¬ d=k:=fun e=>hk e.symm;simp only[bI,hk,if_false]
theorem YS{ρ:List (Nat×Nat)}{os0 os':List (Nat×ao)}{r:I}(hb:gm false ρ [] os0 r os'){n:Nat}{x:ao}(hx:aj os0 n=some x):aj (df ρ os'++os0) n=some x:=by
 rw[qM];cases hp:pre ρ os' n with
 |none=>exact hx
 |some m =>
  obtain ⟨U,ab⟩:=jk hp;have:=(hb.jZ m U (by simp[av,aj])).1;rw[ab,hx] at this;cases this
theorem cj.Kr{A B:ai}{j:aw}{v:I}{f:FuncId}{args:List aR}{dst:Option Nat}{rest:List aw}(hj:jr j.op=true)(hv:gO j A v)(hB:B=A.aX j.dst v)(hf:hs.contains f=false)(hag:ed A B (kc args))(ah:∀ d,j.dst=some d→dst≠some d)(hr:∀ d,dst=some d→d∉j.cU)
  (h:cj P Y hs K (.call f (args.map (ak B)) (bX true B (args.map (ak B))) (bX false B (args.map (ak B))) dst rest B)):cj P Y hs K (.call f (args.map (ak A)) (bX true A (args.map (ak A))) (bX false A (args.map (ak A))) dst (j::rest) A):=by
 have eo:B.o=A.o:=by rw[hB,iW]
 have cR:ep B A:=fun n x hx=>by rwa [←eo]
 have up':ep A B:=fun n x hx=>by rwa [eo]
 have eav:args.map (ak B)=args.map (ak A):=mI hag;rw[eav] at h;have cont:∀ r:I,cj P Y hs K (aA rest (B.aX dst r))→cj P Y hs K (aA (j::rest) (A.aX dst r)):=fun r hw=>by
  have U:gO j (A.aX dst r) v:=hv.cR (fun n x hx=>by rwa [iW]) (nd hr);rw[U.to hj,qW (fun d hd'=>fun e=>ah d e hd'),←hB];exact hw
 generalize e1:bX true B (args.map (ak A))=a1 at h;generalize e2:bX false B (args.map (ak A))=a2 at h;generalize hBm:B=B0 at h;cases h with
 |flat r hc hfl hw =>
  subst hBm;rw[lM cR e1];exact .flat r hc hfl (cont r hw)
 |lead r hc hw =>
  subst hBm;rw[lM cR e2];exact .lead r hc (cont r hw)
 |bP ρ cargs post hc hg ha hb hw =>
  rename_i ts os0;rw[hB] at hBm;obtain ⟨ts2,hA,hts⟩:=Xw hBm;have hA':=hA;clear cont;subst hA;refine .bP ρ cargs post hc hg (zZ (A:=au ts os0) (A':=au ts2 os0) (fun n x hx=>hx) ha) hb fun r os' hp =>?_;have U:gO j ((au ts2 (df ρ os'++os0)).aX dst (r.a8 (bx ρ))) v:=hv.cR (fun n x hx=>by
   rw[iW];exact YS (hb r os' hp) hx) (fun k hk=>by
    have:=nd (A:=au ts2 (df ρ os'++os0)) (v:=r.a8 (bx ρ)) hr k hk;rw[this];rfl)
  rw[U.to hj,qW (fun d hd'=>fun e=>ah d e hd'),hts];exact hw r os' hp
 |yf aJ ρ os cargs post hfs =>
  rw[hf] at hfs;cases hfs
theorem cj.tp{aE:en}{A:ai}{j g:aw}{rest:List aw}(hinv:dy aE A)(hi:nZ hs aE j g=true)(hw:cj P Y hs K (aA (j::g::rest) A)):cj P Y hs K (aA (g::j::rest) A):=by
 obtain ⟨hj,hl,i1,i2,i3⟩:=Dr hi;obtain ⟨v,hv,hw⟩:=cj.zb hj hw;have ag:ed (A.aX j.dst v) A g.cU:=(nd i1).symm;have ag':ed A (A.aX j.dst v) g.cU:=nd i1;have cR:ep (A.aX j.dst v) A:=fun n x hx=>by rwa [iW] at hx
 have up':∀ (d:Option Nat) (u:I),ep A (A.aX d u):=fun d u n x hx=>by rwa [iW]
 by_cases hsg:jr g.op=true
 ·obtain ⟨u,hu,hw⟩:=cj.zb hsg hw;rw[(hu.cR cR ag).to hsg,(hv.cR (up' _ _) (nd i3)).to hj,←qW i2];exact hw
 ·-- the guard
  have guard:(gT (A.aX j.dst v) g∧aA (g::rest) (A.aX j.dst v)=aA rest ((A.aX j.dst v).aX g.dst .undef))∨(pass (A.aX j.dst v) g∧aA (g::rest) (A.aX j.dst v)=bo (A.aX j.dst v) g.dst g.op rest (aA rest))∨aA (g::rest) (A.aX j.dst v)=.fail:=by
   cases hg:g.guard with
   |none=>exact .inr (.inl ⟨by simp only[pass,hg],by simp only[aA,hg]⟩)
   |some tb =>
    obtain ⟨t,b⟩:=tb;cases ht:(A.aX j.dst v).t t with
    |bool b' =>
     by_cases hbb:b'=b
     ·subst hbb;have hp:pass (A.aX j.dst v) g:=by simp only[pass,hg,ht]
      exact .inr (.inl ⟨hp,oQ hp⟩)
     ·have hn:gT (A.aX j.dst v) g:=by simp only[gT,hg];exact .inl (by rw[ht,wo hbb])
      exact .inl ⟨hn,tQ hn⟩
    |undef =>
     have hn:gT (A.aX j.dst v) g:=by simp only[gT,hg];exact .inr ht
     exact .inl ⟨hn,tQ hn⟩
    |_=>exact .inr (.inr (by simp only[aA,hg,ht]))
  rcases guard with ⟨hn,he⟩ | ⟨hp,he⟩ | he
  ·rw[he] at hw;rw[tQ (qQ ag hn),(hv.cR (up' _ _) (nd i3)).to hj,←qW i2];exact hw
  ·rw[he] at hw;rw[oQ (oc ag hp)];obtain ⟨dst,op,gd⟩:=g;simp only at hw hsg i2 i3 ⊢;cases op with
   |alloc z =>
    cases dst with
    |none=>simp only[bo] at hw;cases hw
    |some d =>
    simp only[bo] at hw ⊢;split at hw
    case h_2=>cases hw
    rename_i ho;rw[iW] at ho;simp only[ho];have U:gO j ((A.aV d (.box z)).put d (.ptr d [])) v:=hv.cR (fun n y hy=>by
     have:n≠d:=fun he=>by rw[he,ho] at hy;cases hy
     simp only[ai.put,ai.aV,this,if_false];exact hy) (fun k hk=>by
     have:k≠d:=fun he=>i3 d rfl (he▸hk);simp only[ai.put,ai.aV,this,if_false])
    rw[U.to hj];have e:((A.aX j.dst v).aV d (.box z)).put d (.ptr d [])=((A.aV d (.box z)).put d (.ptr d [])).aX j.dst v:=by
     cases hgd:j.dst with
     |none=>rfl
     |some e =>
      have hne:e≠d:=fun he=>i2 e hgd (by rw[he]);simp only[ai.aX,ai.put,ai.aV,ai.mk.injEq,and_true]
      funext k
      by_cases U:k=e <;>by_cases ab:k=d <;>simp_all
    rw[←e];exact hw
   |box x =>
    have ex:ak (A.aX j.dst v) x=ak A x:=dc (aw.kE ag');cases dst with
    |none=>simp only[bo] at hw;cases hw
    |some d =>
    simp only[bo] at hw ⊢;split at hw
    case h_2=>cases hw
    rename_i ho;rw[iW] at ho;simp only[ho];rw[ex] at hw;split at hw
    case isFalse=>cases hw
    rename_i hval;rw[if_pos hval];have U:gO j ((A.aV d (.box (ak A x))).put d (.ptr d [])) v:=hv.cR (fun n y hy=>by
     have:n≠d:=fun he=>by rw[he,ho] at hy;cases hy
     simp only[ai.put,ai.aV,this,if_false];exact hy) (fun k hk=>by
     have:k≠d:=fun he=>i3 d rfl (he▸hk);simp only[ai.put,ai.aV,this,if_false])
    rw[U.to hj];have e:((A.aX j.dst v).aV d (.box (ak A x))).put d (.ptr d [])=((A.aV d (.box (ak A x))).put d (.ptr d [])).aX j.dst v:=by
     cases hgd:j.dst with
     |none=>rfl
     |some e =>
      have hne:e≠d:=fun he=>i2 e hgd (by rw[he]);simp only[ai.aX,ai.put,ai.aV,ai.mk.injEq,and_true]
      funext k
      by_cases U:k=e <;>by_cases ab:k=d <;>simp_all
    rw[←e];exact hw
   |call f args =>
    simp only[bo] at hw ⊢;refine cj.Kr hj hv rfl (by simpa[pt,qJ] using hl) (aw.kE ag') i2 i3 hw
   |bl s y u =>
    cases dst with
    |some d=>simp only[bo] at hw;cases hw
    |none =>
    have ey:ak (A.aX j.dst v) y=ak A y:=dc (aw.kE ag').l;have eu:ak (A.aX j.dst v) u=ak A u:=dc (aw.kE ag').r;simp only[bo] at hw ⊢;rw[ey,eu,iW] at hw;cases hx:ak A y <;>simp only[hx] at hw ⊢ <;>try (cases hw;done)
    rename_i n q;cases ho:A.o n with
    |none=>rw[ho] at hw;cases hw
    |some ob =>
    rw[ho] at hw;cases ob <;>simp only at hw ⊢ <;>try (cases hw;done)
    rename_i b;cases hb:b.at q with
    |none=>rw[hb] at hw;cases hw
    |some old =>
    rw[hb] at hw;simp only at hw ⊢;split at hw
    case isFalse=>cases hw
    rename_i hok;rw[if_pos hok];have U:gO j (A.aV n (.box (b.eA q (ak A u)))) v:=by
     have none0:n8 j.op=some []→gO j (A.aV n (.box (b.eA q (ak A u)))) v:=fun hm=>hv.xV (p:=fun _=>false) hm (fun _ _=>rfl) (fun s hs'=>by cases hs') (fun m hm=>by cases hm);cases y with
     |c y =>
      simp only[pt,qJ,jr,Bool.false_or] at hl;split at hl
      ·rename_i hm;exact none0 hm
      ·cases hl
     |t y =>
      simp only[pt,qJ,jr,Bool.false_or] at hl;split at hl
      ·rename_i hm;exact none0 hm
      ·split at hl
       case h_2=>cases hl
       rename_i ms hms;obtain ⟨xs,hm,hx2⟩:=zV hinv hl;refine hv.xV hm (fun _ _=>rfl) hx2 fun m hm2 =>?_;have hn:=hinv y ms hms;simp only[ak] at hx;rw[hx] at hn;have:m≠n:=fun e=>by subst e;simp[I.only] at hn hm2;exact hm2 hn
       simp only[ai.aV,if_neg this]
    rw[U.to hj];have e:(A.aX j.dst v).aV n (.box (b.eA q (ak A u)))=(A.aV n (.box (b.eA q (ak A u)))).aX j.dst v:=by cases j.dst <;>rfl
    rw[←e];exact hw
   |dB e esz bytes z s x =>
    have hag:ed A (A.aX j.dst v) (s.sl++x.sl):=aw.kE ag';have he2:bo (A.aX j.dst v) dst (.dB e esz bytes z s x) rest (aA rest)=bo A dst (.dB e esz bytes z s x) (j::rest) fun B=>aA rest (B.aX j.dst v):=by
     cases hjd:j.dst with
     |none=>rfl
     |some d =>
      rw[hjd] at hag;exact IV (fun e=>i2 d hjd e) hag rest (j::rest) (aA rest)
    rw[he2] at hw;have fX:∀ B,gN A dst (ak A s) B→aA (j::rest) B=aA rest (B.aX j.dst v):=fun B hB=>by
     have hagB:ed A B j.cU:=fun k hk=>hB.1 k fun e=>i3 k e hk;have:gO j B v:=by
      simp only[pt,qJ,jr,Bool.false_or,Bool.or_eq_true] at hl;rcases hl with hl | hl
      ·obtain ⟨xs,hm,hx2⟩:=zV hinv hl;exact hv.xV hm hagB hx2 fun m hm2=>by cases hm2
      ·have:=tm hinv hl;exact hv.cR (hB.2 (by simpa using this)) hagB
     rw[this.to hj]
    rcases zY A dst e esz bytes z s x (j::rest) with U | ⟨B,U,ab⟩ | ⟨p,bH,U,ab⟩
    ·rw[U] at hw;cases hw
    ·rw[U] at hw ⊢;rw[fX B ab];exact hw
    ·rw[U] at hw ⊢;exact .any fun m hm=>by rw[fX _ (ab m)];exact hw.zU m hm
   |_=>first | exact absurd rfl hsg | (simp[pt,qJ,jr] at hl)
  ·rw[he] at hw;cases hw
theorem cj.ql{aE:en}{g:aw} : ∀ {l:List aw} {r:List aw} {A:ai},dy aE A→(∀ j∈l,nZ hs aE j g=true∧iS aE j=true)→cj P Y hs K (aA (l++g::r) A)→cj P Y hs K (aA (g::(l++r)) A)
 | [],r,A,_,_,h=>h
 |j::l,r,A,hinv,hi,h=>by
  have hj:=(Dr (hi j (by simp)).1).1;obtain ⟨v,hv,ab⟩:=cj.zb (g:=j) (rest:=l++g::r) hj h;have af:=cj.ql (l:=l) (r:=r) (hv.uD hinv (hi j (by simp)).2) (fun k hk=>hi k (by simp[hk])) ab;refine cj.tp hinv (hi j (by simp)).1 ?_;rw[hv.to hj];exact af
end
def sF:List Nat→Bool
 | []=>true
 |a::l => !l.contains a&&sF l
def rC(hs:List FuncId)(aE:en)(gs:List aw)(cl:List Nat):List Nat→List Nat→Bool
 |_,[]=>true
 |before,i::σ=>(before.all fun j=>(cl.getD i 0).testBit j||nZ hs aE (gs.getD j default) (gs.getD i default))&&rC hs aE gs cl (i::before) σ
def vd(hs:List FuncId)(aE:en)(on:List (List Nat))(gs:List aw)(cl:List Nat)(σ:List Nat):Bool :=
 (Nat.beq σ.length gs.length&&(sF σ&&(σ.all (fun i=>decide (i<gs.length))&&((List.range gs.length).all (fun i=>σ.contains i)&&gs.all fun g=>po g.op&&iS aE g))))&&(rC hs aE gs cl [] σ&&(List.range gs.length).all fun i=>(on.getD i []).all (fun k=>decide (k<i))&&Nat.beq (cl.getD i 0) (mj cl (on.getD i [])))
theorem yc:∀ {l:List Nat},sF l=true→l.Nodup
 | [],_=>List.nodup_nil
 |a::l,h=>by
  simp only[sF,t8,Bool.not_eq_true',List.contains_eq_mem,decide_eq_false_iff_not] at h;exact List.nodup_cons.2 ⟨h.1,yc h.2⟩
theorem wa{hs:List FuncId}{aE:en}{gs:List aw}{cl:List Nat} : ∀ {σ before:List Nat},rC hs aE gs cl before σ=true→∀ s1 i s2,σ=s1++i::s2→∀ j,j∈before∨j∈s1→(cl.getD i 0).testBit j=true∨nZ hs aE (gs.getD j default) (gs.getD i default)=true
 | [],_,_,s1,i,s2,e,_,_=>by cases s1 <;>cases e
 |a::σ,before,h,s1,i,s2,e,j,hj=>by
  simp only[rC,t8,zx2,Bool.or_eq_true] at h;cases s1 with
  |nil =>
   simp only[zx3,zv0] at e;obtain ⟨rfl,rfl⟩:=e;rcases hj with hj | hj
   ·exact h.1 j hj
   ·cases hj
  |cons b s1 =>
   simp only[zz2,zv0] at e;obtain ⟨rfl,rfl⟩:=e;refine wa h.2 s1 i s2 rfl j ?_;rcases hj with hj | hj
   ·exact .inl (List.mem_cons_of_mem _ hj)
   ·rcases zw9.1 hj with hj | hj
    ·exact .inl (by rw[hj];exact List.mem_cons_self)
    ·exact .inr hj
def fM(σ:List Nat)(listed:Array Bool):List Nat:=σ.filter fun i => !listed.getD i true
def j7(gs:List aw)(σ:List Nat)(listed:Array Bool):List aw:=(fM σ listed).map fun i=>gs.getD i default
theorem Gg{σ:List Nat}{listed:Array Bool}{i:Nat}(hn:σ.Nodup)(hi:i∈σ)(hl:i<listed.size)(hu:listed.getD i true=false):∃ s1 s2,σ=s1++i::s2∧fM σ listed=(s1.filter fun j => !listed.getD j true)++i::(s2.filter fun j => !listed.getD j true) ∧
  fM σ (listed.setIfInBounds i true)=(s1.filter fun j => !listed.getD j true)++(s2.filter fun j => !listed.getD j true):=by
 obtain ⟨s1,s2,rfl⟩:=List.append_of_mem hi;have same:∀ j,j≠i→(listed.setIfInBounds i true).getD j true=listed.getD j true:=fun j hj=>getD_set_ne true (Ne.symm hj);have hit:(listed.setIfInBounds i true).getD i true=true:=by simp[hl]
 have hnd:=zv2.1 hn;have U:∀ j∈s1,j≠i:=fun j hj=>hnd.2.2 j hj i List.mem_cons_self;have ab:∀ j∈s2,j≠i:=fun j hj e=>(List.nodup_cons.1 hnd.2.1).1 (e▸hj);refine ⟨s1,s2,rfl,?_,?_⟩
 ·simp only[fM,List.filter_append,zw0,hu,Bool.not_false,if_true]
 ·simp only[fM,List.filter_append,zw0,hit,Bool.not_true,zz3,if_false]
  congr 1
  ·exact List.filter_congr fun j hj=>by rw[same j (U j hj)]
  ·exact List.filter_congr fun j hj=>by rw[same j (ab j hj)]
structure zH (hs:List FuncId) (aE:en) (l:List Oper) (gs:List aw) (σ:List Nat):Prop where
 sG:σ.Nodup
 lt:∀ i∈σ,i<gs.length
 all:∀ i,i<gs.length→i∈σ
 ok:∀ g∈gs,po g.op=true∧iS aE g=true
 len:σ.length=gs.length
 gG:∀ i o,l[i]?=some o→∀ k∈ct o,k<i
 r9:∀ (S:Nat→Prop),(∀ i o,l[i]?=some o→S i→∀ k∈ct o,S k)→∀ s1 i s2 o,σ=s1++i::s2→l[i]?=some o→(∀ k∈ct o,S k)→∀ j∈s1,¬ S j→nZ hs aE (gs.getD j default) (gs.getD i default)=true
theorem YI{hs:List FuncId}{aE:en}{l:List Oper}{gs:List aw}{cl σ:List Nat}(hlen:gs.length=l.length)(h:vd hs aE (l.map ct) gs cl σ=true):zH hs aE l gs σ:=by
 simp only[vd,t8,zx2,decide_eq_true_eq,zy9,List.contains_eq_mem] at h;obtain ⟨⟨U,ab,af,aq,h5⟩,h6,h7⟩:=h;have fQ:∀ i o,l[i]?=some o→(∀ k∈ct o,k<i)∧(∀ j,(cl.getD i 0).testBit j=true→j∈ct o∨∃ k∈ct o,(cl.getD k 0).testBit j=true):=by
  intro i o ho;have hi:i<l.length:=(zz8.1 ho).1;have h8:=h7 i (by omega);have hon:(l.map ct).getD i []=ct o:=by simp[zz0,ho]
  rw[hon] at h8;have hb:=Nat.eq_of_beq_eq_true h8.2;exact ⟨h8.1,fun j hj=>tv (by rw[←hb];exact hj)⟩
 refine ⟨yc ab,af,aq,h5,Nat.eq_of_beq_eq_true U,fun i o ho=>(fQ i o ho).1,?_⟩;intro S hS s1 i s2 o e ho hon j hj hnj;have key:∀ n i o,i≤n→l[i]?=some o→(∀ k∈ct o,S k)→∀ j,(cl.getD i 0).testBit j=true→S j:=by
  intro n
  induction n with
  |zero =>
   intro i o hi ho hon j hj;obtain ⟨h8,h9⟩:=fQ i o ho;rcases h9 j hj with h | ⟨k,hk,_⟩
   ·exact hon j h
   ·have:=h8 k hk;omega
  |succ n ih =>
   intro i o hi ho hon j hj;obtain ⟨h8,h9⟩:=fQ i o ho;rcases h9 j hj with h | ⟨k,hk,hjk⟩
   ·exact hon j h
   ·have hki:=h8 k hk;have hkl:k<l.length:=Nat.lt_trans hki (zz8.1 ho).1;obtain ⟨ok,hok⟩:∃ ok,l[k]?=some ok:=⟨l[k],zx0 hkl⟩
    exact ih k ok (by omega) hok (hS k ok hok (hon k hk)) j hjk
 rcases wa h6 s1 i s2 e j (.inr hj) with h | h
 ·exact absurd (key i i o (zz5 _) ho hon j h) hnj
 ·exact h
section
variable {c:cX}
theorem C6{K:ai→Prop}{hs:List FuncId}{aE:en}{bj:Array Oper}{Q:Exit→Act→World→Prop}{o:Oper}{g:aw}{rest:List aw}{A:ai}{a:Act}{w:World}{Kw:Act→World→Prop}(hg:mD c.P c.n bj o=some g)(hi:dy aE A)(ho:po g.op=true∧iS aE g=true)(hwp:cj c.P c.Y hs K (aA (g::rest) A))(hs':b5 c A a w)
  (hK:∀ B a' w',cj c.P c.Y hs K (aA rest B)→dy aE B→b5 c B a' w'→Kw a' w'):if Region.wanted o (yielded bj a.tmps) then o.wpIn c.bH 9 c.P a w Kw Q else (∀ f,o.about c.P w a.eval=some f→c.bH.fn f)∧Kw (a.put o.dst undef) w:=by
 obtain ⟨U,ab,af,aq⟩:=oT hg;have step:cj c.P c.Y hs K (bo A g.dst g.op rest (aA rest))→o.wpIn c.bH 9 c.P a w Kw Q:=fun h =>
  uu U ab.symm (by rw[ab];exact af) (cj.one (Y:=c.Y) hi ho.1 ho.2 h) hs' (fun B a' w' hw hs2=>by
   cases hw with
   |done hk=>exact hK B a' w' hk.1 hk.2 hs2)
 simp only[aA] at hwp;rcases aq with ⟨h5,h6⟩ | ⟨j,b,t,h5,h6,h7⟩
 ·rw[h6] at hwp;have hw:Region.wanted o (yielded bj a.tmps)=true:=by simp[Region.wanted,h5]
  rw[hw,if_pos rfl];exact step hwp
 ·rw[h7] at hwp;simp only at hwp;split at hwp
  ·rename_i b' hb';rw[uA hs' h5 h6 hb'];split at hwp
   ·rename_i hbb;subst hbb;simp only[BEq.rfl,if_true];exact step hwp
   ·rename_i hbb;have:(b'==b)=false:=by simpa using hbb
    rw[this];simp only[zz3,if_false];exact ⟨fun f _=>mK c f,hK _ _ _ hwp (hi.put (fun _=>rfl) fun _ _ _ _=>rfl) (by rw[ab];exact hs'.oi af)⟩
  ·rename_i hb';rw[uB hs' h5 h6 hb'];simp only[zz3,if_false];exact ⟨fun f _=>mK c f,hK _ _ _ hwp (hi.put (fun _=>rfl) fun _ _ _ _=>rfl) (by rw[ab];exact hs'.oi af)⟩
  ·cases hwp
theorem II{K:ai→Prop}{fs:List FuncId}{aE:en}{bj:Array Oper}{gs:List aw}{σ:List Nat}{Q:Exit→Act→World→Prop}(hQ:∀ B a w,K B→b5 c B a w→Q .normal a w)(hgs:gu c.P c.n bj bj.toList=some gs)(ah:zH fs aE bj.toList gs σ) :
  ∀ (fuel:Nat) (listed:Array Bool) (A:ai) (a:Act) (w:World),listed.size=bj.size→(∀ i o,bj.toList[i]?=some o→listed.getD i false=true→∀ k∈ct o,listed.getD k false=true)→(fM σ listed).length≤fuel →
   dy aE A→cj c.P c.Y fs K (aA (j7 gs σ listed) A)→b5 c A a w→wpAnyIn c.bH 9 c.P .any bj Q fuel listed a w:=by
 obtain ⟨hlen,hat⟩:=kQ hgs;have onOf_mem:∀ (o:Oper) (e:Edge),e∈o.after→Region.binds .any e=true→e.on∈ct o:=fun o e he hb=>by
  simp only[ct,zy5,zx5];exact ⟨e,⟨by simpa using he,hb⟩,rfl⟩
 have of_onOf:∀ (o:Oper) (k:Nat),k∈ct o→∃ e∈o.after,Region.binds .any e=true∧e.on=k:=fun o k hk=>by
  simp only[ct,zy5,zx5] at hk;obtain ⟨e,⟨U,ab⟩,af⟩:=hk;exact ⟨e,by simpa using U,ab,af⟩
 have hgl:gs.length=bj.size:=by rw[hlen,zw2]
 have last:∀ (listed:Array Bool) (A:ai) (a:Act) (w:World),listed.size=bj.size→Region.ready .any bj listed=[]→cj c.P c.Y fs K (aA (j7 gs σ listed) A)→b5 c A a w→Q .normal a w:=by
  intro listed A a w hsz hr hwp hs;have hnone:fM σ listed=[]:=by
   have all:∀ n,∀ i,i<n→i<bj.size→listed.getD i true=true:=by
    intro n
    induction n with
    |zero=>intro i hi;omega
    |succ n ih =>
     intro i hi his;cases hb:listed.getD i true with
     |true=>rfl
     |false =>
      exfalso
      have ho:bj[i]?=some bj[i]:=Array.getElem?_eq_getElem his;have:i∈Region.ready .any bj listed:=mem_ready.2 ⟨hb,bj[i],ho,fun e he hbd=>by
       have hlt:=ah.gG i bj[i] (by simp) e.on (onOf_mem _ e he hbd);have U:=ih e.on (by omega) (by omega);have ab:e.on<listed.size:=by omega
       simpa[Array.getD_eq_getD_getElem?,ab] using U⟩
      rw[hr] at this;cases this
   simp only[fM];refine List.filter_eq_nil_iff.2 fun i hi =>?_;have:=all (i+1) i (by omega) (by rw[←hgl];exact ah.lt i hi);simp only[this,Bool.not_true,zz3,not_false_eq_true]
  simp only[j7,hnone,zx6,aA] at hwp;cases hwp with
  |done hk=>exact hQ A a w hk hs
 intro fuel
 induction fuel with
 |zero =>
  intro listed A a w hsz hcl hcnt hinv hwp hs;have hnone:fM σ listed=[]:=List.length_eq_zero_iff.1 (by omega);have hr:Region.ready .any bj listed=[]:=by
   refine List.eq_nil_iff_forall_not_mem.2 fun i hi =>?_;obtain ⟨U,o,ho,_⟩:=mem_ready.1 hi;have:i∈fM σ listed:=by
    simp only[fM,zx5,U,Bool.not_false,and_true];exact ah.all i (by rw[hgl];exact (zy7.1 ho).1)
   rw[hnone] at this;cases this
  exact ⟨hr,last listed A a w hsz hr hwp hs⟩
 |succ fuel ih =>
  intro listed A a w hsz hcl hcnt hinv hwp hs;refine ⟨fun hr=>last listed A a w hsz hr hwp hs,fun i hi =>?_⟩;obtain ⟨hun,o,ho,hall⟩:=mem_ready.1 hi;have hin:i<bj.size:=(zy7.1 ho).1;obtain ⟨s1,s2,hσ,e1,e2⟩:=Gg ah.sG (ah.all i (by omega)) (by omega) hun;have hol:bj.toList[i]?=some o:=by simpa using ho
  obtain ⟨g,hgi,hcg⟩:=hat i o hol;have hon:∀ k∈ct o,listed.getD k false=true:=fun k hk=>by
   obtain ⟨e,U,ab,af⟩:=of_onOf o k hk;exact af▸hall e U ab
  have hgd:gs.getD i default=g:=by simp[zz0,hgi]
  have hwp':cj c.P c.Y fs K (aA (g::j7 gs σ (listed.setIfInBounds i true)) A):=by
   simp only[j7,e1,zy8,zz4,hgd] at hwp;simp only[j7,e2,zy8];refine cj.ql hinv (fun j hj =>?_) hwp;obtain ⟨k,hk,rfl⟩:=zy5.1 hj;obtain ⟨hk1,hk2⟩:=zx5.1 hk;have:=ah.r9 (fun k=>listed.getD k false=true) hcl s1 i s2 o hσ hol hon k hk1 (by
    have hks:k<listed.size:=by
     have:=ah.lt k (by rw[hσ];exact List.mem_append_left _ hk1);omega
    simp[Array.getD_eq_getD_getElem?,hks] at hk2 ⊢;exact hk2)
   rw[hgd] at this;refine ⟨this,(ah.ok _ ?_).2⟩;have hkl:=ah.lt k (by rw[hσ];exact List.mem_append_left _ hk1);rw[zz0,zx0 hkl];exact zw7 _
  unfold wpOpIn;rw[ho];refine C6 hcg hinv (ah.ok g (List.mem_of_getElem? hgi)) hwp' hs fun B a' w' hw hiB hs'=>ih _ B a' w' (by simpa using hsz) ?_ ?_ hiB hw hs'
  ·intro m om hom hm k hk;by_cases hmi:m=i
   ·subst hmi;rw[hol,v6] at hom;subst hom;exact getD_set_true (hon k hk)
   ·rw[getD_set_ne false (Ne.symm hmi)] at hm;exact getD_set_true (hcl m om hom hm k hk)
  ·have:(fM σ listed).length=(fM σ (listed.setIfInBounds i true)).length+1:=by
    rw[e1,e2];simp;omega
   omega
def gJ(σ:List Nat)(gs:List aw):List aw:=σ.map fun i=>gs.getD i default
theorem ae.Zf{Q:Exit→ai→Prop}{A:ai}{on:List (List Nat)}{gs:List aw}(hs:List FuncId)(aE:en)(cl σ:List Nat)(ah:vd hs aE on gs cl σ=true)(hi:dy aE A)(h:∀ K:ai→Prop,(∀ B,Q .normal B→K B)→cj c.P c.Y hs K (aA (gJ σ gs) A)):ae c (.cm (some on) gs) Q A:=by
 intro code hc a w hs';cases code <;>simp only[eE] at hc <;>try (first | (cases hc;done) | ((repeat' split at hc) <;>cases hc;done))
 rename_i id bj draw;split at hc
 ·rename_i gs' hgs;split at hc
  case isFalse=>cases hc
  rename_i hok;simp only[v6,bD.cm.injEq] at hc;obtain ⟨he,rfl⟩:=hc;cases draw with
  |false=>cases he
  |true =>
   simp only[cond_true,v6] at he;subst he;simp only[Bool.not_true,Bool.false_or] at hok;have hp:=YI (kQ hgs).1 ah;refine wpIn_region_any hok (II (K:=Q .normal) (fun B a w hk hs=>⟨B,hk,hs⟩) hgs hp bj.size (Array.replicate bj.size false) A a _ (by simp) ?_ ?_ hi ?_ ?_)
   ·intro i o _ h
    exfalso
    simp only[Array.getD_eq_getD_getElem?,Array.getElem?_replicate] at h;split at h <;>simp at h
   ·refine Nat.le_trans (List.length_filter_le _ _) ?_;rw[hp.len,(kQ hgs).1,zw2];exact zz5 _
   ·have hall:fM σ (Array.replicate bj.size false)=σ:=by
     simp only[fM];refine List.filter_eq_self.2 fun i hi =>?_;have U:=hp.lt i hi;rw[(kQ hgs).1,zw2] at U;simp[U]
    simp only[j7,hall];exact h _ fun _ hb=>hb
   ·obtain ⟨D,E,hs'⟩:=hs';exact ⟨D,E,hs'.grow (w' := { w with drawn:=w.drawn+1 }) ⟨rfl,rfl,rfl,zz5 _,fun _ _=>rfl⟩ (fun _ _ h=>h) (fun _ _ h _=>h) (fun b o h=>hs'.aQ b o h)⟩
 ·cases hc
def gI(ts:List (Nat×I)):en→Prop
 | []=>True
 |(s,ns)::aE=>(bI ts s).only (fun n=>ns.contains n)=true∧gI ts aE
theorem dy.of{ts:List (Nat×I)}{os:List (Nat×ao)}{aE:en}(h:gI ts aE):dy aE (au ts os):=by
 intro s ns hn;simp only[au]
 induction aE with
 |nil=>cases hn
 |cons q aE ih =>
  obtain ⟨s',ns'⟩:=q;simp only[gI] at h;simp only[iP,List.find?_cons] at hn;split at hn
  ·rename_i e;simp only[zy2,v6] at hn;simp only[beq_iff_eq] at e;subst e hn;exact h.1
  ·exact ih h.2 hn
end
end Go.Abs
namespace Go.Abs
open Go Go.RowKit
open Enc (enc)
section
variable {α:Type} [Enc α] {P:Program} {Y:Value→List I→List (Nat×ao)→cA→Prop} {K:ai→Prop} {A:ai} {rest:List aw} {esz bytes:Nat}
theorem tk{n lo k:Nat}{xs:List α}(ho:A.o n=some (.box (.agg (xs.map enc))))(h:lo+k≤xs.length):eC A esz (.view n [] esz lo k)=some (((xs.drop lo).take k).map enc):=by
 have U:cJ A (.ptr n [])=some (.agg (xs.map enc)):=by simp only[cJ,ho];rfl
 simp only[eC,U,zz7];rw[if_pos ⟨h,trivial⟩,List.map_take,List.map_drop]
theorem ZR{xs ys:List α}(h:xs.length=ys.length):I.cV (xs.map enc)=I.cV (ys.map enc):=by
 rw[tg,tg,h]
theorem zX{d:Option Nat}{e:Nat}(z:I)(hs:Enc.sz α=esz){n l:Nat}{xs ys:List α}(hy:ys≠[])(ho:A.o n=some (.box (.agg (xs.map enc))))(hr:l+ys.length≤xs.length) :
  fp A d e esz bytes z (enc ys) rest (.view n [] esz 0 l)=aA rest ((A.aV n (.box (.agg ((xs.take l++(ys++xs.drop (l+ys.length))).map enc)))).aX d (.view n [] esz 0 (l+ys.length))):=by
 have U:=tk (A:=A) (esz:=esz) (lo:=0) (k:=l) ho (by omega);have ab:(I.agg (xs.map (enc (α:=α)))).at []=some (.agg (xs.map enc)):=rfl;have af:I.cV (ys.map (enc (α:=α)))=I.cV (((xs.map (enc (α:=α))).drop l).take ys.length):=by
  rw[←List.map_drop,←List.map_take];exact ZR (by rw[zx7,List.length_drop];omega)
 simp only[fp,U,mb A esz ys hs,fb];rw[if_neg (by simpa using hy)];simp only[ho,ab,zz7,zz1];rw[if_pos hr,if_pos ⟨rfl,by rw[zz7,zz1];exact af⟩];simp only[jo,ri,zz7,zy8,List.map_take,List.map_drop]
theorem aT.IM{d e:Nat}(z:α)(hs:Enc.sz α=esz){n l:Nat}{xs ys:List α}(hy:ys≠[])(ho:A.o n=some (.box (.agg (xs.map enc))))(hl:l≤xs.length)(hr:xs.length<l+ys.length)(hf:A.o d=none)(hb:(l+ys.length)*bytes≤140737488355328)(hml:l+ys.length≤maxLen)
  (h:∀ q,aT P Y false K (aA rest ((A.aV d (.box (.agg ((xs.take l++(ys++List.replicate q z)).map enc)))).aX (some d) (.view d [] esz 0 (l+ys.length))))):aT P Y false K (fp A (some d) e esz bytes (enc z) (enc ys) rest (.view n [] esz 0 l)):=by
 have U:=tk (A:=A) (esz:=esz) (lo:=0) (k:=l) ho (by omega);have ab:(I.agg (xs.map (enc (α:=α)))).at []=some (.agg (xs.map enc)):=rfl;have aq:(xs.take l).length=l:=by rw[zx7];omega
 simp only[fp,U,List.drop_zero,mb A esz ys hs,fb];rw[if_neg (by simpa using hy)];simp only[ho,ab,zz7,zz1];rw[if_neg (by omega)];simp only[gn,hf,zz7,aq];rw[if_pos ⟨hb,hml⟩];refine .any rfl fun q _ =>?_;have:=h q;simp only[zy8,List.map_replicate] at this;exact this
theorem aT.IP{d e q0:Nat}(z:α){l:List α}(hs:Enc.sz α=esz)(hl:l≠[])(hf:A.o d=none)(hb:l.length*bytes≤140737488355328)(hml:l.length≤maxLen)
  (h:∀ m,aT P Y false K (aA rest ((A.aV d (.box (.agg ((l++List.replicate m z).map enc)))).aX (some d) (.view d [] esz 0 l.length)))):aT P Y false K (fp A (some d) e esz bytes (enc z) (enc l) rest (.nils q0)):=by
 have hne:l.map (enc (α:=α))≠[]:=by simpa using hl
 have U:eC A esz (.nils q0)=some []:=rfl;simp only[fp,U,mb A esz l hs,fb,if_neg hne,gn,hf,List.length_nil,zz1,zz7,if_pos (y6 hb hml),zx3];refine .any rfl fun m _ =>?_;have:=h m;simp only[zy8,List.map_replicate] at this;exact this
end
theorem aaL(k:Nat):bI [] k=.du:=rfl
def ir(aE:List Nat):List (Nat×I)→List (Nat×I)
 | []=>[]
 |(s,v)::ts=>if aE.contains s=true then (s,v)::ir aE ts else ir aE ts
theorem WV(aE:List Nat):ir aE []=[]:=rfl
theorem WU(aE:List Nat)(s:Nat)(v:I)(ts:List (Nat×I)):ir aE ((s,v)::ts)=if aE.contains s=true then (s,v)::ir aE ts else ir aE ts:=rfl
theorem D5(aE:List Nat)(t:Nat):∀ ts,bI (ir aE ts) t=.du∨bI (ir aE ts) t=bI ts t
 | []=>.inl rfl
 |(s,v)::ts=>by
  simp only[ir];have ih:=D5 aE t ts;by_cases hs:aE.contains s=true
  ·rw[if_pos hs];simp only[bI];split
   ·exact .inr rfl
   ·exact ih
  ·rw[if_neg hs];simp only[bI];split
   ·rename_i e;subst e
    left
    have:∀ ts,bI (ir aE ts) t=.du:=by
     intro ts
     induction ts with
     |nil=>rfl
     |cons q ts ih2 =>
      obtain ⟨s',v'⟩:=q;simp only[ir];split
      ·rename_i h';simp only[bI];have:t≠s':=fun e=>hs (e▸h');rw[if_neg this];exact ih2
      ·exact ih2
    exact this ts
   ·exact ih
theorem ae.ez(aE:List Nat){c:cX}{x:bD}{Q:Exit→ai→Prop}{ts:List (Nat×I)}{os:List (Nat×ao)}(h:ae c x Q (au (ir aE ts) os)):ae c x Q (au ts os):=by
 refine ae.sub ?_ h;rintro cc a w ⟨D,E,hs⟩;refine ⟨D,E,hs.sz,hs.eB,fun t =>?_,hs.dG,hs.cZ,hs.aQ,hs.bP,hs.cO,hs.dQ,hs.eL,hs.cR,hs.eV,hs.fw⟩;simp only[au];rcases D5 aE t ts with e | e
 ·rw[e];simp[bg]
 ·rw[e];exact hs.dN t
theorem DJ:(∀ aE,ir aE []=[])∧(∀ aE s v ts,ir aE ((s,v)::ts)=if aE.contains s=true then (s,v)::ir aE ts else ir aE ts)∧(∀ (a:Nat) l b,(a::l).contains b=(b==a||l.contains b))∧(∀ b:Nat,([]:List Nat).contains b=false)∧(∀ b,(false||b)=b)∧(∀ b,(true||b)=true)∧(∀ b,(b||true)=true)∧(∀ b,(b||false)=b)∧((false=true)=False) :=
 ⟨WV,WU,fun _ _ _=>List.contains_cons,fun _=>rfl,fun _=>rfl,fun _=>rfl,fun b=>by cases b <;>rfl,fun b=>by cases b <;>rfl,by simp⟩
end Go.Abs
namespace Go.Abs
open Go Go.RowKit
open Enc (enc)
def xW:Option ao→Option (List I×List I)
 |some (.bA ks vs)=>some (ks,vs)
 |_=>none
noncomputable def sB(A:ai)(n:Nat)(rest:List aw):Option (List I×List I)→cM
 |some (ks,vs)=>aA rest (A.aV n (.bA ks vs))
 |none=>.fail
noncomputable def x6(A:ai)(n:Nat)(ty:cD)(k v:I)(rest:List aw):Option ao→cM
 |some (.bA ks vs)=>sB A n rest (fE ty k v ks vs)
 |_=>.fail
noncomputable def x5(A:ai)(ty:cD)(k v:I)(rest:List aw):I→cM
 | .mref n=>x6 A n ty k v rest (A.o n)
 |_=>.fail
noncomputable def x1(A:ai)(n:Nat)(ty:cD)(k:I)(rest:List aw):Option ao→cM
 |some (.bA ks vs)=>sB A n rest (mS ty k ks vs)
 |_=>.fail
noncomputable def xZ(A:ai)(ty:cD)(k:I)(rest:List aw):I→cM
 | .mref n=>x1 A n ty k rest (A.o n)
 |_=>.fail
noncomputable def x4(A:ai)(d:Nat)(rest:List aw):Option ao→cM
 |none=>aA rest ((A.aV d (.bA [] [])).put d (.mref d))
 |some _=>.fail
open Classical in
noncomputable def Ej(A:ai)(d bytes:Nat)(z:I)(rest:List aw):I→cM
 | .int _ n=>if 0≤n∧n.toNat*bytes≤281474976710656∧n.toNat≤maxLen then aA rest ((A.aV d (.box (.agg (List.replicate n.toNat z)))).put d (.view d [] 1 0 n.toNat)) else .fail
 |_=>.fail
noncomputable def uU(A:ai)(d bytes:Nat)(z n:I)(rest:List aw):Option ao→cM
 |none=>Ej A d bytes z rest n
 |some _=>.fail
noncomputable def vx(A:ai)(d:Nat)(rest:List aw):I→cM
 | .dk ks vs=>aA rest ((A.aV d (.it ks vs (List.range ks.length) none)).put d (.dp d))
 |_=>.fail
noncomputable def vw(A:ai)(d:Nat)(x:I)(rest:List aw):Option ao→cM
 |none=>vx A d rest x
 |some _=>.fail
def w4:Option ao→Option I
 |some (.it ks vs _ cur)=>nU ks vs cur
 |_=>none
def w0(A:ai):I→Option I
 | .dp n=>w4 (A.o n)
 |_=>none
open Classical in
noncomputable def qR(A:ai)(d:Option Nat)(n:Nat)(rest:List aw):Option ao→cM
 |some (.it ks vs left _)=>if left=[] then aA rest (A.aX d (.tuple [.bool false])) else
   .any (fun i=>i∈left) fun i=>match ks[i]?,vs[i]? with
    |some kk,some x=>aA rest ((A.aV n (.it ks vs (left.filter (· != i)) (some i))).aX d (.tuple [.bool true,kk,x]))
    |_,_=>.fail
 |_=>.fail
noncomputable def ye(A:ai)(d:Option Nat)(rest:List aw):I→cM
 | .dp n=>qR A d n rest (A.o n)
 |_=>.fail
section
variable (d:Option Nat) (rest:List aw) (A:ai)
theorem Yg(x:aR):bL A d (.nilC x) rest=cT (mU (ak A x)) (dj d rest A):=rfl
theorem Yk(neg:Bool)(x y:aR):bL A d (.ptrE neg x y) rest=cT (oh neg (jd (ak A x)) (jd (ak A y))) (dj d rest A):=rfl
theorem X9(ty:cD)(z:I)(ok:Bool)(m k:aR):bL A d (.lk ty z ok m k) rest=cT (su ty z ok (ak A k) (gx A (ak A m))) (dj d rest A):=rfl
theorem Xm(n:Nat):gx A (.mref n)=xW (A.o n):=by
 simp only[gx];cases A.o n with
 |none=>rfl
 |some y=>cases y <;>rfl
theorem Ye(ty:cD)(m k v:aR):bL A none (.eX ty m k v) rest=x5 A ty (ak A k) (ak A v) rest (ak A m):=by
 simp only[bL,bo];cases ak A m <;>rfl
theorem Ya(ty:cD)(m k:aR):bL A none (.jf ty m k) rest=xZ A ty (ak A k) rest (ak A m):=by
 simp only[bL,bo];cases ak A m <;>rfl
theorem Yc(d:Nat):bL A (some d) .jg rest=x4 A d rest (A.o d):=by
 simp only[bL,bo];cases A.o d <;>rfl
theorem Yd(d e bytes:Nat)(z:I)(n:aR):bL A (some d) (.kV e bytes z n) rest=uU A d bytes z (ak A n) rest (A.o d):=by
 simp only[bL,bo];cases A.o d with
 |some _=>rfl
 |none=>simp only[uU];cases ak A n <;>rfl
theorem Yl(d:Nat)(x:aR):bL A (some d) (.j9 x) rest=vw A d (ak A x) rest (A.o d):=by
 simp only[bL,bo];cases A.o d with
 |some _=>rfl
 |none=>simp only[vw];cases ak A x <;>rfl
theorem XY(x:aR):bL A d (.ent x) rest=cT (w0 A (ak A x)) (dj d rest A):=by
 simp only[bL,bo,bq];cases ak A x <;>rfl
theorem Yi(x:aR):bL A d (.iR x) rest=ye A d rest (ak A x):=by
 simp only[bL,bo];cases ak A x <;>rfl
end
theorem Ea:(∀ rest A ty m k,bL A none (.jf ty m k) rest=xZ A ty (ak A k) rest (ak A m))∧(∀ A ty k rest n,xZ A ty k rest (.mref n)=x1 A n ty k rest (A.o n))∧(∀ A n ty k rest ks vs,x1 A n ty k rest (some (.bA ks vs))=sB A n rest (mS ty k ks vs)) ∧
  (∀ d rest A x y,bL A d (.max2 x y) rest=cT (sC (ak A x) (ak A y)) (dj d rest A))∧(∀ a b,sC (.int .i64 a) (.int .i64 b)=some (.int .i64 (if b>a then b else a)))∧((I.any).bC=true) :=
 ⟨fun rest A=>Ya rest A,fun _ _ _ _ _=>rfl,fun _ _ _ _ _ _ _=>rfl,fun _ _ _ _ _=>rfl,fun _ _=>rfl,rfl⟩
theorem n7 :
  (∀ d rest A x,bL A d (.nilC x) rest=cT (mU (ak A x)) (dj d rest A))∧(∀ n p,mU (.ptr n p)=some (.ptr n p))∧(∀ x,mU (.ref x)=some (.ref x)) ∧
  (∀ d rest A neg x y,bL A d (.ptrE neg x y) rest=cT (oh neg (jd (ak A x)) (jd (ak A y))) (dj d rest A))∧(jd .nilp=some true)∧(∀ n p,jd (.ptr n p)=some false)∧(∀ x,jd (.ref x)=some false) ∧
  (oh false (some true) (some true)=some (.bool true))∧(oh false (some false) (some true)=some (.bool false))∧(oh true (some true) (some true)=some (.bool false))∧(oh true (some false) (some true)=some (.bool true)) ∧
  (∀ d rest A ty z ok m k,bL A d (.lk ty z ok m k) rest=cT (su ty z ok (ak A k) (gx A (ak A m))) (dj d rest A))∧(∀ A n,gx A (.mref n)=xW (A.o n))∧(∀ A ks vs,gx A (.dk ks vs)=some (ks,vs))∧(∀ ks vs,xW (some (.bA ks vs))=some (ks,vs)) ∧
  (∀ ty z ok k ks vs,su ty z ok k (some (ks,vs))=sv ok (fu ty z k ks vs))∧(∀ v b,sv false (some (v,b))=some v)∧(∀ v b,sv true (some (v,b))=some (.tuple [v,.bool b])) ∧
  (∀ rest A ty m k v,bL A none (.eX ty m k v) rest=x5 A ty (ak A k) (ak A v) rest (ak A m))∧(∀ A ty k v rest n,x5 A ty k v rest (.mref n)=x6 A n ty k v rest (A.o n))∧(∀ A n ty k v rest ks vs,x6 A n ty k v rest (some (.bA ks vs))=sB A n rest (fE ty k v ks vs)) ∧
  (∀ A n rest ks vs,sB A n rest (some (ks,vs))=aA rest (A.aV n (.bA ks vs))) ∧
  (∀ rest A d,bL A (some d) .jg rest=x4 A d rest (A.o d))∧(∀ A d rest,x4 A d rest none=aA rest ((A.aV d (.bA [] [])).put d (.mref d))) ∧
  (∀ rest A d e bytes z n,bL A (some d) (.kV e bytes z n) rest=uU A d bytes z (ak A n) rest (A.o d))∧(∀ A d bytes z n rest,uU A d bytes z n rest none=Ej A d bytes z rest n) ∧
  (∀ rest A d x,bL A (some d) (.j9 x) rest=vw A d (ak A x) rest (A.o d))∧(∀ A d x rest,vw A d x rest none=vx A d rest x)∧(∀ A d rest ks vs,vx A d rest (.dk ks vs)=aA rest ((A.aV d (.it ks vs (List.range ks.length) none)).put d (.dp d))) ∧
  (∀ d rest A x,bL A d (.ent x) rest=cT (w0 A (ak A x)) (dj d rest A))∧(∀ A n,w0 A (.dp n)=w4 (A.o n))∧(∀ ks vs l cur,w4 (some (.it ks vs l cur))=nU ks vs cur) ∧
  (∀ d rest A x,bL A d (.iR x) rest=ye A d rest (ak A x))∧(∀ A d rest n,ye A d rest (.dp n)=qR A d n rest (A.o n)) :=
 ⟨Yg,fun _ _=>rfl,fun _=>rfl,Yk,rfl,fun _ _=>rfl,fun _=>rfl,rfl,rfl,rfl,rfl,X9,Xm,fun _ _ _=>rfl,fun _ _=>rfl,fun _ _ _ _ _ _=>rfl,fun _ _=>rfl,fun _ _=>rfl,
  fun rest A ty m k v=>Ye rest A ty m k v,fun _ _ _ _ _ _=>rfl,fun _ _ _ _ _ _ _ _=>rfl,fun _ _ _ _ _=>rfl,fun rest A d=>Yc rest A d,fun _ _ _=>rfl,fun rest A d e bytes z n=>Yd rest A d e bytes z n,fun _ _ _ _ _ _=>rfl,
  fun rest A d x=>Yl rest A d x,fun _ _ _ _=>rfl,fun _ _ _ _ _=>rfl,XY,fun _ _=>rfl,fun _ _ _ _=>rfl,Yi,fun _ _ _ _=>rfl⟩
theorem br:(∀ n p z lo k,b8 none (.view n p z lo k)=true)∧(∀ n,b8 none (.mref n)=true)∧(∀ n p,b8 none (.ptr n p)=true)∧(∀ x,b8 none (.ref x)=true)∧b8 none .nilp=true∧b8 none .dA=true∧b8 none (.raw (.map none))=true∧(∀ ks vs,b8 none (.dk ks vs)=true)∧(∀ {α:Type} [Enc α] (l:List α),b8 none (enc l)=true) :=
 ⟨fun _ _ _ _ _=>rfl,fun _=>rfl,fun _ _=>rfl,fun _=>rfl,rfl,rfl,rfl,fun _ _=>rfl,fun l=>by simp[rQ,rP]⟩
section
variable {α:Type} [Enc α] [DecidableEq α] {ty:cD}
theorem uq(ay:∀ x y:α,b7 ty (enc x) (enc y)=some (decide (x=y)))(k:α):∀ (ks:List α) (i:Nat),eG ty (enc k) (ks.map enc) i=some ((ks.findIdx? fun x=>decide (k=x)).map (· + i))
 | [],i=>rfl
 |x::ks,i=>by
  simp only[zz4,eG,ay,List.findIdx?_cons];by_cases h:k=x
  ·simp[h]
  ·simp only[h,decide_false,zz3,if_false];rw[uq ay k ks (i+1)];cases ks.findIdx? fun x=>decide (k=x) with
   |none=>rfl
   |some j=>simp;omega
theorem uL(ay:∀ x y:α,b7 ty (enc x) (enc y)=some (decide (x=y)))(z:I)(k:α)(ks:List α)(vs:List I) :
  fu ty z (enc k) (ks.map enc) vs=match ks.findIdx? fun x=>decide (k=x) with
   |some i=>(vs[i]?).map fun v=>(v,true)
   |none=>some (z,false):=by
 simp only[fu,ay,Option.isSome_some,if_true,uq ay];cases ks.findIdx? fun x=>decide (k=x) <;>rfl
theorem x7(ay:∀ x y:α,b7 ty (enc x) (enc y)=some (decide (x=y)))(k:α)(v:I)(hv:v.bT=true)(ks:List α)(vs:List I) :
  fE ty (enc k) v (ks.map enc) vs=match ks.findIdx? fun x=>decide (k=x) with
   |some i=>some (ks.map enc,vs.set i v)
   |none=>some ((ks++[k]).map enc,vs++[v]):=by
 simp only[fE,ay,Option.isSome_some,hv,Dy (kl k),and_self,if_true,uq ay];cases ks.findIdx? fun x=>decide (k=x) with
 |none=>simp
 |some i=>rfl
omit [Enc α] in
theorem rY{k:α}{ks:List α} : (ks.findIdx? fun x=>decide (k=x)).isSome=decide (k∈ks):=by
 induction ks with
 |nil=>rfl
 |cons x ks ih =>
  simp only[List.findIdx?_cons,zw9];by_cases h:k=x
  ·simp[h]
  ·simp only[h,decide_false,zz3,if_false,Option.isSome_map,ih,false_or]
theorem gw(ay:∀ x y:α,b7 ty (enc x) (enc y)=some (decide (x=y)))(k:α)(ks:List α):fu ty (.bool false) (enc k) (ks.map enc) (List.replicate ks.length (.bool true))=some (.bool (decide (k∈ks)),decide (k∈ks)):=by
 rw[uL ay,←rY];cases h:ks.findIdx? fun x=>decide (k=x) with
 |none=>rfl
 |some i =>
  have:=(List.findIdx?_eq_some_iff_getElem.1 h).1;simp[this]
def fP{α:Type}[DecidableEq α](ks:List α)(k:α):List α:=if k∈ks then ks else ks++[k]
theorem x8(ay:∀ x y:α,b7 ty (enc x) (enc y)=some (decide (x=y)))(k:α)(ks:List α):fE ty (enc k) (.bool true) (ks.map enc) (List.replicate ks.length (.bool true))=some ((fP ks k).map enc,List.replicate (fP ks k).length (.bool true)):=by
 rw[x7 ay k _ rfl];have hm:=rY (k:=k) (ks:=ks);cases h:ks.findIdx? fun x=>decide (k=x) with
 |none =>
  rw[h] at hm;have:k∉ks:=by simpa using hm.symm
  simp only[fP,if_neg this]
  congr 2
  rw[zz6,List.length_singleton,List.replicate_succ']
 |some i =>
  rw[h] at hm;have:k∈ks:=by simpa using hm.symm
  simp only[fP,if_pos this]
  congr 2
  have:=(List.findIdx?_eq_some_iff_getElem.1 h).1;exact List.ext_getElem (by simp) fun j U ab=>by
   simp only[List.getElem_set,List.getElem_replicate];split <;>rfl
end
section
variable {α:Type} [Enc α]
theorem z6{xs:List α}{i:Nat}(d:α)(h:i<xs.length):nN i [] (some (xs.map enc))=some (enc (xs.getD i d)):=by
 simp[nN,qg,h,I.at,zz0]
end
theorem Dw{m sz lo l i:Nat}{fs:List I}(h:i<l):mP m [] sz lo l sz (i:Int) (some fs)=some (.ptr m [lo+i]):=by rw[WR h];rfl
theorem qn:(∀ {α:Type} [Enc α] (x:α),(enc x).bC=true)∧(∀ n p z lo k,(I.view n p z lo k).bC=false)∧(∀ n,(I.mref n).bC=false)∧(∀ n p,(I.ptr n p).bC=false)∧(∀ n k,(I.own n k).bC=false) :=
 ⟨@kl,fun _ _ _ _ _=>rfl,fun _=>rfl,fun _ _=>rfl,fun _ _=>rfl⟩
end Go.Abs
namespace Go.Abs
open Go Go.RowKit
open Enc (enc)
theorem bt.IB{A:ai}{d n T z:Nat}(ah:A.t d=.nils z)(hn:A.o n=none)(hlt:n<1000000):bt A ((A.aV n (.dD T [])).put d (.own n 0)):=by
 rintro c a w ⟨D,E,h⟩;have ay:E n=none:=by have:=h.bP n;rw[hn] at this;exact this
 have hl:dU w D E w D (fun m=>if m=n then some (.rw none 0) else E m):=by
  have eP:∀ {m:Nat} {e:bM},E m=some e→(if m=n then some (.rw none 0) else E m)=some e:=fun {m e} he=>by
   have:m≠n:=fun e=>by rw[e,ay] at he;cases he
   rw[if_neg this];exact he
  refine ⟨fun _ _ h=>h,fun _ _ _ _ h=>h,fun m b bd he=>eP he,fun m aH l he =>?_,fun m b he=>eP he,fun m b he=>eP he,fun _ _ _ _ h=>h⟩
  ·have:m≠n:=fun e=>by rw[e,ay] at he;cases he
   exact ⟨aH,l,by simp only[if_neg this];exact he,zz5 _,fun _=>rfl⟩
 refine ⟨D,fun m=>if m=n then some (.rw none 0) else E m,h.sz,h.eB,fun t =>?_,h.dG,h.cZ,h.aQ,fun m =>?_,fun m m' e e' b U ab af aq =>?_,fun m e hm =>?_,h.eL,h.cR,h.eV,h.fw⟩
 ·simp only[ai.put,ai.aV];by_cases ht:t=d
  ·subst ht;simp only[if_true];have hv:=h.dN t;rw[ah] at hv;obtain ⟨cs,q1,q2⟩:=hv;simp only[al] at q2;subst q2;refine ⟨[.slice none 0 0],by simpa[bG,I.isAgg] using q1,?_⟩;simp only[al,if_true];exact ⟨none,0,rfl,zz5 _,⟨_,_,_,rfl⟩,fun _=>trivial⟩
  ·simp only[if_neg ht];exact bg.later hl (h.dN t)
 ·simp only[ai.put,ai.aV];by_cases hm:m=n
  ·subst hm;simp only[if_true,cN];exact ⟨none,by simp,by simp,trivial⟩
  ·simp only[if_neg hm];exact (h.bP m).later hl (by simp only[if_neg hm]) fun _ _ _ _=>⟨rfl,fun _ ho=>ho⟩
 ·by_cases hm:m=n <;>by_cases hm':m'=n
  ·rw[hm,hm']
  ·simp only[if_pos hm,v6] at U;subst U;simp[bM.aH] at af
  ·simp only[if_pos hm',v6] at ab;subst ab;simp[bM.aH] at aq
  ·simp only[if_neg hm] at U;simp only[if_neg hm'] at ab;exact h.cO m m' e e' b U ab af aq
 ·have hmn:m≠n:=fun e=>by rw[e,h.kT (.inr hlt)] at hm;cases hm
  simp only[if_neg hmn];exact h.dQ m e hm
theorem bt.IC{ts:List (Nat×I)}{os:List (Nat×ao)}(d n T z:Nat)(ah:bI ts d=.nils z)(hn:aj os n=none){B:ai}(h:bt (au ((d,.own n 0)::ts) ((n,.dD T [])::os)) B)(hlt:n<1000000:=by decide):bt (au ts os) B :=
 ((bt.IB (A:=au ts os) (T:=T) ah hn hlt).trans (by rw[sA,uR];exact bt.refl _)).trans h
theorem IN{A:ai}{d:Option Nat}{e bytes n l:Nat}{xs:List Int}{y:Int}{rest:List aw}(hl:l=xs.length)(U:xs.length+1≤maxLen)(ab:(xs.length+1)*bytes≤140737488355328) :
  qe A d e 1 bytes (.int .i64 0) n l e xs rest (enc [y])=aA rest ((A.aV n (.dD e (xs++[y]))).aX d (.own n (xs.length+1))):=by
 show qe A d e 1 bytes (.int .i64 0) n l e xs rest (.slice 1 [.int .i64 y])=_
 simp only[qe];rw[if_pos ⟨hl,rfl,rfl,rfl,rfl,by simp,U,ab⟩];rfl
def ju(n k:Nat):I→I
 | .own n' k'=>if n'=n∧k'=k then .view n [] 1 0 k else .own n' k'
 |v=>v
def jt(n:Nat):I→I
 | .own n' k'=>if n'=n∧k'=0 then .nils 1 else .own n' k'
 |v=>v
def kd(f:I→I):ao→ao
 | .box v=>.box (f v)
 |y=>y
def sJ(n k:Nat)(v:I):Prop:=v=.own n k∨v.only (fun j=>j != n)=true
def Yu(n k:Nat)(y:ao):Prop:=y=.box (.own n k)∨y.only (fun j=>j != n)=true
theorem vH{n k:Nat}{v:I}(h:v.only (fun j=>j != n)=true):ju n k v=v:=by
 cases v <;>try rfl
 rename_i n' k';simp only[I.only,bne_iff_ne,ne_eq] at h;simp only[ju,h,false_and,if_false]
theorem GZ{n:Nat}{v:I}(h:v.only (fun j=>j != n)=true):jt n v=v:=by
 cases v <;>try rfl
 rename_i n' k';simp only[I.only,bne_iff_ne,ne_eq] at h;simp only[jt,h,false_and,if_false]
theorem qN(f:I→I)(hf:f .du=.du)(ts:List (Nat×I))(t:Nat):bI (ts.map fun q=>(q.1,f q.2)) t=f (bI ts t):=by
 induction ts with
 |nil=>exact hf.symm
 |cons q ts ih =>
  obtain ⟨k,v⟩:=q;simp only[zz4,bI];split
  ·rfl
  ·exact ih
theorem uN(f:ao→ao)(os:List (Nat×ao))(t:Nat):aj (os.map fun q=>(q.1,f q.2)) t=(aj os t).map f:=by
 induction os with
 |nil=>rfl
 |cons q os ih =>
  obtain ⟨k,v⟩:=q;simp only[zz4,aj];split
  ·rfl
  ·exact ih
theorem cN.c9{M:Nat→Prop}{w:World}{D:aU}{E E':bf}{p:Nat→Bool}(hp:∀ n,p n=true→E' n=E n){m:Nat}(ay:E' m=E m){y:ao}(hon:y.only p=true)(ho:cN M w D E m (some y)):cN M w D E' m (some y):=by
 cases y with
 |box x =>
  obtain ⟨b,cs,T,k1,k2,k3,k4,k5⟩:=ho;exact ⟨b,cs,T,ay.trans k1,k2,k3,al.c9 hp _ _ (by simpa[ao.only] using hon) k4,k5⟩
 |bU T sz es =>
  obtain ⟨aH,k1,k2,k3⟩:=ho;refine ⟨aH,ay.trans k1,k2,?_⟩;cases aH with
  |none=>exact k3
  |some bc =>
   obtain ⟨b,cap⟩:=bc;obtain ⟨cs,pre,rest,q1,q2,q3,q4,q5⟩:=k3;exact ⟨cs,pre,rest,q1,q2,q3,aP.c9 hp _ _ (by simpa[ao.only] using hon) q4,q5⟩
 |dD T xs =>
  obtain ⟨aH,k1,k2,k3⟩:=ho;exact ⟨aH,ay.trans k1,k2,k3⟩
 |dC x =>
  obtain ⟨b,k1,k2⟩:=ho;exact ⟨b,ay.trans k1,k2⟩
 |bA ks vs =>
  obtain ⟨b,es,ck,k1,k2,k3,k4,k5,k6,k7⟩:=ho;simp only[ao.only,t8] at hon;exact ⟨b,es,ck,ay.trans k1,k2,k3,k4,aG.c9 hp _ _ hon.1 k5,aG.c9 hp _ _ hon.2 k6,k7⟩
 |it ks vs left cur =>
  obtain ⟨r,b,es,ck,si,se,la,k1,k2,k3,k4,k5,k6,k7⟩:=ho;simp only[ao.only,t8] at hon;exact ⟨r,b,es,ck,si,se,la,ay.trans k1,k2,k3,k4,aG.c9 hp _ _ hon.1 k5,aG.c9 hp _ _ hon.2 k6,k7⟩
theorem tf(xs:List Int):(I.agg (xs.map enc)).bd=.eK (List.replicate xs.length .one):=by
 show cS.eK (I.cV _)=_
 congr 1
 induction xs with
 |nil=>rfl
 |cons x xs ih=>simp only[zz4,I.cV,ih,zv1,List.replicate_succ];rfl
theorem sV{w:World}{D:aU}{E:bf} : ∀ {xs:List Int},(∀ x∈xs,IntKind.i64.min≤x∧x≤IntKind.i64.max)→aP w D E (xs.map enc) (xs.map (Value.int .i64))
 | [],_=>rfl
 |x::xs,h=>⟨[.int .i64 x],xs.map (Value.int .i64),rfl,⟨rfl,h x (by simp)⟩,sV fun y hy=>h y (by simp[hy])⟩
theorem bt.aat{ts:List (Nat×I)}{os:List (Nat×ao)}{n T:Nat}{B:ai}(hn:aj os n=some (.dD T []))
  (h:bt (au (ts.map fun q=>(q.1,jt n q.2)) (os.map fun q=>(q.1,kd (jt n) q.2))) B):bt (au ts os) B:=by
 refine bt.trans ?_ h;rintro c a w ⟨D,E,hs⟩;obtain ⟨aH,ay,-,hblk⟩:=hs.tt (n:=n) (T:=T) (xs:=[]) hn;have hnone:aH=none:=by
  cases aH with
  |none=>rfl
  |some bc=>obtain ⟨b,cap⟩:=bc;obtain ⟨_,_,_,_,_,h,_⟩:=hblk;exact absurd rfl h
 subst hnone;have conv:∀ (v:I) (cs:List Value),al w D E v cs→al w D E (jt n v) cs:=fun v cs hr=>by
  cases v <;>try exact hr
  rename_i n' k';simp only[jt];split
  ·rename_i hh;obtain ⟨rfl,rfl⟩:=hh;obtain ⟨blk',l,q3,q4,q5,q6⟩:=hr;rw[ay] at q3;simp only[v6,bM.rw.injEq,List.length_nil] at q3;obtain ⟨rfl,rfl⟩:=q3;exact q6 rfl
  ·exact hr
 refine ⟨D,E,hs.sz,hs.eB,fun t =>?_,hs.dG,hs.cZ,hs.aQ,fun m =>?_,hs.cO,hs.dQ,hs.eL,hs.cR,hs.eV,hs.fw⟩
 ·show bg w D E (bI _ t) _
  rw[qN _ rfl];have:=hs.dN t;simp only[au] at this;revert this;generalize bI ts t=v;intro hv;cases v <;>try exact hv
  rename_i n' k';obtain ⟨cs,q1,q2⟩:=hv;have:=conv _ _ q2
  revert this;simp only[jt];split
  ·intro this;exact ⟨cs,q1,this⟩
  ·intro this;exact ⟨cs,q1,this⟩
 ·show cN _ w D E m (aj _ m)
  rw[uN];have:=hs.bP m;simp only[au] at this;revert this;cases aj os m with
  |none=>exact id
  |some y =>
   cases y <;>try exact id
   rename_i x;rintro ⟨b,cs,T,k1,k2,k3,k4,k5⟩;refine ⟨b,cs,T,?_,k2,k3,conv _ _ k4,k5⟩;rw[k1];have:(jt n x).bd=x.bd:=by
    cases x <;>try rfl
    simp only[jt];split <;>rfl
   rw[this]
theorem ae.aas{c:cX}{x:bD}{Q:Exit→ai→Prop}{ts:List (Nat×I)}{os:List (Nat×ao)}{n T:Nat}{xs:List Int}(hn:aj os n=some (.dD T xs))(hne:xs≠[])(hlt:n<1000000)
  (ht:∀ t,sJ n xs.length (bI ts t)) (ho:∀ m y,aj os m=some y→m≠n→Yu n xs.length y)
  (h:∀ q:Nat,ae c x Q (au (ts.map fun p=>(p.1,ju n xs.length p.2)) ((n,.box (.agg ((xs++List.replicate q 0).map enc)))::os.map fun p=>(p.1,kd (ju n xs.length) p.2)))):ae c x Q (au ts os):=by
 rintro code hc a w ⟨D,E,hs⟩;obtain ⟨aH,ay,hr,hblk⟩:=hs.tt (n:=n) hn;cases aH with
 |none=>exact absurd hblk hne
 |some bc =>
 obtain ⟨b,cap⟩:=bc;obtain ⟨cs,q,hM,hb,hcs,-,hcap,hmax,hD⟩:=hblk;have hp:∀ j,(fun j=>j != n) j=true→(fun j=>if j=n then some (bM.aJ b (.eK (List.replicate (xs.length+q) .one))) else E j) j=E j:=fun j hj=>by
  have:j≠n:=by simpa using hj
  simp only[if_neg this]
 have conv:∀ cs0,al w D E (.own n xs.length) cs0→al w D (fun j=>if j=n then some (bM.aJ b (.eK (List.replicate (xs.length+q) .one))) else E j) (.view n [] 1 0 xs.length) cs0:=fun cs0 hr=>by
  obtain ⟨blk',l,q3,q4,q5,q6⟩:=hr;rw[ay] at q3;simp only[v6,bM.rw.injEq] at q3;obtain ⟨rfl,rfl⟩:=q3;have:=q6 rfl;refine ⟨b,_,0,List.replicate (xs.length+q) .one,if_pos rfl,rfl,rfl,?_,by rw[List.length_replicate];omega,by rw[List.length_replicate];omega,fun s hs =>?_⟩
  ·rw[this,List.length_replicate];simp only[Nat.zero_mul,Nat.add_zero,Nat.sub_zero,hcap]
  ·rw[List.eq_of_mem_replicate hs];rfl
 refine h q code hc a w ⟨D,fun j=>if j=n then some (.aJ b (.eK (List.replicate (xs.length+q) .one))) else E j,hs.sz,hs.eB,fun t =>?_,hs.dG,hs.cZ,hs.aQ,fun m =>?_,fun m m' e e' b1 U ab af aq =>?_,fun m e hm =>?_,hs.eL,hs.cR,hs.eV,hs.fw⟩
 ·show bg w D _ (bI _ t) _
  rw[qN _ rfl];have hv:=hs.dN t;simp only[au] at hv;rcases ht t with U | U
  ·rw[U] at hv ⊢;simp only[ju,and_self,if_true];obtain ⟨cs0,q1,q2⟩:=hv;exact ⟨cs0,q1,conv _ q2⟩
  ·rw[vH U];exact bg.c9 hp U hv
 ·show cN _ w D _ m (aj _ m)
  simp only[aj];by_cases hm:m=n
  ·subst hm;simp only[if_true];refine ⟨b,cs,T,?_,hM,hb,?_,hD⟩
   ·simp only[if_true];rw[tf,zz6,List.length_replicate]
   ·show aP w D _ _ _
    rw[hcs];refine sV fun y hy =>?_;rcases zy4.1 hy with hy | hy
    ·exact hr y hy
    ·rw[List.eq_of_mem_replicate hy];decide
  ·simp only[if_neg hm];rw[uN];have hob:=hs.bP m;simp only[au] at hob;cases hy:aj os m with
   |none=>rw[hy] at hob;simp only[cN,Option.map_none] at hob ⊢;rw[if_neg hm];exact hob
   |some y =>
    rw[hy] at hob;rcases ho m y hy hm with rfl | U
    ·obtain ⟨b1,cs1,tL,k1,k2,k3,k4,k5⟩:=hob;refine ⟨b1,cs1,tL,?_,k2,k3,?_,k5⟩
     ·simp only[if_neg hm];rw[k1];simp only[ju,and_self,if_true];rfl
     ·simp only[ju,and_self,if_true];exact conv _ k4
    ·have e:kd (ju n xs.length) y=y:=by
      cases y <;>try rfl
      simp only[ao.only] at U;simp only[kd,vH U]
     simp only[zy2,e];exact hob.c9 hp (if_neg hm) U
 ·have kj:∀ m e,(if m=n then some (bM.aJ b (.eK (List.replicate (xs.length+q) .one))) else E m)=some e→∃ e2,E m=some e2∧e2.aH=e.aH:=fun m e he=>by
   by_cases hm:m=n
   ·subst hm;rw[if_pos rfl] at he;cases he;exact ⟨_,ay,rfl⟩
   ·rw[if_neg hm] at he;exact ⟨e,he,rfl⟩
  obtain ⟨e2,k1,k2⟩:=kj m e U;obtain ⟨e3,k3,k4⟩:=kj m' e' ab;exact hs.cO m m' e2 e3 b1 k1 k3 (k2.trans af) (k4.trans aq)
 ·have hmn:m≠n:=fun e=>by rw[e,hs.kT (.inr hlt)] at hm;cases hm
  simp only[if_neg hmn];exact hs.dQ m e hm
end Go.Abs
namespace Go.Abs
open Go Go.RowKit
def uG(n:Nat)(cl:List Nat)(i:Nat):Bool:=(List.range n).all fun j=>j==i||(cl.getD i 0).testBit j
def ve(hs:List FuncId)(aE:en)(on:List (List Nat))(gs:List aw)(cl:List Nat)(σ:List Nat):Bool :=
 (Nat.beq σ.length gs.length&&(sF σ&&(σ.all (fun i=>decide (i<gs.length))&&((List.range gs.length).all (fun i=>σ.contains i)&&(List.range gs.length).all fun i=>po (gs.getD i default).op&&(iS aE (gs.getD i default)||(uG gs.length cl i&&σ.getLast?==some i))))))&&(rC hs aE gs cl [] σ&&(List.range gs.length).all fun i=>(on.getD i []).all (fun k=>decide (k<i))&&Nat.beq (cl.getD i 0) (mj cl (on.getD i [])))
structure zI (hs:List FuncId) (aE:en) (l:List Oper) (gs:List aw) (σ:List Nat):Prop where
 sG:σ.Nodup
 lt:∀ i∈σ,i<gs.length
 all:∀ i,i<gs.length→i∈σ
 ok:∀ i,i<gs.length→po (gs.getD i default).op=true
 xO:∀ i o,l[i]?=some o→iS aE (gs.getD i default)=true∨(σ.getLast?=some i∧∀ (S:Nat→Prop),(∀ i o,l[i]?=some o→S i→∀ k∈ct o,S k)→(∀ k∈ct o,S k)→∀ j,j<gs.length→j≠i→S j)
 len:σ.length=gs.length
 gG:∀ i o,l[i]?=some o→∀ k∈ct o,k<i
 r9:∀ (S:Nat→Prop),(∀ i o,l[i]?=some o→S i→∀ k∈ct o,S k)→∀ s1 i s2 o,σ=s1++i::s2→l[i]?=some o→(∀ k∈ct o,S k)→∀ j∈s1,¬ S j→nZ hs aE (gs.getD j default) (gs.getD i default)=true
theorem YH{hs:List FuncId}{aE:en}{l:List Oper}{gs:List aw}{cl σ:List Nat}(hlen:gs.length=l.length)(h:ve hs aE (l.map ct) gs cl σ=true):zI hs aE l gs σ:=by
 simp only[ve,t8,zx2,decide_eq_true_eq,zy9,List.contains_eq_mem] at h;obtain ⟨⟨U,ab,af,aq,h5⟩,h6,h7⟩:=h;have fQ:∀ i o,l[i]?=some o→(∀ k∈ct o,k<i)∧(∀ j,(cl.getD i 0).testBit j=true→j∈ct o∨∃ k∈ct o,(cl.getD k 0).testBit j=true):=by
  intro i o ho;have hi:i<l.length:=(zz8.1 ho).1;have h8:=h7 i (by omega);have hon:(l.map ct).getD i []=ct o:=by simp[zz0,ho]
  rw[hon] at h8;have hb:=Nat.eq_of_beq_eq_true h8.2;exact ⟨h8.1,fun j hj=>tv (by rw[←hb];exact hj)⟩
 have keyS:∀ (S:Nat→Prop),(∀ i o,l[i]?=some o→S i→∀ k∈ct o,S k)→∀ n i o,i≤n→l[i]?=some o→(∀ k∈ct o,S k)→∀ j,(cl.getD i 0).testBit j=true→S j:=by
  intro S hS n
  induction n with
  |zero =>
   intro i o hi ho hon j hj;obtain ⟨h8,h9⟩:=fQ i o ho;rcases h9 j hj with h | ⟨k,hk,_⟩
   ·exact hon j h
   ·have:=h8 k hk;omega
  |succ n ih =>
   intro i o hi ho hon j hj;obtain ⟨h8,h9⟩:=fQ i o ho;rcases h9 j hj with h | ⟨k,hk,hjk⟩
   ·exact hon j h
   ·have hki:=h8 k hk;have hkl:k<l.length:=Nat.lt_trans hki (zz8.1 ho).1;obtain ⟨ok,hok⟩:∃ ok,l[k]?=some ok:=⟨l[k],zx0 hkl⟩
    exact ih k ok (by omega) hok (hS k ok hok (hon k hk)) j hjk
 refine ⟨yc ab,af,aq,fun i hi=>(h5 i hi).1,fun i o ho =>?_,Nat.eq_of_beq_eq_true U,fun i o ho=>(fQ i o ho).1,?_⟩
 ·have hi:i<gs.length:=by rw[hlen];exact (zz8.1 ho).1
  have h5o:=(h5 i hi).2;rw[Bool.or_eq_true] at h5o;rcases h5o with h | h
  ·exact .inl h
  ·rw[t8] at h;obtain ⟨h,hla⟩:=h;refine .inr ⟨by simpa using hla,fun S hS hon j hj hji =>?_⟩;simp only[uG,zx2,zy9,Bool.or_eq_true,beq_iff_eq] at h;rcases h j hj with e | e
   ·exact absurd e hji
   ·exact keyS S hS i i o (zz5 _) ho hon j e
 intro S hS s1 i s2 o e ho hon j hj hnj;have key:=keyS S hS;rcases wa h6 s1 i s2 e j (.inr hj) with h | h
 ·exact absurd (key i i o (zz5 _) ho hon j h) hnj
 ·exact h
def mE(on:List (List Nat)):List Nat:=on.foldl (fun acc ks=>acc++[mj acc ks]) []
def wU(d:Option (List (List Nat)))(gs:List aw):Bool:=match d with
 |none=>true
 |some on=>ud on gs (mE on)
section
variable {c:cX} {Q:Exit→ai→Prop} {A:ai} {d:Option (List (List Nat))} {on:List (List Nat)} {gs:List aw}
theorem ae.kI(ah:wU d gs=true)(h:∀ K:ai→Prop,(∀ B,Q .normal B→K B)→aT c.P c.Y d.isSome K (aA gs A)):ae c (.cm d gs) Q A:=by
 cases d with
 |none=>exact ae.cm (cl:=[]) rfl h
 |some on=>exact ae.cm (cl:=mE on) ah h
theorem ae.gy{y:bD}(ah:wU d gs=true)(h:∀ K:ai→Prop,(∀ B,ae c y Q B→K B)→aT c.P c.Y d.isSome K (aA gs A)):ae c (.seq (.cm d gs) y) Q A :=
 ae.seq (ae.kI ah h)
theorem ae.sZ(hs:List FuncId)(aE:en)(σ:List Nat)(ah:vd hs aE on gs (mE on) σ=true)(hi:dy aE A)(h:∀ K:ai→Prop,(∀ B,Q .normal B→K B)→cj c.P c.Y hs K (aA (gJ σ gs) A)):ae c (.cm (some on) gs) Q A :=
 ae.Zf hs aE (mE on) σ ah hi h
def gY(c:cX):bD→(Exit→ai→Prop)→ai→Prop
 | .seq x y,Q,A=>gY c x (eb (fun B=>ae c y Q B) Q) A
 | .block id x,Q,A=>gY c x (jL id Q) A
 | .skip,Q,A=>Q .normal A
 | .exit id,Q,A=>Q (.exit id) A
 | .ret,Q,A=>Q .ret A
 | .cond b x y,Q,A=>aF (ak A b) (ae c x Q A) (ae c y Q A)
 |x,Q,A=>ae c x Q A
def WQ:bD→Bool
 | .seq _ _ | .block _ _ | .skip | .exit _ | .ret | .cond _ _ _=>true
 |_=>false
theorem gY.wh:∀ (x:bD) {Q:Exit→ai→Prop} {A:ai},gY c x Q A→ae c x Q A
 | .seq x y,_,_,h=>ae.seq (gY.wh x h)
 | .block id x,_,_,h=>ae.block (gY.wh x h)
 | .skip,_,_,h=>ae.skip h
 | .exit _,_,_,h=>ae.exit h
 | .ret,_,_,h=>ae.ret h
 | .cond _ _ _,_,_,h=>ae.jW h
 | .cm _ _,_,_,h | .loop _,_,_,h | .scope _,_,_,h | .label,_,_,h | .wi,_,_,h | .np _ _ _ _,_,_,h=>h
theorem ae.of{x:bD}(_:WQ x=true)(h:gY c x Q A):ae c x Q A:=gY.wh x h
theorem aN :
  (∀ c x y Q A,gY c (.seq x y) Q A=gY c x (eb (fun B=>ae c y Q B) Q) A)∧(∀ c id x Q A,gY c (.block id x) Q A=gY c x (jL id Q) A)∧(∀ c Q A,gY c .skip Q A=Q .normal A)∧(∀ c id Q A,gY c (.exit id) Q A=Q (.exit id) A)∧(∀ c Q A,gY c .ret Q A=Q .ret A) ∧
  (∀ c b x y Q A,gY c (.cond b x y) Q A=aF (ak A b) (ae c x Q A) (ae c y Q A))∧(∀ c d gs Q A,gY c (.cm d gs) Q A=ae c (.cm d gs) Q A)∧(∀ c x Q A,gY c (.loop x) Q A=ae c (.loop x) Q A)∧(∀ c f ps x y Q A,gY c (.np f ps x y) Q A=ae c (.np f ps x y) Q A) ∧
  (∀ k Q A,eb k Q .normal A=k A)∧(∀ k Q A,eb k Q .ret A=Q .ret A)∧(∀ k Q A i,eb k Q (.exit i) A=Q (.exit i) A)∧(∀ i Q A,jL i Q .normal A=Q .normal A)∧(∀ i Q A,jL i Q .ret A=Q .ret A)∧(∀ i Q A j,jL i Q (.exit j) A=if j=i then Q .normal A else Q (.exit j) A) ∧
  (∀ p q,aF (.bool true) p q=p)∧(∀ p q,aF (.bool false) p q=q)∧(type_of% @DJ) :=
 ⟨fun _ _ _ _ _=>rfl,fun _ _ _ _ _=>rfl,fun _ _ _=>rfl,fun _ _ _ _=>rfl,fun _ _ _=>rfl,fun _ _ _ _ _ _=>rfl,fun _ _ _ _ _=>rfl,fun _ _ _ _=>rfl,fun _ _ _ _ _ _ _=>rfl,fun _ _ _=>rfl,fun _ _ _=>rfl,fun _ _ _ _=>rfl,fun _ _ _=>rfl,fun _ _ _=>rfl,fun _ _ _ _=>rfl,
  fun p q=>by simp[aF],fun p q=>by simp[aF],DJ⟩
theorem aF.aL{t:Bool}{p q:Prop}(U:t=true→p)(ab:t=false→q):aF (.bool t) p q:=⟨U,ab⟩
theorem ae.aM{g:aw}{r:List aw}(ah:wU d gs=true)(e:gs=g::r)(h:∀ K:ai→Prop,(∀ B,Q .normal B→K B)→aT c.P c.Y d.isSome K (aA (g::r) A)):ae c (.cm d gs) Q A :=
 ae.kI ah (e▸h)
theorem aT.aD(aE:List Nat){P:Program}{Y:Value→List I→List (Nat×ao)→cA→Prop}{dr:Bool}{x:bD}{K:ai→Prop}{ts:List (Nat×I)}{os:List (Nat×ao)}(hK:∀ B,ae c x Q B→K B)(h:ae c x Q (au (ir aE ts) os)):aT P Y dr K (.done (au ts os)) :=
 .done (hK _ (ae.ez aE h))
theorem cj.aD(aE:List Nat){P:Program}{Y:Value→List I→List (Nat×ao)→cA→Prop}{hs:List FuncId}{x:bD}{K:ai→Prop}{ts:List (Nat×I)}{os:List (Nat×ao)}(hK:∀ B,ae c x Q B→K B)(h:ae c x Q (au (ir aE ts) os)):cj P Y hs K (.done (au ts os)) :=
 .done (hK _ (ae.ez aE h))
end
section
variable {c:cX} {A:ai} {o:Oper}
theorem Ba{P:Program}{m:Nat}{bj:Array Oper}{l:List Oper}{gs:List aw}(h:gu P m bj (o::l)=some gs):∃ g gs',gs=g::gs'∧mD P m bj o=some g∧gu P m bj l=some gs':=by
 simp only[gu] at h;split at h
 ·rename_i g gs' U ab;simp only[v6] at h;exact ⟨g,gs',h.symm,U,ab⟩
 ·cases h
end
def vy(P:Program)(f:FuncId)(ch:List PanicEntry)(vs:Array Value)(w:World)(R:Ending→World→Prop):Prop :=
 Calls P f vs w fun e w'=>e=.panicked ch∧R (.returned (.tuple #[])) w'
theorem vy.mono{P:Program}{f:FuncId}{ch:List PanicEntry}{vs:Array Value}{w:World}{R R':Ending→World→Prop}(h:vy P f ch vs w R)(hr:∀ e w',R e w'→R' e w'):vy P f ch vs w R' :=
 Calls.mono h fun _ _ q=>⟨q.1,hr _ _ q.2⟩
def qV(post:List (Nat×ao)→Prop):cA:=fun r os'=>r=.tuple []∧post os'
def fj(P:Program)(f:FuncId)(ch:List PanicEntry)(args:List I)(os:List (Nat×ao))(post:List (Nat×ao)→Prop):Prop :=
 fe P f=true∧oK (vy P f ch) (fun w _ E=>h2 P w (cE E)) args os (qV post)
def yw(ch:List PanicEntry)(post:List (Nat×ao)→Prop):Exit→ai→Prop
 | .panic ch',A=>ch'=ch∧jw [] (qV post) A
 |_,_=>False
theorem DN{P:Program}{n:Nat}{w:World}{D:aU}{E:bf}{Y:Value→List I→List (Nat×ao)→cA→Prop}{post:List (Nat×ao)→Prop}{fn:Func}{A:ai}{D':aU}{E':bf}{ch:List PanicEntry}(h:jw [] (qV post) A){R:World→Prop}(hR:∀ v w',mu w D E (qV post) v w'→R w') :
  ∀ (ds:List Deferred) (a:Act) (w':World),a.defers=ds→aY ⟨P,w,D,n,cE E,E,Y,none,none⟩ A a w' D' E'→LeavesInM Fence.wide 9 P fn a.tmps (fun e w'=>e=.panicked ch∧R w') ds (.panicking ch) w'
 | [],a,w',_,hs=>by
  obtain ⟨v,U,ab⟩:=hs.uI (fn := { fn with results := #[] }) (rs:=[]) rfl h;exact ⟨rfl,hR v w' ab⟩
 |d::ds,a,w',ah,hs=>by
  obtain ⟨Bs,U,_⟩:=hs.eB;rw[ah] at U;cases Bs with
  |nil=>cases U
  |cons B Bs =>
   simp only[zz4,zv0] at U;obtain ⟨rfl,rfl⟩:=U;obtain ⟨k1,k2⟩:=hs.BM rfl ah;exact ⟨by simp,.inl ⟨B,_,rfl,run_takeDeferred k1,DN h hR _ { a with defers:=Bs.map _ } _ rfl k2⟩⟩
theorem DQ{w:World}{D:aU}{E:bf}{post:List (Nat×ao)→Prop}{v:Value}{w':World}(h:mu w D E (qV post) v w'):∃ v' D' E' r os',Ending.returned (.tuple #[])=.returned v'∧qV post r os'∧bg w' D' E' r v'∧ki (fun b=>w.heap.size≤b∨cE E b) w' D' E' (aj os') ∧
   e8 (fun b=>w.heap.size≤b∨cE E b) w w'∧(∀ b o,D b o→D' b o)∧(∀ b o,D' b o→b<w'.heap.size)∧(∀ b o,D' b o→b<w.heap.size→¬ cE E b→D b o) ∧
   (∀ n e,E n=some e→av os' n=true→∃ e',E' n=some e'∧e.le e')∧h4 w D w':=by
 obtain ⟨D',E',r,os',U,ab,af⟩:=h;refine ⟨_,D',E',r,os',rfl,U,?_,af⟩;obtain ⟨rfl,_⟩:=U;simp only[bg];exact ⟨[],by simp,by simp[aG]⟩
theorem fj.mk{P:Program}{f:FuncId}{fn:Func}{x:bD}{ch:List PanicEntry}{args:List I}{os:List (Nat×ao)}{post:List (Nat×ao)→Prop}(hf:P.funcs[f]?=some fn)(hcall:fe P f=true)(hc:(fn.body.bind (eE P fn.ntmps))=some x)
  (hn:args.length≤fn.ntmps) (hn2:fn.ntmps≤1000000) (hos:∀ m,av os m=true→1000000≤m) (h:I.gB args→∀ (w:World) (D:aU) (E:bf),ae ⟨P,w,D,fn.ntmps,cE E,E,dv,none,none⟩ x (yw ch post) (au (bQ 0 args) os)):fj P f ch args os post:=by
 obtain ⟨body,hb,hc'⟩:=zw8.1 hc;refine ⟨hcall,fun w D E vs hl hD ho hv =>?_⟩;have hlen:=te hv;have hsim:=zg (P:=P) (n:=fn.ntmps) (Y:=dv) hD ho hv (by omega) (fun m hm=>⟨Nat.le_trans hn2 (hos m hm),hos m hm⟩) (rp hl);refine (callsIn_wide (n:=9)).1 (callsIn_of_wp_marks hf hb trivial ?_);refine wpIn_mono (((h (rh _ _ hv) w D E).sub (vE args os)) body hc' _ w ⟨D,E,hsim⟩) ?_;rintro e a w' ⟨A,hq,D',E',hs⟩;cases e <;>simp only[yw] at hq
 obtain ⟨rfl,hq⟩:=hq;exact DN hq (fun v w' h=>DQ h) a.defers a w' rfl hs
theorem fj.YM{P:Program}{f:FuncId}{ch:List PanicEntry}{args:List I}(hcall:fe P f=true)(h:∀ (w:World) (D:aU) (vs:List Value),aG w D dn args vs→Calls P f vs.toArray w fun e w'=>e=.panicked ch∧w'=w)(hfl:I.oZ args=true):fj P f ch args [] (fun os'=>os'=[]):=by
 refine ⟨hcall,fun w D E vs _ hD ho hv =>?_⟩;refine Calls.mono (h w D vs (aG.flat _ _ hfl hv)) ?_;rintro e w' ⟨rfl,rfl⟩;refine ⟨rfl,DQ (v:=.tuple #[]) ⟨D,E,.tuple [],[],⟨rfl,rfl⟩,by simp only[bg];exact ⟨[],by simp,by simp[aG]⟩,?_,e8.refl _ _,fun _ _ h=>h,hD,fun _ _ h _ _=>h,fun n e h hn=>by simp[av,aj] at hn,.refl _ _⟩⟩;exact ⟨fun n=>ho.bP n,fun n m e e' b U ab af aq=>ho.cO n m e e' b U ab af aq⟩
section
variable {c:cX} {A:ai} {Q:Exit→ai→Prop}
theorem uy{dr:Bool}{K:ai→Prop}{bj:Array Oper}{Q:Exit→Act→World→Prop}{l2:List Oper}(hQ:∀ B a w,K B→b5 c B a w→wpListIn c.bH 9 c.P bj Q l2 a w):∀ (l:List Oper) (gs:List aw) (A:ai) (a:Act) (w:World),gu c.P c.n bj l=some gs→aT c.P c.Y dr K (aA gs A) →
  b5 c A a w→wpListIn c.bH 9 c.P bj Q (l++l2) a w
 | [],gs,A,a,w,hc,hwp,hs=>by
  simp only[gu,v6] at hc;subst hc;simp only[aA] at hwp;cases hwp with
  |done hk=>exact hQ A a w hk hs
 |o::l,gs,A,a,w,hc,hwp,hs=>by
  simp only[gu] at hc;split at hc
  case h_2=>cases hc
  rename_i g gs' hg hgs;simp only[v6] at hc;subst hc;obtain ⟨U,ab,af,aq⟩:=oT hg;have step:aT c.P c.Y dr K (bo A g.dst g.op gs' (aA gs'))→o.wpIn c.bH 9 c.P a w (wpListIn c.bH 9 c.P bj Q (l++l2)) Q:=fun h =>
   uu U ab.symm (by rw[ab];exact af) h hs (fun B a' w' hw hs'=>uy hQ l gs' B a' w' hgs hw hs')
  simp only[zz2,wpListIn];simp only[aA] at hwp;rcases aq with ⟨h5,h6⟩ | ⟨j,b,t,h5,h6,h7⟩
  ·rw[h6] at hwp;have hw:Region.wanted o (yielded bj a.tmps)=true:=by simp[Region.wanted,h5]
   rw[hw,if_pos rfl];exact step hwp
  ·rw[h7] at hwp;simp only at hwp;split at hwp
   ·rename_i b' hb';rw[uA hs h5 h6 hb'];split at hwp
    ·rename_i hbb;subst hbb;simp only[BEq.rfl,if_true];exact step hwp
    ·rename_i hbb;have:(b'==b)=false:=by simpa using hbb
     rw[this];simp only[zz3,if_false];exact ⟨fun f _=>mK c f,uy hQ l gs' _ _ w hgs hwp (by rw[ab];exact hs.oi af)⟩
   ·rename_i hb';rw[uB hs h5 h6 hb'];simp only[zz3,if_false];exact ⟨fun f _=>mK c f,uy hQ l gs' _ _ w hgs hwp (by rw[ab];exact hs.oi af)⟩
   ·cases hwp
theorem A9{P:Program}{m:Nat}{bj:Array Oper}{g:aw}{gs2:List aw} : ∀ {l:List Oper} {gs1:List aw},gu P m bj l=some (gs1++g::gs2)→∃ l1 o l2,l=l1++o::l2∧gu P m bj l1=some gs1∧mD P m bj o=some g
 | [],gs1,h=>by simp[gu] at h
 |o::l,[],h=>by
  obtain ⟨g',gs',e,U,ab⟩:=Ba h;simp only[zx3,zv0] at e;obtain ⟨rfl,rfl⟩:=e;exact ⟨[],o,l,rfl,rfl,U⟩
 |o::l,k::gs1,h=>by
  obtain ⟨g',gs',e,U,ab⟩:=Ba h;simp only[zz2,zv0] at e;obtain ⟨rfl,rfl⟩:=e;obtain ⟨l1,o',l2,rfl,q1,q2⟩:=A9 ab;exact ⟨o::l1,o',l2,rfl,by simp only[gu,U,q1],q2⟩
inductive oN (P:Program) (Q:Exit→ai→Prop) (f:FuncId) (avs:List I):ai→Prop where
 |mk {ts:List (Nat×I)} {os0:List (Nat×ao)} (aJ:Bool) (ρ:List (Nat×Nat)) (os:List (Nat×ao)) (cargs:List I) (ch:List PanicEntry) (post:List (Nat×ao)→Prop):fj P f ch cargs os post→gE ρ os os0→ib aJ (au ts (ef (iQ ρ os) os0)) ρ os avs cargs →
  (∀ os',post os'→gm aJ ρ os os0 (.tuple []) os')→(∀ os',post os'→Q (.panic ch) (au ts (df ρ os'++os0)))→oN P Q f avs (au ts os0)
inductive nH (P:Program) (Q:Exit→ai→Prop):bS→ai→Prop where
 |call {f:FuncId} {args:List aR} {A:ai} : oN P Q f (args.map (ak A)) A→nH P Q (.call f args) A
 |fy {x:aR} {args:List aR} {f:Nat} {caps:List I} {A:ai} : ak A x=.func f caps→oN P Q (lL f) (iL f (args.map (ak A)) caps) A→nH P Q (.fy x args) A
theorem yz{o:Oper}{g:bS}{f:FuncId}{avs:List I}{vs:List Value}{a:Act}{w:World}{D:aU}{E:bf}{Kw:Act→World→Prop}(hop0:di c.P o=some g)(h:oN c.P Q f avs A)(hs:aY c A a w D E)(hall:fJ (bg w D E) avs vs)
  (hrun:fe c.P f=true→(execOp a.eval o).run c.P w=.ok (.enter f vs.toArray) w):o.wpIn c.bH 9 c.P a w Kw (uK c Q):=by
 cases h with
 |mk aJ ρ os cargs ch post hspec hgv ha hb hrest =>
  have hu:=hspec.2.use hs aJ (fun h=>h.mono) ⟨fun _ _=>hs.qH,fun _=>hs.qH⟩ hgv ha (fun r os' hp=>by obtain ⟨rfl,hp⟩:=hp;exact hb os' hp) hall;refine ⟨lA,?_⟩;rw[l8 hop0,hrun hspec.1,Oper.uponIn_enter];refine ⟨wS c,Bw (Calls.mono hu ?_)⟩;rintro e w' ⟨rfl,v,r,os',D2,E2,he,⟨rfl,hp⟩,hs',hv,_⟩;exact ⟨_,hrest os' hp,D2,E2,hs'⟩
theorem EN{o:Oper}{g:bS}{a:Act}{w:World}{Kw:Act→World→Prop}(hop:di c.P o=some g)(h:nH c.P Q g A)(hsim:b5 c A a w):o.wpIn c.bH 9 c.P a w Kw (uK c Q):=by
 have hop0:=hop;obtain ⟨D,E,hs⟩:=hsim;cases h with
 |call h =>
  unfold di at hop;split at hop <;>try (first | (simp at hop;done) | ((repeat' split at hop) <;>simp at hop;done))
  rename_i f' xs ts ho;split at hop
  case isFalse=>simp at hop
  simp only[t7,bS.call.injEq] at hop;obtain ⟨ys,hys,rfl,rfl⟩:=hop;have e:xs.map a.eval=(xs.toList.map a.eval).toArray:=by apply Array.ext';simp
  refine yz (vs:=xs.toList.map a.eval) hop0 h hs (lB hs xs.toList ts.toList ys hys) fun hc =>?_;simp only[execOp,ho,resolve,Act.eval,Deferred.ofValue,Sem.run_bind,Sem.run_pure,Result.andThen_ok,invoke,Array.append_empty,Array.empty_append,ou hc];rw[←e]
 |fy hx h =>
  rename_i x args f caps;unfold di at hop;split at hop <;>try (first | (simp at hop;done) | ((repeat' split at hop) <;>simp at hop;done))
  rename_i y xs ts _ ho;split at hop
  case h_2=>cases hop
  rename_i y' ys U ab;simp only[v6,bS.fy.injEq] at hop;obtain ⟨rfl,rfl⟩:=hop;have hv:=bZ hs U;rw[hx] at hv;obtain ⟨cs,q1,q2⟩:=hv;simp only[al] at q2;obtain ⟨vs,q3,q4⟩:=q2;have hval:a.eval y=jU f vs:=by simpa[bG,I.isAgg,q3] using q1.symm
  have e:xs.map a.eval=(xs.toList.map a.eval).toArray:=by apply Array.ext';simp
  have hargs:=lB hs xs.toList ts.toList ys ab;rcases Nat.lt_or_ge f 1000000 with hf | hf
  ·rw[xf hf,xe hf] at h;rw[nX hf] at hval;refine yz (vs:=xs.toList.map a.eval++vs) hop0 h hs (hargs.append (td q4)) fun hc =>?_;simp only[execOp,ho,resolve,hval,Deferred.ofValue,Sem.run_bind,Sem.run_pure,Result.andThen_ok,invoke,Array.empty_append,ou hc];rw[e];simp
  ·obtain ⟨g,rfl⟩:∃ g:Nat,f=g+1000000:=⟨Nat.sub f 1000000,(Nat.sub_add_cancel hf).symm⟩
   rw[uh,xd] at h;rw[r1] at hval;refine yz (vs:=vs++xs.toList.map a.eval) hop0 h hs ((td q4).append hargs) fun hc =>?_;simp only[execOp,ho,resolve,hval,Deferred.ofValue,Sem.run_bind,Sem.run_pure,Result.andThen_ok,invoke,Array.append_empty,ou hc];rw[e];simp
theorem ae.Ze{gs:List aw}(k:Nat){g:bS}{dst:Option Nat}(hk:gs=gs.take k++⟨dst,g,none⟩::gs.drop (k+1))(h:∀ K:ai→Prop,(∀ B,nH c.P Q g B→K B)→aT c.P c.Y false K (aA (gs.take k) A)):ae c (.cm none gs) Q A:=by
 intro code hc a w hs;cases code <;>simp only[eE] at hc <;>try (first | (cases hc;done) | ((repeat' split at hc) <;>cases hc;done))
 rename_i id bj draw;split at hc
 case h_2=>cases hc
 rename_i gs' hgs;split at hc
 case isFalse=>cases hc
 simp only[v6,bD.cm.injEq] at hc;obtain ⟨hdr,rfl⟩:=hc;cases draw with
 |true=>simp at hdr
 |false =>
  refine wpIn_region_list ?_;rw[hk] at hgs;obtain ⟨l1,o,l2,hl,U,ab⟩:=A9 hgs;rw[hl];refine uy (K:=nH c.P Q g) (fun B a' w' hp hs' =>?_) l1 _ A a w U (h _ fun _ hb=>hb) hs;obtain ⟨q1,q2,q3,q4⟩:=oT ab;have wn:Region.wanted o (yielded bj a'.tmps)=true:=by
   rcases q4 with ⟨a5,_⟩ | ⟨_,_,_,_,_,a5⟩
   ·simp[Region.wanted,a5]
   ·simp at a5
  simp only[wpListIn,wn,if_true];exact EN q1 hp hs'
theorem ae.pA{gs gs1 gs2:List aw}{g:bS}{dst:Option Nat}(e:gs=gs1++⟨dst,g,none⟩::gs2)(h:∀ K:ai→Prop,(∀ B,nH c.P Q g B→K B)→aT c.P c.Y false K (aA gs1 A)):ae c (.cm none gs) Q A:=by
 subst e;refine ae.Ze gs1.length (g:=g) (dst:=dst) ?_ fun K hK =>?_
 ·simp
 ·simpa using h K hK
end
theorem ZP{w:World}{b:Nat}{cs:Array Value}{T:TypeId}{fr:Nat×Nat}{v:Value}(h:w.heap[b]?=some (.cells cs T fr)):w.setCell ⟨b,0,none⟩ v=w.setRow b (cs.setIfInBounds 0 v):=by
 unfold World.setCell World.setRow
 congr 1
 apply Array.ext
 ·simp
 ·intro i U ab;simp only[Array.getElem_modify];split
  ·rename_i e;subst e;obtain ⟨_,hv⟩:=zy7.1 h;simp[hv]
  ·rfl
def tG(P:Program)(f:FuncId):Prop:=fe P f=true∧∀ (b:Nat) (T:TypeId) (w:World) (x:Bool),w.heap[b]?=some (.cells #[.bool x] T (0,0))→CallsDIn Fence.wide 8 P f #[.pointer (some ⟨b,0,none⟩)] .returning w fun e u' w'=>(∃ v,e=.returned v)∧u'=.returning∧w'=w
def tB(P:Program)(f:FuncId)(ch:List PanicEntry):Prop:=fe P f=true∧∀ (b:Nat) (T:TypeId) (w:World) (x:Bool),w.heap[b]?=some (.cells #[.bool x] T (0,0)) →
 CallsDIn Fence.wide 8 P f #[.pointer (some ⟨b,0,none⟩)] (.panicking ch) w fun e u' w'=>(∃ v,e=.returned v)∧settle u'=.returning∧∃ w2,Below w.heap.size w w2∧w'=w2.setCell ⟨b,0,none⟩ (.bool false)
def kR(f:FuncId)(v:Value):Deferred := { target:=.fn (.func f) #[v],args := #[] }
def sY(rs:List bV)(post:cA)(ch:List PanicEntry)(N:Nat):Exit→ai→Prop
 | .ret,A=>(∃ x,A.o N=some (.box (.bool x)))∧jw rs post A
 | .panic ch',A=>ch'=ch∧(∃ x,A.o N=some (.box (.bool x)))∧jw rs post (A.aV N (.box (.bool false)))
 |_,_=>False
section
variable {P:Program} {n:Nat} {w:World} {D:aU} {E:bf} {rs:List bV} {post:cA} {fn:Func} {ch:List PanicEntry} {f:FuncId} {N b:Nat}
theorem DO(hrs:ig P fn.results.toList=some rs)(hEN:E N=some (.aJ b .one)){A:ai}{D':aU}{E':bf}{u:FrameMode}(hx:∃ x,A.o N=some (.box (.bool x)))
  (hcase:(u=.returning∧jw rs post A∧tG P f)∨(u=.panicking ch∧jw rs post (A.aV N (.box (.bool false)))∧tB P f ch)) :
  ∀ (ds:List Deferred) (a:Act) (w':World),a.defers=ds→aY ⟨P,w,D,n,cE E,E,dv,none,some [kR f (.pointer (some ⟨b,0,none⟩))]⟩ A a w' D' E'→LeavesInM Fence.wide 9 P fn a.tmps (fun e w'=>∃ v,e=.returned v∧mu w D E post v w') ds u w'
 | [],a,w',ah,hs=>by
  have U:a.defers=[kR f (.pointer (some ⟨b,0,none⟩))]:=hs.eB;rw[ah] at U;cases U
 |d::ds,a,w',ah,hs=>by
  have U:a.defers=[kR f (.pointer (some ⟨b,0,none⟩))]:=hs.eB;rw[ah] at U;simp only[zv0] at U;obtain ⟨rfl,rfl⟩:=U
  ·skip
   obtain ⟨x,hx⟩:=hx;obtain ⟨b',cs,T,e1,e2,e3,e4,e5⟩:cN _ w' D' E' N (some (.box (.bool x))):=hx▸hs.bP N;have hfx:E' N=none∨E' N=some (.aJ b .one):=hs.xn (n:=N) (e:=.aJ b .one) hEN rfl;have hE':E' N=some (.aJ b .one):=by
    rcases hfx with h | h
    ·rw[h] at e1;cases e1
    ·exact h
   rw[hE'] at e1;simp only[v6,bM.aJ.injEq] at e1;obtain ⟨rfl,_⟩:=e1;have hcs:cs = #[.bool x]:=by
    simp only[al] at e4;apply Array.ext';simpa using e4
   subst hcs;refine ⟨by rcases hcase with ⟨rfl,_⟩ | ⟨rfl,_⟩ <;>simp,.inr ⟨fun _=>by decide,.func f,#[.pointer (some ⟨b,0,none⟩)],f,#[.pointer (some ⟨b,0,none⟩)],rfl,?_,fun _ _=>trivial,?_⟩⟩
   ·have hcb:fe P f=true:=by rcases hcase with ⟨_,_,h⟩ | ⟨_,_,h⟩ <;>exact h.1
    simp only[kR,invoke,ou hcb,Array.empty_append]
   ·rcases hcase with ⟨rfl,hr,hi⟩ | ⟨rfl,hr,hc⟩
    ·refine (hi.2 b T w' x e3).mono ?_;rintro e u' w'' ⟨⟨v,rfl⟩,rfl,rfl⟩;obtain ⟨v,U,ab⟩:=hs.uI hrs hr;exact ⟨v,U,v,rfl,ab⟩
    ·refine (hc.2 b T w' x e3).mono ?_;rintro e u' w'' ⟨⟨v,rfl⟩,hu,w2,hb2,rfl⟩;have hs1:=hs.grow (D':=D') hb2 (fun _ _ h=>h) (fun _ _ h _=>h) (fun b o ah=>Nat.lt_of_lt_of_le (hs.aQ b o ah) hb2.size);have e3':w2.heap[b]?=some (.cells #[.bool x] T (0,0)):=(hb2.block b (fS e3)).trans e3;have hs2:=hs1.y7 (y:=.bool false) (cs' := #[.bool false]) hx hE' rfl (by simp[al]);have hw:w2.setCell ⟨b,0,none⟩ (.bool false)=w2.setRow b #[.bool false]:=by
      rw[ZP e3'];rfl
     rw[←hw] at hs2;obtain ⟨v,U,ab⟩:=hs2.uI hrs hr;simp only[hu];exact ⟨v,U,v,rfl,ab⟩
theorem qI{bH:Fence}{m:Nat}{tmps:Array Value}{R R':Ending→World→Prop}(hr:∀ e w,R e w→R' e w):∀ (ds:List Deferred) (u:FrameMode) (w:World),LeavesInM bH m P fn tmps R ds u w→LeavesInM bH m P fn tmps R' ds u w
 | [],u,w,h=>by
  cases u with
  |run=>exact h
  |returning=>obtain ⟨v,U,ab⟩:=h;exact ⟨v,U,hr _ _ ab⟩
  |panicking c=>exact hr _ _ h
 |d::ds,u,w,h=>by
  obtain ⟨U,ab⟩:=h;refine ⟨U,?_⟩;rcases ab with ⟨r,w',k1,k2,k3⟩ | ⟨k1,fv,cap,g,args,k2,k3,k4,k5⟩
  ·exact .inl ⟨r,w',k1,k2,qI hr ds u w' k3⟩
  ·refine .inr ⟨k1,fv,cap,g,args,k2,k3,k4,k5.mono fun e u' w' h =>?_⟩;cases e with
   |returned v=>exact qI hr ds _ w' h
   |panicked c=>exact qI hr ds _ w' h
   |outgrown=>exact hr _ _ h
def tc(P:Program)(fn:Func)(rest:Code)(slots:List Nat)(a:Act)(vs:Array Value)(w:World)(R:Ending→World→Prop):Prop :=
 vs.toList=slots.map (fun t=>a.tmps.getD t undef)→rest.wpIn Fence.wide 9 P (bodyPostM Fence.wide 9 P fn R) a w
theorem tc.mono{rest:Code}{slots:List Nat}{a:Act}{vs:Array Value}{w:World}{R R':Ending→World→Prop}(h:tc P fn rest slots a vs w R)(hr:∀ e w,R e w→R' e w):tc P fn rest slots a vs w R':=fun hv=>by
 refine wpIn_mono (h hv) fun e a' w' q =>?_;cases e <;>simp only[bodyPostM] at q ⊢ <;>first
  |exact qI hr _ _ _ q
  |exact hr _ _ q
  |exact q
theorem G5{w:World}{D:aU}{E:bf}(g:Nat→Value):∀ (slots:List Nat) (args:List I),aG w D E args (slots.map g)→∀ t,bg w D E (bI (slots.zip args) t) (g t)
 | [],args,h,t=>by simp[bI,bg]
 |s::slots,[],h,t=>by simp[bI,bg]
 |s::slots,x::args,h,t=>by
  simp only[aG,zz4] at h;obtain ⟨v,rest,cs,e,U,ab,af⟩:=h;simp only[zv0] at e;obtain ⟨rfl,rfl⟩:=e;simp only[List.zip_cons_cons,bI];split
  ·rename_i hk;subst hk;exact jY U ab
  ·exact G5 g slots args af t
theorem Zq{rest:Code}{x:bD}{slots:List Nat}{a:Act}{args:List I}{os:List (Nat×ao)}{ts:Nat}(hrs:ig P fn.results.toList=some rs)(hx:eE P n rest=some x)(hsz:a.tmps.size=n)(ah:a.defers=[kR f (a.tmps.getD ts undef)])(hos:∀ m,av os m=true→n≤m∧1000000≤m)
  (hts:bI (slots.zip args) ts=.ptr N []) {y:Bool} (hN:aj os N=some (.box (.bool y))) (hi:tG P f) (hc:tB P f ch)
  (hAW:∀ (w:World) (D:aU) (E:bf) (d:Deferred),ae ⟨P,w,D,n,cE E,E,dv,none,some [d]⟩ x (sY rs post ch N) (au (slots.zip args) os)):oK (tc P fn rest slots a) (fun w _ E=>h2 P w (cE E)) args os post:=by
 intro w D E vs hl hD ho hv hvs;have hvs':vs=slots.map (fun t=>a.tmps.getD t undef):=by simpa using hvs
 subst hvs';have htm:=G5 (fun t=>a.tmps.getD t undef) slots args hv;have hp:=htm ts;rw[hts] at hp;obtain ⟨b,bd,off,p1,p2,p3⟩:=l5 hp;have hob:cN _ w D E N (some (.box (.bool y))):=hN▸ho.bP N;obtain ⟨b',cs,T,e1,_⟩:=hob;have hsh:bd=.one:=by
  rw[p1] at e1;simp only[v6,bM.aJ.injEq] at e1;rw[e1.2];rfl
 subst hsh;have hoff:off=0:=by simpa[cS.off] using p2.symm
 subst hoff;simp only[p3] at ah;have hsim:aY ⟨P,w,D,n,cE E,E,dv,none,some [kR f (.pointer (some ⟨b,0,none⟩))]⟩ (au (slots.zip args) os) a w D E:=by
  refine ⟨hsz,ah,htm,e8.refl _ _,fun _ _ h _=>h,hD,fun m =>?_,ho.cO,fun m e h=>.inr ⟨e,h,.refl e⟩,fun m hm =>?_,fun _ _ h=>h,rp hl,.refl _ _⟩
  ·have h:=ho.bP m;simp only[au];cases hx:aj os m with
   |none=>rw[hx] at h;exact h
   |some x=>rw[hx] at h;exact cN.kv h fun e b he hb=>.inr ⟨m,e,he,hb⟩
  ·refine hos m ?_;cases hx:aj os m with
   |none=>have h:=ho.bP m;rw[hx] at h;exact absurd h hm
   |some x=>simp[av,hx]
 refine wpIn_mono ((hAW w D E _) rest hx a w ⟨D,E,hsim⟩) ?_;rintro e a' w' ⟨A,hq,D',E',hs⟩;have bn:∀ e w',(∃ v,e=Ending.returned v∧mu w D E post v w')→∃ v D' E' r os',e=.returned v∧post r os'∧bg w' D' E' r v∧ki (fun b=>w.heap.size≤b∨cE E b) w' D' E' (aj os') ∧
   e8 (fun b=>w.heap.size≤b∨cE E b) w w'∧(∀ b o,D b o→D' b o)∧(∀ b o,D' b o→b<w'.heap.size)∧(∀ b o,D' b o→b<w.heap.size→¬ cE E b→D b o) ∧
   (∀ n e,E n=some e→av os' n=true→∃ e',E' n=some e'∧e.le e')∧h4 w D w':=fun e w' ⟨v,U,D',E',r,os',ab⟩=>⟨v,D',E',r,os',U,ab⟩
 cases e <;>simp only[sY] at hq
 ·obtain ⟨U,ab⟩:=hq;exact qI bn _ _ _ (DO (ch:=ch) hrs p1 U (.inl ⟨rfl,ab,hi⟩) a'.defers a' w' rfl hs)
 ·obtain ⟨rfl,U,ab⟩:=hq;exact qI bn _ _ _ (DO hrs p1 U (.inr ⟨rfl,ab,hc⟩) a'.defers a' w' rfl hs)
end
def wR(P:Program)(n:Nat):Code→Option (bD×FuncId×Nat×Nat×bD)
 | .seq lW (.seq (.region _ bj false) rest)=>match bj.toList with
  | [o1,o2]=>match mD P n bj o1,o2.op with
   |some ⟨some t5,.mk g [.t ts],none⟩,.defer { callee:=.value (.tmp t),args,.. } =>if t=t5∧args = #[]∧o2.guard=none∧o2.dst=none then (match eE P n lW,eE P n rest with
     |some x0,some x=>some (x0,g,ts,t5,x)
     |_,_=>none)
    else none
   |_,_=>none
  |_=>none
 |_=>none
structure Im (P:Program) (n:Nat) (x:bD) (rs:List bV) (post:cA) (ch:List PanicEntry) (g:FuncId) (ts t5:Nat) (tsl:List (Nat×I)) (os0:List (Nat×ao)) (ρ:List (Nat×Nat)) (os1:List (Nat×ao)) (slots:List Nat) (cargs:List I) (N:Nat) (y:Bool) (post1:cA):Prop where
 fQ:bI tsl ts=.ptr (bx ρ N) []
 Dk:gE ρ os1 os0
 arg:ib false (au ((t5,.func g [.ptr (bx ρ N) []])::tsl) (ef (iQ ρ os1) os0)) ρ os1 (slots.map (bI ((t5,.func g [.ptr (bx ρ N) []])::tsl))) cargs
 Aa:∀ r os',post1 r os'→gm false ρ os1 os0 r os'
 GM:bI (slots.zip cargs) ts=.ptr N []
 box:aj os1 N=some (.box (.bool y))
 mL:∀ m,av os1 m=true→n≤m∧1000000≤m
 rest:∀ (w:World) (D:aU) (E:bf) (d:Deferred),ae ⟨P,w,D,n,cE E,E,dv,none,some [d]⟩ x (sY rs post1 ch N) (au (slots.zip cargs) os1)
 gG:∀ r os',post1 r os'→∃ osF,r.flat=true∧r.a8 (bx ρ)=r∧(∀ m z,aj osF m=some z→aj (df ρ os'++os0) m=some z∧z.only (av osF)=true∧z.eg=true)∧post r osF
abbrev ub(P:Program)(w:World)(D:aU)(n:Nat)(E:bf)(b:Option (List Deferred)):cX:=⟨P,w,D,n,cE E,E,dv,none,b⟩
theorem aY.Xb{P:Program}{n:Nat}{w:World}{D:aU}{E:bf}{fx:Option (List Deferred)}{post:cA}{A:ai}{a:Act}{w':World}{D':aU}{E':bf}{r:I}{v:Value}{os:List (Nat×ao)}
  (hs:aY (ub P w D n E fx) A a w' D' E') (U:∀ m z,aj os m=some z→A.o m=some z∧z.only (av os)=true∧z.eg=true) (hf:r.flat=true) (hv:bg w' D' E' r v) (hp:post r os):mu w D E post v w':=by
 obtain ⟨D2,E2,hw,e2,e2n,q1,q2,q3,q4,q5,q6⟩:=hs.xS U;exact ⟨D2,E2,r,os,hp,bg.flat hf hv,q1,q2,q3,q4,q5,q6⟩
theorem cQ.Ys{P:Program}{f:FuncId}{fn:Func}{x0 x:bD}{g:FuncId}{ts t5:Nat}{rs:List bV}{args:List I}{os:List (Nat×ao)}{post:cA}{ch:List PanicEntry}(hf:P.funcs[f]?=some fn)(hcall:fe P f=true)(hc:(fn.body.bind (wR P fn.ntmps))=some (x0,g,ts,t5,x))
  (hrs:ig P fn.results.toList=some rs) (hn:args.length≤fn.ntmps) (hn2:fn.ntmps≤1000000) (hos:∀ m,av os m=true→1000000≤m) (hi:tG P g) (hca:tB P g ch) (hts:ts≠t5)
  (h:I.gB args→∀ (w:World) (D:aU) (E:bf),ae ⟨P,w,D,fn.ntmps,cE E,E,dv,none,some []⟩ x0 (eb (fun B=>∃ tsl os0 ρ os1 slots cargs N y post1,B=au tsl os0∧Im P fn.ntmps x rs post ch g ts t5 tsl os0 ρ os1 slots cargs N y post1) (fun _ _=>False)) (au (bQ 0 args) os)):cQ P f args os post:=by
 obtain ⟨body,hb,hc⟩:=zw8.1 hc;refine ⟨hcall,fun w D E vs hl hD ho hv =>?_⟩;have hlen:=te hv;have s0:=zg (P:=P) (n:=fn.ntmps) (Y:=dv) hD ho hv (by omega) (fun m hm=>⟨Nat.le_trans hn2 (hos m hm),hos m hm⟩) (rp hl);have hsim:aY (ub P w D fn.ntmps E (some [])) (pU args os) { tmps:=vs.toArray++Array.replicate (fn.ntmps-vs.toArray.size) undef,defers:=[] } w D E :=
  ⟨s0.sz,rfl,s0.dN,s0.dG,s0.cZ,s0.aQ,s0.bP,s0.cO,s0.dQ,s0.eL,s0.cR,rp hl,s0.fw⟩
 obtain ⟨RR,hRR⟩:∃ RR:Ending→World→Prop,RR=fun e w'=>∃ v,e=.returned v∧mu w D E post v w':=⟨_,rfl⟩
 refine Calls.mono (R:=RR) ?_ (fun e w' q=>by rw[hRR] at q;obtain ⟨v,he,D',E',r,os',k⟩:=q;exact ⟨v,D',E',r,os',he,k⟩);refine (callsIn_wide (n:=9)).1 (callsIn_of_wp_marks hf hb trivial ?_);unfold wR at hc;split at hc
 case h_2=>cases hc
 rename_i lW id bj rest;split at hc
 case h_2=>cases hc
 rename_i o1 o2 hops;split at hc
 case h_2=>cases hc
 rename_i t5' g' ts' t dargs _ hg1 ho2;split at hc
 case isFalse=>cases hc
 rename_i hok;obtain ⟨rfl,rfl,hgd,hdst⟩:=hok;split at hc
 case h_2=>cases hc
 rename_i y0 y hx0 hx;simp only[v6,Prod.mk.injEq] at hc;obtain ⟨rfl,rfl,rfl,rfl,rfl⟩:=hc;refine wpIn_seq ?_;have hw0:=((h (rh _ _ hv) w D E).sub (vE args os)) lW hx0 _ w ⟨D,E,hsim⟩;refine wpIn_mono hw0 ?_;rintro e a1 w1 ⟨B,hq,D1,E1,hs1⟩;cases e <;>simp only[eb] at hq
 obtain ⟨tsl,os0,ρ,os1,slots,cargs,N,yb,post1,rfl,R⟩:=hq;simp only[Exit.then];refine wpIn_seq (wpIn_region_list ?_);rw[hops];obtain ⟨q1,q2,q3,q4⟩:=oT hg1;simp only at q1 q2;have wn1:∀ a:Act,Region.wanted o1 (yielded bj a.tmps)=true:=fun a=>by
  rcases q4 with ⟨a5,_⟩ | ⟨_,_,_,_,_,a5⟩
  ·simp[Region.wanted,a5]
  ·simp at a5
 have wn2:∀ a:Act,Region.wanted o2 (yielded bj a.tmps)=true:=fun a=>by simp[Region.wanted,hgd]
 simp only[wpListIn,wn1,if_true];have hmk:bq (au tsl os0) (.mk g' [.t ts'])=some (.func g' [.ptr (bx ρ N) []]):=by
  simp[bq,ak,au,R.fQ,I.bT]
 have d1:=(E0 (c:=ub P w D fn.ntmps E (some [])) q1 hmk).does q3;rw[←q2] at d1;refine d1.wp q1 ⟨D1,E1,hs1⟩ fun a2 w2 hs2 =>?_;obtain ⟨D2,E2,hs2⟩:=hs2;simp only[wn2,if_true];rw[Ef] at hs2
 -- the deferred call
 have hglt:=Bv hi.1;have hfv:=hs2.dN t;simp only[au,bI,if_true] at hfv;obtain ⟨fc,f1,f2⟩:=hfv;simp only[al] at f2;obtain ⟨fvs,f3,f4⟩:=f2;have hval:a2.tmps.getD t undef=.func (.func g') #[] fvs.toArray:=by
  rw[←nX hglt];simpa[bG,I.isAgg,f3] using f1.symm
 simp only[aG] at f4;obtain ⟨pv,prest,pcs,rfl,p1,p2,rfl⟩:=f4;have hpv:=hs2.dN ts';simp only[au,bI,if_neg hts,R.fQ] at hpv;obtain ⟨pb,psh,poff,b1,b2,b3⟩:=l5 hpv;obtain ⟨pb',psh',poff',b1',b2',b3'⟩:=l5 (jY p1 p2);have hpeq:pv=a2.tmps.getD ts' undef:=by
  rw[b1] at b1';simp only[v6,bM.aJ.injEq] at b1';obtain ⟨rfl,rfl⟩:=b1';rw[b2] at b2';simp only[v6] at b2';subst b2';rw[b3,b3']
 have hdf:a2.defers=[]:=hs2.eB;obtain ⟨a3,ha3⟩:∃ a3:Act,a3 = { a2 with defers:=[kR g' (a2.tmps.getD ts' undef)] } :=⟨_,rfl⟩
 have hrun:(o2.semAt Fence.wide.round a2.eval).run P w2=.ok (.defer (kR g' (a2.tmps.getD ts' undef))) w2:=by
  show (execOp a2.eval o2).run P w2=_
  have he:a2.eval (.tmp t)=.func (.func g') #[] #[pv]:=hval;simp[execOp,ho2,resolve,he,Deferred.ofValue,kR,hpeq]
 refine ⟨fun _ _=>trivial,?_⟩;rw[hrun,Oper.uponIn_defer,hdf,hdst];simp only[Exit.then];have hput:({ tmps:=a2.tmps,defers:=[kR g' (a2.tmps.getD ts' undef)] } : Act).put none undef=a3:=by rw[ha3];rfl
 rw[hput]
 -- the rest
 have hand:=Zq (P:=P) (n:=fn.ntmps) (fn:=fn) (f:=g') (N:=N) (ch:=ch) (slots:=slots) (a:=a3) (args:=cargs) (os:=os1) (ts:=ts') hrs hx (by rw[ha3];exact hs2.sz) (by rw[ha3]) R.mL R.GM R.box hi hca R.rest;have hs3:aY (ub P w D fn.ntmps E (some [kR g' (a2.tmps.getD ts' undef)])) (au ((t,.func g' [.ptr (bx ρ N) []])::tsl) os0) a3 w2 D2 E2:=by
  rw[ha3];exact ⟨hs2.sz,rfl,hs2.dN,hs2.dG,hs2.cZ,hs2.aQ,hs2.bP,hs2.cO,hs2.dQ,hs2.eL,hs2.cR,rp hl,hs2.fw⟩
 have hall:∀ l:List Nat,fJ (bg w2 D2 E2) (l.map (bI ((t,.func g' [.ptr (bx ρ N) []])::tsl))) (l.map fun k=>a3.tmps.getD k undef):=fun l=>by
  induction l with
  |nil=>exact .nil
  |cons k l ih=>exact .cons (hs3.dN k) ih
 have hus:=hand.use hs3 false (fun h hr=>h.mono hr) ⟨(fun h=>by cases h),fun _=>hs3.qH⟩ R.Dk R.arg R.Aa (hall slots);refine tc.mono hus ?_ (by simp);rintro e w' ⟨v,r,os',D4,E4,rfl,hp,hs4,hv4,_⟩;rw[hRR];obtain ⟨osF,g1,g2,g3,g4⟩:=R.gG r os' hp;rw[g2] at hv4;exact ⟨v,rfl,hs4.Xb g3 g1 hv4 g4⟩
def gS:aw:=⟨none,.mv (.c (.bool true)),none⟩
theorem Js{l:List Oper}{cl:List Nat}(h7:∀ i,i<l.length→(((l.map ct).getD i []).all (fun k=>decide (k<i))&&Nat.beq (cl.getD i 0) (mj cl ((l.map ct).getD i [])))=true)
  {S:Nat→Prop} (hS:∀ i o,l[i]?=some o→S i→∀ k∈ct o,S k):∀ n i o,i≤n→l[i]?=some o→(∀ k∈ct o,S k)→∀ j,(cl.getD i 0).testBit j=true→S j:=by
 have fQ:∀ i o,l[i]?=some o→(∀ k∈ct o,k<i)∧(∀ j,(cl.getD i 0).testBit j=true→j∈ct o∨∃ k∈ct o,(cl.getD k 0).testBit j=true):=by
  intro i o ho;have hi:i<l.length:=(zz8.1 ho).1;have h8:=h7 i hi;have hon:(l.map ct).getD i []=ct o:=by simp[zz0,ho]
  rw[hon] at h8;simp only[t8,zx2,decide_eq_true_eq] at h8;have hb:=Nat.eq_of_beq_eq_true h8.2;exact ⟨h8.1,fun j hj=>tv (by rw[←hb];exact hj)⟩
 intro n
 induction n with
 |zero =>
  intro i o hi ho hon j hj;obtain ⟨h8,h9⟩:=fQ i o ho;rcases h9 j hj with h | ⟨k,hk,_⟩
  ·exact hon j h
  ·have:=h8 k hk;omega
 |succ n ih =>
  intro i o hi ho hon j hj;obtain ⟨h8,h9⟩:=fQ i o ho;rcases h9 j hj with h | ⟨k,hk,hjk⟩
  ·exact hon j h
  ·have hki:=h8 k hk;have hkl:k<l.length:=Nat.lt_trans hki (zz8.1 ho).1;obtain ⟨ok,hok⟩:∃ ok,l[k]?=some ok:=⟨l[k],zx0 hkl⟩
   exact ih k ok (by omega) hok (hS k ok hok (hon k hk)) j hjk
def EM(hs:List FuncId)(aE:en)(on:List (List Nat))(gs:List aw)(σ:List Nat)(m:Nat):Bool :=
 ve hs aE on (gs.take m++[gS]) (mE on) (σ++[m])&&(uG (m+1) (mE on) m&&Nat.beq gs.length (m+1))
section
variable {c:cX}
theorem IG{K:ai→Prop}{fs:List FuncId}{aE:en}{bj:Array Oper}{gs0 gs:List aw}{σ:List Nat}{Q:Exit→Act→World→Prop}{m:Nat}(hm:m<bj.size)(hQ:∀ (B:ai) (a:Act) (w:World) (Kw:Act→World→Prop),K B→b5 c B a w→wpOpIn c.bH 9 c.P bj Q m Kw a w)
  (hgs:gu c.P c.n bj bj.toList=some gs0) (hsame:∀ i,i≠m→gs[i]?=gs0[i]?) (hgm:gs[m]?=some gS) (hgl:gs.length=bj.size) (ah:zI fs aE bj.toList gs σ)
  (hlast:∀ (S:Nat→Prop),(∀ i o,bj.toList[i]?=some o→S i→∀ k∈ct o,S k)→∀ o,bj.toList[m]?=some o→(∀ k∈ct o,S k)→∀ j,j<gs.length→j≠m→S j) :
  ∀ (fuel:Nat) (listed:Array Bool) (A:ai) (a:Act) (w:World),listed.size=bj.size→(∀ i o,bj.toList[i]?=some o→listed.getD i false=true→∀ k∈ct o,listed.getD k false=true)→(fM σ listed).length≤fuel →
   dy aE A→listed.getD m true=false→cj c.P c.Y fs K (aA (j7 gs σ listed) A)→b5 c A a w→wpAnyIn c.bH 9 c.P .any bj Q fuel listed a w:=by
 obtain ⟨hlen,hat⟩:=kQ hgs;have onOf_mem:∀ (o:Oper) (e:Edge),e∈o.after→Region.binds .any e=true→e.on∈ct o:=fun o e he hb=>by
  simp only[ct,zy5,zx5];exact ⟨e,⟨by simpa using he,hb⟩,rfl⟩
 have of_onOf:∀ (o:Oper) (k:Nat),k∈ct o→∃ e∈o.after,Region.binds .any e=true∧e.on=k:=fun o k hk=>by
  simp only[ct,zy5,zx5] at hk;obtain ⟨e,⟨U,ab⟩,af⟩:=hk;exact ⟨e,by simpa using U,ab,af⟩
 have last:∀ (listed:Array Bool),listed.size=bj.size→Region.ready .any bj listed=[]→listed.getD m true=false→False:=by
  intro listed hsz hr hml;have all:∀ n,∀ i,i<n→i<bj.size→listed.getD i true=true:=by
   intro n
   induction n with
   |zero=>intro i hi;omega
   |succ n ih =>
    intro i hi his;cases hb:listed.getD i true with
    |true=>rfl
    |false =>
     exfalso
     have ho:bj[i]?=some bj[i]:=Array.getElem?_eq_getElem his;have:i∈Region.ready .any bj listed:=mem_ready.2 ⟨hb,bj[i],ho,fun e he hbd=>by
      have hlt:=ah.gG i bj[i] (by simp) e.on (onOf_mem _ e he hbd);have U:=ih e.on (by omega) (by omega);have ab:e.on<listed.size:=by omega
      simpa[Array.getD_eq_getD_getElem?,ab] using U⟩
     rw[hr] at this;cases this
  have:=all (m+1) m (by omega) hm;rw[hml] at this;cases this
 intro fuel
 induction fuel with
 |zero =>
  intro listed A a w hsz hcl hcnt hinv hml hwp hs;have hnone:fM σ listed=[]:=List.length_eq_zero_iff.1 (by omega);have:m∈fM σ listed:=by
   simp only[fM,zx5,hml,Bool.not_false,and_true];exact ah.all m (by omega)
  rw[hnone] at this;cases this
 |succ fuel ih =>
  intro listed A a w hsz hcl hcnt hinv hml hwp hs;refine ⟨fun hr=>(last listed hsz hr hml).elim,fun i hi =>?_⟩;obtain ⟨hun,o,ho,hall⟩:=mem_ready.1 hi;have hin:i<bj.size:=(zy7.1 ho).1;obtain ⟨s1,s2,hσ,e1,e2⟩:=Gg ah.sG (ah.all i (by omega)) (by omega) hun;have hol:bj.toList[i]?=some o:=by simpa using ho
  obtain ⟨g,hgi0,hcg⟩:=hat i o hol;have hon:∀ k∈ct o,listed.getD k false=true:=fun k hk=>by
   obtain ⟨e,U,ab,af⟩:=of_onOf o k hk;exact af▸hall e U ab
  by_cases him:i=m
  ·subst him;have hnil:fM σ listed=[i]:=by
    have hz:∀ j∈s1++s2,(!listed.getD j true)=false:=fun j hj=>by
     have hjσ:j∈σ:=by rw[hσ];rcases zy4.1 hj with h | h <;>simp[h]
     have hjl:=ah.lt j hjσ;have hji:j≠i:=fun e=>by
      subst e;have hnd:=ah.sG;rw[hσ] at hnd;rcases zy4.1 hj with h | h
      ·exact (zv2.1 hnd).2.2 j h j (by simp) rfl
      ·exact (List.nodup_cons.1 (zv2.1 hnd).2.1).1 h
     have h5:=hlast (fun k=>listed.getD k false=true) hcl o hol hon j hjl hji;have hjs:j<listed.size:=by omega
     simp[Array.getD_eq_getD_getElem?,hjs] at h5 ⊢;exact h5
    rw[e1];have f1:(s1.filter fun j => !listed.getD j true)=[]:=List.filter_eq_nil_iff.2 fun j hj=>by rw[hz j (List.mem_append_left _ hj)];simp
    have f2:(s2.filter fun j => !listed.getD j true)=[]:=List.filter_eq_nil_iff.2 fun j hj=>by rw[hz j (List.mem_append_right _ hj)];simp
    rw[f1,f2];rfl
   have hgd:gs.getD i default=gS:=by simp[zz0,hgm]
   simp only[j7,hnil,zz4,zx6,hgd] at hwp;have e:aA [gS] A=.done A:=rfl;rw[e] at hwp;cases hwp with
   |done hk=>exact hQ A a w _ hk hs
  have hgi:gs[i]?=some g:=by rw[hsame i him];exact hgi0
  have hgd:gs.getD i default=g:=by simp[zz0,hgi]
  have hwp':cj c.P c.Y fs K (aA (g::j7 gs σ (listed.setIfInBounds i true)) A):=by
   simp only[j7,e1,zy8,zz4,hgd] at hwp;simp only[j7,e2,zy8];refine cj.ql hinv (fun j hj =>?_) hwp;obtain ⟨k,hk,rfl⟩:=zy5.1 hj;obtain ⟨hk1,hk2⟩:=zx5.1 hk;have:=ah.r9 (fun k=>listed.getD k false=true) hcl s1 i s2 o hσ hol hon k hk1 (by
    have hks:k<listed.size:=by
     have:=ah.lt k (by rw[hσ];exact List.mem_append_left _ hk1);omega
    simp[Array.getD_eq_getD_getElem?,hks] at hk2 ⊢;exact hk2)
   rw[hgd] at this;have hkl:=ah.lt k (by rw[hσ];exact List.mem_append_left _ hk1);have hks:k<bj.size:=by omega
   refine ⟨this,?_⟩;rcases ah.xO k bj[k] (by simp) with h | h
   ·exact h
   ·exfalso
    have h9:=h.1;rw[hσ,List.getLast?_append] at h9;have hne:(i::s2).getLast?=some k:=by
     cases h10:(i::s2).getLast? with
     |none=>simp at h10
     |some q=>rw[h10] at h9;simpa using h9
    have hk2:k∈i::s2:=List.mem_of_getLast? hne;have hnd:=ah.sG;rw[hσ] at hnd;exact (zv2.1 hnd).2.2 k hk1 k hk2 rfl
  unfold wpOpIn;rw[ho];have hokg:po g.op=true:=by
   have:=ah.ok i (by omega)
   rwa [hgd] at this
  have hcl':∀ m om,bj.toList[m]?=some om→(listed.setIfInBounds i true).getD m false=true→∀ k∈ct om,(listed.setIfInBounds i true).getD k false=true:=by
   intro m om hom hm k hk;by_cases hmi:m=i
   ·subst hmi;rw[hol,v6] at hom;subst hom;exact getD_set_true (hon k hk)
   ·rw[getD_set_ne false (Ne.symm hmi)] at hm;exact getD_set_true (hcl m om hom hm k hk)
  have hfu:(fM σ (listed.setIfInBounds i true)).length≤fuel:=by
   have:(fM σ listed).length=(fM σ (listed.setIfInBounds i true)).length+1:=by
    rw[e1,e2];simp;omega
   omega
  have hml':(listed.setIfInBounds i true).getD m true=false:=by rw[getD_set_ne true him];exact hml
  rcases ah.xO i o hol with hlb | ⟨hla,hlb⟩
  ·rw[hgd] at hlb;exact C6 hcg hinv ⟨hokg,hlb⟩ hwp' hs fun B a' w' hw hiB hs'=>ih _ B a' w' (by simpa using hsz) hcl' hfu hiB hml' hw hs'
  ·exfalso
   have h5:=hlb (fun k=>listed.getD k false=true) hcl hon m (by omega) (Ne.symm him);have hms:m<listed.size:=by omega
   simp[Array.getD_eq_getD_getElem?,hms] at h5 hml;rw[hml] at h5;cases h5
theorem ae.j6{Q:Exit→ai→Prop}{A:ai}{on:List (List Nat)}{gs:List aw}(m:Nat)(hs:List FuncId)(aE:en)(σ:List Nat){g:bS}{dst:Option Nat}(ah:EM hs aE on gs σ m=true)(hk:gs[m]?=some ⟨dst,g,none⟩)(hi:dy aE A)
  (h:∀ K:ai→Prop,(∀ B,nH c.P Q g B→K B)→cj c.P c.Y hs K (aA (gJ (σ++[m]) (gs.take m++[gS])) A)):ae c (.cm (some on) gs) Q A:=by
 intro code hc a w hs';cases code <;>simp only[eE] at hc <;>try (first | (cases hc;done) | ((repeat' split at hc) <;>cases hc;done))
 rename_i id bj draw;split at hc
 case h_2=>cases hc
 rename_i gs' hgs;split at hc
 case isFalse=>cases hc
 rename_i hok;simp only[v6,bD.cm.injEq] at hc;obtain ⟨he,rfl⟩:=hc;cases draw with
 |false=>cases he
 |true =>
  simp only[cond_true,v6] at he;subst he;simp only[Bool.not_true,Bool.false_or] at hok;simp only[EM,t8] at ah;obtain ⟨hd1,hd2,hd3⟩:=ah;have hglen:=Nat.eq_of_beq_eq_true hd3;have hops:gs'.length=bj.size:=by rw[(kQ hgs).1,zw2]
  have hXl:(gs'.take m++[gS]).length=bj.size:=by simp;omega
  have hp:=YH (l:=bj.toList) (by rw[hXl,zw2]) hd1;have h7:∀ i,i<bj.toList.length→(((bj.toList.map ct).getD i []).all (fun k=>decide (k<i))&&Nat.beq ((mE (bj.toList.map ct)).getD i 0) (mj (mE (bj.toList.map ct)) ((bj.toList.map ct).getD i [])))=true:=by
   simp only[ve,t8,zx2,zy9] at hd1;intro i hi;have:=hd1.2.2 i (by rw[hXl];simpa using hi);simpa only[t8,zx2] using this
  have hmlt:m<bj.size:=by omega
  refine wpIn_region_any hok (IG (K:=nH c.P Q g) (m:=m) hmlt (fun B a' w' Kw hpn hs2 =>?_) hgs (gs:=gs'.take m++[gS]) (fun i him =>?_) ?_ hXl hp (fun S hS o ho hon j hj hjm =>?_) bj.size (Array.replicate bj.size false) A a _ (by simp) ?_ ?_ hi (by simp[Array.getD_eq_getD_getElem?,hmlt]) ?_ ?_)
  ·obtain ⟨g1,hg1,hg2⟩:=(kQ hgs).2 m bj[m] (by simp[hmlt]);rw[hk,v6] at hg1;subst hg1;obtain ⟨q1,q2,q3,q4⟩:=oT hg2;have wn:Region.wanted bj[m] (yielded bj a'.tmps)=true:=by
    rcases q4 with ⟨a5,_⟩ | ⟨_,_,_,_,_,a5⟩
    ·simp[Region.wanted,a5]
    ·simp at a5
   unfold wpOpIn;rw[Array.getElem?_eq_getElem hmlt];simp only[wn,if_true];exact EN q1 hpn hs2
  ·rcases Nat.lt_or_ge i m with hl | hl
   ·rw[zy6 (by simp;omega),List.getElem?_take,if_pos hl]
   ·rw[List.getElem?_eq_none (by rw[hXl];omega),List.getElem?_eq_none (by omega)]
  ·rw[zw5 (by simp;omega)];simp[show min m gs'.length=m by omega]
  ·have hb:(mE (bj.toList.map ct)).getD m 0 |>.testBit j:=by
    simp only[uG,zx2,zy9,Bool.or_eq_true,beq_iff_eq] at hd2;rcases hd2 j (by omega) with e | e
    ·exact absurd e hjm
    ·exact e
   exact Js h7 hS m m o (zz5 _) ho hon j hb
  ·intro i o _ h
   exfalso
   simp only[Array.getD_eq_getD_getElem?,Array.getElem?_replicate] at h;split at h <;>simp at h
  ·refine Nat.le_trans (List.length_filter_le _ _) ?_;rw[hp.len,hXl];exact zz5 _
  ·have hall:fM (σ++[m]) (Array.replicate bj.size false)=σ++[m]:=by
    simp only[fM];refine List.filter_eq_self.2 fun i hi =>?_;have U:=hp.lt i hi;rw[hXl] at U;simp[U]
   simp only[j7,hall];exact h _ fun _ hb=>hb
  ·obtain ⟨D,E,hs'⟩:=hs';exact ⟨D,E,hs'.grow (w' := { w with drawn:=w.drawn+1 }) ⟨rfl,rfl,rfl,zz5 _,fun _ _=>rfl⟩ (fun _ _ h=>h) (fun _ _ h _=>h) (fun b o h=>hs'.aQ b o h)⟩
end
end Go.Abs
namespace Go.Abs
open Go Go.RowKit
open Enc (enc)
def nM(w:World):aU:=fun b _=>b<w.heap.size
structure mw (P:Program) (t:TypeId) (α:Type) [Enc α]:Prop where
 cells:P.cellsOf t=Enc.sz α
 YN:0<Enc.sz α
 yn:∀ {H:Type} {enc0:TypeId×Value→H} {w:World} {fuel:Nat} {cs:List Value} {x:DataW H×List MemPlace},DataW.trod enc0 P w 0 (fun _=>true) true fuel t cs=some x→∃ a:α,al w (nM w) dn (enc a) cs
theorem YC{P:Program}{t:TypeId}(ht:P.underlying t=some (.int .i64))(hc:P.cellsOf t=1):mw P t Int :=
 ⟨hc,by decide,fun h=>by
  obtain ⟨n,rfl,_,hw⟩:=DataW.trod_int ht h;refine ⟨n,?_⟩;rw[eJ,al];simp only[Lit.wf,t8,decide_eq_true_eq] at hw;exact ⟨rfl,hw.1,hw.2⟩⟩
theorem Iy(a:Addr)(i j:Nat):(a.add i).add j=a.add (i+j):=by
 unfold Addr.add;by_cases hi:i=0 <;>by_cases hj:j=0 <;>simp[hi,hj,Nat.add_assoc]
theorem YD{P:Program}{t e:TypeId}{α:Type}[Enc α](ht:P.underlying t=some (.slice e))(he:mw P e α)(hc:P.cellsOf t=1):mw P t (List α) :=
 ⟨hc,by rw[rR];exact Nat.one_pos,fun {H enc0 w fuel cs x} h=>by
  rcases DataW.trod_slice ht h with ⟨rfl,_⟩ | ⟨a,len,cap,elems,rest,n,_,rfl,_,hb,hl,hm,hlen,hel,_⟩
  ·refine ⟨[],?_⟩;simp only[iy,zx6];rw[al];exact ⟨none,0,rfl,zz5 _,by decide,.inl rfl,by simp⟩
  ·have key:∀ k,k≤len→∃ (l:List α) (cs':List Value),l.length=k∧aP w (nM w) dn (l.map enc) cs'∧cs'.length=k*Enc.sz α∧∀ j v,cs'[j]?=some v→w.cell? (a.add j)=some v:=by
    intro k
    induction k with
    |zero=>exact fun _=>⟨[],[],rfl,by simp[aP],by simp,by simp⟩
    |succ k ih =>
     intro hk;obtain ⟨l,cs',U,ab,af,aq⟩:=ih (by omega);have h5:=hel k (by omega);have h6:k<elems.length:=by omega
     rw[zx0 h6] at h5;obtain ⟨ce,h7,h8⟩:=zw8.1 h5;obtain ⟨y,hy⟩:=he.yn h8;rw[he.cells] at h7;obtain ⟨_,h9,h10⟩:=World.cells?_some h7;refine ⟨l++[y],cs'++ce,by simp[U],?_,by rw[zz6,af,h9,Nat.succ_mul],fun j v hj =>?_⟩
     ·rw[zy8];refine kH _ _ _ _ ab ?_;simp only[zz4,zx6,aP];exact ⟨ce,[],by simp,hy,rfl⟩
     ·rcases Nat.lt_or_ge j cs'.length with hlt | hge
      ·rw[zy6 hlt] at hj;exact aq j v hj
      ·rw[zw5 hge] at hj;have hlt:j-cs'.length<Enc.sz α:=by
        have:=(zz8.1 hj).1;omega
       have:=h10 (j-cs'.length) hlt;rw[Iy,←af,Nat.add_sub_cancel' hge] at this;rw[this];exact hj
   obtain ⟨l,cs',U,ab,af,aq⟩:=key len (zz5 _);refine ⟨l,?_⟩;simp only[iy,al,zz7];refine ⟨some a,cap,by rw[U],by omega,hm,?_,IF l⟩;by_cases hz:len=0
   ·left;have:l=[]:=List.length_eq_zero_iff.1 (by omega);rw[this];rfl
   right
   have hpos:0<cs'.length:=by rw[af];exact Nat.mul_pos (Nat.pos_of_ne_zero hz) he.YN
   have aZ:=aq 0 cs'[0] (zx0 hpos);have hsp:a.spot=none:=by
    simp only[Addr.add,if_true] at aZ;unfold World.cell? at aZ;split at aZ
    ·split at aZ
     ·cases aZ
     ·rename_i hs;cases hh:a.spot <;>simp_all
    ·cases aZ
   have ha:∀ j,a.add j=⟨a.block,a.off+j,none⟩:=fun j=>by
    unfold Addr.add;split
    ·rename_i hj;subst hj;cases a;simp_all
    ·rfl
   refine ⟨a.block,a.off,cs',by cases a;simp_all,fun j v hj =>?_,ab⟩;have h5:=aq j v hj;rw[ha] at h5;refine ⟨h5,?_⟩
   show (⟨a.block,a.off+j,none⟩:Addr).block<_
   exact World.block_lt_of_cell? w _ h5⟩
end Go.Abs
namespace Go.Abs
open Go Go.RowKit Go.ChangeShapes
open Enc (enc)
def uE(P:Program)(t:TypeId)(l:List (TypeId×Nat)):Bool:=match P.underlying t with
 |some (.struct fs)=>fs.toList.map (fun f=>(f.type,f.offset))==l
 |_=>false
def Dt(P:Program)(t:TypeId)(n:Nat)(e:TypeId):Bool:=match P.underlying t with
 |some (.array n' e')=>n'==n&&e'==e
 |_=>false
theorem WK{P:Program}{t:TypeId}{n:Nat}{e:TypeId}(h:Dt P t n e=true):P.underlying t=some (.array n e):=by
 unfold Dt at h;split at h
 ·rename_i n' e' ht;simp only[t8,beq_iff_eq] at h;rw[ht,h.1,h.2]
 ·cases h
theorem WO{P:Program}{t:TypeId}{l:List (TypeId×Nat)}(h:uE P t l=true):∃ fs,P.underlying t=some (.struct fs)∧fs.toList.map (fun f=>(f.type,f.offset))=l:=by
 unfold uE at h;split at h
 ·rename_i fs ht;exact ⟨fs,ht,by simpa using h⟩
 ·cases h
theorem aaa{H:Type}{enc0:TypeId×Value→H}{P:Program}{w:World}{fuel:Nat}{t:TypeId}{l:List (TypeId×Nat)}{cs:List Value}{x:DataW H×List MemPlace}(ht:uE P t l=true)(h:DataW.trod enc0 P w 0 (fun _=>true) true fuel t cs=some x) :
  cs.length=P.cellsOf t∧∃ m:Nat,∀ (i:Nat) (u:TypeId) (o:Nat),l[i]?=some (u,o)→∃ y,DataW.trod enc0 P w 0 (fun _=>true) true m u ((cs.drop o).take (P.cellsOf u))=some y:=by
 obtain ⟨fs,U,ab⟩:=WO ht;obtain ⟨xs,m,_,_,af,aq,h5⟩:=DataW.trod_struct U h;refine ⟨af,m,fun i u o hi =>?_⟩;rw[←ab] at hi;simp only[zx4,t7,Prod.mk.injEq] at hi;obtain ⟨f,hf,rfl,rfl⟩:=hi;have hf':fs[i]?=some f:=by simpa using hf
 have h6:=h5 i f hf';have hlt:i<fs.size:=(zy7.1 hf').1;rw[zx0 (by omega)] at h6;exact ⟨_,h6⟩
section
variable {P:Program} {t:TypeId} {α β γ:Type} [Enc α] [Enc β] [Enc γ] {H:Type} {enc0:TypeId×Value→H} {w:World} {fuel:Nat} {cs:List Value} {x:DataW H×List MemPlace}
theorem YB{fx:Nat}{v:Value}{d:DataW H}{p:List MemPlace}(ho:mw P t α)(hA:Enc.im α=false)(hst:(match P.underlying t with | some (.slice _) | some (.int _) | some .bool=>true | _=>false)=true)(hv:Value.okWide P w .any fx t v)
  (h:DataW.Trod enc0 P w 0 (fun _=>true) true t v d p):∃ (a:α) (cs:List Value),bG (enc a) v cs∧al w (nM w) dn (enc a) cs:=by
 obtain ⟨fuel,h⟩:=h;have hone:v.cells.toList=[v]:=by
  unfold Value.okWide at hv;split at hst
  ·rename_i e ht;rw[ht] at hv;simp only[Cell.okWide,ht] at hv;cases v <;>simp_all[Cell.ok,Value.cells]
  ·rename_i e ht;rw[ht] at hv;simp only[Cell.okWide,ht] at hv;cases v <;>simp_all[Cell.ok,Value.cells]
  ·rename_i ht;rw[ht] at hv;simp only[Cell.okWide,ht] at hv;cases v <;>simp_all[Cell.ok,Value.cells]
  ·cases hst
 rw[hone] at h;obtain ⟨a,ha⟩:=ho.yn h;exact ⟨a,[v],by simp[bG,Enc.agg,hA],ha⟩
end
theorem YR{H:Type}{enc0:TypeId×Value→H}{P:Program}{f:Func}{s:ChangeSpec}{apart kT handsOn again:Bool}{W W':World}{args:Array Value}{v:Value}{ds gs:List (DataW H)}{before pa pv:List MemPlace}
  (hW:DataW.Whole enc0 P f.params.toList s.vars apart W args.toList ds gs before)
  (hres:∀ (b:Nat) (sp:Nat→Bool) (ah:Bool),DataW.TrodAll enc0 P W' b sp ah f.resultTypes.toList (v.resultList f.resultTypes.size) (s.fn H (ds++gs)).results [])
  (hargs:∀ sp:Nat→Bool,(∀ p∈before,sp p.block=true)→DataW.TrodAll enc0 P W' 0 sp true f.params.toList args.toList (s.fn H (ds++gs)).args pa)
  (hvars:∀ sp:Nat→Bool,(∀ p∈before,sp p.block=true)→DataW.TrodVars enc0 P W' sp s.vars (s.fn H (ds++gs)).vars pv)
  (hps:before=pa++pv) (hb:Below W.heap.size W W')
  (hok:∀ (j:Nat) (t:TypeId) (r:Value),f.resultTypes[j]?=some t→(v.resultList f.resultTypes.size)[j]?=some r→Value.okWide P W' .any 0 t r) :
  s.post enc0 P f apart kT handsOn again W args v W':=by
 have hlt:∀ p∈before,p.block<W.heap.size:=fun p hp=>by simpa using hW.lt p hp
 have hold:∀ p∈before,(fun b=>decide (b<W.heap.size)) p.block=true:=fun p hp=>by simpa using hlt p hp
 refine ⟨ds,gs,before,[],pa,pv,hW,hres _ _ _,hargs _ hold,hvars _ hold,World.keptBut_mono (fun p hp=>⟨hp,?_⟩) (hb.frame (· ∈ before)),fun _ =>?_⟩
 ·rw[hps,zy4] at hp;exact Or.inr hp
 ·obtain ⟨_,_,_,_,_,hz,hn⟩:=hW;refine ⟨hok,_,_,([]++pa)++pv,⟨[]++pa,pv,trodAll_append (hargs _ (fun _ _=>rfl)) (hres _ _ _),hvars _ (fun _ _=>rfl),rfl,?_,?_⟩,?_⟩
  ·intro b off hp;have hp':MemPlace.cell b off∈before:=by rw[hps];simpa using hp
   rw[hb.frozen (p:=⟨b,off,none⟩) (hlt _ hp')];exact hz b off hp'
  ·intro ha;have:=hn ha;rw[hps] at this;simpa using this
  ·intro p hp _;rw[hps];simpa using hp
def zG(P:Program)(u:TypeId)(n:Nat)(S:I→Prop):Prop:=P.cellsOf u=n ∧
 ∀ {H:Type} {enc0:TypeId×Value→H} {w:World} {fuel:Nat} {cs:List Value} {x:DataW H×List MemPlace},DataW.trod enc0 P w 0 (fun _=>true) true fuel u cs=some x→∃ v,S v∧al w (nM w) dn v cs
theorem mw.bj{P:Program}{u:TypeId}{α:Type}[Enc α](h:mw P u α):zG P u (Enc.sz α) fun v=>∃ a:α,v=enc a :=
 ⟨h.cells,fun hx=>by obtain ⟨a,ha⟩:=h.yn hx;exact ⟨enc a,⟨a,rfl⟩,ha⟩⟩
def sI(P:Program):Nat→List (TypeId×Nat)→List (Nat×(I→Prop))→Prop
 |_,[],[]=>True
 |o,(u,off)::l,(n,S)::Ss=>off=o∧zG P u n S∧sI P (o+n) l Ss
 |_,_,_=>False
def qb:List (Nat×(I→Prop))→List I→Prop
 | [],[]=>True
 |(_,S)::Ss,v::vs=>S v∧qb Ss vs
 |_,_=>False
theorem rD{n:Nat}{S:I→Prop}{Ss:List (Nat×(I→Prop))} : ∀ {vs:List I},qb ((n,S)::Ss) vs→∃ v vs',vs=v::vs'∧S v∧qb Ss vs'
 | [],h=>h.elim
 |v::vs,h=>⟨v,vs,rfl,h.1,h.2⟩
theorem IE:∀ {vs:List I},qb [] vs→vs=[]
 | [],_=>rfl
 |_::_,h=>h.elim
def tn:List (Nat×(I→Prop))→Nat
 | []=>0
 |(n,_)::Ss=>n+tn Ss
theorem Cl{P:Program}{H:Type}{enc0:TypeId×Value→H}{w:World}{m:Nat}{cs:List Value} : ∀ (l:List (TypeId×Nat)) (Ss:List (Nat×(I→Prop))) (o:Nat),sI P o l Ss→cs.length=o+tn Ss →
  (∀ (i:Nat) (u:TypeId) (off:Nat),l[i]?=some (u,off)→∃ y,DataW.trod enc0 P w 0 (fun _=>true) true m u ((cs.drop off).take (P.cellsOf u))=some y)→∃ vs,qb Ss vs∧aP w (nM w) dn vs (cs.drop o)
 | [],[],o,_,hl,_=>⟨[],trivial,by simp only[aP];exact List.drop_eq_nil_of_le (by simp only[tn] at hl;omega)⟩
 |(u,off)::l,(n,S)::Ss,o,h,hl,hf=>by
  obtain ⟨rfl,ab,af⟩:=h;obtain ⟨y,hy⟩:=hf 0 u off rfl;obtain ⟨v,hv1,hv2⟩:=ab.2 hy;obtain ⟨vs,k1,k2⟩:=Cl l Ss (off+n) af (by simp only[tn] at hl;omega) fun i u' o' hi=>hf (i+1) u' o' hi;refine ⟨v::vs,⟨hv1,k1⟩,?_⟩;simp only[aP];rw[ab.1] at hv2;exact ⟨_,(cs.drop off).drop n,(List.take_append_drop n _).symm,hv2,by rw[List.drop_drop];exact k2⟩
 | [],_::_,_,h,_,_=>h.elim
 |_::_,[],_,h,_,_=>by simp[sI] at h
theorem YE{P:Program}{t:TypeId}{H:Type}{enc0:TypeId×Value→H}{w:World}{fuel:Nat}{cs:List Value}{x:DataW H×List MemPlace}(l:List (TypeId×Nat))(Ss:List (Nat×(I→Prop)))(ht:uE P t l=true)(hok:sI P 0 l Ss)(hc:P.cellsOf t=tn Ss)(h:DataW.trod enc0 P w 0 (fun _=>true) true fuel t cs=some x) :
  ∃ vs,qb Ss vs∧al w (nM w) dn (.agg vs) cs:=by
 obtain ⟨hl,m,hf⟩:=aaa ht h;obtain ⟨vs,k1,k2⟩:=Cl l Ss 0 hok (by rw[hl,hc];omega) hf;exact ⟨vs,k1,by simpa only[al,List.drop_zero] using k2⟩
end Go.Abs
