/-
  A part of the proof that the law MarchValid returns true for every input; three tables of Go's library start as the text lays them (the card ties them); conditions: none beyond the statement's own. (part 3 of 6)
-/
import Derived.Test.YthbdbocionnfgaaGreatDoorChecked
import Derived.KernelRfl
import Derived.RangeFuncIn
import Derived.Laws.Externs
import Derived.RecoverIn
import Derived.ProofKit
import Derived.Test.YthbdbocionnfgaaGreatDoorNfb
set_option linter.unusedSimpArgs false
set_option linter.unusedVariables false
set_option maxHeartbeats 16000000
set_option maxRecDepth 100000
namespace Go.Proofs.YthbdbocionnfgaaGreatDoor
open Go Go.Abs Go.Abs.C
def Bh:=[b 3 0,b 4 1,b 5 2,o 6 (.mv bz)]
def Bi:=[L 24 3 3,o 25 (.call 24 [.t 24]),o 26 (.bin .neq (.t 25) (bd 0))]
def TN:=[L 27 3 3,o 28 (.call 23 [.t 27]),o 29 (.bin .eql (.t 28) (bd 91)),m 30 29,bL 31 (.call 18 []) 30,and 32 30 31,m 6 32]
def Bk:=[L 34 3 3,f 35 0 0 5,l 36 35,o 37 (.call 27 [.t 34,.t 36]),m 33 37,o 38 (.ext (.t 33) 0),o 39 (.ext (.t 33) 1),o 7 (.alloc (.agg [.int .i64 0,.nils 4,.int .i64 0])),p (.a8 (some 3) (.t 7) (.t 38)),m 8 39]
def Bl:=[L 41 3 3,f 42 0 0 5,l 43 42,o 44 (.call 29 [.t 41,.t 43]),m 40 44,o 45 (.ext (.t 40) 0),o 46 (.ext (.t 40) 1),o 9 (.alloc (.agg [.int .i64 0,.nils 4,.int .i64 0])),p (.a8 (some 3) (.t 9) (.t 45)),m 10 46]
def Bm:=[L 48 3 3,f 49 0 0 5,l 50 49,f 51 1 1 5,l 52 51,o 53 (.call 31 [.t 48,.t 50,.t 52]),m 47 53,o 54 (.ext (.t 47) 0),o 55 (.ext (.t 47) 1),o 56 (.ext (.t 47) 2),o 11 (.alloc (.agg [.int .i64 0,.nils 4,.int .i64 0])),o 12 (.alloc (.agg [.int .i64 0,.int .i64 0,.int .i64 0,.bool false])),p (.a8 (some 3) (.t 11) (.t 54)),p (.a8 (some 4) (.t 12) (.t 55)),m 13 56]
def Bn:=[L 58 3 3,f 59 2 2 5,l 60 59,o 61 (.call 33 [.t 58,.t 60]),m 57 61,o 62 (.ext (.t 57) 0),o 63 (.ext (.t 57) 1),o 14 (.alloc (.agg [.int .i64 0,.nils 4,.int .i64 0])),p (.a8 (some 3) (.t 14) (.t 62)),m 15 63]
def Bo:=[L 65 3 3,L 66 5 4,o 67 (.call 35 [.t 65,.t 66]),m 64 67,o 68 (.ext (.t 64) 0),o 69 (.ext (.t 64) 1),o 16 (.alloc (.agg [.int .i64 0,.nils 4,.int .i64 0])),p (.a8 (some 3) (.t 16) (.t 68)),m 17 69]
def Bp:=[L 71 3 3,o 72 (.call 10 [.t 71]),m 70 72,o 73 (.ext (.t 70) 0),o 74 (.ext (.t 70) 1),o 18 (.alloc (.agg [.int .i64 0,.nils 4,.int .i64 0])),p (.a8 (some 3) (.t 18) (.t 73)),m 19 74]
def Bq:=[L 76 3 3,f 77 2 2 5,l 78 77,o 79 (.call 12 [.t 76,.t 78]),m 75 79,o 80 (.ext (.t 75) 0),o 81 (.ext (.t 75) 1),o 20 (.alloc (.agg [.int .i64 0,.nils 4,.int .i64 0])),p (.a8 (some 3) (.t 20) (.t 80)),m 21 81]
def Bj:=[m 82 8,o 83 (.bin .eql (.t 82) (bd 0)),m 84 83,bL 85 (.ld (some 3) (.t 3)) 84,bL 86 (.ld (some 3) (.t 7)) 84,bL 87 (.call 43 [.t 85,.t 86]) 84,bL 88 (.un .not (.t 87)) 84,and 89 84 88,m 90 89,gJ 91 10 90,on 92 (.bin .eql (.t 91) (bd 0)) 90,gJ 93 92 90,bL 94 (.ld (some 3) (.t 3)) 93,bL 95 (.ld (some 3) (.t 9)) 93,bL 96 (.call 43 [.t 94,.t 95]) 93,bL 97 (.un .not (.t 96)) 93,on 98 (.pick (.t 93) (.t 97) bz) 90,or 99 90 98,m 100 99,gJ 101 13 100,on 102 (.bin .eql (.t 101) (bd 0)) 100,gJ 103 102 100,bL 104 (.ld (some 3) (.t 3)) 103,bL 105 (.ld (some 3) (.t 11)) 103,bL 106 (.call 43 [.t 104,.t 105]) 103,bL 107 (.un .not (.t 106)) 103,on 108 (.pick (.t 103) (.t 107) bz) 100,or 109 100 108,m 110 109,gJ 111 15 110,on 112 (.bin .eql (.t 111) (bd 0)) 110,gJ 113 112 110,bL 114 (.ld (some 3) (.t 3)) 113,bL 115 (.ld (some 3) (.t 14)) 113,bL 116 (.call 43 [.t 114,.t 115]) 113,bL 117 (.un .not (.t 116)) 113,on 118 (.pick (.t 113) (.t 117) bz) 110,or 119 110 118,m 120 119,gJ 121 17 120,on 122 (.bin .eql (.t 121) (bd 0)) 120,gJ 123 122 120,bL 124 (.ld (some 3) (.t 3)) 123,bL 125 (.ld (some 3) (.t 16)) 123,bL 126 (.call 43 [.t 124,.t 125]) 123,bL 127 (.un .not (.t 126)) 123,on 128 (.pick (.t 123) (.t 127) bz) 120,or 129 120 128,m 130 129,gJ 131 19 130,on 132 (.bin .neq (.t 131) (bd 0)) 130,or 133 130 132,m 134 133,on 135 (.ld (some 3) (.t 3)) 134,on 136 (.ld (some 3) (.t 18)) 134,on 137 (.call 43 [.t 135,.t 136]) 134,on 138 (.un .not (.t 137)) 134,or 139 134 138,m 140 139,fn 141 2 2 18 140,eA 142 141 140,fn 143 1 1 3 140,eA 144 143 140,on 145 (.len (.t 144)) 140,on 146 (.bin .neq (.t 142) (.t 145)) 140,or 147 140 146,m 148 147,gJ 149 21 148,on 150 (.bin .neq (.t 149) (bd 0)) 148,or 151 148 150,m 152 151,on 153 (.ld (some 3) (.t 3)) 152,on 154 (.ld (some 3) (.t 20)) 152,on 155 (.call 43 [.t 153,.t 154]) 152,on 156 (.un .not (.t 155)) 152,or 157 152 156,m 158 157,fn 159 2 2 20 158,eA 160 159 158,fn 161 1 1 20 158,eA 162 161 158,on 163 (.len (.t 162)) 158,on 164 (.bin .neq (.t 160) (.t 163)) 158,or 165 158 164]
def TH:=[o 6 (.mv bz)]
def TI:=[m 166 17,o 167 (.bin .eql (.t 166) (bd 0))]
def TJ:=[L 169 3 16,L 170 5 4,o 171 (.call 35 [.t 169,.t 170]),m 168 171,o 172 (.ext (.t 168) 0),o 173 (.ext (.t 168) 1),o 22 (.alloc (.agg [.int .i64 0,.nils 4,.int .i64 0])),p (.a8 (some 3) (.t 22) (.t 172)),m 23 173]
def TK:=[m 174 23,o 175 (.bin .neq (.t 174) (bd 0)),m 176 175,on 177 (.ld (some 3) (.t 22)) 176,on 178 (.ld (some 3) (.t 16)) 176,on 179 (.call 16 [.t 177,.t 178]) 176,on 180 (.un .not (.t 179)) 176,or 181 176 180]
def TL:=[o 6 (.mv bz)]
def TM:=[o 182 (.call 18 []),m 6 182]
def zm:bx:=(s (r Bh) (s (s (r Bi) (.cond (.t 26) (s (r TN) .ret) .skip)) (s (r Bk) (s (r Bl) (s (r Bm) (s (r Bn) (s (r Bo) (s (r Bp) (s (r Bq) (s (s (r Bj) (.cond (.t 165) (s (r TH) .ret) .skip)) (s (s (r TI) (.cond (.t 167) (s (r TJ) (s (r TK) (.cond (.t 181) (s (r TL) .ret) .skip))) .skip)) (s (r TM) .ret))))))))))))
def D8:List bR:=[.tmp 6]
theorem JE:cA Tryz.prog Tryz.f7 zm:=e (by kernel_rfl)
theorem KQ:cw Tryz.prog Tryz.f7 D8:=e (by kernel_rfl)
theorem IG:cn Tryz.prog 7:=e (by kernel_rfl)
def NC:=[b 1 0,o 2 (.alloc (.agg [.int .i64 0,.nils 4,.int .i64 0])),ca 3 0]
def ND:=[L 5 3 1,o 6 (.call 23 [.t 5]),m 4 6]
def NF:=[m 7 4,o 8 (.bin .neq (.t 7) (bd 0))]
def NG:=[o 9 (.bld [.int .i64 0,.nils 4,.int .i64 0] []),m 10 4,p (.a8 (some 3) (.t 2) (.t 9)),m 3 10]
def NH:=[L 11 3 1,o 12 (.call 57 [.t 11]),p (.a8 (some 3) (.t 1) (.t 12))]
def NI:=[f 13 1 1 1,l 14 13,o 15 (.len (.t 14)),f 16 2 2 1,p (.a8 none (.t 16) (.t 15))]
def NJ:=[L 17 3 1,p (.a8 (some 3) (.t 2) (.t 17)),ca 3 0]
def yE:bx:=(s (r NC) (s (s (r ND) (s (r NF) (.cond (.t 8) (s (r NG) .ret) .skip))) (s (r NH) (s (r NI) (s (r NJ) .ret)))))
def Df:List bR:=[.cell 2 (some 3),.tmp 3]
theorem I2:cA Tryz.prog Tryz.f10 yE:=e (by kernel_rfl)
theorem J4:cw Tryz.prog Tryz.f10 Df:=e (by kernel_rfl)
theorem HV:cn Tryz.prog 10:=e (by kernel_rfl)
def Oa:=[b 2 0,o 4 (.alloc (.agg [.int .i64 0,.nils 4,.int .i64 0])),ca 5 0]
def Ob:=[L 8 3 2,o 9 (.call 23 [.t 8]),m 6 9]
def Oc:=[m 10 6,o 11 (.bin .neq (.t 10) (bd 0))]
def Od:=[o 12 (.bld [.int .i64 0,.nils 4,.int .i64 0] []),m 13 6,p (.a8 (some 3) (.t 4) (.t 12)),m 5 13]
def Oe:=[f 14 1 1 2,l 15 14,o 16 (.len (.t 15)),f 17 2 2 2,l 18 17,o 19 (.bin .sub (.t 16) (.t 18)),ad 20 19 1,m 7 20]
def Of:=[f 21 2 2 2,l 22 21,m 23 1,m 24 7,o 25 (.bin .rem (.t 23) (.t 24)),m 26 7,o 27 (.bin .add (.t 25) (.t 26)),m 28 7,o 29 (.bin .rem (.t 27) (.t 28)),o 30 (.bin .add (.t 22) (.t 29)),f 31 2 2 2,p (.a8 none (.t 31) (.t 30))]
def Lr:=some [[],[0],[],[],[2,3],[],[4,5],[],[6,7],[1,8],[0,1,2,3,4,5,6,7,8,9],[10,9,0,1,2,3,4,5,6,7,8,9]]
def Og:=[f 32 1 1 2,l 33 32,f 34 2 2 2,l 35 34,o 36 (.sl 4 (.t 33) none (some (.t 35)) none),o 37 (.call 59 [.t 36]),f 38 1 1 2,p (.a8 none (.t 38) (.t 37))]
def Oh:=[L 39 3 2,p (.a8 (some 3) (.t 4) (.t 39)),ca 5 0]
def yO:bx:=(s (r Oa) (s (s (r Ob) (s (r Oc) (.cond (.t 11) (s (r Od) .ret) .skip))) (s (r Oe) (s (.b8 Lr Of) (s (r Og) (s (r Oh) .ret))))))
def Dr:List bR:=[.cell 4 (some 3),.tmp 5]
theorem Jc:cA Tryz.prog Tryz.f12 yO:=e (by kernel_rfl)
theorem Ke:cw Tryz.prog Tryz.f12 Dr:=e (by kernel_rfl)
theorem Ib:cn Tryz.prog 12:=e (by kernel_rfl)
def Ou:=[b 2 0,o 4 (.mv (.c (.nils 5))),ca 5 0]
def Ov:=[L 11 3 2,o 12 (.call 23 [.t 11]),m 6 12]
def Oz:=[m 13 6,o 14 (.bin .neq (.t 13) (bd 0))]
def OA:=[m 15 6,o 4 (.mv (.c (.nils 5))),m 5 15]
def OB:=[m 16 1,o 17 (.call 61 [.t 16]),no 18 17,m 19 18,gJ 20 1 19,fn 21 0 0 2 19,eA 22 21 19,on 23 (.bin .eql (.t 20) (.t 22)) 19,or 24 19 23]
def OC:=[o 4 (.mv (.c (.nils 5))),ca 5 90]
def OD:=[f 26 0 0 2,l 27 26,f 28 1 1 2,l 29 28,f 30 2 2 2,l 31 30,f 32 2 2 2,l 33 32,o 34 (.sl 4 (.t 29) none (some (.t 31)) (some (.t 33))),o 35 (.call 62 [.t 27,.t 34]),m 25 35,o 36 (.ext (.t 25) 0),o 37 (.ext (.t 25) 1),m 7 36,m 8 37]
def Lz:=some [[],[0],[],[2],[],[4],[],[6],[3,5,7],[1,8],[9],[10],[10],[11,9,0,1,2,3,4,5,6,7,8,9,10,11],[12,13,0,1,2,3,4,5,6,7,8,9,10,11,12,13]]
def OE:=[o 9 (.alloc (.nils 5))]
def OF:=[m 38 7,m 39 1,o 40 (.call 63 [.t 38,.t 39])]
def OG:=[o 10 (.alloc (.agg [.int .i64 0,.int .i64 0,.int .i64 0,.int .i64 0,.int .i64 0])),p (.a8 (some 5) (.t 10) (.t 41))]
def Ow:=[l 42 9,o 43 (.len (.t 42)),o 44 (.bin .eql (.t 43) (bd 0)),m 45 44,eA 46 9 45,eA 47 9 45,on 48 (.len (.t 47)) 45,on 49 (.bin .sub (.t 48) (bd 1)) 45,on 50 (.is 5 (.t 46) (.t 49)) 45,on 51 (.ld (some 5) (.t 50)) 45,on 52 (.ld (some 5) (.t 10)) 45,on 53 (.eqv (.a8 [(.i .i64),(.i .i64),(.i .i64),(.i .i64),(.i .i64)]) true (.t 51) (.t 52)) 45,or 54 45 53]
def Ly:=some [[],[0],[1],[2],[3],[3],[5,3],[6,3],[4,7,3],[8,3],[3],[9,10,3],[3,11]]
def Ox:=[l 55 9,L 56 5 10,o 57 (.bs 39 5 [.t 56]),o 58 (.dy 39 5 40 (.agg [.int .i64 0,.int .i64 0,.int .i64 0,.int .i64 0,.int .i64 0]) (.t 55) (.t 57)),p (.a8 none (.t 9) (.t 58))]
def Oy:=[l 59 9,m 4 59,ca 5 0]
def yP:bx:=(s (r Ou) (s (s (r Ov) (s (r Oz) (.cond (.t 14) (s (r OA) .ret) .skip))) (s (s (r OB) (.cond (.t 24) (s (r OC) .ret) .skip)) (s (.b8 Lz OD) (s (r OE) (s (s (r OF) (.block 0 (.l9 (.t 40) [41] (r OG) (.block 1 (s (.b8 Ly Ow) (.cond (.t 54) (r Ox) .skip)))))) (s (r Oy) .ret)))))))
def DB:List bR:=[.tmp 4,.tmp 5]
theorem Jd:cA Tryz.prog Tryz.f14 yP:=e (by kernel_rfl)
theorem Kn:cw Tryz.prog Tryz.f14 DB:=e (by kernel_rfl)
theorem Ic:cn Tryz.prog 14:=e (by kernel_rfl)
def ON:=[b 2 0,b 3 1,o 4 (.mv bz)]
def OO:=[f 5 0 0 2,l 6 5,f 7 0 0 3,l 8 7,o 9 (.bin .eql (.t 6) (.t 8)),m 10 9,dW 11 2 2 2 10,dN 12 11 10,dW 13 2 2 3 10,dN 14 13 10,bL 15 (.bin .eql (.t 12) (.t 14)) 10,and 16 10 15,m 17 16,dW 18 1 1 2 17,dN 19 18 17,dW 20 1 1 3 17,dN 21 20 17,bL 22 (.call 52 [.t 19,.t 21]) 17,and 23 17 22,m 4 23]
def yR:bx:=(s (r ON) (s (r OO) .ret))
def DF:List bR:=[.tmp 4]
theorem Jf:cA Tryz.prog Tryz.f16 yR:=e (by kernel_rfl)
theorem Kq:cw Tryz.prog Tryz.f16 DF:=e (by kernel_rfl)
theorem If:cn Tryz.prog 16:=e (by kernel_rfl)
def OP:=[o 4 (.mv bz)]
def OQ:=[m 6 0,o 7 (.len (.t 6)),m 8 1,o 9 (.len (.t 8)),o 10 (.bin .neq (.t 7) (.t 9))]
def OR:=[o 4 (.mv bz)]
def OS:=[m 11 0,o 12 (.len (.t 11)),ca 13 0]
def OT:=[lt 14 13 12]
def OU:=[m 15 13,m 5 15]
def OV:=[m 16 0,m 17 5,o 18 (.is 5 (.t 16) (.t 17)),L 19 5 18,m 20 1,m 21 5,o 22 (.is 5 (.t 20) (.t 21)),L 23 5 22,o 24 (.eqv (.a8 [(.i .i64),(.i .i64),(.i .i64),(.i .i64),(.i .i64)]) true (.t 19) (.t 23))]
def LF:=some [[],[],[0,1],[2],[],[],[4,5],[6],[3,7]]
def OW:=[o 4 (.mv bz)]
def OX:=[ad 25 13 1,m 13 25]
def OY:=[o 4 (.mv T)]
def yS:bx:=(s (r OP) (s (s (r OQ) (.cond (.t 10) (s (r OR) .ret) .skip)) (s (s (r OS) (.block 0 (.loop (s (r OT) (s (.cond (.t 14) .skip (.exit 0)) (s (.block 1 (s (r OU) (s (.b8 LF OV) (.cond (.t 24) (s (r OW) .ret) .skip)))) (r OX))))))) (s (r OY) .ret))))
def DG:List bR:=[.tmp 4]
theorem Jg:cA Tryz.prog Tryz.f17 yS:=e (by kernel_rfl)
theorem Kr:cw Tryz.prog Tryz.f17 DG:=e (by kernel_rfl)
theorem Ig:cn Tryz.prog 17:=e (by kernel_rfl)
def OZ:=[o 0 (.mv bz)]
def O0:=[o 28 (.call 19 [(bd 0)]),m 27 28,o 29 (.ext (.t 27) 0),o 30 (.ext (.t 27) 1),o 1 (.alloc (.agg [.int .i64 0,.nils 4,.int .i64 0])),p (.a8 (some 3) (.t 1) (.t 29)),m 2 30]
def Pa:=[o 32 (.call 19 [(bd 1)]),m 31 32,o 33 (.ext (.t 31) 0),o 34 (.ext (.t 31) 1),o 3 (.alloc (.agg [.int .i64 0,.nils 4,.int .i64 0])),p (.a8 (some 3) (.t 3) (.t 33)),m 4 34]
def Pb:=[L 36 3 1,o 37 (.call 27 [.t 36,(bd 7)]),m 35 37,o 38 (.ext (.t 35) 0),o 39 (.ext (.t 35) 1),p (.a8 (some 3) (.t 1) (.t 38)),m 5 39]
def Pc:=[L 41 3 1,o 42 (.call 10 [.t 41]),m 40 42,o 43 (.ext (.t 40) 0),o 44 (.ext (.t 40) 1),p (.a8 (some 3) (.t 1) (.t 43)),m 6 44]
def Pd:=[L 46 3 1,o 47 (.call 31 [.t 46,(bd 7),(bd 1)]),m 45 47,o 48 (.ext (.t 45) 0),o 49 (.ext (.t 45) 1),o 50 (.ext (.t 45) 2),o 7 (.alloc (.agg [.int .i64 0,.int .i64 0,.int .i64 0,.bool false])),p (.a8 (some 3) (.t 1) (.t 48)),p (.a8 (some 4) (.t 7) (.t 49)),m 8 50]
def Pe:=[L 52 3 1,o 53 (.call 14 [.t 52,(bd 1)]),m 51 53,o 54 (.ext (.t 51) 0),o 55 (.ext (.t 51) 1),m 9 54,m 10 55]
def Pf:=[L 57 3 1,o 58 (.call 53 [.t 57]),m 56 58,o 59 (.ext (.t 56) 0),o 60 (.ext (.t 56) 1),m 11 59,m 12 60]
def Pg:=[L 62 3 1,o 63 (.call 10 [.t 62]),m 61 63,o 64 (.ext (.t 61) 0),o 65 (.ext (.t 61) 1),p (.a8 (some 3) (.t 1) (.t 64)),m 13 65]
def Ph:=[L 67 3 1,o 68 (.call 14 [.t 67,(bd 1)]),m 66 68,o 69 (.ext (.t 66) 0),o 70 (.ext (.t 66) 1),m 14 69,m 15 70]
def O1:=[o 71 (.bld [.int .i64 0,.int .i64 0,.int .i64 0,.int .i64 0,.int .i64 0] [(0,(bd 1)),(2,(bd 1)),(3,(bd 7)),(4,(bd 1))]),o 16 (.alloc (.agg [.int .i64 0,.int .i64 0,.int .i64 0,.int .i64 0,.int .i64 0])),p (.a8 (some 5) (.t 16) (.t 71))]
def O2:=[L 73 3 3,L 74 5 16,o 75 (.call 35 [.t 73,.t 74]),m 72 75,o 76 (.ext (.t 72) 0),o 77 (.ext (.t 72) 1),p (.a8 (some 3) (.t 3) (.t 76)),m 17 77]
def O3:=[L 79 3 1,L 80 3 3,o 81 (.bs 24 3 [.t 79,.t 80]),o 82 (.call 37 [.t 81,(bd 7)]),m 78 82,o 83 (.ext (.t 78) 0),o 84 (.ext (.t 78) 1),m 18 83,m 19 84]
def O4:=[L 86 3 3,o 87 (.call 10 [.t 86]),m 85 87,o 88 (.ext (.t 85) 0),o 89 (.ext (.t 85) 1),p (.a8 (some 3) (.t 3) (.t 88)),m 20 89]
def O5:=[L 91 3 3,o 92 (.call 14 [.t 91,(bd 0)]),m 90 92,o 93 (.ext (.t 90) 0),o 94 (.ext (.t 90) 1),m 21 93,m 22 94]
def O6:=[L 96 3 1,o 97 (.bld [.int .i64 0,.int .i64 0,.int .i64 0,.int .i64 0,.int .i64 0] [(0,(bd 2)),(1,(bd 1)),(3,(bd 7)),(4,(bd 1))]),o 98 (.call 35 [.t 96,.t 97]),m 95 98,o 99 (.ext (.t 95) 0),o 100 (.ext (.t 95) 1),p (.a8 (some 3) (.t 1) (.t 99)),m 23 100]
def O7:=[L 102 3 1,o 103 (.call 46 [.t 102]),m 101 103,o 104 (.ext (.t 101) 0),o 105 (.ext (.t 101) 1),m 24 104,m 25 105]
def O8:=[m 106 2,o 107 (.bin .eql (.t 106) (bd 0)),m 108 107,dz 109 4 108,bL 110 (.bin .eql (.t 109) (bd 0)) 108,and 111 108 110,m 112 111,dz 113 5 112,bL 114 (.bin .eql (.t 113) (bd 0)) 112,and 115 112 114,m 116 115,dz 117 6 116,bL 118 (.bin .eql (.t 117) (bd 0)) 116,and 119 116 118,m 120 119,dz 121 8 120,bL 122 (.bin .eql (.t 121) (bd 0)) 120,and 123 120 122,m 124 123,dz 125 10 124,bL 126 (.bin .eql (.t 125) (bd 0)) 124,and 127 124 126,m 128 127,dz 129 12 128,bL 130 (.bin .eql (.t 129) (bd 0)) 128,and 131 128 130,m 132 131,dz 133 13 132,bL 134 (.bin .eql (.t 133) (bd 0)) 132,and 135 132 134,m 136 135,dz 137 15 136,bL 138 (.bin .eql (.t 137) (bd 0)) 136,and 139 136 138,m 140 139,dz 141 17 140,bL 142 (.bin .eql (.t 141) (bd 0)) 140,and 143 140 142,m 144 143,dz 145 19 144,bL 146 (.bin .eql (.t 145) (bd 0)) 144,and 147 144 146,m 148 147,dz 149 20 148,bL 150 (.bin .eql (.t 149) (bd 0)) 148,and 151 148 150,m 152 151,dz 153 22 152,bL 154 (.bin .eql (.t 153) (bd 0)) 152,and 155 152 154,m 156 155,dz 157 23 156,bL 158 (.bin .eql (.t 157) (bd 0)) 156,and 159 156 158,m 160 159,dz 161 25 160,bL 162 (.bin .eql (.t 161) (bd 0)) 160,and 163 160 162,m 26 163]
def O9:=[m 164 26,m 165 164,bL 166 (.ld (some 4) (.t 7)) 165,bL 167 (.bld [.int .i64 0,.int .i64 0,.int .i64 0,.bool false] [(0,(bd 1)),(1,(bd 1)),(2,(bd 7))]) 165,bL 168 (.eqv (.a8 [(.i .i64),(.i .i64),(.i .i64),.b]) false (.t 166) (.t 167)) 165,and 169 165 168,m 170 169,dz 171 9 170,bL 172 (.len (.t 171)) 170,bL 173 (.bin .eql (.t 172) (bd 0)) 170,and 174 170 173,m 175 174,dz 176 11 175,bL 177 (.bin .eql (.t 176) (.c (.bQ ⟨#[112,111,117,110,100,32,48,32,49,10,112,111,117,110,100,32,55,10,115,101,110,100,32,55,32,49,32,49,10]⟩))) 175,and 178 175 177,m 179 178,dz 180 14 179,bL 181 (.ld (some 5) (.t 16)) 179,bL 182 (.bs 39 5 [.t 181]) 179,bL 183 (.call 17 [.t 180,.t 182]) 179,and 184 179 183,m 185 184,dz 186 18 185,bL 187 (.bs 3 1 [(bd 1)]) 185,bL 188 (.call 41 [.t 186,.t 187]) 185,and 189 185 188,m 190 189,dz 191 21 190,bL 192 (.bld [.int .i64 0,.int .i64 0,.int .i64 0,.int .i64 0,.int .i64 0] [(0,(bd 2)),(1,(bd 1)),(3,(bd 7)),(4,(bd 1))]) 190,bL 193 (.bs 39 5 [.t 192]) 190,bL 194 (.call 17 [.t 191,.t 193]) 190,and 195 190 194,m 196 195,dz 197 24 196,bL 198 (.len (.t 197)) 196,bL 199 (.bin .eql (.t 198) (bd 0)) 196,and 200 196 199,m 0 200]
def yT:bx:=(s (r OZ) (s (r O0) (s (r Pa) (s (r Pb) (s (r Pc) (s (r Pd) (s (r Pe) (s (r Pf) (s (r Pg) (s (r Ph) (s (r O1) (s (r O2) (s (r O3) (s (r O4) (s (r O5) (s (r O6) (s (r O7) (s (r O8) (s (r O9) .ret)))))))))))))))))))
def DH:List bR:=[.tmp 0]
theorem Jh:cA Tryz.prog Tryz.f18 yT:=e (by kernel_rfl)
theorem Ks:cw Tryz.prog Tryz.f18 DH:=e (by kernel_rfl)
theorem Ih:cn Tryz.prog 18:=e (by kernel_rfl)
def Pj:=[o 2 (.alloc (.agg [.int .i64 0,.nils 4,.int .i64 0])),ca 3 0]
def Pk:=[m 4 0,o 5 (.call 61 [.t 4]),no 6 5]
def Pl:=[o 7 (.bld [.int .i64 0,.nils 4,.int .i64 0] []),p (.a8 (some 3) (.t 2) (.t 7)),ca 3 90]
def Pm:=[m 8 0,o 9 (.bld [.int .i64 0,.nils 4,.int .i64 0] [(0,(.t 8))]),p (.a8 (some 3) (.t 2) (.t 9)),ca 3 0]
def yU:bx:=(s (r Pj) (s (s (r Pk) (.cond (.t 6) (s (r Pl) .ret) .skip)) (s (r Pm) .ret)))
def DI:List bR:=[.cell 2 (some 3),.tmp 3]
theorem Ji:cA Tryz.prog Tryz.f19 yU:=e (by kernel_rfl)
theorem Kt:cw Tryz.prog Tryz.f19 DI:=e (by kernel_rfl)
theorem Ii:cn Tryz.prog 19:=e (by kernel_rfl)
def Pn:=[b 1 0,ca 2 0]
def Po:=[f 3 0 0 1,l 4 3]
def Pu:=[o 6 (.bin .eql (.t 4) (bd 1)),m 5 6]
def Pv:=[o 7 (.bin .eql (.t 4) (bd 2)),m 5 7]
def Pw:=[f 8 1 1 1,l 9 8,o 10 (.call 67 [.t 9]),m 11 10,dW 12 2 2 1 11,dN 13 12 11,bL 14 (.bin .eql (.t 13) (bd 0)) 11,and 15 11 14,m 16 15,dW 17 3 3 1 16,dN 18 17 16,bL 19 (.bin .eql (.t 18) (bd 0)) 16,and 20 16 19]
def Px:=[ca 2 0]
def Py:=[o 22 (.bin .eql (.t 4) (bd 3)),m 21 22]
def Pz:=[o 23 (.bin .eql (.t 4) (bd 4)),m 21 23]
def PA:=[o 24 (.bin .eql (.t 4) (bd 5)),m 21 24]
def PB:=[o 25 (.bin .eql (.t 4) (bd 6)),m 21 25]
def Pp:=[o 26 (.bin .eql (.t 4) (bd 7)),m 21 26]
def Pq:=[o 27 (.bin .eql (.t 4) (bd 8)),m 21 27]
def Pr:=[f 28 1 1 1,l 29 28,o 30 (.call 67 [.t 29]),m 31 30,dW 32 2 2 1 31,dN 33 32 31,bL 34 (.call 64 [.t 33]) 31,and 35 31 34,m 36 35,dW 37 3 3 1 36,dN 38 37 36,bL 39 (.call 68 [.t 38,(bd 1),(bd 200)]) 36,and 40 36 39]
def Ps:=[ca 2 0]
def Pt:=[ca 2 1]
def yV:bx:=(s (r Pn) (s (s (r Po) (.block 0 (s (s (r Pu) (.cond (.t 5) .skip (r Pv))) (.cond (.t 5) (s (r Pw) (.cond (.t 20) (s (r Px) .ret) .skip)) (s (s (r Py) (.cond (.t 21) .skip (s (r Pz) (.cond (.t 21) .skip (s (r PA) (.cond (.t 21) .skip (s (r PB) (.cond (.t 21) .skip (s (r Pp) (.cond (.t 21) .skip (r Pq))))))))))) (.cond (.t 21) (s (r Pr) (.cond (.t 40) (s (r Ps) .ret) .skip)) .skip)))))) (s (r Pt) .ret)))
def DJ:List bR:=[.tmp 2]
theorem Jj:cA Tryz.prog Tryz.f22 yV:=e (by kernel_rfl)
theorem Ku:cw Tryz.prog Tryz.f22 DJ:=e (by kernel_rfl)
theorem Ij:cn Tryz.prog 22:=e (by kernel_rfl)
def PC:=[b 1 0,ca 2 0]
def PD:=[L 6 3 1,o 7 (.call 69 [.t 6]),m 5 7,o 8 (.ext (.t 5) 0),o 9 (.ext (.t 5) 1),m 3 8,m 4 9]
def PE:=[m 10 4,m 2 10]
def yW:bx:=(s (r PC) (s (r PD) (s (r PE) .ret)))
def DK:List bR:=[.tmp 2]
theorem Jk:cA Tryz.prog Tryz.f23 yW:=e (by kernel_rfl)
theorem Kv:cw Tryz.prog Tryz.f23 DK:=e (by kernel_rfl)
theorem Ik:cn Tryz.prog 23:=e (by kernel_rfl)
def PF:=[b 1 0,ca 2 0]
def PG:=[f 5 0 0 1,l 6 5,o 7 (.call 64 [.t 6]),no 8 7,m 9 8,fn 10 1 1 1 9,eA 11 10 9,on 12 (.len (.t 11)) 9,on 13 (.bin .gtr (.t 12) (bd 200)) 9,or 14 9 13,m 15 14,fn 16 2 2 1 15,eA 17 16 15,fn 18 1 1 1 15,eA 19 18 15,on 20 (.len (.t 19)) 15,on 21 (.call 68 [.t 17,(bd 0),.t 20]) 15,on 22 (.un .not (.t 21)) 15,or 23 15 22]
def PH:=[ca 2 91]
def PI:=[L 25 3 1,f 26 1 1 1,l 27 26,o 28 (.len (.t 27)),o 29 (.call 65 [.t 25,.t 28]),m 24 29,o 30 (.ext (.t 24) 0),o 31 (.ext (.t 24) 1),o 3 (.alloc (.agg [.int .i64 0,.nils 1,.int .i64 0,.nils 4,.nils 4])),p (.a8 (some 5) (.t 3) (.t 30)),m 4 31]
def PJ:=[m 32 4,no 33 32]
def PK:=[ca 2 91]
def PL:=[ca 2 0]
def yX:bx:=(s (r PF) (s (s (r PG) (.cond (.t 23) (s (r PH) .ret) .skip)) (s (s (r PI) (s (r PJ) (.cond (.t 33) (s (r PK) .ret) .skip))) (s (r PL) .ret))))
def DL:List bR:=[.tmp 2]
theorem Jl:cA Tryz.prog Tryz.f24 yX:=e (by kernel_rfl)
theorem Kx:cw Tryz.prog Tryz.f24 DL:=e (by kernel_rfl)
theorem Il:cn Tryz.prog 24:=e (by kernel_rfl)
def PM:=[b 2 0,o 4 (.alloc (.agg [.int .i64 0,.nils 4,.int .i64 0])),ca 5 0]
def PN:=[L 9 3 2,o 10 (.call 69 [.t 9]),m 8 10,o 11 (.ext (.t 8) 0),o 12 (.ext (.t 8) 1),m 6 11,m 7 12]
def PO:=[m 14 7,o 15 (.bin .neq (.t 14) (bd 0)),m 13 15]
def PQ:=[o 16 (.bld [.int .i64 0,.nils 4,.int .i64 0] []),m 17 7,p (.a8 (some 3) (.t 4) (.t 16)),m 5 17]
def PR:=[m 19 1,o 20 (.call 71 [.t 19]),no 21 20,m 18 21]
def PS:=[o 22 (.bld [.int .i64 0,.nils 4,.int .i64 0] []),p (.a8 (some 3) (.t 4) (.t 22)),ca 5 1]
def PT:=[m 24 6,o 25 (.nilC (.t 24)),f 26 1 1 25,l 27 26,m 28 1,o 29 (.lk (.i .i64) (.bool false) false (.t 27) (.t 28)),m 30 29,gJ 31 6 30,gJ 32 1 30,on 33 (.call 72 [.t 31,.t 32]) 30,or 34 30 33,m 23 34]
def PU:=[o 35 (.bld [.int .i64 0,.nils 4,.int .i64 0] []),p (.a8 (some 3) (.t 4) (.t 35)),ca 5 92]
def PV:=[L 36 3 2,m 37 1,o 38 (.bld [.int .i64 0,.int .i64 0,.int .i64 0,.int .i64 0] [(0,(bd 1)),(1,(.t 37))]),o 39 (.call 73 [.t 36,.t 38]),o 40 (.ext (.t 39) 0),o 41 (.ext (.t 39) 1),p (.a8 (some 3) (.t 4) (.t 40)),m 5 41]
def yY:bx:=(s (r PM) (s (r PN) (s (.block 0 (s (r PO) (.cond (.t 13) (s (r PQ) .ret) (s (r PR) (.cond (.t 18) (s (r PS) .ret) (s (r PT) (.cond (.t 23) (s (r PU) .ret) .skip))))))) (s (r PV) .ret))))
def DM:List bR:=[.cell 4 (some 3),.tmp 5]
theorem Jm:cA Tryz.prog Tryz.f27 yY:=e (by kernel_rfl)
theorem Ky:cw Tryz.prog Tryz.f27 DM:=e (by kernel_rfl)
theorem Im:cn Tryz.prog 27:=e (by kernel_rfl)
def PW:=[b 2 0,o 4 (.alloc (.agg [.int .i64 0,.nils 4,.int .i64 0])),ca 5 0]
def PX:=[L 9 3 2,o 10 (.call 69 [.t 9]),m 8 10,o 11 (.ext (.t 8) 0),o 12 (.ext (.t 8) 1),m 6 11,m 7 12]
def PY:=[m 14 7,o 15 (.bin .neq (.t 14) (bd 0)),m 13 15]
def PZ:=[o 16 (.bld [.int .i64 0,.nils 4,.int .i64 0] []),m 17 7,p (.a8 (some 3) (.t 4) (.t 16)),m 5 17]
def P0:=[m 19 1,o 20 (.call 71 [.t 19]),no 21 20,m 18 21]
def P1:=[o 22 (.bld [.int .i64 0,.nils 4,.int .i64 0] []),p (.a8 (some 3) (.t 4) (.t 22)),ca 5 1]
def P2:=[m 24 6,o 25 (.nilC (.t 24)),f 26 1 1 25,l 27 26,m 28 1,o 29 (.lk (.i .i64) (.bool false) false (.t 27) (.t 28)),no 30 29,m 23 30]
def P3:=[o 31 (.bld [.int .i64 0,.nils 4,.int .i64 0] []),p (.a8 (some 3) (.t 4) (.t 31)),ca 5 93]
def P4:=[L 32 3 2,m 33 1,o 34 (.bld [.int .i64 0,.int .i64 0,.int .i64 0,.int .i64 0] [(0,(bd 2)),(1,(.t 33))]),o 35 (.call 73 [.t 32,.t 34]),o 36 (.ext (.t 35) 0),o 37 (.ext (.t 35) 1),p (.a8 (some 3) (.t 4) (.t 36)),m 5 37]
def yZ:bx:=(s (r PW) (s (r PX) (s (.block 0 (s (r PY) (.cond (.t 13) (s (r PZ) .ret) (s (r P0) (.cond (.t 18) (s (r P1) .ret) (s (r P2) (.cond (.t 23) (s (r P3) .ret) .skip))))))) (s (r P4) .ret))))
def DN:List bR:=[.cell 4 (some 3),.tmp 5]
theorem Jn:cA Tryz.prog Tryz.f29 yZ:=e (by kernel_rfl)
theorem Kz:cw Tryz.prog Tryz.f29 DN:=e (by kernel_rfl)
theorem Io:cn Tryz.prog 29:=e (by kernel_rfl)
def P5:=[b 3 0,o 6 (.alloc (.agg [.int .i64 0,.nils 4,.int .i64 0])),o 7 (.alloc (.agg [.int .i64 0,.int .i64 0,.int .i64 0,.bool false])),ca 8 0]
def P6:=[L 13 3 3,o 14 (.call 69 [.t 13]),m 12 14,o 15 (.ext (.t 12) 0),o 16 (.ext (.t 12) 1),m 9 15,m 10 16]
def Qb:=[m 18 10,o 19 (.bin .neq (.t 18) (bd 0)),m 17 19]
def Qc:=[o 20 (.bld [.int .i64 0,.nils 4,.int .i64 0] []),o 21 (.bld [.int .i64 0,.int .i64 0,.int .i64 0,.bool false] []),m 22 10,p (.a8 (some 3) (.t 6) (.t 20)),p (.a8 (some 4) (.t 7) (.t 21)),m 8 22]
def Qd:=[m 24 1,o 25 (.call 71 [.t 24]),no 26 25,m 23 26]
def Qe:=[o 27 (.bld [.int .i64 0,.nils 4,.int .i64 0] []),o 28 (.bld [.int .i64 0,.int .i64 0,.int .i64 0,.bool false] []),p (.a8 (some 3) (.t 6) (.t 27)),p (.a8 (some 4) (.t 7) (.t 28)),ca 8 1]
def Qf:=[m 30 2,o 31 (.call 61 [.t 30]),no 32 31,m 33 32,gJ 34 2 33,fn 35 0 0 3 33,eA 36 35 33,on 37 (.bin .eql (.t 34) (.t 36)) 33,or 38 33 37,m 29 38]
def Qg:=[o 39 (.bld [.int .i64 0,.nils 4,.int .i64 0] []),o 40 (.bld [.int .i64 0,.int .i64 0,.int .i64 0,.bool false] []),p (.a8 (some 3) (.t 6) (.t 39)),p (.a8 (some 4) (.t 7) (.t 40)),ca 8 90]
def Qh:=[m 42 9,o 43 (.nilC (.t 42)),f 44 1 1 43,l 45 44,m 46 1,o 47 (.lk (.i .i64) (.bool false) false (.t 45) (.t 46)),no 48 47,m 41 48]
def Qi:=[o 49 (.bld [.int .i64 0,.nils 4,.int .i64 0] []),o 50 (.bld [.int .i64 0,.int .i64 0,.int .i64 0,.bool false] []),p (.a8 (some 3) (.t 6) (.t 49)),p (.a8 (some 4) (.t 7) (.t 50)),ca 8 93]
def P7:=[m 51 9,o 52 (.nilC (.t 51)),f 53 3 3 52,l 54 53,ad 55 54 1,m 56 2,m 57 1,o 58 (.bld [.int .i64 0,.int .i64 0,.int .i64 0,.bool false] [(0,(.t 55)),(1,(.t 56)),(2,(.t 57))]),o 11 (.alloc (.agg [.int .i64 0,.int .i64 0,.int .i64 0,.bool false])),p (.a8 (some 4) (.t 11) (.t 58))]
def P8:=[L 60 3 3,m 61 1,m 62 2,f 63 0 0 11,l 64 63,o 65 (.bld [.int .i64 0,.int .i64 0,.int .i64 0,.int .i64 0] [(0,(bd 3)),(1,(.t 61)),(2,(.t 62)),(3,(.t 64))]),o 66 (.call 73 [.t 60,.t 65]),m 59 66,o 67 (.ext (.t 59) 0),o 68 (.ext (.t 59) 1),p (.a8 (some 3) (.t 3) (.t 67)),m 10 68]
def P9:=[m 69 10,o 70 (.bin .neq (.t 69) (bd 0))]
def Qa:=[o 71 (.bld [.int .i64 0,.nils 4,.int .i64 0] []),o 72 (.bld [.int .i64 0,.int .i64 0,.int .i64 0,.bool false] []),m 73 10,p (.a8 (some 3) (.t 6) (.t 71)),p (.a8 (some 4) (.t 7) (.t 72)),m 8 73]
def vO:=[L 74 3 3,L 75 4 11,p (.a8 (some 3) (.t 6) (.t 74)),p (.a8 (some 4) (.t 7) (.t 75)),ca 8 0]
def LG:=some [[],[],[0,0],[1,2,0,1,2],[3,0,1,2,3]] -- DRAW BAD
def y5:bx:=(s (r P5) (s (r P6) (s (.block 0 (s (r Qb) (.cond (.t 17) (s (r Qc) .ret) (s (r Qd) (.cond (.t 23) (s (r Qe) .ret) (s (r Qf) (.cond (.t 29) (s (r Qg) .ret) (s (r Qh) (.cond (.t 41) (s (r Qi) .ret) .skip))))))))) (s (r P7) (s (r P8) (s (s (r P9) (.cond (.t 70) (s (r Qa) .ret) .skip)) (s (.b8 LG vO) .ret)))))))
def DO:List bR:=[.cell 6 (some 3),.cell 7 (some 4),.tmp 8]
theorem Jo:cA Tryz.prog Tryz.f31 y5:=e (by kernel_rfl)
theorem KA:cw Tryz.prog Tryz.f31 DO:=e (by kernel_rfl)
theorem Ip:cn Tryz.prog 31:=e (by kernel_rfl)
def Qj:=[b 2 0,o 4 (.alloc (.agg [.int .i64 0,.nils 4,.int .i64 0])),ca 5 0]
def Qk:=[L 11 3 2,o 12 (.call 69 [.t 11]),m 10 12,o 13 (.ext (.t 10) 0),o 14 (.ext (.t 10) 1),m 6 13,m 7 14]
def Ql:=[m 15 7,o 16 (.bin .neq (.t 15) (bd 0))]
def Qm:=[o 17 (.bld [.int .i64 0,.nils 4,.int .i64 0] []),m 18 7,p (.a8 (some 3) (.t 4) (.t 17)),m 5 18]
def Qn:=[m 20 6,o 21 (.nilC (.t 20)),f 22 2 2 21,l 23 22,m 24 1,o 25 (.lk (.i .i64) (.nilp) true (.t 23) (.t 24)),m 19 25,o 26 (.ext (.t 19) 0),o 27 (.ext (.t 19) 1),m 8 26,m 9 27]
def Qo:=[m 28 9,no 29 28,m 30 29,gJ 31 8 30,on 32 (.nilC (.t 31)) 30,fn 33 3 3 32 30,eA 34 33 30,or 35 30 34]
def Qp:=[o 36 (.bld [.int .i64 0,.nils 4,.int .i64 0] []),p (.a8 (some 3) (.t 4) (.t 36)),ca 5 94]
def Qq:=[L 37 3 2,m 38 8,o 39 (.nilC (.t 38)),f 40 2 2 39,l 41 40,m 42 8,o 43 (.nilC (.t 42)),f 44 1 1 43,l 45 44,m 46 1,o 47 (.bld [.int .i64 0,.int .i64 0,.int .i64 0,.int .i64 0] [(0,(bd 4)),(1,(.t 41)),(2,(.t 45)),(3,(.t 46))]),o 48 (.call 73 [.t 37,.t 47]),o 49 (.ext (.t 48) 0),o 50 (.ext (.t 48) 1),p (.a8 (some 3) (.t 4) (.t 49)),m 5 50]
def LH:=some [[],[],[1],[2],[3],[],[5],[6],[7],[],[4,8,9],[0,10],[11],[11],[12,11,0,1,2,3,4,5,6,7,8,9,10,11,12,13],[13,14,0,1,2,3,4,5,6,7,8,9,10,11,12,13,14]]
def y7:bx:=(s (r Qj) (s (r Qk) (s (s (r Ql) (.cond (.t 16) (s (r Qm) .ret) .skip)) (s (r Qn) (s (s (r Qo) (.cond (.t 35) (s (r Qp) .ret) .skip)) (s (.b8 LH Qq) .ret))))))
def DP:List bR:=[.cell 4 (some 3),.tmp 5]
theorem Jp:cA Tryz.prog Tryz.f33 y7:=e (by kernel_rfl)
theorem KB:cw Tryz.prog Tryz.f33 DP:=e (by kernel_rfl)
theorem Iq:cn Tryz.prog 33:=e (by kernel_rfl)
def Qr:=[b 2 0,b 3 1,o 4 (.alloc (.agg [.int .i64 0,.nils 4,.int .i64 0])),ca 5 0]
def Qs:=[L 10 3 2,o 11 (.call 69 [.t 10]),m 9 11,o 12 (.ext (.t 9) 0),o 13 (.ext (.t 9) 1),m 6 12,m 7 13]
def Qt:=[m 15 7,o 16 (.bin .neq (.t 15) (bd 0)),m 14 16]
def Qu:=[o 17 (.bld [.int .i64 0,.nils 4,.int .i64 0] []),m 18 7,p (.a8 (some 3) (.t 4) (.t 17)),m 5 18]
def Qv:=[L 20 5 3,o 21 (.call 70 [.t 20]),no 22 21,m 23 22,fn 24 2 2 3 23,eA 25 24 23,fn 26 0 0 2 23,eA 27 26 23,on 28 (.bin .neq (.t 25) (.t 27)) 23,or 29 23 28,m 19 29]
def Qw:=[o 30 (.bld [.int .i64 0,.nils 4,.int .i64 0] []),p (.a8 (some 3) (.t 4) (.t 30)),ca 5 95]
def Qx:=[f 31 0 0 3,l 32 31,o 33 (.call 80 [.t 32]),f 34 3 3 3,l 35 34,f 36 1 1 3,l 37 36,f 38 4 4 3,l 39 38,o 40 (.bld [.int .i64 0,.int .i64 0,.int .i64 0,.int .i64 0] [(0,(.t 33)),(1,(.t 35)),(2,(.t 37)),(3,(.t 39))]),o 8 (.alloc (.agg [.int .i64 0,.int .i64 0,.int .i64 0,.int .i64 0])),p (.a8 (some 4) (.t 8) (.t 40))]
def LI:=some [[],[0],[1],[],[3],[],[5],[],[7],[2,4,6,8],[],[10,9,2,0,1,2,3,4,5,6,7,8,9,10]]
def Qy:=[m 41 6,L 42 4 8,o 43 (.call 81 [.t 41,.t 42]),no 44 43]
def Qz:=[L 45 3 2,o 46 (.call 57 [.t 45]),p (.a8 (some 3) (.t 4) (.t 46)),ca 5 0]
def QA:=[L 47 3 2,L 48 4 8,o 49 (.call 73 [.t 47,.t 48]),o 50 (.ext (.t 49) 0),o 51 (.ext (.t 49) 1),p (.a8 (some 3) (.t 4) (.t 50)),m 5 51]
def y8:bx:=(s (r Qr) (s (r Qs) (s (.block 0 (s (r Qt) (.cond (.t 14) (s (r Qu) .ret) (s (r Qv) (.cond (.t 19) (s (r Qw) .ret) .skip))))) (s (.b8 LI Qx) (s (s (r Qy) (.cond (.t 44) (s (r Qz) .ret) .skip)) (s (r QA) .ret))))))
def DQ:List bR:=[.cell 4 (some 3),.tmp 5]
theorem Jq:cA Tryz.prog Tryz.f35 y8:=e (by kernel_rfl)
theorem KC:cw Tryz.prog Tryz.f35 DQ:=e (by kernel_rfl)
theorem Ir:cn Tryz.prog 35:=e (by kernel_rfl)
def QB:=[o 4 (.mv (.c (.nils 1))),ca 5 0]
def QC:=[m 12 0,m 13 1,o 14 (.call 83 [.t 12,.t 13]),m 11 14,o 15 (.ext (.t 11) 0),o 16 (.ext (.t 11) 1),m 6 15,m 7 16]
def QD:=[o 8 (.mv (.c (.nils 1)))]
def QE:=[m 17 6,o 18 (.len (.t 17)),ca 19 0]
def QF:=[lt 20 19 18]
def QG:=[o 21 (.is 1 (.t 17) (.t 19)),l 22 21,m 10 22]
def QH:=[m 23 10,o 24 (.nilC (.t 23)),f 25 1 1 24,l 26 25,m 27 1,o 28 (.lk (.i .i64) (.bool false) false (.t 26) (.t 27))]
def QI:=[m 29 8,m 30 10,o 31 (.nilC (.t 30)),f 32 0 0 31,l 33 32,o 34 (.bs 3 1 [.t 33]),o 35 (.dy 3 1 8 (.int .i64 0) (.t 29) (.t 34)),m 8 35]
def QJ:=[ad 36 19 1,m 19 36]
def QK:=[m 37 8,m 38 7,m 4 37,m 5 38]
def y9:bx:=(s (r QB) (s (r QC) (s (r QD) (s (s (r QE) (.block 0 (.loop (s (r QF) (s (.cond (.t 20) .skip (.exit 0)) (s (.block 1 (s (r QG) (s (r QH) (.cond (.t 28) (r QI) .skip)))) (r QJ))))))) (s (r QK) .ret)))))
def DR:List bR:=[.tmp 4,.tmp 5]
theorem Jr:cA Tryz.prog Tryz.f37 y9:=e (by kernel_rfl)
theorem KD:cw Tryz.prog Tryz.f37 DR:=e (by kernel_rfl)
theorem Is:cn Tryz.prog 37:=e (by kernel_rfl)
def QL:=[o 4 (.mv bz)]
def QM:=[m 6 0,o 7 (.len (.t 6)),m 8 1,o 9 (.len (.t 8)),o 10 (.bin .neq (.t 7) (.t 9))]
def QN:=[o 4 (.mv bz)]
def QO:=[m 11 0,o 12 (.len (.t 11)),ca 13 0]
def QP:=[lt 14 13 12]
def QR:=[m 15 13,m 5 15]
def QS:=[m 16 0,m 17 5,o 18 (.is 1 (.t 16) (.t 17)),l 19 18,m 20 1,m 21 5,o 22 (.is 1 (.t 20) (.t 21)),l 23 22,o 24 (.bin .neq (.t 19) (.t 23))]
def LJ:=some [[],[],[0,1],[2],[],[],[4,5],[6],[3,7]]
def QT:=[o 4 (.mv bz)]
def QU:=[ad 25 13 1,m 13 25]
def QV:=[o 4 (.mv T)]
def za:bx:=(s (r QL) (s (s (r QM) (.cond (.t 10) (s (r QN) .ret) .skip)) (s (s (r QO) (.block 0 (.loop (s (r QP) (s (.cond (.t 14) .skip (.exit 0)) (s (.block 1 (s (r QR) (s (.b8 LJ QS) (.cond (.t 24) (s (r QT) .ret) .skip)))) (r QU))))))) (s (r QV) .ret))))
def DS:List bR:=[.tmp 4]
theorem Js:cA Tryz.prog Tryz.f41 za:=e (by kernel_rfl)
theorem KE:cw Tryz.prog Tryz.f41 DS:=e (by kernel_rfl)
theorem It:cn Tryz.prog 41:=e (by kernel_rfl)
def QW:=[b 2 0,b 3 1,o 4 (.mv bz)]
def QX:=[L 6 3 3,o 7 (.call 23 [.t 6]),o 8 (.bin .neq (.t 7) (bd 0)),m 9 8,fn 10 0 0 3 9,eA 11 10 9,fn 12 0 0 2 9,eA 13 12 9,on 14 (.bin .neq (.t 11) (.t 13)) 9,or 15 9 14,m 16 15,fn 17 2 2 3 16,eA 18 17 16,fn 19 2 2 2 16,eA 20 19 16,on 21 (.bin .lss (.t 18) (.t 20)) 16,or 22 16 21,m 23 22,fn 24 1 1 3 23,eA 25 24 23,on 26 (.len (.t 25)) 23,fn 27 2 2 2 23,eA 28 27 23,on 29 (.bin .lss (.t 26) (.t 28)) 23,or 30 23 29]
def QY:=[o 4 (.mv bz)]
def QZ:=[ca 5 0]
def Q0:=[m 31 5,f 32 2 2 2,l 33 32,lt 34 31 33]
def Q1:=[f 37 1 1 3,l 38 37,m 39 5,o 40 (.is 4 (.t 38) (.t 39)),L 41 4 40,f 42 1 1 2,l 43 42,m 44 5,o 45 (.is 4 (.t 43) (.t 44)),L 46 4 45,o 47 (.eqv (.a8 [(.i .i64),(.i .i64),(.i .i64),(.i .i64)]) true (.t 41) (.t 46))]
def LK:=some [[],[0],[],[1,2],[3],[],[5],[],[6,7],[8],[4,9]]
def Q2:=[o 4 (.mv bz)]
def Q3:=[m 35 5,ad 36 35 1,m 5 36]
def Q4:=[o 4 (.mv T)]
def zb:bx:=(s (r QW) (s (s (r QX) (.cond (.t 30) (s (r QY) .ret) .skip)) (s (s (r QZ) (.block 0 (.loop (s (s (r Q0) (.cond (.t 34) .skip (.exit 0))) (s (.block 1 (s (.b8 LK Q1) (.cond (.t 47) (s (r Q2) .ret) .skip))) (r Q3)))))) (s (r Q4) .ret))))
def DT:List bR:=[.tmp 4]
theorem Jt:cA Tryz.prog Tryz.f43 zb:=e (by kernel_rfl)
theorem KF:cw Tryz.prog Tryz.f43 DT:=e (by kernel_rfl)
theorem Iu:cn Tryz.prog 43:=e (by kernel_rfl)
def Q5:=[b 1 0,o 2 (.mv (.c (.nils 4))),ca 3 0]
def Q6:=[L 10 3 1,o 11 (.call 69 [.t 10]),m 9 11,o 12 (.ext (.t 9) 0),o 13 (.ext (.t 9) 1),m 4 12,m 5 13]
def Q8:=[m 14 5,o 15 (.bin .neq (.t 14) (bd 0))]
def Q9:=[m 16 5,o 2 (.mv (.c (.nils 4))),m 3 16]
def Ra:=[o 6 (.mv (.c (.nils 4)))]
def Rb:=[m 17 4,o 18 (.call 85 [.t 17]),o 19 (.len (.t 18)),ca 20 0]
def Rc:=[lt 21 20 19]
def Re:=[o 22 (.is 1 (.t 18) (.t 20)),l 23 22,m 8 23]
def Rf:=[m 24 6,m 25 4,o 26 (.nilC (.t 25)),f 27 2 2 26,l 28 27,m 29 8,o 30 (.lk (.i .i64) (.nilp) false (.t 28) (.t 29)),o 31 (.nilC (.t 30)),L 32 4 31,o 33 (.bs 48 4 [.t 32]),o 34 (.dy 48 4 32 (.agg [.int .i64 0,.int .i64 0,.int .i64 0,.bool false]) (.t 24) (.t 33)),m 6 34]
def Rg:=[ad 35 20 1,m 20 35]
def Q7:=[m 36 6,m 2 36,ca 3 0]
def zc:bx:=(s (r Q5) (s (r Q6) (s (s (r Q8) (.cond (.t 15) (s (r Q9) .ret) .skip)) (s (r Ra) (s (s (r Rb) (.block 0 (.loop (s (r Rc) (s (.cond (.t 21) .skip (.exit 0)) (s (.block 1 (s (r Re) (r Rf))) (r Rg))))))) (s (r Q7) .ret))))))
def DU:List bR:=[.tmp 2,.tmp 3]
theorem Ju:cA Tryz.prog Tryz.f46 zc:=e (by kernel_rfl)
theorem KG:cw Tryz.prog Tryz.f46 DU:=e (by kernel_rfl)
theorem Iv:cn Tryz.prog 46:=e (by kernel_rfl)
def Rh:=[o 4 (.mv bz)]
def Ri:=[m 6 0,o 7 (.len (.t 6)),m 8 1,o 9 (.len (.t 8)),o 10 (.bin .neq (.t 7) (.t 9))]
def Rj:=[o 4 (.mv bz)]
def Rk:=[m 11 0,o 12 (.len (.t 11)),ca 13 0]
def Rl:=[lt 14 13 12]
def Rm:=[m 15 13,m 5 15]
def Rn:=[m 16 0,m 17 5,o 18 (.is 4 (.t 16) (.t 17)),L 19 4 18,m 20 1,m 21 5,o 22 (.is 4 (.t 20) (.t 21)),L 23 4 22,o 24 (.eqv (.a8 [(.i .i64),(.i .i64),(.i .i64),(.i .i64)]) true (.t 19) (.t 23))]
def LL:=some [[],[],[0,1],[2],[],[],[4,5],[6],[3,7]]
def Ro:=[o 4 (.mv bz)]
def Rp:=[ad 25 13 1,m 13 25]
def Rq:=[o 4 (.mv T)]
def zd:bx:=(s (r Rh) (s (s (r Ri) (.cond (.t 10) (s (r Rj) .ret) .skip)) (s (s (r Rk) (.block 0 (.loop (s (r Rl) (s (.cond (.t 14) .skip (.exit 0)) (s (.block 1 (s (r Rm) (s (.b8 LL Rn) (.cond (.t 24) (s (r Ro) .ret) .skip)))) (r Rp))))))) (s (r Rq) .ret))))
def DV:List bR:=[.tmp 4]
theorem Jv:cA Tryz.prog Tryz.f52 zd:=e (by kernel_rfl)
theorem KH:cw Tryz.prog Tryz.f52 DV:=e (by kernel_rfl)
theorem Iw:cn Tryz.prog 52:=e (by kernel_rfl)
def Rr:=[b 1 0,o 2 (.mv (.c (.bQ ⟨#[]⟩))),ca 3 0]
def Rs:=[L 8 3 1,o 9 (.call 23 [.t 8]),m 4 9]
def Rw:=[m 10 4,o 11 (.bin .neq (.t 10) (bd 0))]
def Rx:=[m 12 4,o 2 (.mv (.c (.bQ ⟨#[]⟩))),m 3 12]
def Ry:=[f 13 0 0 1,l 14 13,f 15 2 2 1,l 16 15,o 17 (.bs 3 1 [.t 14,.t 16]),o 18 (.call 93 [(.c (.bQ ⟨#[112,111,117,110,100]⟩)),.t 17]),m 5 18]
def Rz:=[f 19 1 1 1,l 20 19,o 21 (.len (.t 20)),ca 22 0]
def RA:=[lt 23 22 21]
def RB:=[o 24 (.is 4 (.t 20) (.t 22)),L 25 4 24,o 7 (.alloc (.agg [.int .i64 0,.int .i64 0,.int .i64 0,.int .i64 0])),p (.a8 (some 4) (.t 7) (.t 25))]
def RC:=[f 26 0 0 7,l 27 26,o 28 (.bin .leq (.t 27) (bd 2))]
def RD:=[m 29 5,o 30 (.call 94 []),f 31 0 0 7,l 32 31,o 33 (.is 1 (.t 30) (.t 32)),l 34 33,f 35 1 1 7,l 36 35,o 37 (.bs 3 1 [.t 36]),o 38 (.call 93 [.t 34,.t 37]),o 39 (.bin .add (.t 29) (.t 38)),m 5 39]
def LN:=some [[],[],[],[2],[1,3],[4],[],[6],[7],[5,8,1],[0,9],[10,9,0,1,2,3,4,5,6,7,8,9,10]]
def Rt:=[m 40 5,o 41 (.call 94 []),f 42 0 0 7,l 43 42,o 44 (.is 1 (.t 41) (.t 43)),l 45 44,f 46 1 1 7,l 47 46,f 48 2 2 7,l 49 48,f 50 3 3 7,l 51 50,o 52 (.bs 3 1 [.t 47,.t 49,.t 51]),o 53 (.call 93 [.t 45,.t 52]),o 54 (.bin .add (.t 40) (.t 53)),m 5 54]
def LM:=some [[],[],[],[2],[1,3],[4],[],[6],[],[8],[],[10],[7,9,11],[5,12,1],[0,13],[14,13,0,1,2,3,4,5,6,7,8,9,10,11,12,13,14]]
def Ru:=[ad 55 22 1,m 22 55]
def Rv:=[m 56 5,m 2 56,ca 3 0]
def ze:bx:=(s (r Rr) (s (s (r Rs) (s (r Rw) (.cond (.t 11) (s (r Rx) .ret) .skip))) (s (r Ry) (s (s (r Rz) (.block 0 (.loop (s (r RA) (s (.cond (.t 23) .skip (.exit 0)) (s (.block 1 (s (r RB) (s (r RC) (.cond (.t 28) (.b8 LN RD) (.b8 LM Rt))))) (r Ru))))))) (s (r Rv) .ret)))))
def DW:List bR:=[.tmp 2,.tmp 3]
theorem Jw:cA Tryz.prog Tryz.f53 ze:=e (by kernel_rfl)
theorem KI:cw Tryz.prog Tryz.f53 DW:=e (by kernel_rfl)
theorem Iy:cn Tryz.prog 53:=e (by kernel_rfl)
def RE:=[b 1 0,o 2 (.alloc (.agg [.int .i64 0,.nils 4,.int .i64 0]))]
def RF:=[f 3 1 1 1,l 4 3,o 5 (.call 59 [.t 4]),f 6 1 1 1,p (.a8 none (.t 6) (.t 5))]
def RG:=[L 7 3 1,p (.a8 (some 3) (.t 2) (.t 7))]
def uT:bx:=(s (r RE) (s (r RF) (s (r RG) .ret)))
def w7:List bR:=[.cell 2 (some 3)]
theorem Ag:cA Tryz.prog Tryz.f57 uT:=e (by kernel_rfl)
theorem Ao:cw Tryz.prog Tryz.f57 w7:=e (by kernel_rfl)
theorem zR:cn Tryz.prog 57:=e (by kernel_rfl)
def vP:=[o 2 (.mv (.c (.nils 4)))]
def qu:=[m 3 0,o 4 (.nilS false (.t 3))]
def vQ:=[o 2 (.mv (.c (.nils 4)))]
def qv:=[o 5 (.bs0 4),m 6 0,o 7 (.dy 37 4 32 (.agg [.int .i64 0,.int .i64 0,.int .i64 0,.int .i64 0]) (.t 5) (.t 6)),m 2 7]
def uU:bx:=(s (r vP) (s (s (r qu) (.cond (.t 4) (s (r vQ) .ret) .skip)) (s (r qv) .ret)))
def w8:List bR:=[.tmp 2]
theorem Ah:cA Tryz.prog Tryz.f59 uU:=e (by kernel_rfl)
theorem Ap:cw Tryz.prog Tryz.f59 w8:=e (by kernel_rfl)
theorem zS:cn Tryz.prog 59:=e (by kernel_rfl)
def RH:=[o 2 (.mv bz)]
def RI:=[m 3 0,o 4 (.call 105 [.t 3,(bd 0),(bd 5)]),m 2 4]
def zf:bx:=(s (r RH) (s (r RI) .ret))
def DX:List bR:=[.tmp 2]
theorem Jx:cA Tryz.prog Tryz.f61 zf:=e (by kernel_rfl)
theorem KJ:cw Tryz.prog Tryz.f61 DX:=e (by kernel_rfl)
theorem Iz:cn Tryz.prog 61:=e (by kernel_rfl)
def RJ:=[o 4 (.mv (.c (.nilp))),o 5 (.mv bz)]
def RK:=[m 9 0,o 10 (.call 106 [.t 9]),m 6 10]
def RL:=[m 11 1,o 12 (.len (.t 11)),ca 13 0]
def RM:=[lt 14 13 12]
def RN:=[o 15 (.is 4 (.t 11) (.t 13)),L 16 4 15,o 8 (.alloc (.agg [.int .i64 0,.int .i64 0,.int .i64 0,.int .i64 0])),p (.a8 (some 4) (.t 8) (.t 16))]
def RO:=[m 17 6,L 18 4 8,o 19 (.call 81 [.t 17,.t 18]),no 20 19]
def RP:=[o 4 (.mv (.c (.nilp))),o 5 (.mv bz)]
def RQ:=[ad 21 13 1,m 13 21]
def RS:=[m 22 6,m 4 22,o 5 (.mv T)]
def uV:bx:=(s (r RJ) (s (r RK) (s (s (r RL) (.block 0 (.loop (s (r RM) (s (.cond (.t 14) .skip (.exit 0)) (s (.block 1 (s (r RN) (s (r RO) (.cond (.t 20) (s (r RP) .ret) .skip)))) (r RQ))))))) (s (r RS) .ret))))
def w9:List bR:=[.tmp 4,.tmp 5]
theorem Ai:cA Tryz.prog Tryz.f62 uV:=e (by kernel_rfl)
theorem Aq:cw Tryz.prog Tryz.f62 w9:=e (by kernel_rfl)
theorem zT:cn Tryz.prog 62:=e (by kernel_rfl)
def RT:=[b 2 0,b 3 1,o 4 (.mv (.c (.dA)))]
def RU:=[o 5 (.mk 107 [.t 2,.t 3]),m 4 5]
def zg:bx:=(s (r RT) (s (r RU) .ret))
def DY:List bR:=[.tmp 4]
theorem Jy:cA Tryz.prog Tryz.f63 zg:=e (by kernel_rfl)
theorem KK:cw Tryz.prog Tryz.f63 DY:=e (by kernel_rfl)
theorem IA:cn Tryz.prog 63:=e (by kernel_rfl)
def RV:=[o 2 (.mv bz)]
def RW:=[m 3 0,o 4 (.call 68 [.t 3,(bd 0),(bd 5)]),m 2 4]
def zh:bx:=(s (r RV) (s (r RW) .ret))
def DZ:List bR:=[.tmp 2]
theorem Jz:cA Tryz.prog Tryz.f64 zh:=e (by kernel_rfl)
theorem KL:cw Tryz.prog Tryz.f64 DZ:=e (by kernel_rfl)
theorem IB:cn Tryz.prog 64:=e (by kernel_rfl)
def RX:=[b 2 0,o 4 (.alloc (.agg [.int .i64 0,.nils 1,.int .i64 0,.nils 4,.nils 4])),o 5 (.mv bz)]
def RY:=[f 10 0 0 2,l 11 10,o 12 (.bld [.int .i64 0,.nils 1,.int .i64 0,.nils 4,.nils 4] [(0,(.t 11))]),o 6 (.alloc (.agg [.int .i64 0,.nils 1,.int .i64 0,.nils 4,.nils 4])),p (.a8 (some 5) (.t 6) (.t 12))]
def R1:=[ca 7 0]
def R2:=[m 13 7,m 14 1,lt 15 13 14]
def R3:=[f 18 1 1 2,l 19 18,m 20 7,o 21 (.is 4 (.t 19) (.t 20)),L 22 4 21,o 23 (.call 22 [.t 22]),o 24 (.bin .neq (.t 23) (bd 0))]
def R4:=[L 25 5 6,p (.a8 (some 5) (.t 4) (.t 25)),o 5 (.mv bz)]
def R5:=[L 27 5 6,f 28 1 1 2,l 29 28,m 30 7,o 31 (.is 4 (.t 29) (.t 30)),L 32 4 31,o 33 (.call 76 [.t 27,.t 32]),m 26 33,o 34 (.ext (.t 26) 0),o 35 (.ext (.t 26) 1),o 8 (.alloc (.agg [.int .i64 0,.nils 1,.int .i64 0,.nils 4,.nils 4])),p (.a8 (some 5) (.t 8) (.t 34)),m 9 35]
def LO:=some [[],[],[1],[],[2,3],[4],[0,5],[6],[7],[7],[],[10,8,6,0,1,2,3,4,5,6,7,8,10],[9,11,0,1,2,3,4,5,6,7,8,9,10,11]]
def R6:=[m 36 9,no 37 36]
def R7:=[L 38 5 6,p (.a8 (some 5) (.t 4) (.t 38)),o 5 (.mv bz)]
def R8:=[L 39 5 8,p (.a8 (some 5) (.t 6) (.t 39))]
def RZ:=[m 16 7,ad 17 16 1,m 7 17]
def R0:=[L 40 5 6,p (.a8 (some 5) (.t 4) (.t 40)),o 5 (.mv T)]
def zi:bx:=(s (r RX) (s (r RY) (s (s (r R1) (.block 0 (.loop (s (s (r R2) (.cond (.t 15) .skip (.exit 0))) (s (.block 1 (s (s (r R3) (.cond (.t 24) (s (r R4) .ret) .skip)) (s (.b8 LO R5) (s (s (r R6) (.cond (.t 37) (s (r R7) .ret) .skip)) (r R8))))) (r RZ)))))) (s (r R0) .ret))))
def D0:List bR:=[.cell 4 (some 5),.tmp 5]
theorem JA:cA Tryz.prog Tryz.f65 zi:=e (by kernel_rfl)
theorem KM:cw Tryz.prog Tryz.f65 D0:=e (by kernel_rfl)
theorem IC:cn Tryz.prog 65:=e (by kernel_rfl)
def R9:=[b 1 0,o 2 (.mv bz)]
def Sa:=[f 3 0 0 1,l 4 3]
def Se:=[o 6 (.bin .eql (.t 4) (bd 1)),m 5 6]
def Sf:=[o 7 (.bin .eql (.t 4) (bd 2)),m 5 7]
def Sg:=[f 8 1 1 1,l 9 8,o 10 (.call 71 [.t 9]),m 11 10,dW 12 2 2 1 11,dN 13 12 11,bL 14 (.bin .eql (.t 13) (bd 0)) 11,and 15 11 14,m 16 15,dW 17 3 3 1 16,dN 18 17 16,bL 19 (.bin .eql (.t 18) (bd 0)) 16,and 20 16 19,m 2 20]
def Sh:=[o 22 (.bin .eql (.t 4) (bd 3)),m 21 22]
def Si:=[o 23 (.bin .eql (.t 4) (bd 4)),m 21 23]
def Sj:=[o 24 (.bin .eql (.t 4) (bd 5)),m 21 24]
def Sk:=[o 25 (.bin .eql (.t 4) (bd 6)),m 21 25]
def Sl:=[o 26 (.bin .eql (.t 4) (bd 7)),m 21 26]
def Sb:=[o 27 (.bin .eql (.t 4) (bd 8)),m 21 27]
def Sc:=[f 28 1 1 1,l 29 28,o 30 (.call 71 [.t 29]),m 31 30,dW 32 2 2 1 31,dN 33 32 31,bL 34 (.call 61 [.t 33]) 31,and 35 31 34,m 36 35,dW 37 3 3 1 36,dN 38 37 36,bL 39 (.call 90 [.t 38]) 36,and 40 36 39,m 2 40]
def Sd:=[o 2 (.mv bz)]
def zj:bx:=(s (r R9) (s (s (r Sa) (.block 0 (s (s (r Se) (.cond (.t 5) .skip (r Sf))) (.cond (.t 5) (s (r Sg) .ret) (s (s (r Sh) (.cond (.t 21) .skip (s (r Si) (.cond (.t 21) .skip (s (r Sj) (.cond (.t 21) .skip (s (r Sk) (.cond (.t 21) .skip (s (r Sl) (.cond (.t 21) .skip (r Sb))))))))))) (.cond (.t 21) (s (r Sc) .ret) .skip)))))) (s (r Sd) .ret)))
def D5:List bR:=[.tmp 2]
theorem JB:cA Tryz.prog Tryz.f66 zj:=e (by kernel_rfl)
theorem KN:cw Tryz.prog Tryz.f66 D5:=e (by kernel_rfl)
theorem ID:cn Tryz.prog 66:=e (by kernel_rfl)
def Sm:=[o 2 (.mv bz)]
def Sn:=[m 3 0,o 4 (.call 68 [.t 3,(bd 1),(bd 9999)]),m 2 4]
def zk:bx:=(s (r Sm) (s (r Sn) .ret))
def D6:List bR:=[.tmp 2]
theorem JC:cA Tryz.prog Tryz.f67 zk:=e (by kernel_rfl)
theorem KO:cw Tryz.prog Tryz.f67 D6:=e (by kernel_rfl)
theorem IE:cn Tryz.prog 67:=e (by kernel_rfl)
def Sp:=[o 6 (.mv bz)]
def Sq:=[m 7 1,m 8 0,o 9 (.bin .leq (.t 7) (.t 8)),m 10 9,dz 11 0 10,dz 12 2 10,bL 13 (.bin .leq (.t 11) (.t 12)) 10,and 14 10 13,m 6 14]
def zl:bx:=(s (r Sp) (s (r Sq) .ret))
def D7:List bR:=[.tmp 6]
theorem JD:cA Tryz.prog Tryz.f68 zl:=e (by kernel_rfl)
theorem KP:cw Tryz.prog Tryz.f68 D7:=e (by kernel_rfl)
theorem IF:cn Tryz.prog 68:=e (by kernel_rfl)
def Sr:=[b 1 0,o 2 (.mv (.c (.nilp))),ca 3 0]
def St:=[f 6 0 0 1,l 7 6,o 8 (.call 61 [.t 7]),no 9 8,m 10 9,fn 11 1 1 1 10,eA 12 11 10,on 13 (.len (.t 12)) 10,on 14 (.bin .gtr (.t 13) (bd 200)) 10,or 15 10 14,m 16 15,fn 17 2 2 1 16,eA 18 17 16,fn 19 1 1 1 16,eA 20 19 16,on 21 (.len (.t 20)) 16,on 22 (.call 105 [.t 18,(bd 0),.t 21]) 16,on 23 (.un .not (.t 22)) 16,or 24 16 23]
def Su:=[o 2 (.mv (.c (.nilp))),ca 3 91]
def Sv:=[f 26 0 0 1,l 27 26,f 28 1 1 1,l 29 28,o 30 (.call 62 [.t 27,.t 29]),m 25 30,o 31 (.ext (.t 25) 0),o 32 (.ext (.t 25) 1),m 4 31,m 5 32]
def Sw:=[m 33 5,no 34 33]
def Sx:=[o 2 (.mv (.c (.nilp))),ca 3 91]
def Sy:=[m 35 4,m 2 35,ca 3 0]
def uW:bx:=(s (r Sr) (s (s (r St) (.cond (.t 24) (s (r Su) .ret) .skip)) (s (r Sv) (s (s (r Sw) (.cond (.t 34) (s (r Sx) .ret) .skip)) (s (r Sy) .ret)))))
def xa:List bR:=[.tmp 2,.tmp 3]
theorem Aj:cA Tryz.prog Tryz.f69 uW:=e (by kernel_rfl)
theorem Ar:cw Tryz.prog Tryz.f69 xa:=e (by kernel_rfl)
theorem zU:cn Tryz.prog 69:=e (by kernel_rfl)
def Sz:=[b 1 0,o 2 (.mv bz)]
def SA:=[f 3 0 0 1,l 4 3,o 5 (.call 105 [.t 4,(bd 1),(bd 4)]),m 6 5,dW 7 1 1 1 6,dN 8 7 6,bL 9 (.call 61 [.t 8]) 6,and 10 6 9,m 11 10,dW 12 2 2 1 11,dN 13 12 11,bL 14 (.call 61 [.t 13]) 11,and 15 11 14,m 16 15,dW 17 1 1 1 16,dN 18 17 16,dW 19 2 2 1 16,dN 20 19 16,bL 21 (.bin .neq (.t 18) (.t 20)) 16,and 22 16 21,m 23 22,dW 24 3 3 1 23,dN 25 24 23,bL 26 (.call 71 [.t 25]) 23,and 27 23 26,m 28 27,dW 29 4 4 1 28,dN 30 29 28,bL 31 (.call 90 [.t 30]) 28,and 32 28 31,m 2 32]
def zn:bx:=(s (r Sz) (s (r SA) .ret))
def D9:List bR:=[.tmp 2]
theorem JF:cA Tryz.prog Tryz.f70 zn:=e (by kernel_rfl)
theorem KR:cw Tryz.prog Tryz.f70 D9:=e (by kernel_rfl)
theorem IH:cn Tryz.prog 70:=e (by kernel_rfl)
def SB:=[o 2 (.mv bz)]
def SC:=[m 3 0,o 4 (.call 105 [.t 3,(bd 1),(bd 9999)]),m 2 4]
def zo:bx:=(s (r SB) (s (r SC) .ret))
def Ea:List bR:=[.tmp 2]
theorem JG:cA Tryz.prog Tryz.f71 zo:=e (by kernel_rfl)
theorem KS:cw Tryz.prog Tryz.f71 Ea:=e (by kernel_rfl)
theorem II:cn Tryz.prog 71:=e (by kernel_rfl)
def Bb:=[o 4 (.mv bz)]
def Bc:=[m 7 0,o 8 (.nilC (.t 7)),f 9 2 2 8,l 10 9,o 11 (.jz (.t 10))]
def vR:=[o 12 (.ig (.t 11)),o 13 (.ext (.t 12) 0)]
def SD:=[o 14 (.ent (.t 11)),o 15 (.ext (.t 14) 1),m 6 15]
def SE:=[m 16 6,o 17 (.nilC (.t 16)),f 18 2 2 17,l 19 18,m 20 1,o 21 (.bin .eql (.t 19) (.t 20))]
def SF:=[o 4 (.mv T)]
def SG:=[o 4 (.mv bz)]
def zp:bx:=(s (r Bb) (s (s (r Bc) (.block 0 (.loop (s (r vR) (s (.cond (.t 13) .skip (.exit 0)) (.block 1 (s (r SD) (s (r SE) (.cond (.t 21) (s (r SF) .ret) .skip))))))))) (s (r SG) .ret)))
def Eb:List bR:=[.tmp 4]
theorem JH:cA Tryz.prog Tryz.f72 zp:=e (by kernel_rfl)
theorem KT:cw Tryz.prog Tryz.f72 Eb:=e (by kernel_rfl)
theorem IJ:cn Tryz.prog 72:=e (by kernel_rfl)
def SH:=[b 2 0,b 3 1,o 4 (.alloc (.agg [.int .i64 0,.nils 4,.int .i64 0])),ca 5 0]
def SI:=[f 6 1 1 2,l 7 6,o 8 (.len (.t 7)),o 9 (.bin .eql (.t 8) (bd 200))]
def SJ:=[o 10 (.bld [.int .i64 0,.nils 4,.int .i64 0] []),p (.a8 (some 3) (.t 4) (.t 10)),ca 5 2]
def SK:=[L 11 3 2,o 12 (.call 57 [.t 11]),p (.a8 (some 3) (.t 2) (.t 12))]
def SL:=[f 13 1 1 2,l 14 13,L 15 4 3,o 16 (.bs 37 4 [.t 15]),o 17 (.dy 37 4 32 (.agg [.int .i64 0,.int .i64 0,.int .i64 0,.int .i64 0]) (.t 14) (.t 16)),f 18 1 1 2,p (.a8 none (.t 18) (.t 17))]
def SM:=[L 19 3 2,p (.a8 (some 3) (.t 4) (.t 19)),ca 5 0]
def zq:bx:=(s (r SH) (s (s (r SI) (.cond (.t 9) (s (r SJ) .ret) .skip)) (s (r SK) (s (r SL) (s (r SM) .ret)))))
def Ec:List bR:=[.cell 4 (some 3),.tmp 5]
theorem JI:cA Tryz.prog Tryz.f73 zq:=e (by kernel_rfl)
theorem KU:cw Tryz.prog Tryz.f73 Ec:=e (by kernel_rfl)
theorem IK:cn Tryz.prog 73:=e (by kernel_rfl)
def Bd:=[b 2 0,b 3 1,o 4 (.alloc (.agg [.int .i64 0,.nils 1,.int .i64 0,.nils 4,.nils 4])),o 5 (.mv bz)]
def Be:=[f 9 1 1 2,l 10 9,f 11 1 1 3,l 12 11,o 13 (.call 78 [.t 10,.t 12]),m 6 13]
def Bf:=[L 14 5 2,f 15 3 3 3,l 16 15,o 17 (.call 79 [.t 14,.t 16]),m 7 17]
def Bg:=[m 18 7,o 19 (.bin .geq (.t 18) (bd 0)),m 20 19,dW 21 3 3 2 20,dN 22 21 20,dz 23 7 20,bL 24 (.max2 (.t 23) (bd 0)) 20,bL 25 (.is 4 (.t 22) (.t 24)) 20,dW 26 1 1 25 20,dN 27 26 20,dW 28 2 2 3 20,dN 29 28 20,bL 30 (.bin .eql (.t 27) (.t 29)) 20,and 31 20 30,m 32 31,dW 33 3 3 2 32,dN 34 33 32,dz 35 7 32,bL 36 (.max2 (.t 35) (bd 0)) 32,bL 37 (.is 4 (.t 34) (.t 36)) 32,dW 38 2 2 37 32,dN 39 38 32,dW 40 1 1 3 32,dN 41 40 32,bL 42 (.bin .eql (.t 39) (.t 41)) 32,and 43 32 42,m 8 43]
def Au:=some [[],[0],[1],[2],[3,2],[2],[5,2],[4,6,2],[7,2],[8,2],[2],[10,2],[9,11,2],[2,12],[13,2],[14],[15,14],[14],[17,14],[16,18,14],[19,14],[20,14],[14],[22,14],[21,23,14],[14,24],[25,14,0,1,2,3,4,5,6,7,8,9,10,11,12,13,14,15,16,17,18,19,20,21,22,23,24,25]]
def Th:=[f 44 0 0 3,l 45 44]
def Tl:=[o 47 (.bin .eql (.t 45) (bd 1)),m 46 47]
def Tm:=[m 48 6,m 49 48,on 50 (.ld (some 5) (.t 2)) 49,fn 51 1 1 3 49,eA 52 51 49,on 53 (.call 108 [.t 50,.t 52]) 49,or 54 49 53]
def Tn:=[L 55 5 2,p (.a8 (some 5) (.t 4) (.t 55)),o 5 (.mv bz)]
def Tp:=[f 56 1 1 2,l 57 56,f 58 1 1 3,l 59 58,o 60 (.call 109 [.t 57,.t 59]),f 61 1 1 2,p (.a8 none (.t 61) (.t 60))]
def Tq:=[L 62 5 2,p (.a8 (some 5) (.t 4) (.t 62)),o 5 (.mv T)]
def SN:=[o 64 (.bin .eql (.t 45) (bd 2)),m 63 64]
def SO:=[f 65 1 1 2,l 66 65,f 67 1 1 3,l 68 67,o 69 (.call 110 [.t 66,.t 68]),f 70 1 1 2,p (.a8 none (.t 70) (.t 69))]
def SP:=[L 71 5 2,m 72 6,p (.a8 (some 5) (.t 4) (.t 71)),m 5 72]
def SQ:=[o 74 (.bin .eql (.t 45) (bd 3)),m 73 74]
def SR:=[m 75 6,no 76 75,m 77 76,fn 78 2 2 3 77,eA 79 78 77,fn 80 0 0 2 77,eA 81 80 77,on 82 (.bin .eql (.t 79) (.t 81)) 77,or 83 77 82,m 84 83,fn 85 3 3 3 84,eA 86 85 84,fn 87 2 2 2 84,eA 88 87 84,on 89 (.bin .add (.t 88) (bd 1)) 84,on 90 (.bin .neq (.t 86) (.t 89)) 84,or 91 84 90]
def SS:=[L 92 5 2,p (.a8 (some 5) (.t 4) (.t 92)),o 5 (.mv bz)]
def SU:=[f 93 1 1 2,l 94 93,f 95 1 1 3,l 96 95,o 97 (.call 110 [.t 94,.t 96]),f 98 1 1 2,p (.a8 none (.t 98) (.t 97))]
def SV:=[f 99 3 3 3,l 100 99,f 101 2 2 2,p (.a8 none (.t 101) (.t 100))]
def vS:=[o 102 (.bs0 4),f 103 3 3 2,l 104 103,o 105 (.dy 48 4 32 (.agg [.int .i64 0,.int .i64 0,.int .i64 0,.bool false]) (.t 102) (.t 104)),f 106 3 3 3,l 107 106,f 108 2 2 3,l 109 108,f 110 1 1 3,l 111 110,o 112 (.bld [.int .i64 0,.int .i64 0,.int .i64 0,.bool false] [(0,(.t 107)),(1,(.t 109)),(2,(.t 111))]),o 113 (.bs 48 4 [.t 112]),o 114 (.dy 48 4 32 (.agg [.int .i64 0,.int .i64 0,.int .i64 0,.bool false]) (.t 105) (.t 113)),f 115 3 3 2,p (.a8 none (.t 115) (.t 114))]
def LP:=some [[],[],[1],[0,2],[],[4],[],[6],[],[8],[5,7,9],[10],[3,11,3],[0,1,2,3,4,5,6,7,8,9,10,11,12],[13,12,12,0,1,2,3,4,5,6,7,8,9,10,11,12]] -- DRAW BAD
def SW:=[L 116 5 2,p (.a8 (some 5) (.t 4) (.t 116)),o 5 (.mv T)]
def SX:=[o 118 (.bin .eql (.t 45) (bd 4)),m 117 118]
def SY:=[m 119 8,no 120 119,m 121 120,fn 122 3 3 2 121,eA 123 122 121,gJ 124 7 121,on 125 (.is 4 (.t 123) (.t 124)) 121,fn 126 3 3 125 121,eA 127 126 121,or 128 121 127]
def SZ:=[L 129 5 2,p (.a8 (some 5) (.t 4) (.t 129)),o 5 (.mv bz)]
def S0:=[o 130 (.bs0 4),f 131 3 3 2,l 132 131,o 133 (.dy 48 4 32 (.agg [.int .i64 0,.int .i64 0,.int .i64 0,.bool false]) (.t 130) (.t 132)),f 134 3 3 2,p (.a8 none (.t 134) (.t 133))]
def S1:=[f 135 3 3 2,l 136 135,m 137 7,o 138 (.is 4 (.t 136) (.t 137)),f 139 3 3 138,p (.a8 none (.t 139) T)]
def S2:=[L 140 5 2,p (.a8 (some 5) (.t 4) (.t 140)),o 5 (.mv T)]
def S3:=[o 142 (.bin .eql (.t 45) (bd 5)),m 141 142]
def S4:=[m 143 8,no 144 143]
def S5:=[L 145 5 2,p (.a8 (some 5) (.t 4) (.t 145)),o 5 (.mv bz)]
def S6:=[L 146 5 2,m 147 7,o 148 (.call 111 [.t 146,.t 147]),p (.a8 (some 5) (.t 4) (.t 148)),o 5 (.mv T)]
def S7:=[o 150 (.bin .eql (.t 45) (bd 6)),m 149 150]
def S8:=[m 151 8,no 152 151,m 153 152,fn 154 3 3 2 153,eA 155 154 153,gJ 156 7 153,on 157 (.is 4 (.t 155) (.t 156)) 153,fn 158 3 3 157 153,eA 159 158 153,on 160 (.un .not (.t 159)) 153,or 161 153 160]
def S9:=[L 162 5 2,p (.a8 (some 5) (.t 4) (.t 162)),o 5 (.mv bz)]
def Ta:=[L 163 5 2,m 164 7,o 165 (.call 111 [.t 163,.t 164]),p (.a8 (some 5) (.t 2) (.t 165))]
def Tb:=[f 166 1 1 2,l 167 166,f 168 1 1 3,l 169 168,o 170 (.call 109 [.t 167,.t 169]),f 171 1 1 2,p (.a8 none (.t 171) (.t 170))]
def Tc:=[L 172 5 2,p (.a8 (some 5) (.t 4) (.t 172)),o 5 (.mv T)]
def Td:=[f 173 2 2 3,l 174 173,f 175 0 0 2,l 176 175,o 177 (.bin .eql (.t 174) (.t 176)),m 178 177,on 179 (.ld (some 5) (.t 2)) 178,fn 180 2 2 3 178,eA 181 180 178,fn 182 3 3 3 178,eA 183 182 178,on 184 (.call 88 [.t 179,.t 181,.t 183]) 178,on 185 (.bin .neq (.t 184) (bd 0)) 178,or 186 178 185]
def Te:=[L 187 5 2,p (.a8 (some 5) (.t 4) (.t 187)),o 5 (.mv bz)]
def Tf:=[f 188 0 0 3,l 189 188,o 190 (.bin .eql (.t 189) (bd 7))]
def Tg:=[m 191 6,m 192 191,on 193 (.ld (some 5) (.t 2)) 192,fn 194 1 1 3 192,eA 195 194 192,on 196 (.call 108 [.t 193,.t 195]) 192,or 197 192 196]
def Ti:=[L 198 5 2,p (.a8 (some 5) (.t 4) (.t 198)),o 5 (.mv bz)]
def Tj:=[f 199 1 1 2,l 200 199,f 201 1 1 3,l 202 201,o 203 (.call 109 [.t 200,.t 202]),f 204 1 1 2,p (.a8 none (.t 204) (.t 203))]
def Tk:=[L 205 5 2,L 206 4 3,o 207 (.call 112 [.t 205,.t 206]),p (.a8 (some 5) (.t 4) (.t 207)),o 5 (.mv T)]
def lF:bx:=(s (r Bd) (s (r Be) (s (r Bf) (s (.b8 Au Bg) (s (s (r Th) (.block 0 (s (r Tl) (.cond (.t 46) (s (s (r Tm) (.cond (.t 54) (s (r Tn) .ret) .skip)) (s (r Tp) (s (r Tq) .ret))) (s (r SN) (.cond (.t 63) (s (r SO) (s (r SP) .ret)) (s (r SQ) (.cond (.t 73) (s (s (r SR) (.cond (.t 91) (s (r SS) .ret) .skip)) (s (r SU) (s (r SV) (s (.b8 LP vS) (s (r SW) .ret))))) (s (r SX) (.cond (.t 117) (s (s (r SY) (.cond (.t 128) (s (r SZ) .ret) .skip)) (s (r S0) (s (r S1) (s (r S2) .ret)))) (s (r S3) (.cond (.t 141) (s (s (r S4) (.cond (.t 144) (s (r S5) .ret) .skip)) (s (r S6) .ret)) (s (r S7) (.cond (.t 149) (s (s (r S8) (.cond (.t 161) (s (r S9) .ret) .skip)) (s (r Ta) (s (r Tb) (s (r Tc) .ret)))) .skip)))))))))))))) (s (s (r Td) (.cond (.t 186) (s (r Te) .ret) .skip)) (s (s (r Tf) (.cond (.t 190) (s (s (r Tg) (.cond (.t 197) (s (r Ti) .ret) .skip)) (r Tj)) .skip)) (s (r Tk) .ret))))))))
def lZ:List bR:=[.cell 4 (some 5),.tmp 5]
theorem mw:cA Tryz.prog Tryz.f76 lF:=e (by kernel_rfl)
theorem mz:cw Tryz.prog Tryz.f76 lZ:=e (by kernel_rfl)
theorem mu:cn Tryz.prog 76:=e (by kernel_rfl)
def Tr:=[o 4 (.mv bz)]
def Ts:=[m 7 0,o 8 (.len (.t 7)),ca 9 0]
def Tt:=[lt 10 9 8]
def Tu:=[o 11 (.is 1 (.t 7) (.t 9)),l 12 11,m 6 12]
def Tv:=[m 13 6,m 14 1,o 15 (.bin .eql (.t 13) (.t 14))]
def Tw:=[o 4 (.mv T)]
def Tx:=[ad 16 9 1,m 9 16]
def Ty:=[o 4 (.mv bz)]
def zr:bx:=(s (r Tr) (s (s (r Ts) (.block 0 (.loop (s (r Tt) (s (.cond (.t 10) .skip (.exit 0)) (s (.block 1 (s (r Tu) (s (r Tv) (.cond (.t 15) (s (r Tw) .ret) .skip)))) (r Tx))))))) (s (r Ty) .ret)))
def Ed:List bR:=[.tmp 4]
theorem JJ:cA Tryz.prog Tryz.f78 zr:=e (by kernel_rfl)
theorem KV:cw Tryz.prog Tryz.f78 Ed:=e (by kernel_rfl)
theorem IL:cn Tryz.prog 78:=e (by kernel_rfl)
def Tz:=[b 2 0,ca 4 0]
def TA:=[f 7 3 3 2,l 8 7,o 9 (.len (.t 8)),ca 10 0]
def TB:=[lt 11 10 9]
def TC:=[m 12 10,o 13 (.is 4 (.t 8) (.t 10)),L 14 4 13,o 6 (.alloc (.agg [.int .i64 0,.int .i64 0,.int .i64 0,.bool false])),m 5 12,p (.a8 (some 4) (.t 6) (.t 14))]
def TD:=[f 15 0 0 6,l 16 15,m 17 1,o 18 (.bin .eql (.t 16) (.t 17))]
def TE:=[m 19 5,m 4 19]
def TF:=[ad 20 10 1,m 10 20]
def TG:=[ca 4 (-1)]
def zt:bx:=(s (r Tz) (s (s (r TA) (.block 0 (.loop (s (r TB) (s (.cond (.t 11) .skip (.exit 0)) (s (.block 1 (s (r TC) (s (r TD) (.cond (.t 18) (s (r TE) .ret) .skip)))) (r TF))))))) (s (r TG) .ret)))
def Ee:List bR:=[.tmp 4]
theorem JK:cA Tryz.prog Tryz.f79 zt:=e (by kernel_rfl)
theorem KW:cw Tryz.prog Tryz.f79 Ee:=e (by kernel_rfl)
theorem IM:cn Tryz.prog 79:=e (by kernel_rfl)
def TO:=[ca 2 0]
def TP:=[o 3 (.iJ),p (.eV (.i .i64) (.t 3) (bd 1) (bd 7)),p (.eV (.i .i64) (.t 3) (bd 2) (bd 5)),p (.eV (.i .i64) (.t 3) (bd 3) (bd 8)),p (.eV (.i .i64) (.t 3) (bd 4) (bd 6)),m 4 3,m 5 0,o 6 (.lk (.i .i64) (.int .i64 0) false (.t 4) (.t 5)),m 2 6]
def zu:bx:=(s (r TO) (s (r TP) .ret))
def Ef:List bR:=[.tmp 2]
theorem JL:cA Tryz.prog Tryz.f80 zu:=e (by kernel_rfl)
theorem KX:cw Tryz.prog Tryz.f80 Ef:=e (by kernel_rfl)
theorem IN:cn Tryz.prog 80:=e (by kernel_rfl)
def Br:=[b 3 1,o 4 (.alloc (.bool false))]
def Bt:=[L 6 4 3,o 7 (.call 66 [.t 6]),o 8 (.call 114 [.t 7])]
def qw:=[m 9 0,o 10 (.nilC (.t 9)),f 11 5 5 10,l 12 11,f 13 0 0 3,l 14 13,o 15 (.lk (.i .i64) (.dA) false (.t 12) (.t 14)),L 16 4 3,o 17 (.fQ (.t 15) [.t 16])]
def LQ:=some [[],[0],[1],[2],[],[4],[3,5],[],[6,7]]
def TQ:=[p (.a8 none (.t 4) T)]
def XK:List bR:=[.cell 4 none]
theorem KY:cw Tryz.prog Tryz.f81 XK:=e (by kernel_rfl)
theorem IP:cn Tryz.prog 81:=e (by kernel_rfl)
def TR:=[o 4 (.mv (.c (.nils 1))),ca 5 0]
def TS:=[o 6 (.mv (.c (.nils 1)))]
def TW:=[m 11 0,o 12 (.len (.t 11)),ca 13 0]
def TX:=[lt 14 13 12]
def TY:=[m 15 13,o 16 (.is 3 (.t 11) (.t 13)),L 17 3 16,o 8 (.alloc (.agg [.int .i64 0,.nils 4,.int .i64 0])),m 7 15,p (.a8 (some 3) (.t 8) (.t 17))]
def TZ:=[L 19 3 8,o 20 (.call 69 [.t 19]),m 18 20,o 21 (.ext (.t 18) 0),o 22 (.ext (.t 18) 1),m 9 21,m 10 22]
def T0:=[m 23 10,o 24 (.bin .neq (.t 23) (bd 0)),m 25 24,gJ 26 7 25,on 27 (.bin .gtr (.t 26) (bd 0)) 25,gJ 28 27 25,dz 29 0 28,dz 30 7 28,bL 31 (.bin .sub (.t 30) (bd 1)) 28,bL 32 (.is 3 (.t 29) (.t 31)) 28,dW 33 0 0 32 28,dN 34 33 28,dW 35 0 0 8 28,dN 36 35 28,bL 37 (.bin .geq (.t 34) (.t 36)) 28,on 38 (.pick (.t 28) (.t 37) bz) 25,or 39 25 38]
def LR:=some [[],[0],[1],[2],[3,2],[4,2,2],[5],[5],[7,5],[6,8,5],[9,5],[10,5],[5],[12,5],[11,13,5],[5,14,2],[2,15]]
def T1:=[o 4 (.mv (.c (.nils 1))),ca 5 96]
def T2:=[m 40 6,m 41 9,o 42 (.bs 80 1 [.t 41]),o 43 (.dy 80 1 8 (.nilp) (.t 40) (.t 42)),m 6 43]
def T3:=[ad 44 13 1,m 13 44]
def TT:=[m 45 1,o 46 (.call 71 [.t 45]),no 47 46]
def TU:=[o 4 (.mv (.c (.nils 1))),ca 5 1]
def TV:=[m 48 6,m 4 48,ca 5 0]
def zw:bx:=(s (r TR) (s (r TS) (s (s (r TW) (.block 0 (.loop (s (r TX) (s (.cond (.t 14) .skip (.exit 0)) (s (.block 1 (s (r TY) (s (r TZ) (s (s (.b8 LR T0) (.cond (.t 39) (s (r T1) .ret) .skip)) (r T2))))) (r T3))))))) (s (s (r TT) (.cond (.t 47) (s (r TU) .ret) .skip)) (s (r TV) .ret)))))
def Eg:List bR:=[.tmp 4,.tmp 5]
theorem JM:cA Tryz.prog Tryz.f83 zw:=e (by kernel_rfl)
theorem KZ:cw Tryz.prog Tryz.f83 Eg:=e (by kernel_rfl)
theorem IQ:cn Tryz.prog 83:=e (by kernel_rfl)
def Bu:=[o 2 (.mv (.c (.nils 1)))]
def Bv:=[o 3 (.mv (.c (.nils 1)))]
def Bw:=[m 5 0,o 6 (.nilC (.t 5)),f 7 2 2 6,l 8 7,o 9 (.jz (.t 8))]
def vT:=[o 10 (.ig (.t 9)),o 11 (.ext (.t 10) 0)]
def T4:=[o 12 (.ent (.t 9)),o 13 (.ext (.t 12) 0),m 4 13]
def T5:=[m 14 3,m 15 4,o 16 (.bs 3 1 [.t 15]),o 17 (.dy 3 1 8 (.int .i64 0) (.t 14) (.t 16)),m 3 17]
def T6:=[m 18 3,o 19 (.call 89 [.t 18])]
def T7:=[m 20 3,m 2 20]
def zx:bx:=(s (r Bu) (s (r Bv) (s (s (r Bw) (.block 0 (.loop (s (r vT) (s (.cond (.t 11) .skip (.exit 0)) (.block 1 (s (r T4) (r T5)))))))) (s (r T6) (s (r T7) .ret)))))
def Ei:List bR:=[.tmp 2]
theorem JN:cA Tryz.prog Tryz.f85 zx:=e (by kernel_rfl)
theorem K0:cw Tryz.prog Tryz.f85 Ei:=e (by kernel_rfl)
theorem IS:cn Tryz.prog 85:=e (by kernel_rfl)
def T8:=[b 3 0,ca 6 0]
def T9:=[f 9 4 4 3,l 10 9,o 11 (.len (.t 10)),ca 12 0]
def Ua:=[lt 13 12 11]
def Ub:=[o 14 (.is 4 (.t 10) (.t 12)),L 15 4 14,o 8 (.alloc (.agg [.int .i64 0,.int .i64 0,.int .i64 0,.int .i64 0])),p (.a8 (some 4) (.t 8) (.t 15))]
def Uc:=[f 16 1 1 8,l 17 16,m 18 1,o 19 (.bin .eql (.t 17) (.t 18)),m 20 19,dW 21 2 2 8 20,dN 22 21 20,dz 23 2 20,bL 24 (.bin .eql (.t 22) (.t 23)) 20,and 25 20 24]
def Ud:=[f 26 0 0 8,l 27 26,m 6 27]
def Ue:=[ad 28 12 1,m 12 28]
def Uf:=[ca 6 0]
def zy:bx:=(s (r T8) (s (s (r T9) (.block 0 (.loop (s (r Ua) (s (.cond (.t 13) .skip (.exit 0)) (s (.block 1 (s (r Ub) (s (r Uc) (.cond (.t 25) (s (r Ud) .ret) .skip)))) (r Ue))))))) (s (r Uf) .ret)))
def Ej:List bR:=[.tmp 6]
theorem JO:cA Tryz.prog Tryz.f88 zy:=e (by kernel_rfl)
theorem K8:cw Tryz.prog Tryz.f88 Ej:=e (by kernel_rfl)
theorem IT:cn Tryz.prog 88:=e (by kernel_rfl)
theorem zV:cn Tryz.prog 89:=e (by kernel_rfl)
def Ug:=[o 2 (.mv bz)]
def Uh:=[m 3 0,o 4 (.call 105 [.t 3,(bd 1),(bd 200)]),m 2 4]
def zA:bx:=(s (r Ug) (s (r Uh) .ret))
def Ek:List bR:=[.tmp 2]
theorem JP:cA Tryz.prog Tryz.f90 zA:=e (by kernel_rfl)
theorem K9:cw Tryz.prog Tryz.f90 Ek:=e (by kernel_rfl)
theorem IU:cn Tryz.prog 90:=e (by kernel_rfl)
def Bx:=[o 4 (.mv (.c (.bQ ⟨#[]⟩)))]
def By:=[m 7 1,o 8 (.len (.t 7)),ca 9 0]
def Bz:=[lt 10 9 8]
def BA:=[o 11 (.is 1 (.t 7) (.t 9)),l 12 11,m 6 12]
def BB:=[m 13 0,m 14 6,o 15 (.call 119 [.t 14]),o 16 (.bin .add (.c (.bQ ⟨#[32]⟩)) (.t 15)),o 17 (.bin .add (.t 13) (.t 16)),m 0 17]
def BC:=[ad 18 9 1,m 9 18]
def BD:=[m 19 0,o 20 (.bin .add (.t 19) (.c (.bQ ⟨#[10]⟩))),m 4 20]
def zB:bx:=(s (r Bx) (s (s (r By) (.block 0 (.loop (s (r Bz) (s (.cond (.t 10) .skip (.exit 0)) (s (.block 1 (s (r BA) (r BB))) (r BC))))))) (s (r BD) .ret)))
def El:List bR:=[.tmp 4]
theorem JQ:cA Tryz.prog Tryz.f93 zB:=e (by kernel_rfl)
theorem La:cw Tryz.prog Tryz.f93 El:=e (by kernel_rfl)
theorem IV:cn Tryz.prog 93:=e (by kernel_rfl)
def Ui:=[o 0 (.mv (.c (.nils 1)))]
def Uj:=[o 1 (.bs 9 1 [(.c (.bQ ⟨#[]⟩)),(.c (.bQ ⟨#[112,111,117,110,100]⟩)),(.c (.bQ ⟨#[114,101,108,101,97,115,101]⟩)),(.c (.bQ ⟨#[115,101,110,100]⟩)),(.c (.bQ ⟨#[99,97,108,108]⟩)),(.c (.bQ ⟨#[100,111,110,101]⟩)),(.c (.bQ ⟨#[98,97,99,107]⟩)),(.c (.bQ ⟨#[116,97,107,101]⟩)),(.c (.bQ ⟨#[114,101,102,117,115,101]⟩))]),m 0 1]
def zC:bx:=(s (r Ui) (s (r Uj) .ret))
def Em:List bR:=[.tmp 0]
theorem JR:cA Tryz.prog Tryz.f94 zC:=e (by kernel_rfl)
theorem Lb:cw Tryz.prog Tryz.f94 Em:=e (by kernel_rfl)
theorem IW:cn Tryz.prog 94:=e (by kernel_rfl)
def MY:=[o 6 (.mv bz)]
def MZ:=[m 7 0,m 8 1,o 9 (.bin .geq (.t 7) (.t 8)),m 10 9,dz 11 0 10,dz 12 2 10,bL 13 (.bin .leq (.t 11) (.t 12)) 10,and 14 10 13,m 6 14]
def yF:bx:=(s (r MY) (s (r MZ) .ret))
def Dg:List bR:=[.tmp 6]
theorem I3:cA Tryz.prog Tryz.f105 yF:=e (by kernel_rfl)
theorem J5:cw Tryz.prog Tryz.f105 Dg:=e (by kernel_rfl)
theorem HW:cn Tryz.prog 105:=e (by kernel_rfl)
def M0:=[o 2 (.mv (.c (.nilp)))]
def M2:=[m 4 0,o 5 (.iJ),o 6 (.iJ),o 7 (.iJ),o 8 (.bld [.int .i64 0,.raw (.map none),.raw (.map none),.int .i64 0,.raw (.map none),.raw (.map none)] [(0,(.t 4)),(1,(.t 5)),(2,(.t 6)),(4,(.t 7))]),b 9 8,m 3 9]
def M3:=[m 10 3,o 11 (.iJ),m 12 3,o 13 (.mk 1000125 [.t 12]),p (.eV (.i .i64) (.t 11) (bd 1) (.t 13)),m 14 3,o 15 (.mk 1000126 [.t 14]),p (.eV (.i .i64) (.t 11) (bd 2) (.t 15)),m 16 3,o 17 (.mk 1000127 [.t 16]),p (.eV (.i .i64) (.t 11) (bd 3) (.t 17)),m 18 3,o 19 (.mk 1000128 [.t 18]),p (.eV (.i .i64) (.t 11) (bd 4) (.t 19)),m 20 3,o 21 (.mk 1000129 [.t 20]),p (.eV (.i .i64) (.t 11) (bd 5) (.t 21)),m 22 3,o 23 (.mk 1000130 [.t 22]),p (.eV (.i .i64) (.t 11) (bd 6) (.t 23)),m 24 3,o 25 (.mk 1000131 [.t 24]),p (.eV (.i .i64) (.t 11) (bd 7) (.t 25)),m 26 3,o 27 (.mk 1000132 [.t 26]),p (.eV (.i .i64) (.t 11) (bd 8) (.t 27)),m 28 11,o 29 (.nilC (.t 10)),f 30 5 5 29,p (.a8 none (.t 30) (.t 28))]
def M4:=[m 31 3,m 2 31]
def yG:bx:=(s (r M0) (s (r M2) (s (r M3) (s (r M4) .ret))))
def Di:List bR:=[.tmp 2]
theorem I4:cA Tryz.prog Tryz.f106 yG:=e (by kernel_rfl)
theorem J6:cw Tryz.prog Tryz.f106 Di:=e (by kernel_rfl)
theorem HX:cn Tryz.prog 106:=e (by kernel_rfl)
def M5:=[l 12 1,o 13 (.call 85 [.t 12]),o 14 (.len (.t 13)),ca 15 0]
def M6:=[lt 16 15 14]
def Nf:=[o 17 (.is 1 (.t 13) (.t 15)),l 18 17,m 5 18]
def Ng:=[l 19 1,o 20 (.nilC (.t 19)),f 21 2 2 20,l 22 21,m 23 5,o 24 (.lk (.i .i64) (.nilp) false (.t 22) (.t 23)),m 6 24]
def Nh:=[l 25 1,o 26 (.nilC (.t 25)),f 27 0 0 26,l 28 27,l 29 2,m 30 6,o 31 (.nilC (.t 30)),f 32 2 2 31,l 33 32,m 34 5,o 35 (.bld [.int .i64 0,.int .i64 0,.int .i64 0,.int .i64 0,.int .i64 0] [(0,(bd 1)),(1,(.t 28)),(2,(.t 29)),(3,(.t 33)),(4,(.t 34))]),o 7 (.alloc (.agg [.int .i64 0,.int .i64 0,.int .i64 0,.int .i64 0,.int .i64 0])),p (.a8 (some 5) (.t 7) (.t 35))]
def Le:=some [[],[0],[1],[2],[],[],[5],[6],[7],[],[3,4,8,9],[],[11,10,0,1,2,3,4,5,6,7,8,9,10,11]]
def Ni:=[m 36 6,o 37 (.nilC (.t 36)),f 38 3 3 37,l 39 38]
def Nj:=[f 40 0 0 7,p (.a8 none (.t 40) (bd 3))]
def nG:=[m 41 6,o 42 (.nilC (.t 41)),f 43 1 1 42,l 44 43,l 45 2,o 46 (.bin .eql (.t 44) (.t 45)),m 47 46,dz 48 0 47,bL 49 (.ld (some 5) (.t 7)) 47,bL 50 (.fQ (.t 48) [.t 49]) 47,bL 51 (.un .not (.t 50)) 47,and 52 47 51]
def Lf:=some [[],[0],[1],[2],[],[3,4],[5],[6],[6],[7,8,6,6],[9,6],[6,10]]
def Nk:=[ad 53 15 1,m 15 53]
def Nl:=[ca 8 1]
def M7:=[m 54 8,o 55 (.bin .leq (.t 54) (bd 200))]
def M8:=[l 59 1,o 60 (.nilC (.t 59)),f 61 4 4 60,l 62 61,l 63 2,m 64 8,o 65 (.bld [.int .i64 0,.int .i64 0] [(0,(.t 63)),(1,(.t 64))]),o 66 (.lk (.a8 [(.i .i64),(.i .i64)]) (.agg [.int .i64 0,.int .i64 0,.int .i64 0,.int .i64 0]) true (.t 62) (.t 65)),m 58 66,o 67 (.ext (.t 58) 0),o 68 (.ext (.t 58) 1),o 9 (.alloc (.agg [.int .i64 0,.int .i64 0,.int .i64 0,.int .i64 0])),p (.a8 (some 4) (.t 9) (.t 67)),m 10 68]
def Lc:=some [[],[0],[1],[2],[],[],[4,5],[3,6],[7],[8],[8],[],[11,9,0,1,2,3,4,5,6,7,8,9,11],[10,12,0,1,2,3,4,5,6,7,8,9,10,11,12]]
def M9:=[l 69 1,o 70 (.nilC (.t 69)),f 71 0 0 70,l 72 71,l 73 2,f 74 1 1 9,l 75 74,m 76 8,o 77 (.bld [.int .i64 0,.int .i64 0,.int .i64 0,.int .i64 0,.int .i64 0] [(0,(bd 2)),(1,(.t 72)),(2,(.t 73)),(3,(.t 75)),(4,(.t 76))]),o 11 (.alloc (.agg [.int .i64 0,.int .i64 0,.int .i64 0,.int .i64 0,.int .i64 0])),p (.a8 (some 5) (.t 11) (.t 77))]
def Ld:=some [[],[0],[1],[2],[],[],[5],[],[3,4,6,7],[],[9,8,0,1,2,3,4,5,6,7,8,9]]
def Na:=[f 78 0 0 9,l 79 78,o 80 (.bin .eql (.t 79) (bd 8))]
def Nb:=[f 81 0 0 11,p (.a8 none (.t 81) (bd 4))]
def Nc:=[m 82 10,m 83 82,dz 84 0 83,bL 85 (.ld (some 5) (.t 11)) 83,bL 86 (.fQ (.t 84) [.t 85]) 83,bL 87 (.un .not (.t 86)) 83,and 88 83 87]
def Nd:=[m 56 8,ad 57 56 1,m 8 57]
def yH:bx:=(s (s (r M5) (.block 0 (.loop (s (r M6) (s (.cond (.t 16) .skip (.exit 0)) (s (.block 1 (s (r Nf) (s (r Ng) (s (.b8 Le Nh) (s (s (r Ni) (.cond (.t 39) (r Nj) .skip)) (s (.b8 Lf nG) (.cond (.t 52) .ret .skip))))))) (r Nk))))))) (s (r Nl) (.block 2 (.loop (s (s (r M7) (.cond (.t 55) .skip (.exit 2))) (s (.block 3 (s (.b8 Lc M8) (s (.b8 Ld M9) (s (s (r Na) (.cond (.t 80) (r Nb) .skip)) (s (r Nc) (.cond (.t 88) .ret .skip)))))) (r Nd)))))))
def Dj:List bR:=[]
theorem I5:cA Tryz.prog Tryz.f107 yH:=e (by kernel_rfl)
theorem J7:cw Tryz.prog Tryz.f107 Dj:=e (by kernel_rfl)
theorem zF:cn Tryz.prog 107:=e (by kernel_rfl)
def Nn:=[b 2 0,o 4 (.mv bz)]
def Np:=[f 7 3 3 2,l 8 7,o 9 (.len (.t 8)),ca 10 0]
def Nq:=[lt 11 10 9]
def Nr:=[o 12 (.is 4 (.t 8) (.t 10)),L 13 4 12,o 6 (.alloc (.agg [.int .i64 0,.int .i64 0,.int .i64 0,.bool false])),p (.a8 (some 4) (.t 6) (.t 13))]
def Ns:=[f 14 2 2 6,l 15 14,m 16 1,o 17 (.bin .eql (.t 15) (.t 16))]
def Nt:=[o 4 (.mv T)]
def Nu:=[ad 18 10 1,m 10 18]
def Nv:=[o 4 (.mv bz)]
def yI:bx:=(s (r Nn) (s (s (r Np) (.block 0 (.loop (s (r Nq) (s (.cond (.t 11) .skip (.exit 0)) (s (.block 1 (s (r Nr) (s (r Ns) (.cond (.t 17) (s (r Nt) .ret) .skip)))) (r Nu))))))) (s (r Nv) .ret)))
def Dk:List bR:=[.tmp 4]
theorem I6:cA Tryz.prog Tryz.f108 yI:=e (by kernel_rfl)
theorem J8:cw Tryz.prog Tryz.f108 Dk:=e (by kernel_rfl)
theorem HY:cn Tryz.prog 108:=e (by kernel_rfl)
def Nw:=[o 4 (.mv (.c (.nils 1)))]
def Nx:=[ca 5 0]
def Ny:=[m 6 5,m 7 0,o 8 (.len (.t 7)),lt 9 6 8,m 10 9,dz 11 0 10,dz 12 5 10,bL 13 (.is 1 (.t 11) (.t 12)) 10,dN 14 13 10,dz 15 1 10,bL 16 (.bin .lss (.t 14) (.t 15)) 10,and 17 10 16]
def Nz:=[m 18 5,ad 19 18 1,m 5 19]
def NA:=[m 20 5,m 21 0,o 22 (.len (.t 21)),lt 23 20 22,m 24 23,dz 25 0 24,dz 26 5 24,bL 27 (.is 1 (.t 25) (.t 26)) 24,dN 28 27 24,dz 29 1 24,bL 30 (.bin .eql (.t 28) (.t 29)) 24,and 31 24 30]
def NB:=[m 32 0,m 4 32]
def qp:=[o 33 (.bs0 1),m 34 0,m 35 5,o 36 (.sl 1 (.t 34) none (some (.t 35)) none),o 37 (.dy 3 1 8 (.int .i64 0) (.t 33) (.t 36)),m 38 1,o 39 (.bs 3 1 [.t 38]),o 40 (.dy 3 1 8 (.int .i64 0) (.t 37) (.t 39)),m 41 0,m 42 5,o 43 (.sl 1 (.t 41) (some (.t 42)) none none),o 44 (.dy 3 1 8 (.int .i64 0) (.t 40) (.t 43)),m 4 44]
def Lg:=some [[],[],[],[1,2],[0,3],[],[5],[4,6,4],[],[],[8,9],[7,10,7],[11,11,0,1,2,3,4,5,6,7,8,9,10,11]] -- DRAW BAD
def yJ:bx:=(s (r Nw) (s (r Nx) (s (.block 0 (.loop (s (s (r Ny) (.cond (.t 17) .skip (.exit 0))) (.block 1 (r Nz))))) (s (s (r NA) (.cond (.t 31) (s (r NB) .ret) .skip)) (s (.b8 Lg qp) .ret)))))
def Dl:List bR:=[.tmp 4]
theorem I7:cA Tryz.prog Tryz.f109 yJ:=e (by kernel_rfl)
theorem J9:cw Tryz.prog Tryz.f109 Dl:=e (by kernel_rfl)
theorem HZ:cn Tryz.prog 109:=e (by kernel_rfl)
def NK:=[o 4 (.mv (.c (.nils 1)))]
def NL:=[o 5 (.mv (.c (.nils 1)))]
def NM:=[m 8 0,o 9 (.len (.t 8)),ca 10 0]
def NN:=[lt 11 10 9]
def NO:=[o 12 (.is 1 (.t 8) (.t 10)),l 13 12,m 7 13]
def NP:=[m 14 7,m 15 1,o 16 (.bin .neq (.t 14) (.t 15))]
def NQ:=[m 17 5,m 18 7,o 19 (.bs 3 1 [.t 18]),o 20 (.dy 3 1 8 (.int .i64 0) (.t 17) (.t 19)),m 5 20]
def NR:=[ad 21 10 1,m 10 21]
def NS:=[m 22 5,m 4 22]
def yK:bx:=(s (r NK) (s (r NL) (s (s (r NM) (.block 0 (.loop (s (r NN) (s (.cond (.t 11) .skip (.exit 0)) (s (.block 1 (s (r NO) (s (r NP) (.cond (.t 16) (r NQ) .skip)))) (r NR))))))) (s (r NS) .ret))))
def Dm:List bR:=[.tmp 4]
theorem I8:cA Tryz.prog Tryz.f110 yK:=e (by kernel_rfl)
theorem Ka:cw Tryz.prog Tryz.f110 Dm:=e (by kernel_rfl)
theorem H0:cn Tryz.prog 110:=e (by kernel_rfl)
def NT:=[b 2 0,o 4 (.alloc (.agg [.int .i64 0,.nils 1,.int .i64 0,.nils 4,.nils 4]))]
def vK:=[o 5 (.bs0 4),f 6 3 3 2,l 7 6,m 8 1,o 9 (.sl 4 (.t 7) none (some (.t 8)) none),o 10 (.dy 48 4 32 (.agg [.int .i64 0,.int .i64 0,.int .i64 0,.bool false]) (.t 5) (.t 9)),f 11 3 3 2,l 12 11,m 13 1,ad 14 13 1,o 15 (.sl 4 (.t 12) (some (.t 14)) none none),o 16 (.dy 48 4 32 (.agg [.int .i64 0,.int .i64 0,.int .i64 0,.bool false]) (.t 10) (.t 15)),f 17 3 3 2,p (.a8 none (.t 17) (.t 16))]
def Lh:=some [[],[],[1],[],[2,3],[0,4],[],[6],[],[8],[7,9],[5,10,5],[0,1,2,3,4,5,6,7,8,9,10,11],[12,11,11,0,1,2,3,4,5,6,7,8,9,10,11]] -- DRAW BAD
def NU:=[L 18 5 2,p (.a8 (some 5) (.t 4) (.t 18))]
def yL:bx:=(s (r NT) (s (.b8 Lh vK) (s (r NU) .ret)))
def Dn:List bR:=[.cell 4 (some 5)]
theorem I9:cA Tryz.prog Tryz.f111 yL:=e (by kernel_rfl)
theorem Kb:cw Tryz.prog Tryz.f111 Dn:=e (by kernel_rfl)
theorem H8:cn Tryz.prog 111:=e (by kernel_rfl)
def NV:=[b 2 0,b 3 1,o 4 (.alloc (.agg [.int .i64 0,.nils 1,.int .i64 0,.nils 4,.nils 4]))]
def vL:=[o 5 (.bs0 4),f 6 4 4 2,l 7 6,o 8 (.dy 91 4 32 (.agg [.int .i64 0,.int .i64 0,.int .i64 0,.int .i64 0]) (.t 5) (.t 7)),f 9 0 0 3,l 10 9,f 11 2 2 3,l 12 11,f 13 3 3 3,l 14 13,f 15 1 1 3,l 16 15,o 17 (.bld [.int .i64 0,.int .i64 0,.int .i64 0,.int .i64 0] [(0,(.t 10)),(1,(.t 12)),(2,(.t 14)),(3,(.t 16))]),o 18 (.bs 91 4 [.t 17]),o 19 (.dy 91 4 32 (.agg [.int .i64 0,.int .i64 0,.int .i64 0,.int .i64 0]) (.t 8) (.t 18)),f 20 4 4 2,p (.a8 none (.t 20) (.t 19))]
def Li:=some [[],[],[1],[0,2],[],[4],[],[6],[],[8],[],[10],[5,7,9,11],[12],[3,13,3],[0,1,2,3,4,5,6,7,8,9,10,11,12,13,14],[15,14,14,0,1,2,3,4,5,6,7,8,9,10,11,12,13,14]] -- DRAW BAD
def NW:=[L 21 5 2,p (.a8 (some 5) (.t 4) (.t 21))]
def yM:bx:=(s (r NV) (s (.b8 Li vL) (s (r NW) .ret)))
def Dp:List bR:=[.cell 4 (some 5)]
theorem Ja:cA Tryz.prog Tryz.f112 yM:=e (by kernel_rfl)
theorem Kc:cw Tryz.prog Tryz.f112 Dp:=e (by kernel_rfl)
theorem H9:cn Tryz.prog 112:=e (by kernel_rfl)
theorem zG:cn Tryz.prog 113:=e (by kernel_rfl)
def NX:=[m 2 0,no 3 2]
def yN:bx:=(s (r NX) (.cond (.t 3) .uF .skip))
def Dq:List bR:=[]
theorem Jb:cA Tryz.prog Tryz.f114 yN:=e (by kernel_rfl)
theorem Kd:cw Tryz.prog Tryz.f114 Dq:=e (by kernel_rfl)
theorem zH:cn Tryz.prog 114:=e (by kernel_rfl)
theorem Ia:cn Tryz.prog 119:=e (by kernel_rfl)
def NY:=[b 3 1]
def qt:=[m 4 0,o 5 (.nilC (.t 4)),f 6 1 1 5,l 7 6,f 8 1 1 3,l 9 8,o 10 (.lk (.i .i64) (.bool false) false (.t 7) (.t 9)),no 11 10,m 12 11,dz 13 0 12,dW 14 1 1 3 12,dN 15 14 12,bL 16 (.call 72 [.t 13,.t 15]) 12,bL 17 (.un .not (.t 16)) 12,and 18 12 17,o 19 (.call 114 [.t 18])]
def Lj:=some [[],[0],[1],[2],[],[4],[3,5],[6],[7],[8],[8],[10,8],[9,11,8,8],[12,8],[8,13],[14,12]]
def NZ:=[m 20 0,o 21 (.nilC (.t 20)),f 22 1 1 21,l 23 22,f 24 1 1 3,l 25 24,p (.eV (.i .i64) (.t 23) (.t 25) T)]
def Lk:=some [[],[0],[1],[2],[],[4],[3,5,0,1,2,3,4,5]]
def uK:bx:=(s (r NY) (s (.b8 Lj qt) (.b8 Lk NZ)))
def Ds:List bR:=[]
theorem zZ:cA Tryz.prog Tryz.f125 uK:=e (by kernel_rfl)
theorem Kf:cw Tryz.prog Tryz.f125 Ds:=e (by kernel_rfl)
theorem zI:cn Tryz.prog 125:=e (by kernel_rfl)
def N0:=[b 3 1]
def vM:=[m 4 0,o 5 (.nilC (.t 4)),f 6 1 1 5,l 7 6,f 8 1 1 3,l 9 8,o 10 (.lk (.i .i64) (.bool false) false (.t 7) (.t 9)),o 11 (.call 114 [.t 10])]
def Ll:=some [[],[0],[1],[2],[],[4],[3,5],[6]]
def N1:=[m 12 0,o 13 (.nilC (.t 12)),f 14 1 1 13,l 15 14,f 16 1 1 3,l 17 16,p (.iI (.i .i64) (.t 15) (.t 17))]
def Lm:=some [[],[0],[1],[2],[],[4],[3,5]]
def uL:bx:=(s (r N0) (s (.b8 Ll vM) (.b8 Lm N1)))
def Dt:List bR:=[]
theorem z7:cA Tryz.prog Tryz.f126 uL:=e (by kernel_rfl)
theorem Kg:cw Tryz.prog Tryz.f126 Dt:=e (by kernel_rfl)
theorem zJ:cn Tryz.prog 126:=e (by kernel_rfl)
def N2:=[b 3 1]
def nH:=[m 4 0,o 5 (.nilC (.t 4)),f 6 1 1 5,l 7 6,f 8 1 1 3,l 9 8,o 10 (.lk (.i .i64) (.bool false) false (.t 7) (.t 9)),m 11 10,dW 12 2 2 3 11,dN 13 12 11,dz 14 0 11,bL 15 (.nilC (.t 14)) 11,dW 16 0 0 15 11,dN 17 16 11,bL 18 (.bin .neq (.t 13) (.t 17)) 11,and 19 11 18,m 20 19,dW 21 3 3 3 20,dN 22 21 20,dz 23 0 20,bL 24 (.nilC (.t 23)) 20,dW 25 3 3 24 20,dN 26 25 20,bL 27 (.bin .add (.t 26) (bd 1)) 20,bL 28 (.bin .eql (.t 22) (.t 27)) 20,and 29 20 28,o 30 (.call 114 [.t 29])]
def Ln:=some [[],[0],[1],[2],[],[4],[3,5],[6],[7],[8,7],[7],[10,7],[11,7],[12,7],[9,13,7],[7,14],[15,7],[16],[17,16],[16],[19,16],[20,16],[21,16],[22,16],[18,23,16],[16,24],[25,16]]
def N3:=[m 31 0,o 32 (.nilC (.t 31)),f 33 1 1 32,l 34 33,f 35 1 1 3,l 36 35,p (.iI (.i .i64) (.t 34) (.t 36))]
def Lo:=some [[],[0],[1],[2],[],[4],[3,5]]
def N4:=[m 37 0,o 38 (.nilC (.t 37)),f 39 3 3 38,l 40 39,ad 41 40 1,o 42 (.nilC (.t 37)),f 43 3 3 42,p (.a8 none (.t 43) (.t 41))]
def N5:=[m 44 0,o 45 (.nilC (.t 44)),f 46 2 2 45,l 47 46,f 48 3 3 3,l 49 48,f 50 3 3 3,l 51 50,f 52 2 2 3,l 53 52,f 54 1 1 3,l 55 54,o 56 (.bld [.int .i64 0,.int .i64 0,.int .i64 0,.bool false] [(0,(.t 51)),(1,(.t 53)),(2,(.t 55))]),b 57 56,p (.eV (.i .i64) (.t 47) (.t 49) (.t 57))]
def Lp:=some [[],[0],[1],[2],[],[4],[],[6],[],[8],[],[10],[7,9,11],[12],[3,5,13,0,1,2,3,4,5,6,7,8,9,10,11,12,13]]
def uM:bx:=(s (r N2) (s (.b8 Ln nH) (s (.b8 Lo N3) (s (r N4) (.b8 Lp N5)))))
def Du:List bR:=[]
theorem z8:cA Tryz.prog Tryz.f127 uM:=e (by kernel_rfl)
theorem Kh:cw Tryz.prog Tryz.f127 Du:=e (by kernel_rfl)
theorem zK:cn Tryz.prog 127:=e (by kernel_rfl)
def N6:=[b 3 1]
def A7:=[m 5 0,L 6 4 3,o 7 (.call 151 [.t 5,.t 6]),m 4 7]
def A8:=[m 8 4,o 9 (.nilC (.t 8)),f 10 3 3 9,l 11 10,no 12 11,o 13 (.call 114 [.t 12])]
def N7:=[m 14 4,o 15 (.nilC (.t 14)),f 16 3 3 15,p (.a8 none (.t 16) T)]
def uN:bx:=(s (r N6) (s (r A7) (s (r A8) (r N7))))
def Dv:List bR:=[]
theorem Aa:cA Tryz.prog Tryz.f128 uN:=e (by kernel_rfl)
theorem Ki:cw Tryz.prog Tryz.f128 Dv:=e (by kernel_rfl)
theorem zL:cn Tryz.prog 128:=e (by kernel_rfl)
def N8:=[b 3 1]
def A9:=[m 4 0,L 5 4 3,o 6 (.call 151 [.t 4,.t 5])]
def N9:=[m 7 0,o 8 (.nilC (.t 7)),f 9 2 2 8,l 10 9,f 11 3 3 3,l 12 11,p (.iI (.i .i64) (.t 10) (.t 12))]
def Lq:=some [[],[0],[1],[2],[],[4],[3,5]]
def uO:bx:=(s (r N8) (s (r A9) (.b8 Lq N9)))
def Dw:List bR:=[]
theorem Ab:cA Tryz.prog Tryz.f129 uO:=e (by kernel_rfl)
theorem Kj:cw Tryz.prog Tryz.f129 Dw:=e (by kernel_rfl)
theorem zM:cn Tryz.prog 129:=e (by kernel_rfl)
def Oi:=[b 3 1]
def vN:=[m 4 0,L 5 4 3,o 6 (.call 151 [.t 4,.t 5]),o 7 (.nilC (.t 6)),f 8 3 3 7,l 9 8,o 10 (.call 114 [.t 9])]
def Oj:=[m 11 0,o 12 (.nilC (.t 11)),f 13 2 2 12,l 14 13,f 15 3 3 3,l 16 15,p (.iI (.i .i64) (.t 14) (.t 16))]
def Ls:=some [[],[0],[1],[2],[],[4],[3,5]]
def Ol:=[m 17 0,o 18 (.nilC (.t 17)),f 19 1 1 18,l 20 19,f 21 1 1 3,l 22 21,p (.eV (.i .i64) (.t 20) (.t 22) T)]
def Lt:=some [[],[0],[1],[2],[],[4],[3,5,0,1,2,3,4,5]]
def uP:bx:=(s (r Oi) (s (r vN) (s (.b8 Ls Oj) (.b8 Lt Ol))))
def Dy:List bR:=[]
theorem Ac:cA Tryz.prog Tryz.f130 uP:=e (by kernel_rfl)
theorem Kk:cw Tryz.prog Tryz.f130 Dy:=e (by kernel_rfl)
theorem zN:cn Tryz.prog 130:=e (by kernel_rfl)
def Om:=[b 3 1]
def nI:=[m 4 0,L 5 4 3,o 6 (.call 152 [.t 4,.t 5]),m 7 6,dz 8 0 7,bL 9 (.nilC (.t 8)) 7,dW 10 1 1 9 7,dN 11 10 7,dW 12 1 1 3 7,dN 13 12 7,bL 14 (.lk (.i .i64) (.bool false) false (.t 11) (.t 13)) 7,bL 15 (.un .not (.t 14)) 7,and 16 7 15,m 17 16,dz 18 0 17,dW 19 1 1 3 17,dN 20 19 17,bL 21 (.call 72 [.t 18,.t 20]) 17,bL 22 (.un .not (.t 21)) 17,and 23 17 22,o 24 (.call 114 [.t 23])]
def Lu:=some [[],[],[0,1],[2,2],[3],[4,3],[5,3],[6,3],[3],[8,3],[7,9,3],[10,3],[3,11],[12,3],[13],[13],[15,13],[14,16,13,13],[17,13],[13,18],[19,17]]
def On:=[m 25 0,o 26 (.nilC (.t 25)),f 27 4 4 26,l 28 27,f 29 2 2 3,l 30 29,f 31 3 3 3,l 32 31,o 33 (.bld [.int .i64 0,.int .i64 0] [(0,(.t 30)),(1,(.t 32))]),L 34 4 3,p (.eV (.a8 [(.i .i64),(.i .i64)]) (.t 28) (.t 33) (.t 34))]
def Lv:=some [[],[0],[1],[2],[],[4],[],[6],[5,7],[],[3,8,9,0,1,2,3,4,5,6,7,8,9]]
def Oo:=[m 35 0,o 36 (.nilC (.t 35)),f 37 1 1 36,l 38 37,f 39 1 1 3,l 40 39,p (.eV (.i .i64) (.t 38) (.t 40) T)]
def Lw:=some [[],[0],[1],[2],[],[4],[3,5,0,1,2,3,4,5]]
def uQ:bx:=(s (r Om) (s (.b8 Lu nI) (s (.b8 Lv On) (.b8 Lw Oo))))
def Dz:List bR:=[]
theorem Ad:cA Tryz.prog Tryz.f131 uQ:=e (by kernel_rfl)
theorem Kl:cw Tryz.prog Tryz.f131 Dz:=e (by kernel_rfl)
theorem zO:cn Tryz.prog 131:=e (by kernel_rfl)
def Oq:=[b 3 1]
def Ba:=[m 4 0,L 5 4 3,o 6 (.call 152 [.t 4,.t 5]),o 7 (.call 114 [.t 6])]
def Ot:=[m 8 0,o 9 (.nilC (.t 8)),f 10 4 4 9,l 11 10,f 12 2 2 3,l 13 12,f 14 3 3 3,l 15 14,o 16 (.bld [.int .i64 0,.int .i64 0] [(0,(.t 13)),(1,(.t 15))]),L 17 4 3,p (.eV (.a8 [(.i .i64),(.i .i64)]) (.t 11) (.t 16) (.t 17))]
def Lx:=some [[],[0],[1],[2],[],[4],[],[6],[5,7],[],[3,8,9,0,1,2,3,4,5,6,7,8,9]]
def uR:bx:=(s (r Oq) (s (r Ba) (.b8 Lx Ot)))
def DA:List bR:=[]
theorem Ae:cA Tryz.prog Tryz.f132 uR:=e (by kernel_rfl)
theorem Km:cw Tryz.prog Tryz.f132 DA:=e (by kernel_rfl)
theorem zP:cn Tryz.prog 132:=e (by kernel_rfl)
def OH:=[b 3 1,o 4 (.mv (.c (.nilp)))]
def OI:=[m 8 0,o 9 (.nilC (.t 8)),f 10 2 2 9,l 11 10,f 12 3 3 3,l 13 12,o 14 (.lk (.i .i64) (.nilp) true (.t 11) (.t 13)),m 7 14,o 15 (.ext (.t 7) 0),o 16 (.ext (.t 7) 1),m 5 15,m 6 16]
def LA:=some [[],[0],[1],[2],[],[4],[3,5],[6],[7],[7],[8,0,1,2,3,4,5,6,7,8],[9,10,0,1,2,3,4,5,6,7,8,9,10]]
def nJ:=[m 17 6,m 18 17,dz 19 5 18,bL 20 (.nilC (.t 19)) 18,dW 21 1 1 20 18,dN 22 21 18,dW 23 2 2 3 18,dN 24 23 18,bL 25 (.bin .eql (.t 22) (.t 24)) 18,and 26 18 25,m 27 26,dz 28 5 27,bL 29 (.nilC (.t 28)) 27,dW 30 2 2 29 27,dN 31 30 27,dW 32 1 1 3 27,dN 33 32 27,bL 34 (.bin .eql (.t 31) (.t 33)) 27,and 35 27 34,o 36 (.call 114 [.t 35])]
def LB:=some [[],[0],[1],[2,1],[3,1],[4,1],[1],[6,1],[5,7,1],[1,8],[9,1],[10],[11,10],[12,10],[13,10],[10],[15,10],[14,16,10],[10,17],[18,10]]
def OJ:=[m 37 5,m 4 37]
def uS:bx:=(s (r OH) (s (.b8 LA OI) (s (.b8 LB nJ) (s (r OJ) .ret))))
def DC:List bR:=[.tmp 4]
theorem Af:cA Tryz.prog Tryz.f151 uS:=e (by kernel_rfl)
theorem Ko:cw Tryz.prog Tryz.f151 DC:=e (by kernel_rfl)
theorem zQ:cn Tryz.prog 151:=e (by kernel_rfl)
def OK:=[b 3 1,o 4 (.mv bz)]
def OL:=[m 8 0,o 9 (.nilC (.t 8)),f 10 4 4 9,l 11 10,f 12 2 2 3,l 13 12,f 14 3 3 3,l 15 14,o 16 (.bld [.int .i64 0,.int .i64 0] [(0,(.t 13)),(1,(.t 15))]),o 17 (.lk (.a8 [(.i .i64),(.i .i64)]) (.agg [.int .i64 0,.int .i64 0,.int .i64 0,.int .i64 0]) true (.t 11) (.t 16)),m 7 17,o 18 (.ext (.t 7) 0),o 19 (.ext (.t 7) 1),o 5 (.alloc (.agg [.int .i64 0,.int .i64 0,.int .i64 0,.int .i64 0])),p (.a8 (some 4) (.t 5) (.t 18)),m 6 19]
def LC:=some [[],[0],[1],[2],[],[4],[],[6],[5,7],[3,8],[9],[10],[10],[],[13,11,0,1,2,3,4,5,6,7,8,9,10,11,13],[12,14,0,1,2,3,4,5,6,7,8,9,10,11,12,13,14]]
def OM:=[f 20 2 2 3,l 21 20,m 22 0,o 23 (.nilC (.t 22)),f 24 0 0 23,l 25 24,o 26 (.bin .neq (.t 21) (.t 25)),m 27 26,dz 28 6 27,bL 29 (.un .not (.t 28)) 27,and 30 27 29,m 4 30]
def LD:=some [[],[0],[],[2],[3],[4],[1,5],[6],[7],[8,7],[7,9],[10,7,0,1,2,3,4,5,6,7,8,9,10]]
def yQ:bx:=(s (r OK) (s (.b8 LC OL) (s (.b8 LD OM) .ret)))
def DE:List bR:=[.tmp 4]
theorem Je:cA Tryz.prog Tryz.f152 yQ:=e (by kernel_rfl)
theorem Kp:cw Tryz.prog Tryz.f152 DE:=e (by kernel_rfl)
theorem Ie:cn Tryz.prog 152:=e (by kernel_rfl)
end Go.Proofs.YthbdbocionnfgaaGreatDoor
namespace Go.Abs
open Go Go.RowKit
open Enc (enc)
def aC(x:I)(p q:Prop):Prop:=match x with
 | .bool t=>(t=true→p)∧(t=false→q)
 |_=>False
theorem ae.js{c:cV}{A:ai}{Q:Exit→ai→Prop}{b:aO}{x y:bx}(h:aC (ak A b) (ae c x Q A) (ae c y Q A)):ae c (.cond b x y) Q A:=by
 generalize hb:ak A b=v at h;unfold aC at h;split at h
 ·exact ae.cond hb h.1 h.2
 ·exact h.elim
def od(r:I):Option (List I)→Prop
 |some xs=>jX xs=r
 |none=>False
theorem X7(rs:List bR)(r:I)(A:ai):kn rs r .ret A=od r (ff A rs):=by
 simp only[kn,od];cases ff A rs <;>simp
theorem X6(rs:List bR)(r:I)(A:ai):kn rs r .normal A=od r (ff A rs):=by
 simp only[kn,od];cases ff A rs <;>simp
def rA(s:Option Nat)(A:ai):Option I→Option I
 |some x=>if b7 s x=true then bh true A x else none
 |none=>none
def kb:Option I→Option (List I)→Option (List I)
 |some x,some xs=>some (x::xs)
 |_,_=>none
theorem X0(A:ai):ff A []=some []:=rfl
theorem X1(A:ai)(t:Nat)(rs:List bR):ff A (.tmp t::rs)=kb (bh true A (A.t t)) (ff A rs):=by
 simp only[ff,tH];cases bh true A (A.t t) <;>cases ff A rs <;>rfl
theorem XZ(A:ai)(a:Nat)(s:Option Nat)(rs:List bR):ff A (.cell a s::rs)=kb (rA s A (gP A (A.t a))) (ff A rs):=by
 simp only[ff,tH,lH];cases gP A (A.t a) with
 |none=>cases ff A rs <;>rfl
 |some x =>
  by_cases h:b7 s x=true
  ·simp only[rA,if_pos h];cases bh true A x <;>cases ff A rs <;>rfl
  ·simp only[rA,if_neg h];cases ff A rs <;>rfl
def sF(aN:Bool)(A:ai):Option I→Option I
 |some x=>if x.bw=true then some (.ref x) else (cY A 9 x).map .ref
 |none=>none
theorem MR(A:ai)(n:Nat)(p:List Nat):bh true A (.ptr n p)=sF true A (fp p (A.o n)):=by
 simp only[bh,lH,gP,if_true,sF];cases fp p (A.o n) <;>rfl
open Classical in
noncomputable def lL(sz lo k:Nat):Option (List I)→Option I
 |some fs=>if I.cg ((fs.drop lo).take k)=true then some (.slice sz ((fs.drop lo).take k)) else none
 |none=>none
theorem vF(A:ai)(n:Nat)(p:List Nat)(sz lo k:Nat):bh true A (.view n p sz lo k)=lL sz lo k (fL (fp p (A.o n))):=by
 simp only[bh,lH,gP,if_true];cases fp p (A.o n) with
 |none=>rfl
 |some c=>cases c <;>simp only[fL,I.dJ,lL] <;>(split <;>simp_all)
open Classical in
noncomputable def kV(k:Nat):Option aq→Option I
 |some (.bY _ sz es)=>if k=es.length∧I.cg es=true then some (.slice sz es) else none
 |_=>none
theorem MQ(aN:Bool)(A:ai)(n k:Nat):bh aN A (.own n k)=kV k (A.o n):=by
 simp only[bh];cases A.o n with
 |none=>rfl
 |some y=>cases y <;>simp only[kV] <;>(split <;>simp_all)
theorem vE(aN:Bool)(A:ai)(fs:List I):bh aN A (.agg fs)=(b6 aN A fs).map .agg:=by simp only[bh]
theorem ML(aN:Bool)(A:ai)(f:FuncId)(fs:List I):bh aN A (.func f fs)=if f<1000000 then (b6 aN A fs).map (.func f) else some .any:=by simp only[bh]
theorem MN(aN:Bool)(A:ai)(k:IntKind)(n:Int):bh aN A (.int k n)=some (.int k n):=by simp only[bh]
theorem MK(aN:Bool)(A:ai)(n:Bool):bh aN A (.bool n)=some (.bool n):=by simp only[bh]
theorem MU(aN:Bool)(A:ai)(n:ByteArray):bh aN A (.bQ n)=some (.bQ n):=by simp only[bh]
theorem MP(aN:Bool)(A:ai)(n:Nat):bh aN A (.nils n)=some (.slice n []):=by simp only[bh]
theorem MT(aN:Bool)(A:ai)(n:Nat)(es:List I):bh aN A (.slice n es)=if I.cg es=true then some (.slice n es) else none:=by simp only[bh]
theorem MS(aN:Bool)(A:ai)(x:I):bh aN A (.ref x)=if x.bw=true then some (.ref x) else none:=by simp only[bh]
theorem vI(aN:Bool)(A:ai):b6 aN A []=some []:=by simp only[b6]
theorem vG(aN:Bool)(A:ai)(x:I)(xs:List I):b6 aN A (x::xs)=kb (bh aN A x) (b6 aN A xs):=by
 simp only[b6];cases bh aN A x <;>cases b6 aN A xs <;>rfl
theorem JU(fs:List I):(I.agg fs).bw=I.cg fs:=by simp only[I.bw]
theorem JZ(n:Nat)(fs:List I):(I.slice n fs).bw=I.cg fs:=by simp only[I.bw]
theorem JY(x:I):(I.ref x).bw=x.bw:=by simp only[I.bw]
theorem JX(k:IntKind)(n:Int):(I.int k n).bw=true:=by simp only[I.bw]
theorem JV(n:Bool):(I.bool n).bw=true:=by simp only[I.bw]
theorem J0(n:ByteArray):(I.bQ n).bw=true:=by simp only[I.bw]
theorem JW(f:FuncId)(fs:List I):(I.func f fs).bw=I.cg fs:=by simp only[I.bw]
theorem J2:I.cg []=true:=by simp only[I.cg]
theorem J1(x:I)(xs:List I):I.cg (x::xs)=(x.bw&&I.cg xs):=by simp only[I.cg]
theorem Ho(k:IntKind)(a b:Int):cB .add (.int k a) (.int k b)=some (.int k (k.wrap (a+b))):=by simp[cB]
theorem HE(k:IntKind)(a b:Int):cB .sub (.int k a) (.int k b)=some (.int k (k.wrap (a-b))):=by simp[cB]
theorem Hw(k:IntKind)(a b:Int):cB .mul (.int k a) (.int k b)=some (.int k (k.wrap (a*b))):=by simp[cB]
theorem HA(k:IntKind)(a b:Int):cB .quo (.int k a) (.int k b)=if b=0 then none else some (.int k (k.wrap (a.tdiv b))):=by simp[cB]
theorem HB(k:IntKind)(a b:Int):cB .rem (.int k a) (.int k b)=if b=0 then none else some (.int k (a.tmod b)):=by simp[cB]
theorem Hp(k:IntKind)(a b:Int):cB .and (.int k a) (.int k b)=some (.int k (k.wrap ((BitVec.ofInt k.bits a &&& BitVec.ofInt k.bits b).toNat:Int))):=by simp[cB]
theorem Hz(k:IntKind)(a b:Int):cB .or (.int k a) (.int k b)=some (.int k (k.wrap ((BitVec.ofInt k.bits a ||| BitVec.ofInt k.bits b).toNat:Int))):=by simp[cB]
theorem HF(k:IntKind)(a b:Int):cB .xor (.int k a) (.int k b)=some (.int k (k.wrap ((BitVec.ofInt k.bits a ^^^ BitVec.ofInt k.bits b).toNat:Int))):=by simp[cB]
theorem Hq(k:IntKind)(a b:Int):cB .andNot (.int k a) (.int k b)=some (.int k (k.wrap ((BitVec.ofInt k.bits a &&& ~~~ BitVec.ofInt k.bits b).toNat:Int))):=by simp[cB]
theorem HC(k k':IntKind)(a b:Int):cB .shl (.int k a) (.int k' b)=if 0≤b then some (.int k (k.wrap (a*2^(min b.toNat k.bits)))) else none:=by simp[cB]
theorem HD(k k':IntKind)(a b:Int):cB .shr (.int k a) (.int k' b)=if 0≤b then some (.int k (a.fdiv (2^(min b.toNat k.bits)))) else none:=by simp[cB]
theorem Hr(k:IntKind)(a b:Int):cB .eql (.int k a) (.int k b)=some (.bool (a==b)):=by simp[cB]
theorem Hx(k:IntKind)(a b:Int):cB .neq (.int k a) (.int k b)=some (.bool (a != b)):=by simp[cB]
theorem Hv(k:IntKind)(a b:Int):cB .lss (.int k a) (.int k b)=some (.bool (decide (a<b))):=by simp[cB]
theorem Hu(k:IntKind)(a b:Int):cB .leq (.int k a) (.int k b)=some (.bool (decide (a≤b))):=by simp[cB]
theorem Ht(k:IntKind)(a b:Int):cB .gtr (.int k a) (.int k b)=some (.bool (decide (b<a))):=by simp[cB]
theorem Hs(k:IntKind)(a b:Int):cB .geq (.int k a) (.int k b)=some (.bool (decide (b≤a))):=by simp[cB]
theorem yg :
  (∀ ts os d v,(au ts os).put d v=au ((d,v)::ts) os)∧(∀ ts os d v,(au ts os).aT (some d) v=au ((d,v)::ts) os)∧(∀ (A:ai) v,A.aT none v=A) ∧
  (∀ ts os d x,(au ts os).aV d x=au ts ((d,x)::os))∧(∀ ts os k,(au ts os).t k=bW ts k)∧(∀ ts os k,(au ts os).o k=aj os k) ∧
  (∀ j v r k,bW ((j,v)::r) k=if k=j then v else bW r k)∧(∀ j v r k,aj ((j,v)::r) k=if k=j then some v else aj r k)∧(∀ k,aj [] k=none) ∧
  (∀ A k,ak A (.t k)=A.t k)∧(∀ A x,ak A (.c x)=x)∧(∀ d rest A v,de d rest A v=az rest (A.aT d v))∧(∀ v k,cQ (some v) k=k v)∧(∀ A,az [] A=.done A) :=
 ⟨ta,Cy,Wb,qP,Wc,Wa,cz,dX,qL,Mp,Mo,VI,HG,G1⟩
theorem CX :
  (∀ d rest A op,az (⟨d,op,none⟩::rest) A=bK A d op rest)∧(∀ d rest A op t b,az (⟨d,op,some (t,b)⟩::rest) A=gR (A.t t) b d op rest A) ∧
  (∀ d rest A op,gR (.bool true) true d op rest A=bK A d op rest)∧(∀ d rest A op,gR (.bool false) false d op rest A=bK A d op rest) ∧
  (∀ d rest A op,gR (.bool true) false d op rest A=az rest (A.aT d .undef))∧(∀ d rest A op,gR (.bool false) true d op rest A=az rest (A.aT d .undef))∧(∀ d rest A op b,gR .undef b d op rest A=az rest (A.aT d .undef)) ∧
  (∀ d rest A x,bK A d (.mv x) rest=az rest (A.aT d (ak A x)))∧(∀ d rest A c a b,bK A d (.pick c a b) rest=rf A d a b rest (ak A c)) ∧
  (∀ A d a b rest,rf A d a b rest (.bool true)=az rest (A.aT d (ak A a)))∧(∀ A d a b rest,rf A d a b rest (.bool false)=az rest (A.aT d (ak A b))) ∧
  (∀ d rest A op x y,bK A d (.bin op x y) rest=cQ (cB op (ak A x) (ak A y)) (de d rest A)) ∧
  (∀ d rest A ty neg x y,bK A d (.eqv ty neg x y) rest=cQ ((bZ ty (ak A x) (ak A y)).map fun b=>.bool (if neg then !b else b)) (de d rest A)) ∧
  (∀ d rest A op x,bK A d (.un op x) rest=cQ (rP op (ak A x)) (de d rest A))∧(∀ b,rP .not (.bool b)=some (.bool !b))∧(∀ k n,rP .neg (.int k n)=some (.int k (k.wrap (0-n))))∧(∀ k n,rP .xor (.int k n)=some (.int k (oS k n))) ∧
  (∀ d rest A k x,bK A d (.conv k x) rest=cQ (u7 k (ak A x)) (de d rest A))∧(∀ k k' n,u7 k (.int k' n)=some (.int k (k.wrap n))) ∧
  (∀ d rest A s x,bK A d (.ld s x) rest=cQ (nT s (gP A (ak A x))) (de d rest A))∧(∀ d rest A f off x,bK A d (.fa f off x) rest=cQ (jb A f off (ak A x)) (de d rest A)) ∧
  (∀ d rest A f off s x,bK A d (.fl f off s x) rest=cQ (sJ f off s (ak A x).dJ) (de d rest A))∧(∀ d rest A n esz x i,bK A d (.ia n esz x i) rest=cQ (qy A n esz (ak A x) (ak A i)) (de d rest A)) ∧
  (∀ d rest A esz x i,bK A d (.is esz x i) rest=cQ (qB A esz (ak A x) (ak A i)) (de d rest A))∧(∀ d rest A n esz s x i,bK A d (.ix n esz s x i) rest=cQ (qE n esz s (ak A x) (ak A i)) (de d rest A)) ∧
  (∀ d rest A x,bK A d (.len x) rest=cQ (jt A (ak A x)) (de d rest A))∧(∀ d rest A n esz x,bK A d (.va n esz x) rest=cQ (oB A n esz (ak A x)) (de d rest A)) ∧
  (∀ d rest A zs ps,bK A d (.bld zs ps) rest=cQ ((dO zs (ps.map fun p=>(p.1,ak A p.2))).map .agg) (de d rest A))∧(∀ d rest A x i,bK A d (.ext x i) rest=cQ (vu i (ak A x)) (de d rest A))∧(∀ i fs,vu i (.tuple fs)=fs[i]?) ∧
  (∀ d rest A f caps,bK A d (.mk f caps) rest=cQ (if ((caps.map (ak A)).all fun y=>y.bU)=true then some (.func f (caps.map (ak A))) else none) (de d rest A)) ∧
  (∀ rest A d z,bK A (some d) (.alloc z) rest=uA A d z rest (A.o d))∧(∀ A d z rest,uA A d z rest none=az rest ((A.aV d (.box z)).put d (.ptr d []))) ∧
  (∀ rest A d x,bK A (some d) (.box x) rest=sr A d (ak A x) rest (A.o d))∧(∀ A d z rest,sr A d z rest none=su A d z rest z.bU)∧(∀ A d z rest,su A d z rest true=az rest ((A.aV d (.box z)).put d (.ptr d []))) ∧
  (∀ rest A s x v,bK A none (.a8 s x v) rest=dD A s (ak A v) rest (ak A x))∧(∀ A s v rest n p,dD A s v rest (.ptr n p)=tT A s n p v rest (A.o n))∧(∀ A s n p v rest b,tT A s n p v rest (some (.box b))=dp A s n p b v rest (b.at p)) ∧
  (∀ d rest A f args,bK A d (.call f args) rest=.call f (args.map (ak A)) (b6 true A (args.map (ak A))) (b6 false A (args.map (ak A))) d rest A) ∧
  (∀ d rest A x args,bK A d (.fQ x args) rest=p9 A d (args.map (ak A)) rest (ak A x))∧(∀ A d args rest f caps,p9 A d args rest (.func f caps)=if f<1000000 then .call f (args++caps) (b6 true A (args++caps)) (b6 false A (args++caps)) d rest A else .call (kU f) (caps++args) (b6 true A (caps++args)) (b6 false A (caps++args)) d rest A) :=
 ⟨GM,GN,UG,UD,UF,UE,UH,WU,WY,fun _ _ _ _ _=>rfl,fun _ _ _ _ _=>rfl,Wt,WC,W5,fun _=>rfl,fun _ _=>rfl,fun _ _=>rfl,WA,fun _ _ _=>rfl,WK,WE,WG,WH,WI,WJ,WL,W6,Wu,WD,fun _ _=>rfl,WQ,
  Wr,fun _ _ _ _=>rfl,Wv,fun _ _ _ _=>rfl,fun _ _ _ _=>rfl,W4,fun _ _ _ _ _ _=>rfl,fun _ _ _ _ _ _ _=>rfl,Wx,Wy,fun A d args rest f caps=>by
   simp only[p9];split
   ·rename_i h;rw[vx h,vw h]
   ·rename_i h;simp only[h4,if_neg h]⟩
theorem dP{A:ai}{s:Option Nat}{n:Nat}{p:List Nat}{b v old:I}{rest:List aE}(J:v.bU=true)(U:b7 s v=true)(ah:v.aX=old.aX):dp A s n p b v rest (some old)=az rest (A.aV n (.box (b.eB p v))):=by
 simp only[dp];rw[if_pos ⟨J,U,ah⟩]
theorem Fx :
  (∀ A x,gP A (.ref x)=some x)∧(∀ A n p,gP A (.ptr n p)=fp p (A.o n))∧(∀ p c,fp p (some (.box c))=c.at p)∧(∀ c:I,c.at []=some c)∧(∀ (c:I) i p,c.at (i::p)=mr i p c.dJ) ∧
  (∀ i p fs,mr i p (some fs)=oL p fs[i]?)∧(∀ p f,oL p (some f)=f.at p)∧(∀ c v:I,c.eB [] v=v)∧(∀ (c:I) i p v,c.eB (i::p) v=tN c i p v c.dJ)∧(∀ c i p v fs,tN c i p v (some fs)=xz fs i p v fs[i]?) ∧
  (∀ fs i p v f,xz fs i p v (some f)=.agg (fs.set i (f.eB p v)))∧(∀ fs,(I.agg fs).dJ=some fs)∧(∀ x:I,fL (some x)=x.dJ) ∧
  (∀ s x,nT s (some x)=if b7 s x=true then some x else none) ∧
  (∀ A f off c,jb A f off (.ref c)=qj f off c.dJ)∧(∀ A f off n p,jb A f off (.ptr n p)=qi n p f off (fL (fp p (A.o n))))∧(∀ f off fs,qj f off (some fs)=oX fs f off fs[f]?)∧(∀ fs f off v,oX fs f off (some v)=dm fs f off (.ref v)) ∧
  (∀ n p f off fs,qi n p f off (some fs)=dm fs f off (.ptr n (p++[f])))∧(∀ A n esz x kk k,qy A n esz x (.int kk k)=nK A n esz k x)∧(∀ A n esz k c,nK A n esz k (.ref c)=lR k n (sR n esz k c.dJ)) ∧
  (∀ A n esz k m p,nK A n esz k (.ptr m p)=lR k n (qz n esz m p k (fL (fp p (A.o m)))))∧(∀ n esz k fs,sR n esz k (some fs)=lQ n esz fs ((fs[k.toNat]?).map .ref))∧(∀ n esz m p k fs,qz n esz m p k (some fs)=lQ n esz fs (some (.ptr m (p++[k.toNat])))) ∧
  (∀ A esz x kk k,qB A esz x (.int kk k)=jP A esz k x)∧(∀ n esz s x kk k,qE n esz s x (.int kk k)=sT n esz s k x.dJ)∧(∀ n esz s k fs,sT n esz s k (some fs)=lR k n (lQ n esz fs (nT s fs[k.toNat]?))) ∧
  (∀ A n esz m p,oB A n esz (.ptr m p)=rS n esz m p (fL (fp p (A.o m))))∧(∀ n esz m p fs,rS n esz m p (some fs)=rR n esz fs (.view m p esz 0 n)) ∧
  (∀ A sz es,jt A (.slice sz es)=some (.int .i64 es.length))∧(∀ A n,jt A (.nils n)=some (.int .i64 0))∧(∀ A n,jt A (.c0 n)=some (.int .i64 0)) :=
 ⟨fun _ _=>rfl,fun _ _ _=>rfl,fun _ _=>rfl,yn,Hg,fun _ _ _=>rfl,fun _ _=>rfl,oj,Yl,fun _ _ _ _ _=>rfl,fun _ _ _ _ _=>rfl,fun _=>rfl,fun _=>rfl,fun _ _=>rfl,fun _ _ _ _=>rfl,fun _ _ _ _ _=>rfl,fun _ _ _=>rfl,fun _ _ _ _=>rfl,
  fun _ _ _ _ _=>rfl,fun _ _ _ _ _ _=>rfl,fun _ _ _ _ _=>rfl,fun _ _ _ _ _ _=>rfl,fun _ _ _ _=>rfl,fun _ _ _ _ _ _=>rfl,fun _ _ _ _ _=>rfl,fun _ _ _ _ _ _=>rfl,fun _ _ _ _ _=>rfl,fun _ _ _ _ _=>rfl,fun _ _ _ _ _=>rfl,fun _ _ _=>rfl,fun _ _=>rfl,fun _ _=>rfl⟩
theorem AR :
  (∀ A n p,bh true A (.ptr n p)=sF true A (fp p (A.o n)))∧(∀ A x,sF true A (some x)=if x.bw=true then some (.ref x) else (cY A 9 x).map .ref)∧(∀ A n p sz lo k,bh true A (.view n p sz lo k)=lL sz lo k (fL (fp p (A.o n)))) ∧
  (∀ A n p,bh false A (.ptr n p)=none)∧(∀ A n p sz lo k,bh false A (.view n p sz lo k)=none)∧(∀ x,kb none x=none)∧(∀ x,kb x none=none) ∧
  (∀ aN A n k,bh aN A (.own n k)=kV k (A.o n))∧(∀ aN A fs,bh aN A (.agg fs)=(b6 aN A fs).map .agg)∧(∀ aN A f fs,bh aN A (.func f fs)=if f<1000000 then (b6 aN A fs).map (.func f) else some .any)∧(∀ aN A k n,bh aN A (.int k n)=some (.int k n))∧(∀ aN A b,bh aN A (.bool b)=some (.bool b)) ∧
  (∀ aN A s,bh aN A (.bQ s)=some (.bQ s))∧(∀ aN A n,bh aN A (.nils n)=some (.slice n []))∧(∀ aN A n es,bh aN A (.slice n es)=if I.cg es=true then some (.slice n es) else none)∧(∀ aN A x,bh aN A (.ref x)=if x.bw=true then some (.ref x) else none) ∧
  (∀ aN A,b6 aN A []=some [])∧(∀ aN A x xs,b6 aN A (x::xs)=kb (bh aN A x) (b6 aN A xs))∧(∀ x xs,kb (some x) (some xs)=some (x::xs)) ∧
  (∀ fs,(I.agg fs).bw=I.cg fs)∧(∀ n fs,(I.slice n fs).bw=I.cg fs)∧(∀ x,(I.ref x).bw=x.bw)∧(∀ k n,(I.int k n).bw=true)∧(∀ n,(I.bool n).bw=true)∧(∀ n,(I.bQ n).bw=true)∧(∀ f fs,(I.func f fs).bw=I.cg fs) ∧
  I.cg []=true∧(∀ x xs,I.cg (x::xs)=(x.bw&&I.cg xs)) ∧
  (∀ rs r A,kn rs r .ret A=od r (ff A rs))∧(∀ rs r A,kn rs r .normal A=od r (ff A rs))∧(∀ r xs,od r (some xs)=(jX xs=r))∧(∀ A,ff A []=some [])∧(∀ A t rs,ff A (.tmp t::rs)=kb (bh true A (A.t t)) (ff A rs)) ∧
  (∀ A a s rs,ff A (.cell a s::rs)=kb (rA s A (gP A (A.t a))) (ff A rs))∧(∀ s A x,rA s A (some x)=if b7 s x=true then bh true A x else none)∧(∀ x,jX [x]=x)∧(∀ x y xs,jX (x::y::xs)=.tuple (x::y::xs)) :=
 ⟨MR,fun _ _=>rfl,vF,fun _ _ _=>rfl,fun _ _ _ _ _ _=>rfl,fun _=>rfl,fun x=>by cases x <;>rfl,MQ,vE,ML,MN,MK,MU,MP,MT,MS,vI,vG,fun _ _=>rfl,JU,JZ,JY,JX,JV,J0,JW,J2,J1,
  X7,X6,fun _ _=>rfl,X0,X1,XZ,fun _ _ _=>rfl,fun _=>rfl,fun _ _ _=>rfl⟩
theorem yw :
  (∀ k a b,cB .add (.int k a) (.int k b)=some (.int k (k.wrap (a+b))))∧(∀ k a b,cB .sub (.int k a) (.int k b)=some (.int k (k.wrap (a-b))))∧(∀ k a b,cB .mul (.int k a) (.int k b)=some (.int k (k.wrap (a*b)))) ∧
  (∀ k a b,cB .quo (.int k a) (.int k b)=if b=0 then none else some (.int k (k.wrap (a.tdiv b))))∧(∀ k a b,cB .rem (.int k a) (.int k b)=if b=0 then none else some (.int k (a.tmod b))) ∧
  (∀ k a b,cB .and (.int k a) (.int k b)=some (.int k (k.wrap ((BitVec.ofInt k.bits a &&& BitVec.ofInt k.bits b).toNat:Int))))∧(∀ k a b,cB .or (.int k a) (.int k b)=some (.int k (k.wrap ((BitVec.ofInt k.bits a ||| BitVec.ofInt k.bits b).toNat:Int)))) ∧
  (∀ k a b,cB .xor (.int k a) (.int k b)=some (.int k (k.wrap ((BitVec.ofInt k.bits a ^^^ BitVec.ofInt k.bits b).toNat:Int))))∧(∀ k a b,cB .andNot (.int k a) (.int k b)=some (.int k (k.wrap ((BitVec.ofInt k.bits a &&& ~~~ BitVec.ofInt k.bits b).toNat:Int)))) ∧
  (∀ k k' a b,cB .shl (.int k a) (.int k' b)=if 0≤b then some (.int k (k.wrap (a*2^(min b.toNat k.bits)))) else none)∧(∀ k k' a b,cB .shr (.int k a) (.int k' b)=if 0≤b then some (.int k (a.fdiv (2^(min b.toNat k.bits)))) else none) ∧
  (∀ k a b,cB .eql (.int k a) (.int k b)=some (.bool (a==b)))∧(∀ k a b,cB .neq (.int k a) (.int k b)=some (.bool (a != b)))∧(∀ k a b,cB .lss (.int k a) (.int k b)=some (.bool (decide (a<b))))∧(∀ k a b,cB .leq (.int k a) (.int k b)=some (.bool (decide (a≤b)))) ∧
  (∀ k a b,cB .gtr (.int k a) (.int k b)=some (.bool (decide (b<a))))∧(∀ k a b,cB .geq (.int k a) (.int k b)=some (.bool (decide (b≤a)))) :=
 ⟨Ho,HE,Hw,HA,HB,Hp,Hz,HF,Hq,HC,HD,Hr,Hx,Hv,Hu,Ht,Hs⟩
end Go.Abs
namespace Go.Abs
open Go Go.RowKit
open Enc (enc)
section
variable {α:Type} [Enc α]
theorem VR(A:ai)(l:List α):jt A (enc l)=some (.int .i64 l.length):=by simp[hs,jt]
theorem Vm{A:ai}(esz:Nat){k:Int}{l:List α}(h:0≤k∧k.toNat<l.length)(ab:Enc.sz α=esz):jP A esz k (enc l)=some (.ref (enc l[k.toNat])):=by
 simp only[hs,jP,ab,Z8,true_and];rw[if_pos ⟨h.1,by omega⟩];simp[h.2]
theorem fb{A:ai}(esz:Nat){k:Nat}{l:List α}(h:k<l.length)(ab:Enc.sz α=esz):jP A esz k (enc l)=some (.ref (enc l[k])):=by
 have:=Vm (A:=A) esz (k:=(k:Int)) (l:=l) ⟨by omega,by simpa using h⟩ ab;simpa using this
end
mutual
/-- What every value in memory keeps to: whole numbers within their kind,slices no longer than a slice can be. -/
def I.wf:I→Prop
 | .agg fs=>I.gl fs
 | .int k n=>k.min≤n∧n≤k.max
 | .bQ s=>s.size≤maxLen
 | .slice _ es=>es.length≤maxLen∧I.gl es
 | .ref c=>c.wf
 | .func _ caps=>I.gl caps
 | .iface _ v=>v.wf
 |_=>True
def I.gl:List I→Prop
 | []=>True
 |x::xs=>x.wf∧I.gl xs
end
mutual
theorem tB{w:World}{D:aP}{E:aY} : ∀ (x:I) (cs:List Value),al w D E x cs→x.wf
 | .agg fs,cs,h=>by simp only[al,I.wf] at *;exact xc fs cs h
 | .int k n,cs,h=>by simp only[al,I.wf] at *;exact h.2
 | .bQ s,cs,h=>by simp only[al,I.wf] at *;exact h.2
 | .slice sz es,cs,h=>by
  simp only[al,I.wf] at *;obtain ⟨a,cap,_,J,U,ah,_⟩:=h;refine ⟨by omega,?_⟩;rcases ah with rfl | ⟨b,off,cs',_,_,ar⟩
  ·simp[I.gl]
  ·exact xc es cs' ar
 | .ref c,cs,h=>by simp only[al,I.wf] at *;obtain ⟨b,off,cs',_,_,h⟩:=h;exact tB c cs' h
 | .func f caps,cs,h=>by simp only[al,I.wf] at *;obtain ⟨vs,_,h⟩:=h;exact pO caps vs h
 | .iface t v,cs,h=>by simp only[al,I.wf] at *;obtain ⟨u,cs',_,_,h⟩:=h;exact tB v cs' h
 | .bool _,_,_ | .nilp,_,_ | .dA,_,_ | .dY,_,_ | .any,_,_ | .raw _,_,_ | .nils _,_,_ | .c0 _,_,_ | .ptr _ _,_,_ | .own _ _,_,_ | .view _ _ _ _ _,_,_ | .mref _,_,_ | .dk _,_,_ | .df _ _,_,_ | .undef,_,_ | .du,_,_ | .tuple _,_,_=>by simp[I.wf]
theorem xc{w:World}{D:aP}{E:aY} : ∀ (xs:List I) (cs:List Value),aM w D E xs cs→I.gl xs
 | [],_,_=>by simp[I.gl]
 |x::xs,cs,h=>by
  simp only[aM,I.gl] at *;obtain ⟨c1,c2,_,J,U⟩:=h;exact ⟨tB x c1 J,xc xs c2 U⟩
theorem pO{w:World}{D:aP}{E:aY} : ∀ (xs:List I) (vs:List Value),aF w D E xs vs→I.gl xs
 | [],_,_=>by simp[I.gl]
 |x::xs,vs,h=>by
  simp only[aF,I.gl] at *;obtain ⟨v,rest,cs,_,_,J,U⟩:=h;exact ⟨tB x cs J,pO xs rest U⟩
end
theorem YU{α:Type}[Enc α](l:List α):I.gl (l.map enc)↔∀ x∈l,(enc x:I).wf:=by
 induction l with
 |nil=>simp[I.gl]
 |cons x l ih=>simp[I.gl,ih]
theorem nj{α:Type}[Enc α](l:List α):(enc l:I).wf↔l.length≤maxLen∧∀ x∈l,(enc x:I).wf:=by
 simp only[hs,I.wf,Z8,YU]
theorem bf.wf{P:Program}{f:FuncId}{args:List I}{r:I}(hc:e8 P f=true)(h:I.gl args→bf P f args r):bf P f args r :=
 ⟨hc,fun w D vs ao J U=>(h (pO _ _ U)).2 w D vs ao J U⟩
theorem bf.b9{P:Program}{f:FuncId}{fn:Func}{x:bx}{rs:List bR}{args:List I}{r:I}(hf:P.funcs[f]?=some fn)(hcall:e8 P f=true)(hc:(fn.body.bind (eC P fn.ntmps))=some x)
  (hrs:gO P fn.results.toList=some rs) (hn:args.length≤fn.ntmps) (h:I.gl args→∀ (w:World) (D:aP) (E:aY),ae ⟨P,w,D,fn.ntmps,cI E,E,dj,none,none⟩ x (kn rs r) (au (bN 0 args) [])):bf P f args r :=
 bf.wf hcall fun hw=>bf.mk hf hcall hc hrs hn (h hw)
theorem kv{α:Type}[Enc α] :
  (∀ A (l:List α),jt A (enc l)=some (.int .i64 l.length))∧(∀ n (x:xN n α),(enc x).dJ=some (x.l.map enc)) :=
 ⟨VR,fun _ _=>rfl⟩
end Go.Abs
namespace Go.Abs
open Go Go.RowKit
open Enc (enc)
def py(neg:Bool):I→Option I
 | .nils _=>some (.bool (!neg))
 | .slice _ es=>if es.isEmpty then none else some (.bool neg)
 | .view _ _ _ _ _=>some (.bool neg)
 |_=>none
def Ce:I→Option I
 | .bQ s=>some (.int .i64 s.size)
 |_=>none
open Classical in
noncomputable def mh(n:Nat)(p:List Nat)(sz l0 k esz:Nat)(lo hi mx:Option I):Option (List I)→Option I
 |some fs=>if sz=esz then mZ n p sz l0 k fs.length lo hi mx else none
 |none=>none
noncomputable def jC(A:ai)(esz:Nat)(lo hi mx:Option I):I→Option I
 | .slice sz es=>if sz=esz then iR sz es lo hi mx else none
 | .nils sz=>if sz=esz then iR sz [] lo hi mx else none
 | .c0 sz=>if sz=esz then iR sz [] lo hi mx else none
 | .view n p sz l0 k=>mh n p sz l0 k esz lo hi mx (fL (fp p (A.o n)))
 |_=>none
open Classical in
noncomputable def fE(esz:Nat):Option (List I)→Option I
 |some es=>if (es.all fun e=>e.size==esz)=true∧I.cg es=true then some (.slice esz es) else none
 |none=>none
open Classical in
noncomputable def p0(A:ai)(d:Option Nat)(e esz bytes n l T sz':Nat)(es:List I)(rest:List aE):I→cM
 | .slice sz ys=>if wM e esz bytes l sz ys T sz' es then az rest ((A.aV n (.bY e esz (es++ys))).aT d (.own n (es.length+ys.length))) else .fail
 |_=>.fail
open Classical in
noncomputable def oK(A:ai)(d:Option Nat)(e esz bytes:Nat)(z:I)(n l T:Nat)(xs:List Int)(rest:List aE):I→cM
 | .slice _ ys=>if wN e esz bytes l ys T xs z then az rest ((A.aV n (.dH e (xs++qA ys))).aT d (.own n (xs.length+ys.length))) else .fail
 |_=>.fail
noncomputable def pZ(A:ai)(d:Option Nat)(e esz bytes:Nat)(z:I)(n l:Nat)(x:I)(rest:List aE):Option aq→cM
 |some (.bY T sz' es)=>p0 A d e esz bytes n l T sz' es rest x
 |some (.dH T xs)=>oK A d e esz bytes z n l T xs rest x
 |_=>.fail
noncomputable def fO(A:ai)(d:Option Nat)(e esz bytes:Nat)(z x:I)(rest:List aE):I→cM
 | .own n l=>pZ A d e esz bytes z n l x rest (A.o n)
 |s=>e7 A d esz bytes z s (eK A esz s) (eK A esz x) (az rest)
section
variable (d:Option Nat) (rest:List aE) (A:ai)
noncomputable def pz(neg:Bool)(x:I):Bool→cM
 |true=>.any (fun m=>m<2) (fun m=>az rest (A.aT d (.bool (m==0))))
 |false=>cQ (py neg x) (de d rest A)
theorem WW(neg:Bool)(x:aO):bK A d (.nilS neg x) rest=pz d rest A neg (ak A x) (jF (ak A x)):=by
 simp only[bK,bj,bm];cases jF (ak A x)
 ·simp only[Z2,if_false,pz,py];cases ak A x <;>rfl
 ·rfl
theorem WM(x:aO):bK A d (.lenT x) rest=cQ (Ce (ak A x)) (de d rest A):=by
 simp only[bK,bj,bm];cases ak A x <;>rfl
theorem W3(esz:Nat)(x:aO)(lo hi mx:Option aO):bK A d (.sl esz x lo hi mx) rest=cQ (jC A esz (lo.map (ak A)) (hi.map (ak A)) (mx.map (ak A)) (ak A x)) (de d rest A):=by
 simp only[bK,bj,bm];cases ak A x <;>try rfl
 rename_i n p sz l0 k;simp only[jC,lH,gP];cases fp p (A.o n) with
 |none=>rfl
 |some c=>cases c <;>simp only[fL,I.dJ,mh] <;>(first | rfl | (split <;>rfl))
theorem Ww(T esz:Nat)(ps:List aO):bK A d (.bs T esz ps) rest=cQ (fE esz (b6 false A (ps.map (ak A)))) (de d rest A):=by
 simp only[bK,bj,bm];cases b6 false A (ps.map (ak A)) <;>simp only[fE] <;>rfl
theorem Ws(e esz bytes:Nat)(z:I)(s x:aO):bK A d (.dy e esz bytes z s x) rest=fO A d e esz bytes z (ak A x) rest (ak A s):=by
 simp only[bK,bj];generalize ak A s=s';generalize ak A x=x';cases s' <;>simp only[fO]
 rename_i n l;cases x' <;>simp only <;>generalize A.o n=z <;>(cases z with
  |none=>rfl
  |some y=>cases y <;>simp only[pZ,p0,oK])
end
theorem CY :
  (∀ d rest A neg x,bK A d (.nilS neg x) rest=pz d rest A neg (ak A x) (jF (ak A x)))∧(∀ d rest A neg x,pz d rest A neg x false=cQ (py neg x) (de d rest A))∧(∀ z,jF (.nils z)=false)∧(∀ n p sz lo k,jF (.view n p sz lo k)=false)∧(∀ d rest A x,bK A d (.lenT x) rest=cQ (Ce (ak A x)) (de d rest A)) ∧
  (∀ d rest A esz x lo hi mx,bK A d (.sl esz x lo hi mx) rest=cQ (jC A esz (lo.map (ak A)) (hi.map (ak A)) (mx.map (ak A)) (ak A x)) (de d rest A)) ∧
  (∀ d rest A T esz ps,bK A d (.bs T esz ps) rest=cQ (fE esz (b6 false A (ps.map (ak A)))) (de d rest A))∧(∀ d rest A e esz bytes z s x,bK A d (.dy e esz bytes z s x) rest=fO A d e esz bytes z (ak A x) rest (ak A s)) ∧
  (∀ A d e esz bytes z x rest n l,fO A d e esz bytes z x rest (.own n l)=pZ A d e esz bytes z n l x rest (A.o n))∧(∀ A d e esz bytes z n l x rest T sz es,pZ A d e esz bytes z n l x rest (some (.bY T sz es))=p0 A d e esz bytes n l T sz es rest x)∧(∀ A d e esz bytes z n l x rest T xs,pZ A d e esz bytes z n l x rest (some (.dH T xs))=oK A d e esz bytes z n l T xs rest x) ∧
  (∀ neg z,py neg (.nils z)=some (.bool (!neg))) :=
 ⟨WW,fun _ _ _ _ _=>rfl,fun _=>rfl,fun _ _ _ _ _=>rfl,WM,W3,Ww,Ws,fun _ _ _ _ _ _ _ _ _ _=>rfl,fun _ _ _ _ _ _ _ _ _ _ _ _ _=>rfl,fun _ _ _ _ _ _ _ _ _ _ _ _=>rfl,fun _ _=>rfl⟩
theorem qX(p:Nat→Bool)(xs ys:List I):I.ct p (xs++ys)=(I.ct p xs&&I.ct p ys):=by
 induction xs with
 |nil=>simp[I.ct]
 |cons x xs ih=>simp[I.ct,ih,Bool.and_assoc]
section
variable {α:Type} [Enc α]
theorem p5{A:ai}{d:Option Nat}(e:Nat)(esz bytes n:Nat){l:Nat}{es ys:List α}{rest:List aE}(ao:l=es.length)(ab:Enc.sz α=esz)(hy:ys≠[])(J:es.length+ys.length≤maxLen)(U:(es.length+ys.length)*bytes≤140737488355328) :
  p0 A d e esz bytes n l e esz (es.map enc) rest (enc ys)=az rest ((A.aV n (.bY e esz ((es++ys).map enc))).aT d (.own n (es++ys).length)):=by
 simp only[hs,p0];rw[if_pos ⟨by simpa using ao,ab,rfl,rfl,by simpa using hy,by simpa using J,by simpa using U⟩];simp
theorem p8(esz:Nat){ys:List α}(ab:Enc.sz α=esz):fE esz (some (ys.map enc))=some (enc ys):=by
 have J:((ys.map enc).all fun e:I=>e.size==esz)=true:=by
  simp only[zz4,zz5];rintro x ⟨y,_,rfl⟩;simp[Enc.size,ab]
 simp only[fE,hs];rw[if_pos ⟨J,iD ys⟩,ab]
theorem jm(esz:Nat)(y:α)(ab:Enc.sz α=esz):fE esz (some [enc y])=some (enc [y]):=p8 (ys:=[y]) esz ab
theorem ql(sz:Nat){T k:Nat}{es:List α}(hk:k=es.length)(ab:Enc.sz α=sz):kV k (some (.bY T sz (es.map enc)))=some (enc es):=by
 simp only[kV,Z8];rw[if_pos ⟨hk,iD es⟩,hs,ab]
theorem ik(p:Nat→Bool)(l:List α):I.ct p (l.map enc)=true:=by
 induction l with
 |nil=>rfl
 |cons x l ih=>simp only[Z4,I.ct,cJ,ih,Bool.and_self]
theorem VS(A:ai)(n k T sz:Nat)(es:List α)(ho:A.o n=some (.bY T sz (es.map enc)))(hk:k=es.length):jt A (.own n k)=some (.int .i64 es.length):=by
 simp only[jt,ho,Z8,hk,if_true]
end
theorem BU :
  (∀ n:Int,fE 1 (some [.int .i64 n])=some (enc [n]))∧(∀ (T:Nat) (es:List Int),kV es.length (some (.bY T 1 (es.map enc)))=some (enc es)) :=
 ⟨fun n=>jm 1 n rfl,fun _ _=>ql 1 rfl rfl⟩
theorem bB.GP{A:ai}{d n T sz z:Nat}(af:A.t d=.nils z)(hn:A.o n=none)(hlt:n<1000000):bB A ((A.aV n (.bY T sz [])).put d (.own n 0)):=by
 rintro c a w ⟨D,E,h⟩;have ay:E n=none:=by have:=h.bP n;rw[hn] at this;exact this
 have ao:dV w D E w D (fun m=>if m=n then some (.rw none 0) else E m):=by
  have eP:∀ {m:Nat} {e:bM},E m=some e→(if m=n then some (.rw none 0) else E m)=some e:=fun {m e} he=>by
   have:m≠n:=fun e=>by rw[e,ay] at he;cases he
   rw[if_neg this];exact he
  refine ⟨fun _ _ h=>h,fun _ _ _ _ h=>h,fun m b aX he=>eP he,fun m aG l he =>?_,fun m b he=>eP he,fun m b he=>eP he,fun _ _ _ _ h=>h⟩
  ·have:m≠n:=fun e=>by rw[e,ay] at he;cases he
   exact ⟨aG,l,by simp only[if_neg this];exact he,Z3 _,fun _=>rfl⟩
 refine ⟨D,fun m=>if m=n then some (.rw none 0) else E m,h.sz,h.eD,fun t =>?_,h.dM,h.c6,h.aQ,fun m =>?_,fun m m' e e' b J U ah ar =>?_,fun m e hm =>?_,h.eU,h.cT,h.eX,h.fB⟩
 ·simp only[ai.put,ai.aV];by_cases ht:t=d
  ·subst ht;simp only[if_true];have hv:=h.dQ t;rw[af] at hv;obtain ⟨cs,q1,q2⟩:=hv;simp only[al] at q2;subst q2;refine ⟨[.slice none 0 0],by simpa[bA,I.isAgg] using q1,?_⟩;simp only[al,if_true];exact ⟨none,0,rfl,Z3 _,⟨_,_,_,rfl⟩,fun _=>trivial⟩
  ·simp only[if_neg ht];exact aZ.later ao (h.dQ t)
 ·simp only[ai.put,ai.aV];by_cases hm:m=n
  ·subst hm;simp only[if_true,cZ];exact ⟨none,by simp,by simp,trivial⟩
  ·simp only[if_neg hm];exact (h.bP m).later ao (by simp only[if_neg hm]) fun _ _ _ _=>⟨rfl,fun _ ho=>ho⟩
 ·by_cases hm:m=n <;>by_cases hm':m'=n
  ·rw[hm,hm']
  ·simp only[if_pos hm,v6] at J;subst J;simp[bM.aG] at ah
  ·simp only[if_pos hm',v6] at U;subst U;simp[bM.aG] at ar
  ·simp only[if_neg hm] at J;simp only[if_neg hm'] at U;exact h.cN m m' e e' b J U ah ar
 ·have hmn:m≠n:=fun e=>by rw[e,h.ke (.inr hlt)] at hm;cases hm
  simp only[if_neg hmn];exact h.dR m e hm
theorem bB.sc{ts:List (Nat×I)}{os:List (Nat×aq)}(d n T sz z:Nat)(af:bW ts d=.nils z)(hn:aj os n=none){B:ai}(h:bB (au ((d,.own n 0)::ts) ((n,.bY T sz [])::os)) B)(hlt:n<1000000:=by decide):bB (au ts os) B :=
 ((bB.GP (A:=au ts os) (T:=T) (sz:=sz) af hn hlt).trans (by rw[qP,ta];exact bB.refl _)).trans h
theorem CN:(∀ k n,b7 none (.int k n)=true)∧(∀ b,b7 none (.bool b)=true)∧(∀ z es,b7 none (.slice z es)=true)∧(∀ f es,b7 none (.func f es)=true)∧(∀ z,b7 none (.nils z)=true)∧(∀ n k,b7 none (.own n k)=true) :=
 ⟨fun _ _=>rfl,fun _=>rfl,fun _ _=>rfl,fun _ _=>rfl,fun _=>rfl,fun _ _=>rfl⟩
theorem bG:(type_of% @yg)∧(type_of% @CX)∧(type_of% @CY)∧(type_of% @BU)∧(type_of% @CN)∧(type_of% @Fx)∧(type_of% @AR)∧(type_of% @yw)∧(∀ n:Int,(enc n:I)=.int .i64 n)∧(∀ n:Bool,(enc n:I)=.bool n) ∧
  (∀ {α β:Type} (f:α→β) (x:α) (xs:List α),List.map f (x::xs)=f x::List.map f xs)∧(∀ {α β:Type} (f:α→β),List.map f []=[])∧(∀ {α:Type} (xs:List α),[]++xs=xs)∧(∀ n:Nat,(n:Int).toNat=n)∧(∀ {α β:Type} (f:α→β) (x:α),Option.map f (some x)=some (f x)) ∧
  (∀ n:Nat,0≤(n:Int))∧((!true)=false)∧((!false)=true)∧((false=true)=False)∧((true=false)=False) :=
 ⟨@yg,@CX,@CY,@BU,@CN,@Fx,@AR,@yw,eE,Mf,fun _ _ _=>rfl,fun _=>rfl,fun _=>rfl,fun _=>rfl,fun _ _=>rfl,fun n=>Int.natCast_nonneg n,rfl,rfl,by simp,by simp⟩
end Go.Abs
namespace Go.Abs
open Go Go.RowKit
open Enc (enc)
theorem kz.b9{P:Program}{f:FuncId}{fn:Func}{x:bx}{rs:List bR}{Y:Value→List I→List (Nat×aq)→cF→Prop}{args:List I}{os:List (Nat×aq)}{post:cF}(hf:P.funcs[f]?=some fn)(hcall:e8 P f=true)(hc:(fn.body.bind (eC P fn.ntmps))=some x)
  (hrs:gO P fn.results.toList=some rs) (hn:args.length≤fn.ntmps) (hn2:fn.ntmps≤1000000) (hos:∀ m,aw os m=true→1000000≤m) (h:I.gl args→∀ (w:World) (D:aP) (E:aY),ae ⟨P,w,D,fn.ntmps,cI E,E,Y,none,none⟩ x (oa rs post) (au (bN 0 args) os)):kz P f Y args os post:=by
 obtain ⟨body,hb,hc'⟩:=zy6.1 hc;refine ⟨hcall,fun w D E vs hy hD ho hv =>?_⟩;exact (kz.tj hf hb hcall hc' hrs hn (fun m hm=>⟨zx4 hn2 (hos m hm),hos m hm⟩) (fun w D E=>(h (pO _ _ hv) w D E).sub (tW args os))).2 w D E vs hy hD ho hv
theorem cU.b9{P:Program}{f:FuncId}{fn:Func}{x:bx}{rs:List bR}{args:List I}{os:List (Nat×aq)}{post:cF}(hf:P.funcs[f]?=some fn)(hcall:e8 P f=true)(hc:(fn.body.bind (eC P fn.ntmps))=some x)
  (hrs:gO P fn.results.toList=some rs) (hn:args.length≤fn.ntmps) (hn2:fn.ntmps≤1000000) (hos:∀ m,aw os m=true→1000000≤m) (h:I.gl args→∀ (w:World) (D:aP) (E:aY),ae ⟨P,w,D,fn.ntmps,cI E,E,dj,none,none⟩ x (oa rs post) (au (bN 0 args) os)):cU P f args os post :=
 cU.CH (kz.b9 hf hcall hc hrs hn hn2 hos h)
theorem BR{A:ai} : ∀ n x,aj [] n=some x→A.o n=some x∧x.only (aw [])=true∧x.eh=true:=fun n x h=>by simp[aj] at h
theorem Vh{A:ai}{k:Nat}{c:I}(J:A.o k=some (.box c))(U:∀ p,c.only p=true):∀ n x,aj [(k,.box c)] n=some x→A.o n=some x∧x.only (aw [(k,.box c)])=true∧x.eh=true:=fun n x h=>by
 simp only[aj] at h;split at h
 ·rename_i hn;subst hn;simp only[v6] at h;subst h;exact ⟨J,U _,rfl⟩
 ·cases h
theorem mE{k:Nat}{x:aq}{m:Nat} : aw [(k,x)] m=true↔m=k:=by
 simp only[aw,aj];split <;>simp_all
mutual
theorem ru(ρ:Nat→Nat):∀ x:I,x.bw=true→x.bl ρ=x
 | .agg fs,h=>by simp only[I.bl,I.bw] at *;rw[mT ρ fs h]
 | .slice _ es,h=>by simp only[I.bl,I.bw] at *;rw[mT ρ es h]
 | .ref x,h=>by simp only[I.bl,I.bw] at *;rw[ru ρ x h]
 | .func _ caps,h=>by simp only[I.bl,I.bw] at *;rw[mT ρ caps h]
 | .iface _ v,h=>by simp only[I.bl,I.bw] at *;rw[ru ρ v h]
 | .bool _,_ | .int _ _,_ | .bQ _,_ | .nilp,_ | .dA,_ | .dY,_ | .any,_ | .raw _,_ | .nils _,_ | .c0 _,_=>by simp only[I.bl]
 | .df ks vs,h=>by simp only[I.bl,I.bw,t8] at *;rw[mT ρ ks h.1,mT ρ vs h.2]
 | .ptr _ _,h | .own _ _,h | .view _ _ _ _ _,h | .mref _,h | .dk _,h | .undef,h | .du,h | .tuple _,h=>by simp[I.bw] at h
theorem mT(ρ:Nat→Nat):∀ xs:List I,I.cg xs=true→I.dT ρ xs=xs
 | [],_=>rfl
 |x::xs,h=>by
  simp only[I.cg,t8] at h;simp only[I.dT,ru ρ x h.1,mT ρ xs h.2]
end
section
variable {α:Type} [Enc α]
theorem kR(ρ:Nat→Nat)(x:α):(enc x).bl ρ=enc x:=ru ρ _ (kO x)
theorem tG(ρ:Nat→Nat)(l:List α):I.dT ρ (l.map enc)=l.map enc:=mT ρ _ (iD l)
theorem nd(A:ai)(esz:Nat)(l:List α)(ab:Enc.sz α=esz):eK A esz (enc l)=some (l.map enc):=by
 simp only[hs,eK,ab,if_true]
theorem ub(l:List α):jF (enc l)=l.isEmpty:=by
 simp only[hs,jF];cases l <;>rfl
theorem CF(neg:Bool)(l:List α)(h:l≠[]):py neg (enc l)=some (.bool neg):=by
 simp only[hs,py];cases l with
 |nil=>exact absurd rfl h
 |cons=>rfl
section
variable {P:Program} {Y:Value→List I→List (Nat×aq)→cF→Prop} {K:ai→Prop} {A:ai} {rest:List aE} {d:Nat} {e esz bytes:Nat} {q:Nat}
theorem aR.uB(z:α){l:List α}(ab:Enc.sz α=esz)(ao:l≠[])(hf:A.o d=none)(hb:l.length*bytes≤140737488355328)(hml:l.length≤maxLen)
  (h:∀ m,aR P Y false K (az rest ((A.aV d (.box (.agg ((l++List.replicate m z).map enc)))).aT (some d) (.view d [] esz 0 l.length)))):aR P Y false K (fO A (some d) e esz bytes (enc z) (enc l) rest (.c0 q)):=by
 have hne:l.map (enc (α:=α))≠[]:=by simpa using ao
 have J:eK A esz (.c0 q)=some []:=rfl;simp only[fO,J,nd A esz l ab,e7,if_neg hne,fX,hf,List.length_nil,Z1,Z8,if_pos (y6 hb hml),List.nil_append];refine .any rfl fun m _ =>?_;have:=h m;simp only[Y6,List.map_replicate] at this;exact this
theorem Hb(z:I)(ab:Enc.sz α=esz):fO A (some d) e esz bytes z (enc ([]:List α)) rest (.c0 q)=az rest (A.aT (some d) (.c0 q)):=by
 have J:eK A esz (.c0 q)=some []:=rfl;simp only[fO,J,nd A esz ([]:List α) ab,e7,zy1,if_true]
theorem Wz(esz:Nat)(z:I)(x:aO)(rest:List aE)(A:ai):bK A none (.jM esz z x) rest=oR A esz z (az rest) (ak A x):=rfl
theorem Y3{n:Nat}{p:List Nat}{sz k total i:Nat}(h:i≤total)(aW:0<total):mZ n p sz 0 k total none (some (.int .i64 i)) none=some (.view n p sz 0 i):=by
 simp only[mZ,jk];rw[if_pos ⟨by omega,by omega,by omega⟩,if_neg (by omega)];simp
theorem Vr{m:Nat}{p:List Nat}{sz lo l j:Nat}{fs:List I}(h:j<l):mF m p sz lo l sz (j:Int) (some fs)=some (.ptr m (p++[lo+j])):=by
 simp only[mF,true_and];rw[if_pos ⟨by omega,by omega⟩];simp
theorem vD{sz k:Nat}{xs:List α}(ab:Enc.sz α=sz):lL sz 0 k (some (xs.map enc))=some (enc (xs.take k)):=by
 have h:((xs.map (enc (α:=α))).drop 0).take k=(xs.take k).map enc:=by rw[List.drop_zero,List.map_take]
 simp only[lL,h];rw[if_pos (iD _),hs,ab]
end
end
theorem Vn(A:ai)(esz m:Nat)(p:List Nat)(sz lo l:Nat)(k:Int):jP A esz k (.view m p sz lo l)=mF m p sz lo l esz k (fL (fp p (A.o m))):=rfl
theorem VT(A:ai)(m:Nat)(p:List Nat)(sz lo l:Nat):jt A (.view m p sz lo l)=some (.int .i64 l):=rfl
theorem Yr(A:ai)(esz:Nat)(lo hi mx:Option I)(n:Nat)(p:List Nat)(l0 k:Nat):jC A esz lo hi mx (.view n p esz l0 k)=mh n p esz l0 k esz lo hi mx (fL (fp p (A.o n))):=rfl
theorem Ys(n:Nat)(p:List Nat)(sz l0 k:Nat)(lo hi mx:Option I)(fs:List I):mh n p sz l0 k sz lo hi mx (some fs)=mZ n p sz l0 k fs.length lo hi mx:=by simp[mh]
theorem ky :
  (∀ A esz m p sz lo l k,jP A esz k (.view m p sz lo l)=mF m p sz lo l esz k (fL (fp p (A.o m))))∧(∀ A m p sz lo l,jt A (.view m p sz lo l)=some (.int .i64 l)) ∧
  (∀ A esz lo hi mx n p l0 k,jC A esz lo hi mx (.view n p esz l0 k)=mh n p esz l0 k esz lo hi mx (fL (fp p (A.o n))))∧(∀ n p sz l0 k lo hi mx fs,mh n p sz l0 k sz lo hi mx (some fs)=mZ n p sz l0 k fs.length lo hi mx) ∧
  (∀ esz z x rest A,bK A none (.jM esz z x) rest=oR A esz z (az rest) (ak A x))∧(∀ rest A d esz,bK A d (.bs0 esz) rest=az rest (A.aT d (.c0 esz))) :=
 ⟨Vn,VT,Yr,Ys,Wz,fun _ _ _ _=>rfl⟩
theorem oc(rs:List bR)(post:cF)(A:ai):oa rs post .ret A=iW rs post A:=rfl
theorem bB.jN{ts:List (Nat×I)}{os0:List (Nat×aq)}(ns:List Nat)(d:Nat){x y:I}(af:bW ts d=x)(h:bh true (au ts (mH ns os0)) x=some y)(ho:cR (fun n => !ns.contains n) (eM ns os0)) :
  bB (au ts os0) (au ((d,y)::lK ns ts) (eM ns os0)):=by
 rintro c a w ⟨D,E,ab⟩;obtain ⟨D1,E1,hs1,hw⟩:=ab.A4 ns ho;have hu:er (au ts (mH ns os0)) (au ts os0):=fun n z hz=>by
  simp only[au,pq] at hz ⊢;split at hz
  ·exact hz
  ·cases hz
 have hx:x.bU=true:=by cases x <;>first | rfl | simp[bh] at h
 have hv:=ab.dQ d;simp only[au] at hv;rw[af] at hv;have J:aF w D E [x] [a.tmps.getD d undef]:=ln [x] _ (.cons hv .nil) (by intro z hz;simp only[zz7] at hz;subst hz;exact hx);have U:=lM (E':=E1) ab hu hw [x] [y] _ J (by simp only[b6,h]);have ah:aZ w D1 E1 y (a.tmps.getD d undef):=by
  simp only[aF] at U;obtain ⟨v',rest,cs,e,k1,k2,_⟩:=U;simp only[zx2] at e;obtain ⟨e1,_⟩:=e;rw[e1];exact ju k1 k2
 refine ⟨D1,E1,hs1.sz,hs1.eD,fun t =>?_,hs1.dM,hs1.c6,hs1.aQ,hs1.bP,hs1.cN,hs1.dR,hs1.eU,hs1.cT,hs1.eX,hs1.fB⟩;simp only[au,bW];split
 ·rename_i ht;subst ht;exact ah
 ·exact hs1.dQ t
theorem XL{w:World}{D:aP}{E:aY}{p:List Nat}{c x y:I}{cs:List Value}(hr:al w D E c cs)(h:c.at p=some x)(hxy:∀ ds,al w D E x ds→al w D E y ds)(ab:y.aX=x.aX):al w D E (c.eB p y) cs∧(c.eB p y).aX=c.aX:=by
 obtain ⟨off,c1,c2,c3,J,rfl,U,ah⟩:=xb p c x cs hr h;obtain ⟨off',k1,k2,k3,k4⟩:=tA p c x y _ c2 hr h (hxy c2 ah) ab;rw[J,v6] at k1;subst k1;refine ⟨?_,k4⟩;have e:(c1++c2++c3).take off++c2++(c1++c2++c3).drop (off+c2.length)=c1++c2++c3:=by
  rw[Y5 c1 c2 c3,←U,List.take_left,List.drop_length_add_append,List.drop_left,Y5]
 rw[←e];exact k3
theorem bB.GQ{A:ai}{m n T sz z:Nat}{p:List Nat}{b:I}(hm:A.o m=some (.box b))(hp:b.at p=some (.nils z))(hn:A.o n=none)(hlt:n<1000000):bB A ((A.aV n (.bY T sz [])).aV m (.box (b.eB p (.own n 0)))):=by
 rintro c a w ⟨D,E,h⟩;have ay:E n=none:=by have:=h.bP n;rw[hn] at this;exact this
 have hmn:m≠n:=fun e=>by rw[e,hn] at hm;cases hm
 have ao:dV w D E w D (fun m=>if m=n then some (.rw none 0) else E m):=by
  have eP:∀ {m:Nat} {e:bM},E m=some e→(if m=n then some (.rw none 0) else E m)=some e:=fun {m e} he=>by
   have:m≠n:=fun e=>by rw[e,ay] at he;cases he
   rw[if_neg this];exact he
  refine ⟨fun _ _ h=>h,fun _ _ _ _ h=>h,fun m b aX he=>eP he,fun m aG l he =>?_,fun m b he=>eP he,fun m b he=>eP he,fun _ _ _ _ h=>h⟩
  ·have:m≠n:=fun e=>by rw[e,ay] at he;cases he
   exact ⟨aG,l,by simp only[if_neg this];exact he,Z3 _,fun _=>rfl⟩
 refine ⟨D,fun m=>if m=n then some (.rw none 0) else E m,h.sz,h.eD,fun t=>aZ.later ao (h.dQ t),h.dM,h.c6,h.aQ,fun k =>?_,fun m m' e e' b J U ah ar =>?_,fun m e hm =>?_,h.eU,h.cT,h.eX,h.fB⟩
 ·simp only[ai.aV];by_cases hk:k=m
  ·subst hk;have ho:=h.bP k;rw[hm] at ho;obtain ⟨b',cs,T',J,U,ah,ar,h5⟩:=ho;obtain ⟨q1,q2⟩:=XL (y:=.own n 0) (al.later ao _ _ ar) hp (fun ds af=>by
    simp only[al] at af;subst af;simp only[al,if_true];exact ⟨none,0,rfl,Z3 _,⟨_,_,_,rfl⟩,fun _=>trivial⟩) rfl
   simp only[if_true,cZ];exact ⟨b',cs,T',by rw[q2];simp only[if_neg hmn];exact J,U,ah,q1,h5⟩
  ·simp only[if_neg hk];by_cases hkn:k=n
   ·subst hkn;simp only[if_true,cZ];exact ⟨none,by simp,by simp,trivial⟩
   ·simp only[if_neg hkn];exact (h.bP k).later ao (by simp only[if_neg hkn]) fun _ _ _ _=>⟨rfl,fun _ ho=>ho⟩
 ·by_cases hm:m=n <;>by_cases hm':m'=n
  ·rw[hm,hm']
  ·simp only[if_pos hm,v6] at J;subst J;simp[bM.aG] at ah
  ·simp only[if_pos hm',v6] at U;subst U;simp[bM.aG] at ar
  ·simp only[if_neg hm] at J;simp only[if_neg hm'] at U;exact h.cN m m' e e' b J U ah ar
 ·have hmn:m≠n:=fun e=>by rw[e,h.ke (.inr hlt)] at hm;cases hm
  simp only[if_neg hmn];exact h.dR m e hm
theorem bB.GR{ts:List (Nat×I)}{os:List (Nat×aq)}(m n T sz z:Nat)(p:List Nat)(b:I)(hm:aj os m=some (.box b))(hp:b.at p=some (.nils z))(hn:aj os n=none){B:ai}(h:bB (au ts ((m,.box (b.eB p (.own n 0)))::(n,.bY T sz [])::os)) B)(hlt:n<1000000:=by decide):bB (au ts os) B :=
 ((bB.GQ (A:=au ts os) (T:=T) (sz:=sz) hm hp hn hlt).trans (by rw[qP,qP];exact bB.refl _)).trans h
mutual
theorem iL{p q:Nat→Bool}(h:∀ n,p n=true→q n=true):∀ x:I,x.only p=true→x.only q=true
 | .agg fs,hx | .tuple fs,hx=>by simp only[I.only] at *;exact il h fs hx
 | .slice _ es,hx=>by simp only[I.only] at *;exact il h es hx
 | .ref x,hx=>by simp only[I.only] at *;exact iL h x hx
 | .func _ caps,hx=>by simp only[I.only] at *;exact il h caps hx
 | .iface _ v,hx=>by simp only[I.only] at *;exact iL h v hx
 | .ptr _ _,hx | .own _ _,hx | .view _ _ _ _ _,hx | .mref _,hx | .dk _,hx=>by simp only[I.only] at *;exact h _ hx
 | .df ks vs,hx=>by simp only[I.only,t8] at *;exact ⟨il h ks hx.1,il h vs hx.2⟩
 | .bool _,_ | .int _ _,_ | .bQ _,_ | .nilp,_ | .dA,_ | .dY,_ | .any,_ | .raw _,_ | .nils _,_ | .c0 _,_ | .undef,_ | .du,_=>by simp[I.only]
theorem il{p q:Nat→Bool}(h:∀ n,p n=true→q n=true):∀ xs:List I,I.ct p xs=true→I.ct q xs=true
 | [],_=>rfl
 |x::xs,hx=>by
  simp only[I.ct,t8] at *;exact ⟨iL h x hx.1,il h xs hx.2⟩
end
theorem aq.iL{p q:Nat→Bool}(h:∀ n,p n=true→q n=true)(x:aq)(hx:x.only p=true):x.only q=true:=by
 cases x with
 |box y=>simp only[aq.only] at *;exact Abs.iL h y hx
 |bY T sz es=>simp only[aq.only] at *;exact il h es hx
 |dG o=>rfl
 |dH T xs=>rfl
 |bt ks vs=>simp only[aq.only,t8] at *;exact ⟨il h ks hx.1,il h vs hx.2⟩
 |it ks vs left cur=>simp only[aq.only,t8] at *;exact ⟨il h ks hx.1,il h vs hx.2⟩
theorem BX{x:I}(h:x.bw=true):x.bU=true:=by
 cases x <;>first | rfl | simp[I.bw] at h
theorem sj{aN:Bool}{A0:ai}{ρ:List (Nat×Nat)}{os:List (Nat×aq)} : ∀ xs:List I,I.cg xs=true→gN aN A0 ρ os xs xs
 | [],_=>trivial
 |x::xs,h=>by
  simp only[I.cg,t8] at h;exact ⟨.inl ⟨(ru _ x h.1).symm,kl _ x h.1,BX h.1⟩,sj xs h.2⟩
structure eY (os os':List (Nat×aq)):Prop where
 same:∀ m,aw os' m=aw os m
 ok:∀ m x,aj os' m=some x→x.only (aw os')=true∧x.eh=true
 lP:∀ m,aw os m=true→1000000≤m
def x8(P:Program)(g:FuncId)(caps:List I)(N:Nat)(item:Nat→List I):Prop :=
 ∀ (Y:Value→List I→List (Nat×aq)→cF→Prop) (v:Value) (bd:Nat→List (Nat×aq)→Prop) (Ix:List (Nat×aq)→Prop) (os:List (Nat×aq)),v.oneCell'=true →
  (∀ k os' post,k<N→bd k os'→(∀ r os2,(r=.bool true∧bd (k+1) os2)∨(r=.bool false∧Ix os2)→post r os2)→Y v (item k) os' post) →
  (∀ k os',bd k os'→eY os os')→(∀ os',Ix os'→eY os os')→bd 0 os→kz P g Y (.raw v::caps) os (fun r os'=>r=.tuple []∧(bd N os'∨Ix os'))
def en(o:Obj)(os:List (Nat×aq)):List (Nat×aq):=(1999999,.dG o)::os
theorem kX(o:Obj)(os:List (Nat×aq))(m:Nat):aw (en o os) m=(decide (m=1999999)||aw os m):=by
 simp only[en,aw,aj];by_cases h:m=1999999 <;>simp[h]
theorem pt(o:Obj)(os:List (Nat×aq))(m:Nat):aj (en o os) m=if m=1999999 then some (.dG o) else aj os m:=rfl
theorem eY.en{os os':List (Nat×aq)}(h:eY os os')(o o':Obj):eY (en o os) (en o' os'):=by
 refine ⟨fun m=>by rw[kX,kX,h.same],fun m x hx =>?_,fun m hm =>?_⟩
 ·rw[pt] at hx;split at hx
  ·cases hx;exact ⟨rfl,rfl⟩
  ·obtain ⟨J,U⟩:=h.ok m x hx;exact ⟨x.iL (fun n hn=>by rw[kX,hn];simp) J,U⟩
 ·rw[kX] at hm;simp only[Bool.or_eq_true,decide_eq_true_eq] at hm;rcases hm with rfl | hm
  ·decide
  ·exact h.lP m hm
def tx:List Nat→List I→List (Nat×I)→List (Nat×I)
 |p::ps,v::vs,ts=>tx ps vs ((p,v)::ts)
 |_,_,ts=>ts
def na(ρ:List (Nat×Nat))(p:Nat→Bool)(ts:List (Nat×I)):List (Nat×I)→Prop
 | []=>True
 |(k,v)::r=>bW ts k=v.bl (bI ρ)∧v.only p=true∧na ρ p ts r
theorem Fb{ρ:List (Nat×Nat)}{p:Nat→Bool}{ts:List (Nat×I)} : ∀ {tsR:List (Nat×I)},na ρ p ts tsR→∀ k,bW tsR k=.du∨(bW ts k=(bW tsR k).bl (bI ρ)∧(bW tsR k).only p=true)
 | [],_,k=>.inl rfl
 |(j,v)::r,h,k=>by
  simp only[na] at h;simp only[bW];split
  ·rename_i hk;subst hk;exact .inr ⟨h.1,h.2.1⟩
  ·exact Fb h.2.2 k
section
variable {c:cV} {a:Act} {w:World} {D:aP} {E:aY}
theorem aU.xA{A:ai}(h:aU c A a w D E){n b:Nat}{o o':Obj}(hn:A.o n=some (.dG o))(ay:E n=some (.op b))(ho:pd o'=true):aU c (A.aV n (.dG o')) a (w.putObj b o') D E:=by
 have hob:=h.bP n;rw[hn] at hob;obtain ⟨b',k1,k2,k3,k4,k5⟩:=hob;rw[ay] at k1;cases k1;have hnc:o.isCells=false:=by cases o <;>first | rfl | cases k4
 have hlt:b<w.heap.size:=fM k3;have ao:dV w D E (w.putObj b o') D E:=⟨fun _ _ h=>h,fun b1 o1 v _ hv=>u3 k3 hnc hv,fun _ _ _ h=>h,fun _ aG l h=>⟨aG,l,h,Z3 _,fun _=>rfl⟩,fun _ _ h=>h,fun _ _ h=>h,fun b1 es ck af hm=>(World.putObj_heap_other (fun e1=>k5 0 (by rw[←e1];exact af))).trans hm⟩
 refine ⟨h.sz,h.eD.mono fun B _ hB=>(World.putObj_heap_other (fun e=>by rw[e,k3] at hB;cases hB;cases k4)).trans hB,fun t=>aZ.later ao (h.dQ t),h.dM.trans ⟨rfl,rfl,rfl,by simp,fun k hk=>World.putObj_heap_other (fun e=>hk (e▸k2))⟩,h.c6,
  fun b1 o1 af=>by have:=h.aQ b1 o1 af;simpa using this,fun m =>?_,h.cN,h.dR,h.eU,h.cT,h.eX,h.ku ao⟩
 simp only[ai.aV];by_cases hm:m=n
 ·subst hm;simp only[if_true,cZ];exact ⟨b,ay,k2,World.putObj_heap_same hlt,ho,k5⟩
 ·simp only[if_neg hm];exact (h.bP m).later ao rfl fun e b1 he hb=>⟨World.putObj_heap_other (fun e1=>hm (h.cN m n e _ b1 he ay hb (by rw[e1];rfl))),fun _ ho=>ho⟩
theorem aU.Me{A:ai}(h:aU c A a w D E){n b:Nat}(ay:E n=some (.op b)):aU c ⟨A.t,fun m=>if m=n then none else A.o m⟩ a w D (fun m=>if m=n then none else E m):=by
 have hne:∀ {m:Nat} {e:bM},E m=some e→(∀ b,e≠.op b)→m≠n:=fun he U e'=>by
  subst e';rw[ay] at he;cases he;exact U _ rfl
 have ao:dV w D E w D (fun m=>if m=n then none else E m):=by
  refine ⟨fun _ _ h=>h,fun _ _ _ _ h=>h,fun m b aX he =>?_,fun m aG l he=>⟨aG,l,?_,Z3 _,fun _=>rfl⟩,fun m b he =>?_,fun m b he =>?_,fun _ _ _ _ h=>h⟩
  ·simp only[if_neg (hne he (fun b=>by simp))];exact he
  ·simp only[if_neg (hne he (fun b=>by simp))];exact he
  ·simp only[if_neg (hne he (fun b=>by simp))];exact he
  ·simp only[if_neg (hne he (fun b=>by simp))];exact he
 refine ⟨h.sz,h.eD,fun t=>aZ.later ao (h.dQ t),h.dM,h.c6,h.aQ,fun m =>?_,fun m m' e e' b J U ah ar =>?_,fun m e hm =>?_,h.eU,h.cT,h.eX,h.fB⟩
 ·by_cases hm:m=n
  ·simp only[hm,if_true,cZ]
  ·simp only[if_neg hm];exact (h.bP m).later ao (by simp only[if_neg hm]) fun _ _ _ _=>⟨rfl,fun _ ho=>ho⟩
 ·split at J
  ·cases J
  ·split at U
   ·cases U
   ·exact h.cN m m' e e' b J U ah ar
 ·by_cases hmn:m=n
  ·left;simp only[hmn,if_true]
  ·simp only[if_neg hmn];exact h.dR m e hm
theorem aU.enter{ts:List (Nat×I)}{os0:List (Nat×aq)}(h:aU c (au ts os0) a w D E)(hbase:c.fo=none)(hfree:aj os0 999999=none)(hE0:c.c4 999999=none){o:Obj}(ho:pd o=true) :
  ∃ E1,aU c (au ts ((999999,.dG o)::os0)) { a with defers := { target:=.collected w.heap.size,args := #[] } :: a.defers } ((w.alloc (.deferred (some []))).alloc o) D E1∧E1 999999=some (.op (w.heap.size+1))∧∀ xs vs,aF w D E xs vs→aF ((w.alloc (.deferred (some []))).alloc o) D E1 xs vs:=by
 have hb:Below w.heap.size w ((w.alloc (.deferred (some []))).alloc o):=((Below.refl _ w).alloc (Z3 _) _).alloc (by simp) _;have J:=h.grow (D':=D) hb (fun _ _ h=>h) (fun _ _ h _=>h) (fun b o' af=>by have:=h.aQ b o' af;simp;omega);obtain ⟨W,hW⟩:∃ W,W=(w.alloc (.deferred (some []))).alloc o:=⟨_,rfl⟩
 have hL:W.heap[w.heap.size+1]?=some o:=by
  rw[hW];have:=World.alloc_heap_new (w.alloc (.deferred (some []))) o;rwa [World.size_alloc] at this
 have hK:W.heap[w.heap.size]?=some (.deferred (some [])):=by
  rw[hW];exact (Below.heap_alloc _ _ _ (by simp)).trans (World.alloc_heap_new w _)
 rw[←hW] at J hb ⊢;have hEn:E 999999=none:=by have:=h.bP 999999;simp only[au,hfree] at this;exact this
 have ao:dV W D E W D (fun m=>if m=999999 then some (.op (w.heap.size+1)) else E m):=by
  refine ⟨fun _ _ h=>h,fun _ _ _ _ h=>h,fun m b aX he =>?_,fun m aG l he=>⟨aG,l,?_,Z3 _,fun _=>rfl⟩,fun m b he =>?_,fun m b he =>?_,fun _ _ _ _ h=>h⟩
  all_goals
   have:m≠999999:=fun e=>by rw[e,hEn] at he;cases he
   simp only[if_neg this];exact he
 have hsz:c.fH.heap.size≤w.heap.size:=h.dM.size;have nb:∀ {m:Nat} {e:bM} {b:Nat},E m=some e→e.aG=some b→b<w.heap.size:=fun he hb'=>h.fY he hb';refine ⟨fun m=>if m=999999 then some (.op (w.heap.size+1)) else E m,⟨J.sz,?_,fun t=>aZ.later ao (J.dQ t),J.dM,J.c6,J.aQ,fun m =>?_,fun m m' e e' b g1 g2 g3 g4 =>?_,fun m e hm =>?_,J.eU,J.cT,J.eX,J.fB⟩,by simp,fun xs vs hx=>aF.later ao xs vs (aF.later (dV.grow hb fun _ _ h=>h) xs vs hx)⟩
 ·have hdf:=J.eD;rw[hbase] at hdf ⊢;obtain ⟨Bs,k1,k2,k3⟩:=hdf;refine ⟨w.heap.size::Bs,by simp only[Z4];rw[←k1],List.nodup_cons.2 ⟨fun hin =>?_,k2⟩,fun B hB =>?_⟩
  ·have hdf':=h.eD;rw[hbase] at hdf';obtain ⟨Bs',j1,_,j3⟩:=hdf';have e1:Bs=Bs':=by
    have:Bs.map (fun B=>({ target:=.collected B,args := #[] } : Deferred))=Bs'.map (fun B => { target:=.collected B,args := #[] }):=by rw[←k1,←j1]
    exact (List.map_inj_right (fun x y hxy=>by simpa using hxy)).1 this
   rw[e1] at hin;have:=fM (j3 _ hin).2;omega
  ·rcases zx3.1 hB with rfl | hB
   ·exact ⟨hsz,hK⟩
   ·exact k3 B hB
 ·simp only[au,aj];by_cases hm:m=999999
  ·subst hm;simp only[if_true,cZ];exact ⟨_,rfl,.inl (by omega),hL,ho,fun o' af=>by have:=h.aQ _ o' af;omega⟩
  ·simp only[if_neg hm];exact (J.bP m).later ao (by simp only[if_neg hm]) fun _ _ _ _=>⟨rfl,fun _ ho=>ho⟩
 ·by_cases hm:m=999999 <;>by_cases hm':m'=999999
  ·rw[hm,hm']
  ·simp only[if_pos hm,v6] at g1;simp only[if_neg hm'] at g2;subst g1;simp only[bM.aG,v6] at g3;have:=nb g2 g4;omega
  ·simp only[if_neg hm] at g1;simp only[if_pos hm',v6] at g2;subst g2;simp only[bM.aG,v6] at g4;have:=nb g1 g3;omega
  ·simp only[if_neg hm] at g1;simp only[if_neg hm'] at g2;exact h.cN m m' e e' b g1 g2 g3 g4
 ·have hmn:m≠999999:=fun e=>by rw[e,hE0] at hm;cases hm
  simp only[if_neg hmn];exact h.dR m e hm
theorem cZ.ib{M M':Nat→Prop}{n:Nat}{x:Option aq}(h:cZ M w D E n x)(hM:∀ e b,E n=some e→e.aG=some b→M' b):cZ M' w D E n x:=by
 unfold cZ at *;split
 ·exact h
 ·obtain ⟨b,cs,T,J,_,ah⟩:=h;exact ⟨b,cs,T,J,hM _ b J rfl,ah⟩
 ·obtain ⟨aG,J,U,ah⟩:=h;refine ⟨aG,J,U,?_⟩;split
  ·exact ah
  ·obtain ⟨cs,pre,rest,_,ar⟩:=ah;exact ⟨cs,pre,rest,hM _ _ J rfl,ar⟩
 ·obtain ⟨b,J,_,ah⟩:=h;exact ⟨b,J,hM _ b J rfl,ah⟩
 ·obtain ⟨b,es,ck,J,_,ah⟩:=h;exact ⟨b,es,ck,J,hM _ b J rfl,ah⟩
 ·obtain ⟨r,b,es,ck,si,se,la,J,_,ah⟩:=h;exact ⟨r,b,es,ck,si,se,la,J,hM _ r J rfl,ah⟩
 ·obtain ⟨aG,J,U,ah⟩:=h;refine ⟨aG,J,U,?_⟩;split
  ·exact ah
  ·obtain ⟨cs,m,_,ar⟩:=ah;exact ⟨cs,m,hM _ _ J rfl,ar⟩
theorem aU.De{os:List (Nat×aq)} : ∀ (ps:List Nat) (vs:List Value) (xs:List I) (ts:List (Nat×I)) (a:Act),aU c (au ts os) a w D E→(∀ p∈ps,p<c.n)→aF w D E xs vs→ps.length=vs.length →
  aU c (au (tx ps xs ts) os) { a with tmps:=(ps.zip vs).foldl (fun t q=>t.setIfInBounds q.1 q.2) a.tmps } w D E
 | [],[],xs,ts,a,h,_,hv,_=>by
  cases xs with
  |nil=>exact h
  |cons x xs=>simp[aF] at hv
 | [],_::_,_,_,_,_,_,_,ao=>by simp at ao
 |_::_,[],_,_,_,_,_,_,ao=>by simp at ao
 |p::ps,v::vs,xs,ts,a,h,hp,hv,ao=>by
  cases xs with
  |nil=>simp[aF] at hv
  |cons x xs =>
   simp only[aF] at hv;obtain ⟨v',rest,cs,e,J,U,ah⟩:=hv;simp only[zx2] at e;obtain ⟨rfl,rfl⟩:=e;have ar:=h.put (hp p (by simp)) (ju J U);rw[ta] at ar;have:=aU.De ps vs xs ((p,x)::ts) (a.put (some p) v) ar (fun q hq=>hp q (by simp[hq])) ah (by simpa using ao);exact this
end
end Go.Abs
namespace Go.Abs
open Go Go.RowKit
def iS:bT→Bool
 | .mv _ | .pick .. | .bin .. | .eqv .. | .conv .. | .un .. | .fl .. | .ix .. | .lenT _ | .bld .. | .ext .. | .mk .. | .nilC _ | .ptrE .. | .max2 .. =>true
 | .ld .. | .fa .. | .ia .. | .is .. | .len _ | .va .. | .bs .. | .sl .. | .cap _ | .bs0 _ | .lk .. =>true
 |_=>false
def mL:bT→Bool
 | .alloc _ | .box _ | .a8 .. | .call .. | .fQ .. | .dy .. =>true
 |op=>iS op
def po(ab:List FuncId):bT→Bool
 | .alloc _ | .box _=>true
 | .call f _ => !ab.contains f
 |op=>iS op
abbrev eb:=List (Nat×List Nat)
def hX(L:eb)(s:Nat):Option (List Nat):=(L.find? fun q=>q.1==s).map (·.2)
def cW(L:eb)(A:ai):Prop:=∀ s ns,hX L s=some ns→(A.t s).only (fun n=>ns.contains n)=true
def qH(L:eb):aO→Option (List Nat)
 | .t s=>hX L s
 | .c x=>if x.bw then some [] else none
def tX(a:Option (List Nat))(ns:List Nat):Bool:=match a with
 |some ms=>ms.all fun m=>ns.contains m
 |none=>false
def hZ(L:eb)(g:aE):Bool:=match g.dst with
 |none=>true
 |some d=>match hX L d with
  |none=>true
  |some ns=>match g.op with
   | .mv x | .nilC x | .fa _ _ x | .ia _ _ x _=>tX (qH L x) ns
   | .bin .. | .len _ | .bs .. | .bs0 _ | .conv .. | .lenT _=>true
   | .box _ | .alloc _=>ns.contains d
   |_=>false
def mK:bT→Option (List Nat)
 | .ld _ (.t x) | .fa _ _ (.t x) | .ia _ _ (.t x) _ | .is _ (.t x) _ | .len (.t x) | .va _ _ (.t x) | .sl _ (.t x) _ _ _ | .cap (.t x) | .lk _ _ _ (.t x) _=>some [x]
 | .bs _ _ ps=>if (ps.all fun x=>match x with | .t _=>true | .c _=>false)=true then some (jD ps) else none
 | .bs0 _=>some []
 |op=>if op.gE=0∧iS op=true then some [] else none
def sg(L:eb)(g:aE)(p:Nat→Bool):Bool:=match mK g.op with
 |some xs=>xs.all fun s=>match hX L s with | some ns=>ns.all p | none=>false
 |none=>false
def nW(ab:List FuncId)(L:eb)(g h:aE):Bool:=po ab h.op||match h.op with
 | .a8 _ (.t y) _=>match mK g.op with
  |some []=>true
  |_=>match hX L y with
   |some ms=>sg L g fun n => !ms.contains n
   |none=>false
 | .a8 .. =>match mK g.op with
  |some []=>true
  |_=>false
 | .dy _ _ _ _ s _=>sg L g (fun _=>false)||tX (qH L s) []
 |_=>false
def mD(ab:List FuncId)(L:eb)(g h:aE):Bool:=iS g.op&&(nW ab L g h&&((match g.dst with
  |some d => !h.c7.contains d&&h.dst != some d
  |none=>true)&&(match h.dst with
  |some d => !g.c7.contains d
  |none=>true)))
theorem vU{op:bT}(h:iS op=true)(A:ai)(dst:Option Nat)(rest:List aE)(k:ai→cM):bj A dst op rest k=cQ (bm A op) fun v=>k (A.aT dst v):=by
 cases op <;>first | rfl | cases h
inductive bO (P:Program) (Y:Value→List I→List (Nat×aq)→cF→Prop) (ab:List FuncId) (K:ai→Prop):cM→Prop where
 |done {A:ai} : K A→bO P Y ab K (.done A)
 |flat {f:FuncId} {avs cargs:List I} {a2:Option (List I)} {dst:Option Nat} {rest:List aE} {A:ai} (r:I):bf P f cargs r→r.flat=true→bO P Y ab K (az rest (A.aT dst r))→bO P Y ab K (.call f avs (some cargs) a2 dst rest A)
 |lead {f:FuncId} {avs cargs:List I} {a1:Option (List I)} {dst:Option Nat} {rest:List aE} {A:ai} (r:I):bf P f cargs r→bO P Y ab K (az rest (A.aT dst r))→bO P Y ab K (.call f avs a1 (some cargs) dst rest A)
 |bP {f:FuncId} {avs:List I} {a1 a2:Option (List I)} {dst:Option Nat} {rest:List aE} {ts:List (Nat×I)} {os0:List (Nat×aq)} (ρ:List (Nat×Nat)) (cargs:List I) (post:cF):cU P f cargs [] post →
   gn ρ [] os0→gN false (au ts os0) ρ [] avs cargs→(∀ r os',post r os'→gC false ρ [] os0 r os') →
   (∀ r os',post r os'→bO P Y ab K (az rest ((au ts (dB ρ os'++os0)).aT dst (r.bl (bI ρ)))))→bO P Y ab K (.call f avs a1 a2 dst rest (au ts os0))
 |any {p:Nat→Prop} {k:Nat→cM} : (∀ m,p m→bO P Y ab K (k m))→bO P Y ab K (.any p k)
 |wK {f:FuncId} {avs:List I} {a1 a2:Option (List I)} {dst:Option Nat} {rest:List aE} {ts:List (Nat×I)} {os0:List (Nat×aq)} (aN:Bool) (ρ:List (Nat×Nat)) (os:List (Nat×aq)) (cargs:List I) (post:cF):ab.contains f=true→cU P f cargs os post →
   gn ρ os os0→gN aN (au ts (eM (iK ρ os) os0)) ρ os avs cargs→(∀ r os',post r os'→gC aN ρ os os0 r os') →
   (∀ r os',post r os'→bO P Y ab K (az rest ((au ts (dB ρ os'++os0)).aT dst (r.bl (bI ρ)))))→bO P Y ab K (.call f avs a1 a2 dst rest (au ts os0))
 |FA {v:Value} {avs:List I} {dst:Option Nat} {rest:List aE} {ts:List (Nat×I)} {os0:List (Nat×aq)} (os:List (Nat×aq)) (cargs:List I) (post:cF):Y v cargs os post →
   gn [] os os0→gN false (au ts (eM (iK [] os) os0)) [] os avs cargs→(∀ r os',post r os'→gC false [] os os0 r os') →
   (∀ r os',post r os'→bO P Y ab K (az rest ((au ts (dB [] os'++os0)).aT dst (r.bl (bI [])))))→bO P Y ab K (.kK v avs dst rest (au ts os0))
theorem Ax(os:List (Nat×aq)):eM [] os=os:=by simp[eM]
section
variable {P:Program} {ab:List FuncId} {K:ai→Prop} {Y:Value→List I→List (Nat×aq)→cF→Prop}
theorem bO.yi{p:Nat→Prop}{k:Nat→cM}(h:bO P Y ab K (.any p k)):∀ m,p m→bO P Y ab K (k m):=by cases h;assumption
theorem cW.put{L:eb}{A B:ai}(h:cW L A)(ht:∀ k,B.t k=A.t k){dst:Option Nat}{v:I}(hv:∀ d,dst=some d→∀ ns,hX L d=some ns→v.only (fun n=>ns.contains n)=true):cW L (B.aT dst v):=by
 intro s ns hs';cases dst with
 |none=>exact (ht s).symm▸h s ns hs'
 |some d =>
  simp only[ai.aT,ai.put];by_cases af:s=d
  ·rw[if_pos af];exact hv d rfl ns (af▸hs')
  ·rw[if_neg af,ht];exact h s ns hs'
theorem rK{L:eb}{A:ai}(h:cW L A){x:aO}{ns:List Nat}(hx:tX (qH L x) ns=true):(ak A x).only (fun n=>ns.contains n)=true:=by
 cases x with
 |c x =>
  simp only[qH] at hx;split at hx
  ·rename_i hc;exact kl _ x hc
  ·cases hx
 |t s =>
  simp only[qH] at hx;cases ao:hX L s with
  |none=>rw[ao] at hx;cases hx
  |some ms =>
   rw[ao] at hx;simp only[tX,zz4] at hx;exact iL (fun n hn=>hx n (by simpa using hn)) _ (h s ms ao)
theorem Hy{op:BinOp}{x y v:I}(p:Nat→Bool)(h:cB op x y=some v):v.only p=true:=by
 unfold cB at h
 (repeat' split at h) <;>first | (cases h;done) | (simp only[v6] at h;subst h;rfl)
theorem wS{p:Nat→Bool} : ∀ {xs:List I} {i:Nat} {x:I},I.ct p xs=true→xs[i]?=some x→x.only p=true
 | [],_,_,_,h=>by simp at h
 |a::xs,0,x,h,e=>by
  simp only[I.ct,t8] at h;simp only[List.getElem?_cons_zero,v6] at e;exact e▸h.1
 |a::xs,i+1,x,h,e=>by
  simp only[I.ct,t8] at h;exact wS (xs:=xs) h.2 (by simpa using e)
theorem CL{L:eb}{A:ai}{g:aE}(h:cW L A)(hg:hZ L g=true){v:I}(hv:bm A g.op=some v):∀ d,g.dst=some d→∀ ns,hX L d=some ns→v.only (fun n=>ns.contains n)=true:=by
 intro d af ns hn;obtain ⟨dst,op,gd⟩:=g;simp only at af hv;subst af;simp only[hZ,hn] at hg;cases op <;>simp only at hg <;>(try (cases hg;done)) <;>simp only[bm] at hv <;>(try (cases hv;done))
 case mv x=>simp only[v6] at hv;exact hv▸rK h hg
 case nilC x =>
  have:=rK h hg;generalize ak A x=u at hv this;cases u <;>simp only[lT] at hv <;>first | (cases hv;done) | (simp only[v6] at hv;exact hv▸this)
 case bin op x y=>exact Hy _ hv
 case conv k x=>split at hv <;>first | (cases hv;done) | (simp only[v6] at hv;subst hv;rfl)
 case lenT x=>split at hv <;>first | (cases hv;done) | (simp only[v6] at hv;subst hv;rfl)
 case len x=>(repeat' split at hv) <;>first | (cases hv;done) | (simp only[v6] at hv;subst hv;rfl)
 case bs0 e=>simp only[v6] at hv;subst hv;rfl
 case bs e ps =>
  split at hv
  ·split at hv
   ·rename_i hc;simp only[v6] at hv;subst hv;simp only[I.only];exact nV _ _ hc.2
   ·cases hv
  ·cases hv
 case fa f off x =>
  have hx:=rK h hg;split at hv
  ·rename_i fs he;rw[he] at hx;simp only[I.only] at hx;split at hv
   ·rename_i u hu;split at hv
    ·simp only[v6] at hv;subst hv;simp only[I.only];exact wS hx hu
    ·cases hv
   ·cases hv
  ·rename_i n q he;rw[he] at hx;simp only[I.only] at hx;split at hv
   ·split at hv
    ·simp only[v6] at hv;subst hv;simpa only[I.only] using hx
    ·cases hv
   ·cases hv
  ·cases hv
 case ia n esz x i =>
  have hx:=rK h hg;split at hv
  case h_2=>cases hv
  split at hv
  case isFalse=>cases hv
  split at hv
  ·rename_i fs he;rw[he] at hx;simp only[I.only] at hx;split at hv
   ·simp only[t7] at hv;obtain ⟨u,hu,rfl⟩:=hv;simp only[I.only];exact wS hx hu
   ·cases hv
  ·rename_i m q he;rw[he] at hx;simp only[I.only] at hx;split at hv
   ·split at hv
    ·simp only[v6] at hv;subst hv;simpa only[I.only] using hx
    ·cases hv
   ·cases hv
  ·cases hv
def gu(A:ai)(dst:Option Nat)(s:I)(B:ai):Prop:=(∀ t,dst≠some t→B.t t=A.t t)∧(s.only (fun _=>false)=true→er A B)
def nm(A:ai)(dst:Option Nat)(s:I)(R:(ai→cM)→cM):Prop :=
 (∀ k,R k=.fail)∨(∃ B,(∀ k,R k=k B)∧gu A dst s B)∨∃ (p:Nat→Prop) (bz:Nat→ai),(∀ k,R k=.any p fun m=>k (bz m))∧∀ m,gu A dst s (bz m)
theorem ri{A B:ai}{dst:Option Nat}{v:I}{t:Nat}(ht:∀ k,B.t k=A.t k)(h:dst≠some t):(B.aT dst v).t t=A.t t:=by
 cases dst with
 |none=>exact ht t
 |some d =>
  have:t≠d:=fun e=>h (by rw[e]);simp only[ai.aT,ai.put,if_neg this];exact ht t
theorem G2(A:ai)(dst:Option Nat)(esz bytes:Nat)(z s:I)(es ys:List I):nm A dst s (fX A dst esz bytes z es ys):=by
 cases dst with
 |none=>exact .inl fun _=>rfl
 |some d =>
  cases ho:A.o d with
  |some y=>exact .inl fun k=>by simp only[fX,ho]
  |none =>
   by_cases hc:(es.length+ys.length)*bytes≤140737488355328∧es.length+ys.length≤maxLen
   ·refine .inr (.inr ⟨_,fun m=>(A.aV d (.box (.agg (es++(ys++List.replicate m z))))).aT (some d) (.view d [] esz 0 (es.length+ys.length)),fun k=>by simp only[fX,ho];rw[if_pos hc],fun m=>⟨fun t ht=>ri (A:=A) (B:=A.aV d _) (fun _=>rfl) ht,fun _ n y hy =>?_⟩⟩);have:n≠d:=fun e=>by rw[e,ho] at hy;cases hy
    rw[ir];simp only[ai.aV,if_neg this];exact hy
   ·exact .inl fun k=>by simp only[fX,ho];rw[if_neg hc]
theorem G7(A:ai)(dst:Option Nat)(esz bytes:Nat)(z s:I)(es ys:Option (List I)):nm A dst s (e7 A dst esz bytes z s es ys):=by
 cases es with
 |none=>exact .inl fun _=>rfl
 |some es =>
  cases ys with
  |none=>exact .inl fun _=>rfl
  |some ys =>
   by_cases aW:ys=[]
   ·exact .inr (.inl ⟨A.aT dst s,fun k=>by simp only[e7,if_pos aW],fun t ht=>ri (A:=A) (fun _=>rfl) ht,fun _ n y hy=>by rw[ir];exact hy⟩)
   ·have gg:=fun s'=>G2 A dst esz bytes z s' es ys;cases s
    case nils=>simp only[nm,e7,if_neg aW];exact gg _
    case c0=>simp only[nm,e7,if_neg aW];exact gg _
    case view n p sz lo l =>
     cases ho:A.o n with
     |none=>exact .inl fun k=>by simp only[e7,if_neg aW,ho]
     |some y =>
      cases y with
      |box b =>
       cases hb:b.at p with
       |none=>exact .inl fun k=>by simp only[e7,if_neg aW,ho,hb]
       |some c =>
        cases c
        case agg fs =>
         by_cases J:lo+l+ys.length≤fs.length
         ·by_cases U:sz=esz∧I.cX ys=I.cX ((fs.drop (lo+l)).take ys.length)
          ·exact .inr (.inl ⟨(A.aV n (.box (jh b p (lo+l) fs ys))).aT dst (.view n p esz lo (l+ys.length)),fun k=>by simp only[e7,if_neg aW,ho,hb,if_pos J];rw[if_pos U],fun t ht=>ri (A:=A) (B:=A.aV n _) (fun _=>rfl) ht,fun h=>by simp[I.only] at h⟩)
          ·exact .inl fun k=>by simp only[e7,if_neg aW,ho,hb,if_pos J];rw[if_neg U]
         ·simp only[nm,e7,if_neg aW,ho,hb,if_neg J];exact gg _
        all_goals exact .inl fun k=>by simp only[e7,if_neg aW,ho,hb]
      |_=>exact .inl fun k=>by simp only[e7,if_neg aW,ho]
    all_goals exact .inl fun k=>by simp only[e7,if_neg aW]
theorem yl(A:ai)(dst:Option Nat)(e esz bytes:Nat)(z:I)(s x:aO)(rest:List aE):nm A dst (ak A s) (bj A dst (.dy e esz bytes z s x) rest):=by
 generalize ab:ak A s=xJ;cases xJ
 case own n l =>
  cases hx:ak A x
  case slice sz ys =>
   cases ho:A.o n with
   |none=>exact .inl fun k=>by simp only[bj,ab,hx,ho]
   |some y =>
    cases y with
    |bY T sz' es =>
     by_cases hc:wM e esz bytes l sz ys T sz' es
     ·exact .inr (.inl ⟨(A.aV n (.bY e esz (es++ys))).aT dst (.own n (es.length+ys.length)),fun k=>by simp only[bj,ab,hx,ho];rw[if_pos hc],fun t ht=>ri (A:=A) (B:=A.aV n _) (fun _=>rfl) ht,fun h=>by simp[I.only] at h⟩)
     ·exact .inl fun k=>by simp only[bj,ab,hx,ho];rw[if_neg hc]
    |dH T xs =>
     by_cases hc:wN e esz bytes l ys T xs z
     ·exact .inr (.inl ⟨(A.aV n (.dH e (xs++qA ys))).aT dst (.own n (xs.length+ys.length)),fun k=>by simp only[bj,ab,hx,ho];rw[if_pos hc],fun t ht=>ri (A:=A) (B:=A.aV n _) (fun _=>rfl) ht,fun h=>by simp[I.only] at h⟩)
     ·exact .inl fun k=>by simp only[bj,ab,hx,ho];rw[if_neg hc]
    |_=>exact .inl fun k=>by simp only[bj,ab,hx,ho]
  all_goals exact .inl fun k=>by simp only[bj,ab,hx]
 all_goals (simp only[nm,bj,ab];exact G7 ..)
theorem w6{A:ai}{d:Nat}{v:I}{n:Nat}{y:aq}{dst:Option Nat}{u:I}(h:dst≠some d):((A.put d v).aV n y).aT dst u=((A.aV n y).aT dst u).put d v:=by
 cases dst with
 |none=>rfl
 |some e =>
  have:e≠d:=fun he=>h (by rw[he]);simp only[ai.aT,ai.put,ai.aV,ai.mk.injEq,and_true]
  funext k
  by_cases J:k=e <;>by_cases U:k=d <;>simp_all
theorem XI{A:ai}{d:Nat}{v:I}{dst:Option Nat}{u:I}(h:dst≠some d):(A.put d v).aT dst u=(A.aT dst u).put d v:=by
 cases dst with
 |none=>rfl
 |some e =>
  have:e≠d:=fun he=>h (by rw[he]);simp only[ai.aT,ai.put,ai.mk.injEq,and_true]
  funext k
  by_cases J:k=e <;>by_cases U:k=d <;>simp_all
theorem G3{A:ai}{d:Nat}{v:I}{dst:Option Nat}(h:dst≠some d)(esz bytes:Nat)(z:I)(es ys:List I)(k:ai→cM):fX (A.put d v) dst esz bytes z es ys k=fX A dst esz bytes z es ys fun B=>k (B.put d v):=by
 cases dst with
 |none=>rfl
 |some e =>
  simp only[fX];have:(A.put d v).o=A.o:=rfl;rw[this];cases A.o e with
  |some _=>rfl
  |none =>
   simp only;split
   ·simp only[w6 h]
   ·rfl
theorem G8{A:ai}{d:Nat}{v:I}{dst:Option Nat}(h:dst≠some d)(esz bytes:Nat)(z s:I)(es ys:Option (List I))(k:ai→cM):e7 (A.put d v) dst esz bytes z s es ys k=e7 A dst esz bytes z s es ys fun B=>k (B.put d v):=by
 have ho:(A.put d v).o=A.o:=rfl;cases es with
 |none=>rfl
 |some es =>
  cases ys with
  |none=>rfl
  |some ys =>
   simp only[e7];split
   ·rw[XI h]
   ·cases s <;>simp only[G3 h,ho]
    rename_i n p sz lo l;cases A.o n with
    |none=>rfl
    |some y =>
     cases y with
     |box b =>
      simp only;cases b.at p with
      |none=>rfl
      |some c =>
       cases c <;>simp only[w6 h]
     |_=>rfl
theorem Hc{A:ai}{d:Nat}{v:I}{dst:Option Nat}(h:dst≠some d){e esz bytes:Nat}{z:I}{s x:aO}(hag:eg A (A.put d v) (s.sl++x.sl))(rest rest':List aE)(k:ai→cM) :
  bj (A.put d v) dst (.dy e esz bytes z s x) rest k=bj A dst (.dy e esz bytes z s x) rest' fun B=>k (B.put d v):=by
 have ho:(A.put d v).o=A.o:=rfl;have hsrc:∀ y,eK (A.put d v) esz y=eK A esz y:=fun y=>by cases y <;>rfl
 simp only[bj,da hag.l,da hag.r,hsrc];cases ak A s <;>simp only[G8 h]
 rename_i n l;cases ak A x <;>simp only[ho]
 cases A.o n with
 |none=>rfl
 |some y=>cases y <;>simp only[w6 h]
theorem bO.zW{L:eb}{f:FuncId}{avs:List I}{a1 a2:Option (List I)}{dst:Option Nat}{rest:List aE}{A:ai}(hi:cW L A)(af:∀ d,dst=some d→hX L d=none)(h:bO P Y ab K (.call f avs a1 a2 dst rest A)) :
  aR P Y false (fun B=>bO P Y ab K (az rest B)∧cW L B) (.call f avs a1 a2 dst [] A):=by
 have no:∀ {v:I},∀ d,dst=some d→∀ ns,hX L d=some ns→v.only (fun n=>ns.contains n)=true:=fun d e ns hn=>by rw[af d e] at hn;cases hn
 cases h with
 |flat r hc hf hw=>exact .flat r hc hf (.done ⟨hw,hi.put (fun _=>rfl) no⟩)
 |lead r hc hw=>exact .lead r hc (.done ⟨hw,hi.put (fun _=>rfl) no⟩)
 |bP ρ cargs post hc hg ha hb hw=>exact .bP false ρ [] cargs post rfl hc hg (by simp only[iK,zy1,Ax];exact ha) hb fun r os' hp=>.done ⟨hw r os' hp,hi.put (B:=au _ (dB ρ os'++_)) (fun _=>rfl) no⟩
 |wK aN ρ os cargs post _ hc hg ha hb hw=>exact .bP aN ρ os cargs post rfl hc hg ha hb fun r os' hp=>.done ⟨hw r os' hp,hi.put (B:=au _ (dB ρ os'++_)) (fun _=>rfl) no⟩
theorem bO.I0{L:eb}{v:Value}{avs:List I}{dst:Option Nat}{rest:List aE}{A:ai}(hi:cW L A)(af:∀ d,dst=some d→hX L d=none)(h:bO P Y ab K (.kK v avs dst rest A)) :
  aR P Y false (fun B=>bO P Y ab K (az rest B)∧cW L B) (.kK v avs dst [] A):=by
 have no:∀ {v:I},∀ d,dst=some d→∀ ns,hX L d=some ns→v.only (fun n=>ns.contains n)=true:=fun d e ns hn=>by rw[af d e] at hn;cases hn
 cases h with
 |FA os cargs post hc hg ha hb hw=>exact .uf os cargs post rfl hc hg ha hb fun r os' hp=>.done ⟨hw r os' hp,hi.put (B:=au _ (dB [] os'++_)) (fun _=>rfl) no⟩
theorem bO.one{L:eb}{A:ai}{g:aE}{rest:List aE}(hi:cW L A)(ho:mL g.op=true)(hL:hZ L g=true)(h:bO P Y ab K (bj A g.dst g.op rest (az rest))):aR P Y false (fun B=>bO P Y ab K (az rest B)∧cW L B) (bj A g.dst g.op [] (az [])):=by
 have hval:=fun v (hv:bm A g.op=some v)=>CL hi hL hv;obtain ⟨dst,op,gd⟩:=g;simp only at ho h hval ⊢;have pure:iS op=true→aR P Y false (fun B=>bO P Y ab K (az rest B)∧cW L B) (bj A dst op [] (az [])):=by
  intro hsm;rw[vU hsm] at h ⊢;cases hv:bm A op with
  |none=>rw[hv] at h;cases h
  |some v=>rw[hv] at h;exact .done ⟨h,hi.put (fun _=>rfl) (hval v hv)⟩
 have unl:(∀ ns d,dst=some d→hX L d=some ns→hZ L ⟨dst,op,gd⟩=false)→∀ d,dst=some d→hX L d=none:=fun J d af=>by
  cases hn:hX L d with
  |none=>rfl
  |some ns=>rw[J ns d af hn] at hL;cases hL
 cases op with
 |alloc z =>
  cases dst with
  |none=>simp only[bj] at h;cases h
  |some d =>
   simp only[bj] at h ⊢;split at h
   case h_2=>cases h
   refine .done ⟨h,hi.put (B:=A.aV d _) (dst:=some d) (fun _=>rfl) fun d' e ns hn =>?_⟩;simp only[v6] at e;subst e;simpa only[hZ,hn,I.only] using hL
 |box x =>
  cases dst with
  |none=>simp only[bj] at h;cases h
  |some d =>
   simp only[bj] at h ⊢;split at h
   case h_2=>cases h
   split at h
   case isFalse=>cases h
   rename_i hv;rw[if_pos hv];refine .done ⟨h,hi.put (B:=A.aV d _) (dst:=some d) (fun _=>rfl) fun d' e ns hn =>?_⟩;simp only[v6] at e;subst e;simpa only[hZ,hn,I.only] using hL
 |a8 s x v =>
  cases dst with
  |some d=>simp only[bj] at h;cases h
  |none =>
   simp only[bj] at h ⊢;split at h
   case h_2=>cases h
   rename_i n p hx;split at h
   case h_2=>cases h
   rename_i b hb;split at h
   case h_2=>cases h
   rename_i old hold;split at h
   case isFalse=>cases h
   rename_i hok;simp only[if_pos hok];exact .done ⟨h,fun s ns hn=>hi s ns hn⟩
 |call f args=>exact bO.zW hi (unl fun ns d e hn=>by subst e;simp only[hZ,hn]) h
 |fQ x args =>
  have hu:=unl fun ns d e hn=>by subst e;simp only[hZ,hn]
  simp only[bj] at h ⊢;split at h
  ·exact bO.zW hi hu h
  ·exact bO.I0 hi hu h
  ·cases h
 |dy e esz bytes z s x =>
  have hu:=unl fun ns d e hn=>by subst e;simp only[hZ,hn]
  have sS:∀ B,gu A dst (ak A s) B→cW L B:=fun B hB t ns hn=>by
   rw[hB.1 t fun e=>by rw[hu t e] at hn;cases hn];exact hi t ns hn
  have hf:=yl A dst e esz bytes z s x;rcases hf rest with J | ⟨B,J,U⟩ | ⟨p,bz,J,U⟩
  ·rw[J] at h;cases h
  ·rw[J] at h;have:bj A dst (.dy e esz bytes z s x) [] (az [])=az [] B:=(show bj A dst (.dy e esz bytes z s x) [] (az [])=bj A dst (.dy e esz bytes z s x) rest (az []) from rfl).trans (J _);rw[this];exact .done ⟨h,sS B U⟩
  ·rw[J] at h;have:bj A dst (.dy e esz bytes z s x) [] (az [])=.any p fun m=>az [] (bz m):=(show bj A dst (.dy e esz bytes z s x) [] (az [])=bj A dst (.dy e esz bytes z s x) rest (az []) from rfl).trans (J _);rw[this];exact .any rfl fun m hm=>.done ⟨h.yi m hm,sS _ (U m)⟩
 |_=>first | exact pure rfl | cases ho
def gv(g:aE)(A:ai)(v:I):Prop:=(gy A g∧v=.undef)∨(pass A g∧bm A g.op=some v)
theorem bO.xE{A:ai}{g:aE}{rest:List aE}(hs':iS g.op=true)(h:bO P Y ab K (az (g::rest) A)):∃ v,gv g A v∧bO P Y ab K (az rest (A.aT g.dst v)):=by
 have step:pass A g→bO P Y ab K (bj A g.dst g.op rest (az rest))→∃ v,gv g A v∧bO P Y ab K (az rest (A.aT g.dst v)):=by
  intro hp h;rw[vU hs'] at h;cases hv:bm A g.op with
  |none=>rw[hv] at h;cases h
  |some v=>rw[hv] at h;exact ⟨v,.inr ⟨hp,hv⟩,h⟩
 simp only[az] at h;split at h
 ·rename_i hg;exact step (by simp only[pass,hg]) h
 ·rename_i t b hg;split at h
  ·rename_i b' hb;split at h
   ·rename_i hbb;subst hbb;exact step (by simp only[pass,hg];exact hb) h
   ·rename_i hbb;exact ⟨_,.inl ⟨by simp only[gy,hg];exact .inl (by rw[hb,uJ hbb]),rfl⟩,h⟩
  ·rename_i hb;exact ⟨_,.inl ⟨by simp only[gy,hg];exact .inr hb,rfl⟩,h⟩
  ·cases h
theorem sf{A:ai}{g:aE}{rest:List aE}(hn:gy A g):az (g::rest) A=az rest (A.aT g.dst .undef):=by
 simp only[az];cases hg:g.guard with
 |none=>simp only[gy,hg] at hn
 |some tb =>
  obtain ⟨t,b⟩:=tb;simp only[gy,hg] at hn;rcases hn with hn | hn
  ·simp only[hn];rw[if_neg (by cases b <;>simp)]
  ·simp only[hn]
theorem gv.to{A:ai}{g:aE}{rest:List aE}{v:I}(hs':iS g.op=true)(h:gv g A v):az (g::rest) A=az rest (A.aT g.dst v):=by
 rcases h with ⟨hn,rfl⟩ | ⟨hp,hv⟩
 ·exact sf hn
 ·rw[nv hp,vU hs',hv];rfl
theorem LW{A A':ai}{p:Nat→Bool}(ho:∀ n,p n=true→A'.o n=A.o n){x:I}(hx:x.only p=true):cK A' x=cK A x:=by
 cases x <;>simp only[cK]
 rename_i n q;rw[ho n (by simpa[I.only] using hx)]
mutual
theorem MO{A A':ai}{p:Nat→Bool}(ho:∀ n,p n=true→A'.o n=A.o n):∀ {x:I},x.only p=true→bh false A' x=bh false A x
 | .own n k,h=>by simp only[bh];rw[ho n (by simpa[I.only] using h)]
 | .func f caps,h=>by simp only[bh];rw[sI ho (xs:=caps) (by simpa[I.only] using h)]
 | .agg fs,h=>by simp only[bh];rw[sI ho (xs:=fs) (by simpa[I.only] using h)]
 | .undef,_ | .du,_ | .bool _,_ | .int _ _,_ | .bQ _,_ | .nilp,_ | .dA,_ | .dY,_ | .any,_ | .raw _,_ | .nils _,_ | .c0 _,_ | .slice _ _,_ | .tuple _,_ | .ref _,_ | .iface _ _,_ | .ptr _ _,_ | .view _ _ _ _ _,_ | .mref _,_ | .dk _,_ | .df _ _,_=>by simp[bh]
theorem sI{A A':ai}{p:Nat→Bool}(ho:∀ n,p n=true→A'.o n=A.o n):∀ {xs:List I},I.ct p xs=true→b6 false A' xs=b6 false A xs
 | [],_=>rfl
 |x::xs,h=>by
  simp only[I.ct,t8] at h;simp only[b6,MO ho h.1,sI ho h.2]
end
theorem CP{p:Nat→Bool}{f:aO→I} : ∀ {xs:List aO},(∀ x∈xs,(f x).only p=true)→I.ct p (xs.map f)=true
 | [],_=>rfl
 |x::xs,h=>by
  simp only[Z4,I.ct,t8];exact ⟨h x (by simp),CP fun y hy=>h y (by simp[hy])⟩
theorem VZ{A A':ai}{p:Nat→Bool}(ho:∀ n,p n=true→A'.o n=A.o n){x:I}(hx:x.only p=true):gb A' x=gb A x:=by
 cases x with
 |mref n=>simp only[gb];rw[ho n (by simpa[I.only] using hx)]
 |raw v=>cases v <;>first | rfl | (rename_i o;cases o <;>rfl)
 |_=>rfl
theorem Xy{A A':ai}{op:bT}{xs:List Nat}{p:Nat→Bool}(hm:mK op=some xs)(h:eg A A' op.c7)(hx:∀ s∈xs,(A.t s).only p=true)(ho:∀ n,p n=true→A'.o n=A.o n):bm A' op=bm A op:=by
 have jN:op.gE=0→bm A' op=bm A op:=fun hc=>w4 hc h;have dl:=fun {x:I} (hx:x.only p=true)=>LW ho hx;unfold mK at hm;split at hm
 ·rename_i s x;simp only[v6] at hm;subst hm;have e:=h x (by simp[bT.c7,aO.sl]);simp only[bm,ak,e,dl (hx x (by simp))]
 ·rename_i f off x;simp only[v6] at hm;subst hm;have e:=h x (by simp[bT.c7,aO.sl]);have k:=hx x (by simp);simp only[bm,ak,e];generalize A.t x=u at k ⊢;cases u with
  |ptr n q=>simp only[dl (x:=.ptr n q) k]
  |ref c=>cases c <;>rfl
  |_=>rfl
 ·rename_i n esz x i;simp only[v6] at hm;subst hm;have e:=h x (by simp[bT.c7,aO.sl]);have ei:=da (x:=i) (fun m hm=>h m (by simp[bT.c7,hm]));have k:=hx x (by simp);simp only[bm,ei];generalize ak A i=w;simp only[ak,e];generalize A.t x=u at k ⊢;cases u with
  |ptr n q=>simp only[dl (x:=.ptr n q) k]
  |ref c=>cases c <;>rfl
  |_=>rfl
 ·rename_i esz x i;simp only[v6] at hm;subst hm;have e:=h x (by simp[bT.c7,aO.sl]);have ei:=da (x:=i) (fun m hm=>h m (by simp[bT.c7,hm]));have k:=hx x (by simp);simp only[bm,ei];generalize ak A i=w;simp only[ak,e];generalize A.t x=u at k ⊢;cases u with
  |own n l=>simp only[ho n (by simpa[I.only] using k)]
  |view n q=>simp only[dl (x:=.ptr n q) (by simpa[I.only] using k)]
  |_=>rfl
 ·rename_i x;simp only[v6] at hm;subst hm;have e:=h x (by simp[bT.c7,aO.sl]);have k:=hx x (by simp);simp only[bm,ak,e];generalize A.t x=u at k ⊢;cases u with
  |own n l=>simp only[ho n (by simpa[I.only] using k)]
  |_=>rfl
 ·rename_i n esz x;simp only[v6] at hm;subst hm;have e:=h x (by simp[bT.c7,aO.sl]);have k:=hx x (by simp);simp only[bm,ak,e];generalize A.t x=u at k ⊢;cases u with
  |ptr n q=>simp only[dl (x:=.ptr n q) k]
  |ref c=>cases c <;>rfl
  |_=>rfl
 ·rename_i esz x lo hi mx;simp only[v6] at hm;subst hm;have e:=h x (by simp[bT.c7,aO.sl]);have e1:=oU (x:=lo) (fun m hm=>h m (by simp[bT.c7,hm]));have e2:=oU (x:=hi) (fun m hm=>h m (by simp[bT.c7,hm]));have e3:=oU (x:=mx) (fun m hm=>h m (by simp[bT.c7,hm]));have k:=hx x (by simp);simp only[bm,e1,e2,e3];generalize lo.map (ak A)=w1;generalize hi.map (ak A)=w2;generalize mx.map (ak A)=w3;simp only[ak,e];generalize A.t x=u at k ⊢;cases u with
  |view n q=>simp only[dl (x:=.ptr n q) (by simpa[I.only] using k)]
  |_=>rfl
 ·rename_i x;simp only[v6] at hm;subst hm;have e:=h x (by simp[bT.c7,aO.sl]);have k:=hx x (by simp);simp only[bm,ak,e];generalize A.t x=u at k ⊢;cases u with
  |view n q=>simp only[dl (x:=.ptr n q) (by simpa[I.only] using k)]
  |_=>rfl
 ·rename_i ty z ok x kk;simp only[v6] at hm;subst hm;have e:=h x (by simp[bT.c7,aO.sl]);have ek:=da (x:=kk) (fun m hm=>h m (by simp[bT.c7,hm]));have k:=hx x (by simp);simp only[bm,ek];generalize ak A kk=w;simp only[ak,e,VZ ho k]
 ·rename_i esz ps;split at hm
  case isFalse=>cases hm
  rename_i hall;simp only[v6] at hm;subst hm;have hev:ps.map (ak A')=ps.map (ak A):=lJ h;have hon:I.ct p (ps.map (ak A))=true:=CP fun x hx'=>by
   have J:=zz4.1 hall x hx';cases x with
   |c _=>cases J
   |t s=>exact hx s (by simp only[jD,List.mem_flatMap];exact ⟨_,hx',by simp[aO.sl]⟩)
  simp only[bm,hev,sI ho hon]
 ·rfl
 ·split at hm
  ·rename_i hc;exact jN hc.1
  ·cases hm
theorem yj{L:eb}{A:ai}{g:aE}{p:Nat→Bool}(hi:cW L A)(h:sg L g p=true):∃ xs,mK g.op=some xs∧∀ s∈xs,(A.t s).only p=true:=by
 unfold sg at h;split at h
 case h_2=>cases h
 rename_i xs hm;refine ⟨xs,hm,fun s hs' =>?_⟩;have J:=zz4.1 h s hs';split at J
 case h_2=>cases J
 rename_i ns hn;exact iL (fun n U=>zz4.1 J n (by simpa using U)) _ (hi s ns hn)
theorem gv.wk{A A':ai}{g:aE}{v:I}{xs:List Nat}{p:Nat→Bool}(h:gv g A v)(hm:mK g.op=some xs)(ha:eg A A' g.c7)(hx:∀ s∈xs,(A.t s).only p=true)(ho:∀ n,p n=true→A'.o n=A.o n):gv g A' v:=by
 rcases h with ⟨h,rfl⟩ | ⟨h,k⟩
 ·exact .inl ⟨pA ha h,rfl⟩
 ·exact .inr ⟨mN ha h,by rw[Xy hm (aE.jW ha) hx ho];exact k⟩
theorem gv.sS{L:eb}{A:ai}{g:aE}{v:I}(hi:cW L A)(hg:hZ L g=true)(h:gv g A v):cW L (A.aT g.dst v):=by
 rcases h with ⟨_,rfl⟩ | ⟨_,k⟩
 ·exact hi.put (fun _=>rfl) fun _ _ _ _=>rfl
 ·exact hi.put (fun _=>rfl) (CL hi hg k)
theorem gv.cT{A A':ai}{g:aE}{v:I}(h:gv g A v)(hu:er A A')(ha:eg A A' g.c7):gv g A' v:=by
 rcases h with ⟨h,rfl⟩ | ⟨h,k⟩
 ·exact .inl ⟨pA ha h,rfl⟩
 ·exact .inr ⟨mN ha h,Da hu (aE.jW ha) k⟩
theorem BT{L:eb}{g h:aE}(hi:mD ab L g h=true):iS g.op=true∧nW ab L g h=true∧(∀ d,g.dst=some d→d∉h.c7)∧(∀ d,g.dst=some d→h.dst≠some d)∧(∀ d,h.dst=some d→d∉g.c7):=by
 simp only[mD,t8] at hi;obtain ⟨J,U,ah,ar⟩:=hi;refine ⟨J,U,fun d af =>?_,fun d af =>?_,fun d af =>?_⟩
 ·rw[af] at ah;simp at ah;exact ah.1
 ·rw[af] at ah;simp at ah;exact ah.2
 ·rw[af] at ar;simpa using ar
theorem ym{aN:Bool}{A A':ai}{ρ:List (Nat×Nat)}{os:List (Nat×aq)}(hu:er A A'):∀ {xs cs:List I},gN aN A ρ os xs cs→gN aN A' ρ os xs cs
 | [],[],_=>trivial
 |x::xs,c::cs,h=>⟨h.1.imp id fun h=>AW hu h,ym hu h.2⟩
 | [],_::_,h=>h.elim
 |_::_,[],h=>h.elim
theorem V9{A:ai}{d:Option Nat}{v:I}{ts:List (Nat×I)}{os:List (Nat×aq)}(h:A.aT d v=au ts os):∃ ts2,A=au ts2 os∧∀ X:List (Nat×aq),(au ts2 X).aT d v=au ts X:=by
 cases d with
 |none=>exact ⟨ts,h,fun _=>rfl⟩
 |some d =>
  have ht:∀ k,(A.aT (some d) v).t k=bW ts k:=fun k=>by rw[h];rfl
  have ho:A.o=aj os:=by
   have:(A.aT (some d) v).o=aj os:=by rw[h];rfl
   rwa [ir] at this
  refine ⟨(d,A.t d)::ts,?_,fun X =>?_⟩
  ·cases A with
   |mk t o =>
    simp only[au,ai.mk.injEq];refine ⟨funext fun k =>?_,ho⟩;have:=ht k;simp only[ai.aT,ai.put] at this;simp only[bW];by_cases hk:k=d
    ·subst hk;simp
    ·rw[if_neg hk] at this;have hk':¬ d=k:=fun e=>hk e.symm;simp only[hk,if_false];exact this
  ·simp only[ai.aT,ai.put,au,ai.mk.injEq,and_true]
   funext k
   have:=ht k;simp only[ai.aT,ai.put] at this;by_cases hk:k=d
   ·subst hk;simp at this ⊢;exact this
   ·have hk':¬ d=k:=fun e=>hk e.symm;simp only[bW,hk,if_false]
theorem Xx{ρ:List (Nat×Nat)}{os0 os':List (Nat×aq)}{r:I}(hb:gC false ρ [] os0 r os'){n:Nat}{x:aq}(hx:aj os0 n=some x):aj (dB ρ os'++os0) n=some x:=by
 rw[qM];cases hp:pre ρ os' n with
 |none=>exact hx
 |some m =>
  obtain ⟨J,U⟩:=kZ hp;have:=(hb.px m J (by simp[aw,aj])).1;rw[U,hx] at this;cases this
theorem bO.IY{A B:ai}{j:aE}{v:I}{f:FuncId}{args:List aO}{dst:Option Nat}{rest:List aE}(hj:iS j.op=true)(hv:gv j A v)(hB:B=A.aT j.dst v)(hf:ab.contains f=false)(hag:eg A B (jD args))(af:∀ d,j.dst=some d→dst≠some d)(hr:∀ d,dst=some d→d∉j.c7)
  (h:bO P Y ab K (.call f (args.map (ak B)) (b6 true B (args.map (ak B))) (b6 false B (args.map (ak B))) dst rest B)):bO P Y ab K (.call f (args.map (ak A)) (b6 true A (args.map (ak A))) (b6 false A (args.map (ak A))) dst (j::rest) A):=by
 have eo:B.o=A.o:=by rw[hB,ir]
 have cT:er B A:=fun n x hx=>by rwa [←eo]
 have up':er A B:=fun n x hx=>by rwa [eo]
 have eav:args.map (ak B)=args.map (ak A):=lJ hag;rw[eav] at h;have cont:∀ r:I,bO P Y ab K (az rest (B.aT dst r))→bO P Y ab K (az (j::rest) (A.aT dst r)):=fun r hw=>by
  have J:gv j (A.aT dst r) v:=hv.cT (fun n x hx=>by rwa [ir]) (lY hr);rw[J.to hj,pJ (fun d hd'=>fun e=>af d e hd'),←hB];exact hw
 generalize e1:b6 true B (args.map (ak A))=a1 at h;generalize e2:b6 false B (args.map (ak A))=a2 at h;generalize hBm:B=B0 at h;cases h with
 |flat r hc hfl hw =>
  subst hBm;rw[kW cT e1];exact .flat r hc hfl (cont r hw)
 |lead r hc hw =>
  subst hBm;rw[kW cT e2];exact .lead r hc (cont r hw)
 |bP ρ cargs post hc hg ha hb hw =>
  rename_i ts os0;rw[hB] at hBm;obtain ⟨ts2,hA,hts⟩:=V9 hBm;have hA':=hA;clear cont;subst hA;refine .bP ρ cargs post hc hg (ym (A:=au ts os0) (A':=au ts2 os0) (fun n x hx=>hx) ha) hb fun r os' hp =>?_;have J:gv j ((au ts2 (dB ρ os'++os0)).aT dst (r.bl (bI ρ))) v:=hv.cT (fun n x hx=>by
   rw[ir];exact Xx (hb r os' hp) hx) (fun k hk=>by
    have:=lY (A:=au ts2 (dB ρ os'++os0)) (v:=r.bl (bI ρ)) hr k hk;rw[this];rfl)
  rw[J.to hj,pJ (fun d hd'=>fun e=>af d e hd'),hts];exact hw r os' hp
 |wK aN ρ os cargs post hfs =>
  rw[hf] at hfs;cases hfs
theorem bO.rM{L:eb}{A:ai}{j g:aE}{rest:List aE}(hinv:cW L A)(hi:mD ab L j g=true)(hw:bO P Y ab K (az (j::g::rest) A)):bO P Y ab K (az (g::j::rest) A):=by
 obtain ⟨hj,ao,i1,i2,i3⟩:=BT hi;obtain ⟨v,hv,hw⟩:=bO.xE hj hw;have ag:eg (A.aT j.dst v) A g.c7:=(lY i1).symm;have ag':eg A (A.aT j.dst v) g.c7:=lY i1;have cT:er (A.aT j.dst v) A:=fun n x hx=>by rwa [ir] at hx
 have up':∀ (d:Option Nat) (u:I),er A (A.aT d u):=fun d u n x hx=>by rwa [ir]
 by_cases hsg:iS g.op=true
 ·obtain ⟨u,hu,hw⟩:=bO.xE hsg hw;rw[(hu.cT cT ag).to hsg,(hv.cT (up' _ _) (lY i3)).to hj,←pJ i2];exact hw
 ·-- the guard
  have guard:(gy (A.aT j.dst v) g∧az (g::rest) (A.aT j.dst v)=az rest ((A.aT j.dst v).aT g.dst .undef))∨(pass (A.aT j.dst v) g∧az (g::rest) (A.aT j.dst v)=bj (A.aT j.dst v) g.dst g.op rest (az rest))∨az (g::rest) (A.aT j.dst v)=.fail:=by
   cases hg:g.guard with
   |none=>exact .inr (.inl ⟨by simp only[pass,hg],by simp only[az,hg]⟩)
   |some tb =>
    obtain ⟨t,b⟩:=tb;cases ht:(A.aT j.dst v).t t with
    |bool b' =>
     by_cases hbb:b'=b
     ·subst hbb;have hp:pass (A.aT j.dst v) g:=by simp only[pass,hg,ht]
      exact .inr (.inl ⟨hp,nv hp⟩)
     ·have hn:gy (A.aT j.dst v) g:=by simp only[gy,hg];exact .inl (by rw[ht,uJ hbb])
      exact .inl ⟨hn,sf hn⟩
    |undef =>
     have hn:gy (A.aT j.dst v) g:=by simp only[gy,hg];exact .inr ht
     exact .inl ⟨hn,sf hn⟩
    |_=>exact .inr (.inr (by simp only[az,hg,ht]))
  rcases guard with ⟨hn,he⟩ | ⟨hp,he⟩ | he
  ·rw[he] at hw;rw[sf (pA ag hn),(hv.cT (up' _ _) (lY i3)).to hj,←pJ i2];exact hw
  ·rw[he] at hw;rw[nv (mN ag hp)];obtain ⟨dst,op,gd⟩:=g;simp only at hw hsg i2 i3 ⊢;cases op with
   |alloc z =>
    cases dst with
    |none=>simp only[bj] at hw;cases hw
    |some d =>
    simp only[bj] at hw ⊢;split at hw
    case h_2=>cases hw
    rename_i ho;rw[ir] at ho;simp only[ho];have J:gv j ((A.aV d (.box z)).put d (.ptr d [])) v:=hv.cT (fun n y hy=>by
     have:n≠d:=fun he=>by rw[he,ho] at hy;cases hy
     simp only[ai.put,ai.aV,this,if_false];exact hy) (fun k hk=>by
     have:k≠d:=fun he=>i3 d rfl (he▸hk);simp only[ai.put,ai.aV,this,if_false])
    rw[J.to hj];have e:((A.aT j.dst v).aV d (.box z)).put d (.ptr d [])=((A.aV d (.box z)).put d (.ptr d [])).aT j.dst v:=by
     cases hgd:j.dst with
     |none=>rfl
     |some e =>
      have hne:e≠d:=fun he=>i2 e hgd (by rw[he]);simp only[ai.aT,ai.put,ai.aV,ai.mk.injEq,and_true]
      funext k
      by_cases J:k=e <;>by_cases U:k=d <;>simp_all
    rw[←e];exact hw
   |box x =>
    have ex:ak (A.aT j.dst v) x=ak A x:=da (aE.jW ag');cases dst with
    |none=>simp only[bj] at hw;cases hw
    |some d =>
    simp only[bj] at hw ⊢;split at hw
    case h_2=>cases hw
    rename_i ho;rw[ir] at ho;simp only[ho];rw[ex] at hw;split at hw
    case isFalse=>cases hw
    rename_i hval;rw[if_pos hval];have J:gv j ((A.aV d (.box (ak A x))).put d (.ptr d [])) v:=hv.cT (fun n y hy=>by
     have:n≠d:=fun he=>by rw[he,ho] at hy;cases hy
     simp only[ai.put,ai.aV,this,if_false];exact hy) (fun k hk=>by
     have:k≠d:=fun he=>i3 d rfl (he▸hk);simp only[ai.put,ai.aV,this,if_false])
    rw[J.to hj];have e:((A.aT j.dst v).aV d (.box (ak A x))).put d (.ptr d [])=((A.aV d (.box (ak A x))).put d (.ptr d [])).aT j.dst v:=by
     cases hgd:j.dst with
     |none=>rfl
     |some e =>
      have hne:e≠d:=fun he=>i2 e hgd (by rw[he]);simp only[ai.aT,ai.put,ai.aV,ai.mk.injEq,and_true]
      funext k
      by_cases J:k=e <;>by_cases U:k=d <;>simp_all
    rw[←e];exact hw
   |call f args =>
    simp only[bj] at hw ⊢;refine bO.IY hj hv rfl (by simpa[nW,po] using ao) (aE.jW ag') i2 i3 hw
   |a8 s y u =>
    cases dst with
    |some d=>simp only[bj] at hw;cases hw
    |none =>
    have ey:ak (A.aT j.dst v) y=ak A y:=da (aE.jW ag').l;have eu:ak (A.aT j.dst v) u=ak A u:=da (aE.jW ag').r;simp only[bj] at hw ⊢;rw[ey,eu,ir] at hw;cases hx:ak A y <;>simp only[hx] at hw ⊢ <;>try (cases hw;done)
    rename_i n q;cases ho:A.o n with
    |none=>rw[ho] at hw;cases hw
    |some ob =>
    rw[ho] at hw;cases ob <;>simp only at hw ⊢ <;>try (cases hw;done)
    rename_i b;cases hb:b.at q with
    |none=>rw[hb] at hw;cases hw
    |some old =>
    rw[hb] at hw;simp only at hw ⊢;split at hw
    case isFalse=>cases hw
    rename_i hok;rw[if_pos hok];have J:gv j (A.aV n (.box (b.eB q (ak A u)))) v:=by
     have none0:mK j.op=some []→gv j (A.aV n (.box (b.eB q (ak A u)))) v:=fun hm=>hv.wk (p:=fun _=>false) hm (fun _ _=>rfl) (fun s hs'=>by cases hs') (fun m hm=>by cases hm);cases y with
     |c y =>
      simp only[nW,po,iS,Bool.false_or] at ao;split at ao
      ·rename_i hm;exact none0 hm
      ·cases ao
     |t y =>
      simp only[nW,po,iS,Bool.false_or] at ao;split at ao
      ·rename_i hm;exact none0 hm
      ·split at ao
       case h_2=>cases ao
       rename_i ms hms;obtain ⟨xs,hm,hx2⟩:=yj hinv ao;refine hv.wk hm (fun _ _=>rfl) hx2 fun m hm2 =>?_;have hn:=hinv y ms hms;simp only[ak] at hx;rw[hx] at hn;have:m≠n:=fun e=>by subst e;simp[I.only] at hn hm2;exact hm2 hn
       simp only[ai.aV,if_neg this]
    rw[J.to hj];have e:(A.aT j.dst v).aV n (.box (b.eB q (ak A u)))=(A.aV n (.box (b.eB q (ak A u)))).aT j.dst v:=by cases j.dst <;>rfl
    rw[←e];exact hw
   |dy e esz bytes z s x =>
    have hag:eg A (A.aT j.dst v) (s.sl++x.sl):=aE.jW ag';have he2:bj (A.aT j.dst v) dst (.dy e esz bytes z s x) rest (az rest)=bj A dst (.dy e esz bytes z s x) (j::rest) fun B=>az rest (B.aT j.dst v):=by
     cases hjd:j.dst with
     |none=>rfl
     |some d =>
      rw[hjd] at hag;exact Hc (fun e=>i2 d hjd e) hag rest (j::rest) (az rest)
    rw[he2] at hw;have iE:∀ B,gu A dst (ak A s) B→az (j::rest) B=az rest (B.aT j.dst v):=fun B hB=>by
     have hagB:eg A B j.c7:=fun k hk=>hB.1 k fun e=>i3 k e hk;have:gv j B v:=by
      simp only[nW,po,iS,Bool.false_or,Bool.or_eq_true] at ao;rcases ao with ao | ao
      ·obtain ⟨xs,hm,hx2⟩:=yj hinv ao;exact hv.wk hm hagB hx2 fun m hm2=>by cases hm2
      ·have:=rK hinv ao;exact hv.cT (hB.2 (by simpa using this)) hagB
     rw[this.to hj]
    rcases yl A dst e esz bytes z s x (j::rest) with J | ⟨B,J,U⟩ | ⟨p,bz,J,U⟩
    ·rw[J] at hw;cases hw
    ·rw[J] at hw ⊢;rw[iE B U];exact hw
    ·rw[J] at hw ⊢;exact .any fun m hm=>by rw[iE _ (U m)];exact hw.yi m hm
   |_=>first | exact absurd rfl hsg | (simp[nW,po,iS] at ao)
  ·rw[he] at hw;cases hw
theorem bO.nx{L:eb}{g:aE} : ∀ {l:List aE} {r:List aE} {A:ai},cW L A→(∀ j∈l,mD ab L j g=true∧hZ L j=true)→bO P Y ab K (az (l++g::r) A)→bO P Y ab K (az (g::(l++r)) A)
 | [],r,A,_,_,h=>h
 |j::l,r,A,hinv,hi,h=>by
  have hj:=(BT (hi j (by simp)).1).1;obtain ⟨v,hv,U⟩:=bO.xE (g:=j) (rest:=l++g::r) hj h;have ah:=bO.nx (l:=l) (r:=r) (hv.sS hinv (hi j (by simp)).2) (fun k hk=>hi k (by simp[hk])) U;refine bO.rM hinv (hi j (by simp)).1 ?_;rw[hv.to hj];exact ah
end
def qV:List Nat→Bool
 | []=>true
 |a::l => !l.contains a&&qV l
def pY(ab:List FuncId)(L:eb)(gs:List aE)(cl:List Nat):List Nat→List Nat→Bool
 |_,[]=>true
 |before,i::σ=>(before.all fun j=>(cl.getD i 0).testBit j||mD ab L (gs.getD j default) (gs.getD i default))&&pY ab L gs cl (i::before) σ
def tu(ab:List FuncId)(L:eb)(on:List (List Nat))(gs:List aE)(cl:List Nat)(σ:List Nat):Bool :=
 (Nat.beq σ.length gs.length&&(qV σ&&(σ.all (fun i=>decide (i<gs.length))&&((List.range gs.length).all (fun i=>σ.contains i)&&gs.all fun g=>mL g.op&&hZ L g))))&&(pY ab L gs cl [] σ&&(List.range gs.length).all fun i=>(on.getD i []).all (fun k=>decide (k<i))&&Nat.beq (cl.getD i 0) (lx cl (on.getD i [])))
theorem wH:∀ {l:List Nat},qV l=true→l.Nodup
 | [],_=>List.nodup_nil
 |a::l,h=>by
  simp only[qV,t8,Bool.not_eq_true',List.contains_eq_mem,decide_eq_false_iff_not] at h;exact List.nodup_cons.2 ⟨h.1,wH h.2⟩
theorem uz{ab:List FuncId}{L:eb}{gs:List aE}{cl:List Nat} : ∀ {σ before:List Nat},pY ab L gs cl before σ=true→∀ s1 i s2,σ=s1++i::s2→∀ j,j∈before∨j∈s1→(cl.getD i 0).testBit j=true∨mD ab L (gs.getD j default) (gs.getD i default)=true
 | [],_,_,s1,i,s2,e,_,_=>by cases s1 <;>cases e
 |a::σ,before,h,s1,i,s2,e,j,hj=>by
  simp only[pY,t8,zz4,Bool.or_eq_true] at h;cases s1 with
  |nil =>
   simp only[List.nil_append,zx2] at e;obtain ⟨rfl,rfl⟩:=e;rcases hj with hj | hj
   ·exact h.1 j hj
   ·cases hj
  |cons b s1 =>
   simp only[Z9,zx2] at e;obtain ⟨rfl,rfl⟩:=e;refine uz h.2 s1 i s2 rfl j ?_;rcases hj with hj | hj
   ·exact .inl (List.mem_cons_of_mem _ hj)
   ·rcases zx3.1 hj with hj | hj
    ·exact .inl (by rw[hj];exact List.mem_cons_self)
    ·exact .inr hj
def dZ(σ:List Nat)(listed:Array Bool):List Nat:=σ.filter fun i => !listed.getD i true
def gz(gs:List aE)(σ:List Nat)(listed:Array Bool):List aE:=(dZ σ listed).map fun i=>gs.getD i default
theorem xd{σ:List Nat}{listed:Array Bool}{i:Nat}(hn:σ.Nodup)(hi:i∈σ)(ao:i<listed.size)(hu:listed.getD i true=false):∃ s1 s2,σ=s1++i::s2∧dZ σ listed=(s1.filter fun j => !listed.getD j true)++i::(s2.filter fun j => !listed.getD j true) ∧
  dZ σ (listed.setIfInBounds i true)=(s1.filter fun j => !listed.getD j true)++(s2.filter fun j => !listed.getD j true):=by
 obtain ⟨s1,s2,rfl⟩:=List.append_of_mem hi;have same:∀ j,j≠i→(listed.setIfInBounds i true).getD j true=listed.getD j true:=fun j hj=>getD_set_ne true (Ne.symm hj);have hit:(listed.setIfInBounds i true).getD i true=true:=by simp[ao]
 have hnd:=List.nodup_append.1 hn;have J:∀ j∈s1,j≠i:=fun j hj=>hnd.2.2 j hj i List.mem_cons_self;have U:∀ j∈s2,j≠i:=fun j hj e=>(List.nodup_cons.1 hnd.2.1).1 (e▸hj);refine ⟨s1,s2,rfl,?_,?_⟩
 ·simp only[dZ,List.filter_append,List.filter_cons,hu,Bool.not_false,if_true]
 ·simp only[dZ,List.filter_append,List.filter_cons,hit,Bool.not_true,Z2,if_false]
  congr 1
  ·exact List.filter_congr fun j hj=>by rw[same j (J j hj)]
  ·exact List.filter_congr fun j hj=>by rw[same j (U j hj)]
structure ya (ab:List FuncId) (L:eb) (l:List Oper) (gs:List aE) (σ:List Nat):Prop where
 nS:σ.Nodup
 lt:∀ i∈σ,i<gs.length
 all:∀ i,i<gs.length→i∈σ
 ok:∀ g∈gs,mL g.op=true∧hZ L g=true
 len:σ.length=gs.length
 iA:∀ i o,l[i]?=some o→∀ k∈cj o,k<i
 pc:∀ (S:Nat→Prop),(∀ i o,l[i]?=some o→S i→∀ k∈cj o,S k)→∀ s1 i s2 o,σ=s1++i::s2→l[i]?=some o→(∀ k∈cj o,S k)→∀ j∈s1,¬ S j→mD ab L (gs.getD j default) (gs.getD i default)=true
theorem Xm{ab:List FuncId}{L:eb}{l:List Oper}{gs:List aE}{cl σ:List Nat}(hlen:gs.length=l.length)(h:tu ab L (l.map cj) gs cl σ=true):ya ab L l gs σ:=by
 simp only[tu,t8,zz4,decide_eq_true_eq,zx0,List.contains_eq_mem] at h;obtain ⟨⟨J,U,ah,ar,h5⟩,h6,h7⟩:=h;have fK:∀ i o,l[i]?=some o→(∀ k∈cj o,k<i)∧(∀ j,(cl.getD i 0).testBit j=true→j∈cj o∨∃ k∈cj o,(cl.getD k 0).testBit j=true):=by
  intro i o ho;have hi:i<l.length:=(Z5.1 ho).1;have h8:=h7 i (by omega);have hon:(l.map cj).getD i []=cj o:=by simp[Z0,ho]
  rw[hon] at h8;have hb:=Nat.eq_of_beq_eq_true h8.2;exact ⟨h8.1,fun j hj=>rQ (by rw[←hb];exact hj)⟩
 refine ⟨wH U,ah,ar,h5,Nat.eq_of_beq_eq_true J,fun i o ho=>(fK i o ho).1,?_⟩;intro S hS s1 i s2 o e ho hon j hj hnj;have key:∀ n i o,i≤n→l[i]?=some o→(∀ k∈cj o,S k)→∀ j,(cl.getD i 0).testBit j=true→S j:=by
  intro n
  induction n with
  |zero =>
   intro i o hi ho hon j hj;obtain ⟨h8,h9⟩:=fK i o ho;rcases h9 j hj with h | ⟨k,hk,_⟩
   ·exact hon j h
   ·have:=h8 k hk;omega
  |succ n ih =>
   intro i o hi ho hon j hj;obtain ⟨h8,h9⟩:=fK i o ho;rcases h9 j hj with h | ⟨k,hk,hjk⟩
   ·exact hon j h
   ·have hki:=h8 k hk;have hkl:k<l.length:=Nat.lt_trans hki (Z5.1 ho).1;obtain ⟨ok,hok⟩:∃ ok,l[k]?=some ok:=⟨l[k],Y7 hkl⟩
    exact ih k ok (by omega) hok (hS k ok hok (hon k hk)) j hjk
 rcases uz h6 s1 i s2 e j (.inr hj) with h | h
 ·exact absurd (key i i o (Z3 _) ho hon j h) hnj
 ·exact h
section
variable {c:cV}
theorem sK{K:ai→Prop}{ab:List FuncId}{L:eb}{aS:Array Oper}{Q:Exit→Act→World→Prop}{o:Oper}{g:aE}{rest:List aE}{A:ai}{a:Act}{w:World}{Kw:Act→World→Prop}(hg:lG c.P c.n aS o=some g)(hi:cW L A)(ho:mL g.op=true∧hZ L g=true)(hwp:bO c.P c.Y ab K (az (g::rest) A))(hs':bX c A a w)
  (hK:∀ B a' w',bO c.P c.Y ab K (az rest B)→cW L B→bX c B a' w'→Kw a' w'):if Region.wanted o (yielded aS a.tmps) then o.wpIn c.bz 9 c.P a w Kw Q else (∀ f,o.about c.P w a.eval=some f→c.bz.fn f)∧Kw (a.put o.dst undef) w:=by
 obtain ⟨J,U,ah,ar⟩:=ny hg;have step:bO c.P c.Y ab K (bj A g.dst g.op rest (az rest))→o.wpIn c.bz 9 c.P a w Kw Q:=fun h =>
  sL J U.symm (by rw[U];exact ah) (bO.one (Y:=c.Y) hi ho.1 ho.2 h) hs' (fun B a' w' hw hs2=>by
   cases hw with
   |done hk=>exact hK B a' w' hk.1 hk.2 hs2)
 simp only[az] at hwp;rcases ar with ⟨h5,h6⟩ | ⟨j,b,t,h5,h6,h7⟩
 ·rw[h6] at hwp;have hw:Region.wanted o (yielded aS a.tmps)=true:=by simp[Region.wanted,h5]
  rw[hw,if_pos rfl];exact step hwp
 ·rw[h7] at hwp;simp only at hwp;split at hwp
  ·rename_i b' hb';rw[sP hs' h5 h6 hb'];split at hwp
   ·rename_i hbb;subst hbb;simp only[BEq.rfl,if_true];exact step hwp
   ·rename_i hbb;have:(b'==b)=false:=by simpa using hbb
    rw[this];simp only[Z2,if_false];exact ⟨fun f _=>lO c f,hK _ _ _ hwp (hi.put (fun _=>rfl) fun _ _ _ _=>rfl) (by rw[U];exact hs'.mS ah)⟩
  ·rename_i hb';rw[sQ hs' h5 h6 hb'];simp only[Z2,if_false];exact ⟨fun f _=>lO c f,hK _ _ _ hwp (hi.put (fun _=>rfl) fun _ _ _ _=>rfl) (by rw[U];exact hs'.mS ah)⟩
  ·cases hwp
theorem GZ{K:ai→Prop}{fs:List FuncId}{L:eb}{aS:Array Oper}{gs:List aE}{σ:List Nat}{Q:Exit→Act→World→Prop}(hQ:∀ B a w,K B→bX c B a w→Q .normal a w)(hgs:fP c.P c.n aS aS.toList=some gs)(af:ya fs L aS.toList gs σ) :
  ∀ (fuel:Nat) (listed:Array Bool) (A:ai) (a:Act) (w:World),listed.size=aS.size→(∀ i o,aS.toList[i]?=some o→listed.getD i false=true→∀ k∈cj o,listed.getD k false=true)→(dZ σ listed).length≤fuel →
   cW L A→bO c.P c.Y fs K (az (gz gs σ listed) A)→bX c A a w→wpAnyIn c.bz 9 c.P .any aS Q fuel listed a w:=by
 obtain ⟨hlen,hat⟩:=iB hgs;have onOf_mem:∀ (o:Oper) (e:Edge),e∈o.after→Region.binds .any e=true→e.on∈cj o:=fun o e he hb=>by
  simp only[cj,zz5,zy3];exact ⟨e,⟨by simpa using he,hb⟩,rfl⟩
 have of_onOf:∀ (o:Oper) (k:Nat),k∈cj o→∃ e∈o.after,Region.binds .any e=true∧e.on=k:=fun o k hk=>by
  simp only[cj,zz5,zy3] at hk;obtain ⟨e,⟨J,U⟩,ah⟩:=hk;exact ⟨e,by simpa using J,U,ah⟩
 have hgl:gs.length=aS.size:=by rw[hlen,zz6]
 have last:∀ (listed:Array Bool) (A:ai) (a:Act) (w:World),listed.size=aS.size→Region.ready .any aS listed=[]→bO c.P c.Y fs K (az (gz gs σ listed) A)→bX c A a w→Q .normal a w:=by
  intro listed A a w hsz hr hwp ab;have hnone:dZ σ listed=[]:=by
   have all:∀ n,∀ i,i<n→i<aS.size→listed.getD i true=true:=by
    intro n
    induction n with
    |zero=>intro i hi;omega
    |succ n ih =>
     intro i hi his;cases hb:listed.getD i true with
     |true=>rfl
     |false =>
      exfalso
      have ho:aS[i]?=some aS[i]:=zy7 his;have:i∈Region.ready .any aS listed:=mem_ready.2 ⟨hb,aS[i],ho,fun e he hbd=>by
       have hlt:=af.iA i aS[i] (by simp) e.on (onOf_mem _ e he hbd);have J:=ih e.on (by omega) (by omega);have U:e.on<listed.size:=by omega
       simpa[Array.getD_eq_getD_getElem?,U] using J⟩
      rw[hr] at this;cases this
   simp only[dZ];refine List.filter_eq_nil_iff.2 fun i hi =>?_;have:=all (i+1) i (by omega) (by rw[←hgl];exact af.lt i hi);simp only[this,Bool.not_true,Z2,not_false_eq_true]
  simp only[gz,hnone,zy1,az] at hwp;cases hwp with
  |done hk=>exact hQ A a w hk ab
 intro fuel
 induction fuel with
 |zero =>
  intro listed A a w hsz hcl hcnt hinv hwp ab;have hnone:dZ σ listed=[]:=List.length_eq_zero_iff.1 (by omega);have hr:Region.ready .any aS listed=[]:=by
   refine List.eq_nil_iff_forall_not_mem.2 fun i hi =>?_;obtain ⟨J,o,ho,_⟩:=mem_ready.1 hi;have:i∈dZ σ listed:=by
    simp only[dZ,zy3,J,Bool.not_false,and_true];exact af.all i (by rw[hgl];exact (Y4.1 ho).1)
   rw[hnone] at this;cases this
  exact ⟨hr,last listed A a w hsz hr hwp ab⟩
 |succ fuel ih =>
  intro listed A a w hsz hcl hcnt hinv hwp ab;refine ⟨fun hr=>last listed A a w hsz hr hwp ab,fun i hi =>?_⟩;obtain ⟨hun,o,ho,hall⟩:=mem_ready.1 hi;have hin:i<aS.size:=(Y4.1 ho).1;obtain ⟨s1,s2,hσ,e1,e2⟩:=xd af.nS (af.all i (by omega)) (by omega) hun;have hol:aS.toList[i]?=some o:=by simpa using ho
  obtain ⟨g,hgi,hcg⟩:=hat i o hol;have hon:∀ k∈cj o,listed.getD k false=true:=fun k hk=>by
   obtain ⟨e,J,U,ah⟩:=of_onOf o k hk;exact ah▸hall e J U
  have hgd:gs.getD i default=g:=by simp[Z0,hgi]
  have hwp':bO c.P c.Y fs K (az (g::gz gs σ (listed.setIfInBounds i true)) A):=by
   simp only[gz,e1,Y6,Z4,hgd] at hwp;simp only[gz,e2,Y6];refine bO.nx hinv (fun j hj =>?_) hwp;obtain ⟨k,hk,rfl⟩:=zz5.1 hj;obtain ⟨hk1,hk2⟩:=zy3.1 hk;have:=af.pc (fun k=>listed.getD k false=true) hcl s1 i s2 o hσ hol hon k hk1 (by
    have hks:k<listed.size:=by
     have:=af.lt k (by rw[hσ];exact List.mem_append_left _ hk1);omega
    simp[Array.getD_eq_getD_getElem?,hks] at hk2 ⊢;exact hk2)
   rw[hgd] at this;refine ⟨this,(af.ok _ ?_).2⟩;have hkl:=af.lt k (by rw[hσ];exact List.mem_append_left _ hk1);rw[Z0,Y7 hkl];exact List.getElem_mem _
  unfold wpOpIn;rw[ho];refine sK hcg hinv (af.ok g (List.mem_of_getElem? hgi)) hwp' ab fun B a' w' hw hiB hs'=>ih _ B a' w' (by simpa using hsz) ?_ ?_ hiB hw hs'
  ·intro m om hom hm k hk;by_cases hmi:m=i
   ·subst hmi;rw[hol,v6] at hom;subst hom;exact getD_set_true (hon k hk)
   ·rw[getD_set_ne false (Ne.symm hmi)] at hm;exact getD_set_true (hcl m om hom hm k hk)
  ·have:(dZ σ listed).length=(dZ σ (listed.setIfInBounds i true)).length+1:=by
    rw[e1,e2];simp;omega
   omega
def fe(σ:List Nat)(gs:List aE):List aE:=σ.map fun i=>gs.getD i default
theorem ae.XR{Q:Exit→ai→Prop}{A:ai}{on:List (List Nat)}{gs:List aE}(ab:List FuncId)(L:eb)(cl σ:List Nat)(af:tu ab L on gs cl σ=true)(hi:cW L A)(h:∀ K:ai→Prop,(∀ B,Q .normal B→K B)→bO c.P c.Y ab K (az (fe σ gs) A)):ae c (.b8 (some on) gs) Q A:=by
 intro code hc a w hs';cases code <;>simp only[eC] at hc <;>try (first | (cases hc;done) | ((repeat' split at hc) <;>cases hc;done))
 rename_i id aS draw;split at hc
 ·rename_i gs' hgs;split at hc
  case isFalse=>cases hc
  rename_i hok;simp only[v6,bx.b8.injEq] at hc;obtain ⟨he,rfl⟩:=hc;cases draw with
  |false=>cases he
  |true =>
   simp only[cond_true,v6] at he;subst he;simp only[Bool.not_true,Bool.false_or] at hok;have hp:=Xm (iB hgs).1 af;refine wpIn_region_any hok (GZ (K:=Q .normal) (fun B a w hk ab=>⟨B,hk,ab⟩) hgs hp aS.size (Array.replicate aS.size false) A a _ (by simp) ?_ ?_ hi ?_ ?_)
   ·intro i o _ h
    exfalso
    simp only[Array.getD_eq_getD_getElem?,Array.getElem?_replicate] at h;split at h <;>simp at h
   ·refine zx4 (List.length_filter_le _ _) ?_;rw[hp.len,(iB hgs).1,zz6];exact Z3 _
   ·have hall:dZ σ (Array.replicate aS.size false)=σ:=by
     simp only[dZ];refine List.filter_eq_self.2 fun i hi =>?_;have J:=hp.lt i hi;rw[(iB hgs).1,zz6] at J;simp[J]
    simp only[gz,hall];exact h _ fun _ hb=>hb
   ·obtain ⟨D,E,hs'⟩:=hs';exact ⟨D,E,hs'.grow (w' := { w with drawn:=w.drawn+1 }) ⟨rfl,rfl,rfl,Z3 _,fun _ _=>rfl⟩ (fun _ _ h=>h) (fun _ _ h _=>h) (fun b o h=>hs'.aQ b o h)⟩
 ·cases hc
def ft(ts:List (Nat×I)):eb→Prop
 | []=>True
 |(s,ns)::L=>(bW ts s).only (fun n=>ns.contains n)=true∧ft ts L
theorem cW.of{ts:List (Nat×I)}{os:List (Nat×aq)}{L:eb}(h:ft ts L):cW L (au ts os):=by
 intro s ns hn;simp only[au]
 induction L with
 |nil=>cases hn
 |cons q L ih =>
  obtain ⟨s',ns'⟩:=q;simp only[ft] at h;simp only[hX,List.find?_cons] at hn;split at hn
  ·rename_i e;simp only[Z7,v6] at hn;simp only[beq_iff_eq] at e;subst e hn;exact h.1
  ·exact ih h.2 hn
end
end Go.Abs
namespace Go.Abs
open Go Go.RowKit
open Enc (enc)
section
variable {α:Type} [Enc α] {P:Program} {Y:Value→List I→List (Nat×aq)→cF→Prop} {K:ai→Prop} {A:ai} {rest:List aE} {esz bytes:Nat}
theorem tP{n lo k:Nat}{xs:List α}(ho:A.o n=some (.box (.agg (xs.map enc))))(h:lo+k≤xs.length):eK A esz (.view n [] esz lo k)=some (((xs.drop lo).take k).map enc):=by
 have J:cK A (.ptr n [])=some (.agg (xs.map enc)):=by simp only[cK,ho];rfl
 simp only[eK,J,Z8];rw[if_pos ⟨h,trivial⟩,List.map_take,List.map_drop]
theorem Yo{xs ys:List α}(h:xs.length=ys.length):I.cX (xs.map enc)=I.cX (ys.map enc):=by
 rw[xC,xC,h]
theorem yk{d:Option Nat}{e:Nat}(z:I)(ab:Enc.sz α=esz){n l:Nat}{xs ys:List α}(hy:ys≠[])(ho:A.o n=some (.box (.agg (xs.map enc))))(hr:l+ys.length≤xs.length) :
  fO A d e esz bytes z (enc ys) rest (.view n [] esz 0 l)=az rest ((A.aV n (.box (.agg ((xs.take l++(ys++xs.drop (l+ys.length))).map enc)))).aT d (.view n [] esz 0 (l+ys.length))):=by
 have J:=tP (A:=A) (esz:=esz) (lo:=0) (k:=l) ho (by omega);have U:(I.agg (xs.map (enc (α:=α)))).at []=some (.agg (xs.map enc)):=rfl;have ah:I.cX (ys.map (enc (α:=α)))=I.cX (((xs.map (enc (α:=α))).drop l).take ys.length):=by
  rw[←List.map_drop,←List.map_take];exact Yo (by rw[zz8,List.length_drop];omega)
 simp only[fO,J,nd A esz ys ab,e7];rw[if_neg (by simpa using hy)];simp only[ho,U,Z8,Z1];rw[if_pos hr,if_pos ⟨rfl,by rw[Z8,Z1];exact ah⟩];simp only[jh,oj,Z8,Y6,List.map_take,List.map_drop]
theorem aR.G4{d e:Nat}(z:α)(ab:Enc.sz α=esz){n l:Nat}{xs ys:List α}(hy:ys≠[])(ho:A.o n=some (.box (.agg (xs.map enc))))(ao:l≤xs.length)(hr:xs.length<l+ys.length)(hf:A.o d=none)(hb:(l+ys.length)*bytes≤140737488355328)(hml:l+ys.length≤maxLen)
  (h:∀ q,aR P Y false K (az rest ((A.aV d (.box (.agg ((xs.take l++(ys++List.replicate q z)).map enc)))).aT (some d) (.view d [] esz 0 (l+ys.length))))):aR P Y false K (fO A (some d) e esz bytes (enc z) (enc ys) rest (.view n [] esz 0 l)):=by
 have J:=tP (A:=A) (esz:=esz) (lo:=0) (k:=l) ho (by omega);have U:(I.agg (xs.map (enc (α:=α)))).at []=some (.agg (xs.map enc)):=rfl;have ar:(xs.take l).length=l:=by rw[zz8];omega
 simp only[fO,J,List.drop_zero,nd A esz ys ab,e7];rw[if_neg (by simpa using hy)];simp only[ho,U,Z8,Z1];rw[if_neg (by omega)];simp only[fX,hf,Z8,ar];rw[if_pos ⟨hb,hml⟩];refine .any rfl fun q _ =>?_;have:=h q;simp only[Y6,List.map_replicate] at this;exact this
theorem aR.G6{d e q0:Nat}(z:α){l:List α}(ab:Enc.sz α=esz)(ao:l≠[])(hf:A.o d=none)(hb:l.length*bytes≤140737488355328)(hml:l.length≤maxLen)
  (h:∀ m,aR P Y false K (az rest ((A.aV d (.box (.agg ((l++List.replicate m z).map enc)))).aT (some d) (.view d [] esz 0 l.length)))):aR P Y false K (fO A (some d) e esz bytes (enc z) (enc l) rest (.nils q0)):=by
 have hne:l.map (enc (α:=α))≠[]:=by simpa using ao
 have J:eK A esz (.nils q0)=some []:=rfl;simp only[fO,J,nd A esz l ab,e7,if_neg hne,fX,hf,List.length_nil,Z1,Z8,if_pos (y6 hb hml),List.nil_append];refine .any rfl fun m _ =>?_;have:=h m;simp only[Y6,List.map_replicate] at this;exact this
end
theorem qN(k:Nat):bW [] k=.du:=rfl
def gV(L:List Nat):List (Nat×I)→List (Nat×I)
 | []=>[]
 |(s,v)::ts=>if L.contains s=true then (s,v)::gV L ts else gV L ts
theorem Vw(L:List Nat):gV L []=[]:=rfl
theorem Vv(L:List Nat)(s:Nat)(v:I)(ts:List (Nat×I)):gV L ((s,v)::ts)=if L.contains s=true then (s,v)::gV L ts else gV L ts:=rfl
theorem Cn(L:List Nat)(t:Nat):∀ ts,bW (gV L ts) t=.du∨bW (gV L ts) t=bW ts t
 | []=>.inl rfl
 |(s,v)::ts=>by
  simp only[gV];have ih:=Cn L t ts;by_cases ab:L.contains s=true
  ·rw[if_pos ab];simp only[bW];split
   ·exact .inr rfl
   ·exact ih
  ·rw[if_neg ab];simp only[bW];split
   ·rename_i e;subst e
    left
    have:∀ ts,bW (gV L ts) t=.du:=by
     intro ts
     induction ts with
     |nil=>rfl
     |cons q ts ih2 =>
      obtain ⟨s',v'⟩:=q;simp only[gV];split
      ·rename_i h';simp only[bW];have:t≠s':=fun e=>ab (e▸h');rw[if_neg this];exact ih2
      ·exact ih2
    exact this ts
   ·exact ih
theorem ae.eT(L:List Nat){c:cV}{x:bx}{Q:Exit→ai→Prop}{ts:List (Nat×I)}{os:List (Nat×aq)}(h:ae c x Q (au (gV L ts) os)):ae c x Q (au ts os):=by
 refine ae.sub ?_ h;rintro cc a w ⟨D,E,ab⟩;refine ⟨D,E,ab.sz,ab.eD,fun t =>?_,ab.dM,ab.c6,ab.aQ,ab.bP,ab.cN,ab.dR,ab.eU,ab.cT,ab.eX,ab.fB⟩;simp only[au];rcases Cn L t ts with e | e
 ·rw[e];simp[aZ]
 ·rw[e];exact ab.dQ t
theorem B5:(∀ L,gV L []=[])∧(∀ L s v ts,gV L ((s,v)::ts)=if L.contains s=true then (s,v)::gV L ts else gV L ts)∧(∀ (a:Nat) l b,(a::l).contains b=(b==a||l.contains b))∧(∀ b:Nat,([]:List Nat).contains b=false)∧(∀ b,(false||b)=b)∧(∀ b,(true||b)=true)∧(∀ b,(b||true)=true)∧(∀ b,(b||false)=b)∧((false=true)=False) :=
 ⟨Vw,Vv,fun _ _ _=>List.contains_cons,fun _=>rfl,fun _=>rfl,fun _=>rfl,fun b=>by cases b <;>rfl,fun b=>by cases b <;>rfl,by simp⟩
end Go.Abs
namespace Go.Abs
open Go Go.RowKit
open Enc (enc)
def wm:Option aq→Option (List I×List I)
 |some (.bt ks vs)=>some (ks,vs)
 |_=>none
noncomputable def qQ(A:ai)(n:Nat)(rest:List aE):Option (List I×List I)→cM
 |some (ks,vs)=>az rest (A.aV n (.bt ks vs))
 |none=>.fail
noncomputable def wC(A:ai)(n:Nat)(ty:cE)(k v:I)(rest:List aE):Option aq→cM
 |some (.bt ks vs)=>qQ A n rest (fw ty k v ks vs)
 |_=>.fail
noncomputable def wB(A:ai)(ty:cE)(k v:I)(rest:List aE):I→cM
 | .mref n=>wC A n ty k v rest (A.o n)
 |_=>.fail
noncomputable def wv(A:ai)(n:Nat)(ty:cE)(k:I)(rest:List aE):Option aq→cM
 |some (.bt ks vs)=>qQ A n rest (lS ty k ks vs)
 |_=>.fail
noncomputable def wu(A:ai)(ty:cE)(k:I)(rest:List aE):I→cM
 | .mref n=>wv A n ty k rest (A.o n)
 |_=>.fail
noncomputable def wA(A:ai)(d:Nat)(rest:List aE):Option aq→cM
 |none=>az rest ((A.aV d (.bt [] [])).put d (.mref d))
 |some _=>.fail
open Classical in
noncomputable def CB(A:ai)(d bytes:Nat)(z:I)(rest:List aE):I→cM
 | .int _ n=>if 0≤n∧n.toNat*bytes≤281474976710656∧n.toNat≤maxLen then az rest ((A.aV d (.box (.agg (List.replicate n.toNat z)))).put d (.view d [] 1 0 n.toNat)) else .fail
 |_=>.fail
noncomputable def te(A:ai)(d bytes:Nat)(z n:I)(rest:List aE):Option aq→cM
 |none=>CB A d bytes z rest n
 |some _=>.fail
noncomputable def tK(A:ai)(d:Nat)(rest:List aE):I→cM
 | .df ks vs=>az rest ((A.aV d (.it ks vs (List.range ks.length) none)).put d (.dk d))
 |_=>.fail
noncomputable def tJ(A:ai)(d:Nat)(x:I)(rest:List aE):Option aq→cM
 |none=>tK A d rest x
 |some _=>.fail
def vj:Option aq→Option I
 |some (.it ks vs _ cur)=>mA ks vs cur
 |_=>none
def vi(A:ai):I→Option I
 | .dk n=>vj (A.o n)
 |_=>none
open Classical in
noncomputable def pB(A:ai)(d:Option Nat)(n:Nat)(rest:List aE):Option aq→cM
 |some (.it ks vs left _)=>if left=[] then az rest (A.aT d (.tuple [.bool false])) else
   .any (fun i=>i∈left) fun i=>match ks[i]?,vs[i]? with
    |some kk,some x=>az rest ((A.aV n (.it ks vs (left.filter (· != i)) (some i))).aT d (.tuple [.bool true,kk,x]))
    |_,_=>.fail
 |_=>.fail
noncomputable def wJ(A:ai)(d:Option Nat)(rest:List aE):I→cM
 | .dk n=>pB A d n rest (A.o n)
 |_=>.fail
section
variable (d:Option Nat) (rest:List aE) (A:ai)
theorem WV(x:aO):bK A d (.nilC x) rest=cQ (lT (ak A x)) (de d rest A):=rfl
theorem WZ(neg:Bool)(x y:aO):bK A d (.ptrE neg x y) rest=cQ (mR neg (iH (ak A x)) (iH (ak A y))) (de d rest A):=rfl
theorem WN(ty:cE)(z:I)(ok:Bool)(m k:aO):bK A d (.lk ty z ok m k) rest=cQ (qJ ty z ok (ak A k) (gb A (ak A m))) (de d rest A):=rfl
theorem V1(n:Nat):gb A (.mref n)=wm (A.o n):=by
 simp only[gb];cases A.o n with
 |none=>rfl
 |some y=>cases y <;>rfl
theorem WT(ty:cE)(m k v:aO):bK A none (.eV ty m k v) rest=wB A ty (ak A k) (ak A v) rest (ak A m):=by
 simp only[bK,bj];cases ak A m <;>rfl
theorem WO(ty:cE)(m k:aO):bK A none (.iI ty m k) rest=wu A ty (ak A k) rest (ak A m):=by
 simp only[bK,bj];cases ak A m <;>rfl
theorem WR(d:Nat):bK A (some d) .iJ rest=wA A d rest (A.o d):=by
 simp only[bK,bj];cases A.o d <;>rfl
theorem WS(d e bytes:Nat)(z:I)(n:aO):bK A (some d) (.ki e bytes z n) rest=te A d bytes z (ak A n) rest (A.o d):=by
 simp only[bK,bj];cases A.o d with
 |some _=>rfl
 |none=>simp only[te];cases ak A n <;>rfl
theorem W2(d:Nat)(x:aO):bK A (some d) (.jz x) rest=tJ A d (ak A x) rest (A.o d):=by
 simp only[bK,bj];cases A.o d with
 |some _=>rfl
 |none=>simp only[tJ];cases ak A x <;>rfl
theorem WB(x:aO):bK A d (.ent x) rest=cQ (vi A (ak A x)) (de d rest A):=by
 simp only[bK,bj,bm];cases ak A x <;>rfl
theorem WX(x:aO):bK A d (.ig x) rest=wJ A d rest (ak A x):=by
 simp only[bK,bj];cases ak A x <;>rfl
end
theorem Ct:(∀ rest A ty m k,bK A none (.iI ty m k) rest=wu A ty (ak A k) rest (ak A m))∧(∀ A ty k rest n,wu A ty k rest (.mref n)=wv A n ty k rest (A.o n))∧(∀ A n ty k rest ks vs,wv A n ty k rest (some (.bt ks vs))=qQ A n rest (lS ty k ks vs)) ∧
  (∀ d rest A x y,bK A d (.max2 x y) rest=cQ (qR (ak A x) (ak A y)) (de d rest A))∧(∀ a b,qR (.int .i64 a) (.int .i64 b)=some (.int .i64 (if b>a then b else a)))∧((I.any).bw=true) :=
 ⟨fun rest A=>WO rest A,fun _ _ _ _ _=>rfl,fun _ _ _ _ _ _ _=>rfl,fun _ _ _ _ _=>rfl,fun _ _=>rfl,rfl⟩
theorem mJ :
  (∀ d rest A x,bK A d (.nilC x) rest=cQ (lT (ak A x)) (de d rest A))∧(∀ n p,lT (.ptr n p)=some (.ptr n p))∧(∀ x,lT (.ref x)=some (.ref x)) ∧
  (∀ d rest A neg x y,bK A d (.ptrE neg x y) rest=cQ (mR neg (iH (ak A x)) (iH (ak A y))) (de d rest A))∧(iH .nilp=some true)∧(∀ n p,iH (.ptr n p)=some false)∧(∀ x,iH (.ref x)=some false) ∧
  (mR false (some true) (some true)=some (.bool true))∧(mR false (some false) (some true)=some (.bool false))∧(mR true (some true) (some true)=some (.bool false))∧(mR true (some false) (some true)=some (.bool true)) ∧
  (∀ d rest A ty z ok m k,bK A d (.lk ty z ok m k) rest=cQ (qJ ty z ok (ak A k) (gb A (ak A m))) (de d rest A))∧(∀ A n,gb A (.mref n)=wm (A.o n))∧(∀ A ks vs,gb A (.df ks vs)=some (ks,vs))∧(∀ ks vs,wm (some (.bt ks vs))=some (ks,vs)) ∧
  (∀ ty z ok k ks vs,qJ ty z ok k (some (ks,vs))=qK ok (fu ty z k ks vs))∧(∀ v b,qK false (some (v,b))=some v)∧(∀ v b,qK true (some (v,b))=some (.tuple [v,.bool b])) ∧
  (∀ rest A ty m k v,bK A none (.eV ty m k v) rest=wB A ty (ak A k) (ak A v) rest (ak A m))∧(∀ A ty k v rest n,wB A ty k v rest (.mref n)=wC A n ty k v rest (A.o n))∧(∀ A n ty k v rest ks vs,wC A n ty k v rest (some (.bt ks vs))=qQ A n rest (fw ty k v ks vs)) ∧
  (∀ A n rest ks vs,qQ A n rest (some (ks,vs))=az rest (A.aV n (.bt ks vs))) ∧
  (∀ rest A d,bK A (some d) .iJ rest=wA A d rest (A.o d))∧(∀ A d rest,wA A d rest none=az rest ((A.aV d (.bt [] [])).put d (.mref d))) ∧
  (∀ rest A d e bytes z n,bK A (some d) (.ki e bytes z n) rest=te A d bytes z (ak A n) rest (A.o d))∧(∀ A d bytes z n rest,te A d bytes z n rest none=CB A d bytes z rest n) ∧
  (∀ rest A d x,bK A (some d) (.jz x) rest=tJ A d (ak A x) rest (A.o d))∧(∀ A d x rest,tJ A d x rest none=tK A d rest x)∧(∀ A d rest ks vs,tK A d rest (.df ks vs)=az rest ((A.aV d (.it ks vs (List.range ks.length) none)).put d (.dk d))) ∧
  (∀ d rest A x,bK A d (.ent x) rest=cQ (vi A (ak A x)) (de d rest A))∧(∀ A n,vi A (.dk n)=vj (A.o n))∧(∀ ks vs l cur,vj (some (.it ks vs l cur))=mA ks vs cur) ∧
  (∀ d rest A x,bK A d (.ig x) rest=wJ A d rest (ak A x))∧(∀ A d rest n,wJ A d rest (.dk n)=pB A d n rest (A.o n)) :=
 ⟨WV,fun _ _=>rfl,fun _=>rfl,WZ,rfl,fun _ _=>rfl,fun _=>rfl,rfl,rfl,rfl,rfl,WN,V1,fun _ _ _=>rfl,fun _ _=>rfl,fun _ _ _ _ _ _=>rfl,fun _ _=>rfl,fun _ _=>rfl,
  fun rest A ty m k v=>WT rest A ty m k v,fun _ _ _ _ _ _=>rfl,fun _ _ _ _ _ _ _ _=>rfl,fun _ _ _ _ _=>rfl,fun rest A d=>WR rest A d,fun _ _ _=>rfl,fun rest A d e bytes z n=>WS rest A d e bytes z n,fun _ _ _ _ _ _=>rfl,
  fun rest A d x=>W2 rest A d x,fun _ _ _ _=>rfl,fun _ _ _ _ _=>rfl,WB,fun _ _=>rfl,fun _ _ _ _=>rfl,WX,fun _ _ _ _=>rfl⟩
theorem bp:(∀ n p z lo k,b7 none (.view n p z lo k)=true)∧(∀ n,b7 none (.mref n)=true)∧(∀ n p,b7 none (.ptr n p)=true)∧(∀ x,b7 none (.ref x)=true)∧b7 none .nilp=true∧b7 none .dA=true∧b7 none (.raw (.map none))=true∧(∀ ks vs,b7 none (.df ks vs)=true)∧(∀ {α:Type} [Enc α] (l:List α),b7 none (enc l)=true) :=
 ⟨fun _ _ _ _ _=>rfl,fun _=>rfl,fun _ _=>rfl,fun _=>rfl,rfl,rfl,rfl,fun _ _=>rfl,fun l=>by simp[kQ,kP]⟩
section
variable {α:Type} [Enc α] [DecidableEq α] {ty:cE}
theorem sH(ay:∀ x y:α,bZ ty (enc x) (enc y)=some (decide (x=y)))(k:α):∀ (ks:List α) (i:Nat),eF ty (enc k) (ks.map enc) i=some ((ks.findIdx? fun x=>decide (k=x)).map (· + i))
 | [],i=>rfl
 |x::ks,i=>by
  simp only[Z4,eF,ay,List.findIdx?_cons];by_cases h:k=x
  ·simp[h]
  ·simp only[h,decide_false,Z2,if_false];rw[sH ay k ks (i+1)];cases ks.findIdx? fun x=>decide (k=x) with
   |none=>rfl
   |some j=>simp;omega
theorem sY(ay:∀ x y:α,bZ ty (enc x) (enc y)=some (decide (x=y)))(z:I)(k:α)(ks:List α)(vs:List I) :
  fu ty z (enc k) (ks.map enc) vs=match ks.findIdx? fun x=>decide (k=x) with
   |some i=>(vs[i]?).map fun v=>(v,true)
   |none=>some (z,false):=by
 simp only[fu,ay,Option.isSome_some,if_true,sH ay];cases ks.findIdx? fun x=>decide (k=x) <;>rfl
theorem wD(ay:∀ x y:α,bZ ty (enc x) (enc y)=some (decide (x=y)))(k:α)(v:I)(hv:v.bU=true)(ks:List α)(vs:List I) :
  fw ty (enc k) v (ks.map enc) vs=match ks.findIdx? fun x=>decide (k=x) with
   |some i=>some (ks.map enc,vs.set i v)
   |none=>some ((ks++[k]).map enc,vs++[v]):=by
 simp only[fw,ay,Option.isSome_some,hv,BX (kO k),and_self,if_true,sH ay];cases ks.findIdx? fun x=>decide (k=x) with
 |none=>simp
 |some i=>rfl
omit [Enc α] in
theorem qm{k:α}{ks:List α} : (ks.findIdx? fun x=>decide (k=x)).isSome=decide (k∈ks):=by
 induction ks with
 |nil=>rfl
 |cons x ks ih =>
  simp only[List.findIdx?_cons,zx3];by_cases h:k=x
  ·simp[h]
  ·simp only[h,decide_false,Z2,if_false,Option.isSome_map,ih,false_or]
theorem ga(ay:∀ x y:α,bZ ty (enc x) (enc y)=some (decide (x=y)))(k:α)(ks:List α):fu ty (.bool false) (enc k) (ks.map enc) (List.replicate ks.length (.bool true))=some (.bool (decide (k∈ks)),decide (k∈ks)):=by
 rw[sY ay,←qm];cases h:ks.findIdx? fun x=>decide (k=x) with
 |none=>rfl
 |some i =>
  have:=(List.findIdx?_eq_some_iff_getElem.1 h).1;simp[this]
def gw{α:Type}[DecidableEq α](ks:List α)(k:α):List α:=if k∈ks then ks else ks++[k]
theorem wE(ay:∀ x y:α,bZ ty (enc x) (enc y)=some (decide (x=y)))(k:α)(ks:List α):fw ty (enc k) (.bool true) (ks.map enc) (List.replicate ks.length (.bool true))=some ((gw ks k).map enc,List.replicate (gw ks k).length (.bool true)):=by
 rw[wD ay k _ rfl];have hm:=qm (k:=k) (ks:=ks);cases h:ks.findIdx? fun x=>decide (k=x) with
 |none =>
  rw[h] at hm;have:k∉ks:=by simpa using hm.symm
  simp only[gw,if_neg this]
  congr 2
  rw[Z6,List.length_singleton,List.replicate_succ']
 |some i =>
  rw[h] at hm;have:k∈ks:=by simpa using hm.symm
  simp only[gw,if_pos this]
  congr 2
  have:=(List.findIdx?_eq_some_iff_getElem.1 h).1;exact List.ext_getElem (by simp) fun j J U=>by
   simp only[List.getElem_set,List.getElem_replicate];split <;>rfl
end
theorem Vs{m sz lo l i:Nat}{fs:List I}(h:i<l):mF m [] sz lo l sz (i:Int) (some fs)=some (.ptr m [lo+i]):=by rw[Vr h];rfl
theorem Al:(∀ {α:Type} [Enc α] (x:α),(enc x).bw=true)∧(∀ n p z lo k,(I.view n p z lo k).bw=false)∧(∀ n,(I.mref n).bw=false)∧(∀ n p,(I.ptr n p).bw=false)∧(∀ n k,(I.own n k).bw=false) :=
 ⟨@kO,fun _ _ _ _ _=>rfl,fun _=>rfl,fun _ _=>rfl,fun _ _=>rfl⟩
end Go.Abs
namespace Go.Abs
open Go Go.RowKit
open Enc (enc)
theorem bB.GS{A:ai}{d n T z:Nat}(af:A.t d=.nils z)(hn:A.o n=none)(hlt:n<1000000):bB A ((A.aV n (.dH T [])).put d (.own n 0)):=by
 rintro c a w ⟨D,E,h⟩;have ay:E n=none:=by have:=h.bP n;rw[hn] at this;exact this
 have ao:dV w D E w D (fun m=>if m=n then some (.rw none 0) else E m):=by
  have eP:∀ {m:Nat} {e:bM},E m=some e→(if m=n then some (.rw none 0) else E m)=some e:=fun {m e} he=>by
   have:m≠n:=fun e=>by rw[e,ay] at he;cases he
   rw[if_neg this];exact he
  refine ⟨fun _ _ h=>h,fun _ _ _ _ h=>h,fun m b aX he=>eP he,fun m aG l he =>?_,fun m b he=>eP he,fun m b he=>eP he,fun _ _ _ _ h=>h⟩
  ·have:m≠n:=fun e=>by rw[e,ay] at he;cases he
   exact ⟨aG,l,by simp only[if_neg this];exact he,Z3 _,fun _=>rfl⟩
 refine ⟨D,fun m=>if m=n then some (.rw none 0) else E m,h.sz,h.eD,fun t =>?_,h.dM,h.c6,h.aQ,fun m =>?_,fun m m' e e' b J U ah ar =>?_,fun m e hm =>?_,h.eU,h.cT,h.eX,h.fB⟩
 ·simp only[ai.put,ai.aV];by_cases ht:t=d
  ·subst ht;simp only[if_true];have hv:=h.dQ t;rw[af] at hv;obtain ⟨cs,q1,q2⟩:=hv;simp only[al] at q2;subst q2;refine ⟨[.slice none 0 0],by simpa[bA,I.isAgg] using q1,?_⟩;simp only[al,if_true];exact ⟨none,0,rfl,Z3 _,⟨_,_,_,rfl⟩,fun _=>trivial⟩
  ·simp only[if_neg ht];exact aZ.later ao (h.dQ t)
 ·simp only[ai.put,ai.aV];by_cases hm:m=n
  ·subst hm;simp only[if_true,cZ];exact ⟨none,by simp,by simp,trivial⟩
  ·simp only[if_neg hm];exact (h.bP m).later ao (by simp only[if_neg hm]) fun _ _ _ _=>⟨rfl,fun _ ho=>ho⟩
 ·by_cases hm:m=n <;>by_cases hm':m'=n
  ·rw[hm,hm']
  ·simp only[if_pos hm,v6] at J;subst J;simp[bM.aG] at ah
  ·simp only[if_pos hm',v6] at U;subst U;simp[bM.aG] at ar
  ·simp only[if_neg hm] at J;simp only[if_neg hm'] at U;exact h.cN m m' e e' b J U ah ar
 ·have hmn:m≠n:=fun e=>by rw[e,h.ke (.inr hlt)] at hm;cases hm
  simp only[if_neg hmn];exact h.dR m e hm
theorem bB.GU{ts:List (Nat×I)}{os:List (Nat×aq)}(d n T z:Nat)(af:bW ts d=.nils z)(hn:aj os n=none){B:ai}(h:bB (au ((d,.own n 0)::ts) ((n,.dH T [])::os)) B)(hlt:n<1000000:=by decide):bB (au ts os) B :=
 ((bB.GS (A:=au ts os) (T:=T) af hn hlt).trans (by rw[qP,ta];exact bB.refl _)).trans h
theorem G5{A:ai}{d:Option Nat}{e bytes n l:Nat}{xs:List Int}{y:Int}{rest:List aE}(ao:l=xs.length)(J:xs.length+1≤maxLen)(U:(xs.length+1)*bytes≤140737488355328) :
  oK A d e 1 bytes (.int .i64 0) n l e xs rest (enc [y])=az rest ((A.aV n (.dH e (xs++[y]))).aT d (.own n (xs.length+1))):=by
 show oK A d e 1 bytes (.int .i64 0) n l e xs rest (.slice 1 [.int .i64 y])=_
 simp only[oK];rw[if_pos ⟨ao,rfl,rfl,rfl,rfl,by simp,J,U⟩];rfl
def iV(n k:Nat):I→I
 | .own n' k'=>if n'=n∧k'=k then .view n [] 1 0 k else .own n' k'
 |v=>v
def iU(n:Nat):I→I
 | .own n' k'=>if n'=n∧k'=0 then .nils 1 else .own n' k'
 |v=>v
def jE(f:I→I):aq→aq
 | .box v=>.box (f v)
 |y=>y
def qW(n k:Nat)(v:I):Prop:=v=.own n k∨v.only (fun j=>j != n)=true
def Xb(n k:Nat)(y:aq):Prop:=y=.box (.own n k)∨y.only (fun j=>j != n)=true
theorem tZ{n k:Nat}{v:I}(h:v.only (fun j=>j != n)=true):iV n k v=v:=by
 cases v <;>try rfl
 rename_i n' k';simp only[I.only,bne_iff_ne,ne_eq] at h;simp only[iV,h,false_and,if_false]
theorem Fl{n:Nat}{v:I}(h:v.only (fun j=>j != n)=true):iU n v=v:=by
 cases v <;>try rfl
 rename_i n' k';simp only[I.only,bne_iff_ne,ne_eq] at h;simp only[iU,h,false_and,if_false]
theorem pw(f:I→I)(hf:f .du=.du)(ts:List (Nat×I))(t:Nat):bW (ts.map fun q=>(q.1,f q.2)) t=f (bW ts t):=by
 induction ts with
 |nil=>exact hf.symm
 |cons q ts ih =>
  obtain ⟨k,v⟩:=q;simp only[Z4,bW];split
  ·rfl
  ·exact ih
theorem s7(f:aq→aq)(os:List (Nat×aq))(t:Nat):aj (os.map fun q=>(q.1,f q.2)) t=(aj os t).map f:=by
 induction os with
 |nil=>rfl
 |cons q os ih =>
  obtain ⟨k,v⟩:=q;simp only[Z4,aj];split
  ·rfl
  ·exact ih
theorem cZ.c8{M:Nat→Prop}{w:World}{D:aP}{E E':aY}{p:Nat→Bool}(hp:∀ n,p n=true→E' n=E n){m:Nat}(ay:E' m=E m){y:aq}(hon:y.only p=true)(ho:cZ M w D E m (some y)):cZ M w D E' m (some y):=by
 cases y with
 |box x =>
  obtain ⟨b,cs,T,k1,k2,k3,k4,k5⟩:=ho;exact ⟨b,cs,T,ay.trans k1,k2,k3,al.c8 hp _ _ (by simpa[aq.only] using hon) k4,k5⟩
 |bY T sz es =>
  obtain ⟨aG,k1,k2,k3⟩:=ho;refine ⟨aG,ay.trans k1,k2,?_⟩;cases aG with
  |none=>exact k3
  |some bc =>
   obtain ⟨b,cap⟩:=bc;obtain ⟨cs,pre,rest,q1,q2,q3,q4,q5⟩:=k3;exact ⟨cs,pre,rest,q1,q2,q3,aM.c8 hp _ _ (by simpa[aq.only] using hon) q4,q5⟩
 |dH T xs =>
  obtain ⟨aG,k1,k2,k3⟩:=ho;exact ⟨aG,ay.trans k1,k2,k3⟩
 |dG x =>
  obtain ⟨b,k1,k2⟩:=ho;exact ⟨b,ay.trans k1,k2⟩
 |bt ks vs =>
  obtain ⟨b,es,ck,k1,k2,k3,k4,k5,k6,k7⟩:=ho;simp only[aq.only,t8] at hon;exact ⟨b,es,ck,ay.trans k1,k2,k3,k4,aF.c8 hp _ _ hon.1 k5,aF.c8 hp _ _ hon.2 k6,k7⟩
 |it ks vs left cur =>
  obtain ⟨r,b,es,ck,si,se,la,k1,k2,k3,k4,k5,k6,k7⟩:=ho;simp only[aq.only,t8] at hon;exact ⟨r,b,es,ck,si,se,la,ay.trans k1,k2,k3,k4,aF.c8 hp _ _ hon.1 k5,aF.c8 hp _ _ hon.2 k6,k7⟩
theorem rH(xs:List Int):(I.agg (xs.map enc)).aX=.eG (List.replicate xs.length .one):=by
 show cP.eG (I.cX _)=_
 congr 1
 induction xs with
 |nil=>rfl
 |cons x xs ih=>simp only[Z4,I.cX,ih,zy5,List.replicate_succ];rfl
theorem rl{w:World}{D:aP}{E:aY} : ∀ {xs:List Int},(∀ x∈xs,IntKind.i64.min≤x∧x≤IntKind.i64.max)→aM w D E (xs.map enc) (xs.map (Value.int .i64))
 | [],_=>rfl
 |x::xs,h=>⟨[.int .i64 x],xs.map (Value.int .i64),rfl,⟨rfl,h x (by simp)⟩,rl fun y hy=>h y (by simp[hy])⟩
theorem bB.YO{ts:List (Nat×I)}{os:List (Nat×aq)}{n T:Nat}{B:ai}(hn:aj os n=some (.dH T []))
  (h:bB (au (ts.map fun q=>(q.1,iU n q.2)) (os.map fun q=>(q.1,jE (iU n) q.2))) B):bB (au ts os) B:=by
 refine bB.trans ?_ h;rintro c a w ⟨D,E,ab⟩;obtain ⟨aG,ay,-,hblk⟩:=ab.rO (n:=n) (T:=T) (xs:=[]) hn;have hnone:aG=none:=by
  cases aG with
  |none=>rfl
  |some bc=>obtain ⟨b,cap⟩:=bc;obtain ⟨_,_,_,_,_,h,_⟩:=hblk;exact absurd rfl h
 subst hnone;have conv:∀ (v:I) (cs:List Value),al w D E v cs→al w D E (iU n v) cs:=fun v cs hr=>by
  cases v <;>try exact hr
  rename_i n' k';simp only[iU];split
  ·rename_i bC;obtain ⟨rfl,rfl⟩:=bC;obtain ⟨blk',l,q3,q4,q5,q6⟩:=hr;rw[ay] at q3;simp only[v6,bM.rw.injEq,List.length_nil] at q3;obtain ⟨rfl,rfl⟩:=q3;exact q6 rfl
  ·exact hr
 refine ⟨D,E,ab.sz,ab.eD,fun t =>?_,ab.dM,ab.c6,ab.aQ,fun m =>?_,ab.cN,ab.dR,ab.eU,ab.cT,ab.eX,ab.fB⟩
 ·show aZ w D E (bW _ t) _
  rw[pw _ rfl];have:=ab.dQ t;simp only[au] at this;revert this;generalize bW ts t=v;intro hv;cases v <;>try exact hv
  rename_i n' k';obtain ⟨cs,q1,q2⟩:=hv;have:=conv _ _ q2
  revert this;simp only[iU];split
  ·intro this;exact ⟨cs,q1,this⟩
  ·intro this;exact ⟨cs,q1,this⟩
 ·show cZ _ w D E m (aj _ m)
  rw[s7];have:=ab.bP m;simp only[au] at this;revert this;cases aj os m with
  |none=>exact id
  |some y =>
   cases y <;>try exact id
   rename_i x;rintro ⟨b,cs,T,k1,k2,k3,k4,k5⟩;refine ⟨b,cs,T,?_,k2,k3,conv _ _ k4,k5⟩;rw[k1];have:(iU n x).aX=x.aX:=by
    cases x <;>try rfl
    simp only[iU];split <;>rfl
   rw[this]
theorem ae.YN{c:cV}{x:bx}{Q:Exit→ai→Prop}{ts:List (Nat×I)}{os:List (Nat×aq)}{n T:Nat}{xs:List Int}(hn:aj os n=some (.dH T xs))(hne:xs≠[])(hlt:n<1000000)
  (ht:∀ t,qW n xs.length (bW ts t)) (ho:∀ m y,aj os m=some y→m≠n→Xb n xs.length y)
  (h:∀ q:Nat,ae c x Q (au (ts.map fun p=>(p.1,iV n xs.length p.2)) ((n,.box (.agg ((xs++List.replicate q 0).map enc)))::os.map fun p=>(p.1,jE (iV n xs.length) p.2)))):ae c x Q (au ts os):=by
 rintro code hc a w ⟨D,E,ab⟩;obtain ⟨aG,ay,hr,hblk⟩:=ab.rO (n:=n) hn;cases aG with
 |none=>exact absurd hblk hne
 |some bc =>
 obtain ⟨b,cap⟩:=bc;obtain ⟨cs,q,hM,hb,hcs,-,hcap,hmax,hD⟩:=hblk;have hp:∀ j,(fun j=>j != n) j=true→(fun j=>if j=n then some (bM.aN b (.eG (List.replicate (xs.length+q) .one))) else E j) j=E j:=fun j hj=>by
  have:j≠n:=by simpa using hj
  simp only[if_neg this]
 have conv:∀ cs0,al w D E (.own n xs.length) cs0→al w D (fun j=>if j=n then some (bM.aN b (.eG (List.replicate (xs.length+q) .one))) else E j) (.view n [] 1 0 xs.length) cs0:=fun cs0 hr=>by
  obtain ⟨blk',l,q3,q4,q5,q6⟩:=hr;rw[ay] at q3;simp only[v6,bM.rw.injEq] at q3;obtain ⟨rfl,rfl⟩:=q3;have:=q6 rfl;refine ⟨b,_,0,List.replicate (xs.length+q) .one,if_pos rfl,rfl,rfl,?_,by rw[List.length_replicate];omega,by rw[List.length_replicate];omega,fun s ab =>?_⟩
  ·rw[this,List.length_replicate];simp only[Nat.zero_mul,Nat.add_zero,Nat.sub_zero,hcap]
  ·rw[List.eq_of_mem_replicate ab];rfl
 refine h q code hc a w ⟨D,fun j=>if j=n then some (.aN b (.eG (List.replicate (xs.length+q) .one))) else E j,ab.sz,ab.eD,fun t =>?_,ab.dM,ab.c6,ab.aQ,fun m =>?_,fun m m' e e' b1 J U ah ar =>?_,fun m e hm =>?_,ab.eU,ab.cT,ab.eX,ab.fB⟩
 ·show aZ w D _ (bW _ t) _
  rw[pw _ rfl];have hv:=ab.dQ t;simp only[au] at hv;rcases ht t with J | J
  ·rw[J] at hv ⊢;simp only[iV,and_self,if_true];obtain ⟨cs0,q1,q2⟩:=hv;exact ⟨cs0,q1,conv _ q2⟩
  ·rw[tZ J];exact aZ.c8 hp J hv
 ·show cZ _ w D _ m (aj _ m)
  simp only[aj];by_cases hm:m=n
  ·subst hm;simp only[if_true];refine ⟨b,cs,T,?_,hM,hb,?_,hD⟩
   ·simp only[if_true];rw[rH,Z6,List.length_replicate]
   ·show aM w D _ _ _
    rw[hcs];refine rl fun y hy =>?_;rcases zy0.1 hy with hy | hy
    ·exact hr y hy
    ·rw[List.eq_of_mem_replicate hy];decide
  ·simp only[if_neg hm];rw[s7];have hob:=ab.bP m;simp only[au] at hob;cases hy:aj os m with
   |none=>rw[hy] at hob;simp only[cZ,Option.map_none] at hob ⊢;rw[if_neg hm];exact hob
   |some y =>
    rw[hy] at hob;rcases ho m y hy hm with rfl | J
    ·obtain ⟨b1,cs1,r7,k1,k2,k3,k4,k5⟩:=hob;refine ⟨b1,cs1,r7,?_,k2,k3,?_,k5⟩
     ·simp only[if_neg hm];rw[k1];simp only[iV,and_self,if_true];rfl
     ·simp only[iV,and_self,if_true];exact conv _ k4
    ·have e:jE (iV n xs.length) y=y:=by
      cases y <;>try rfl
      simp only[aq.only] at J;simp only[jE,tZ J]
     simp only[Z7,e];exact hob.c8 hp (if_neg hm) J
 ·have cut:∀ m e,(if m=n then some (bM.aN b (.eG (List.replicate (xs.length+q) .one))) else E m)=some e→∃ e2,E m=some e2∧e2.aG=e.aG:=fun m e he=>by
   by_cases hm:m=n
   ·subst hm;rw[if_pos rfl] at he;cases he;exact ⟨_,ay,rfl⟩
   ·rw[if_neg hm] at he;exact ⟨e,he,rfl⟩
  obtain ⟨e2,k1,k2⟩:=cut m e J;obtain ⟨e3,k3,k4⟩:=cut m' e' U;exact ab.cN m m' e2 e3 b1 k1 k3 (k2.trans ah) (k4.trans ar)
 ·have hmn:m≠n:=fun e=>by rw[e,ab.ke (.inr hlt)] at hm;cases hm
  simp only[if_neg hmn];exact ab.dR m e hm
end Go.Abs
namespace Go.Abs
open Go Go.RowKit
def sU(n:Nat)(cl:List Nat)(i:Nat):Bool:=(List.range n).all fun j=>j==i||(cl.getD i 0).testBit j
def pI(ab:List FuncId)(L:eb)(on:List (List Nat))(gs:List aE)(cl:List Nat)(σ:List Nat):Bool :=
 (Nat.beq σ.length gs.length&&(qV σ&&(σ.all (fun i=>decide (i<gs.length))&&((List.range gs.length).all (fun i=>σ.contains i)&&(List.range gs.length).all fun i=>mL (gs.getD i default).op&&(hZ L (gs.getD i default)||(sU gs.length cl i&&σ.getLast?==some i))))))&&(pY ab L gs cl [] σ&&(List.range gs.length).all fun i=>(on.getD i []).all (fun k=>decide (k<i))&&Nat.beq (cl.getD i 0) (lx cl (on.getD i [])))
structure uq (ab:List FuncId) (L:eb) (l:List Oper) (gs:List aE) (σ:List Nat):Prop where
 nS:σ.Nodup
 lt:∀ i∈σ,i<gs.length
 all:∀ i,i<gs.length→i∈σ
 ok:∀ i,i<gs.length→mL (gs.getD i default).op=true
 qG:∀ i o,l[i]?=some o→hZ L (gs.getD i default)=true∨(σ.getLast?=some i∧∀ (S:Nat→Prop),(∀ i o,l[i]?=some o→S i→∀ k∈cj o,S k)→(∀ k∈cj o,S k)→∀ j,j<gs.length→j≠i→S j)
 len:σ.length=gs.length
 iA:∀ i o,l[i]?=some o→∀ k∈cj o,k<i
 pc:∀ (S:Nat→Prop),(∀ i o,l[i]?=some o→S i→∀ k∈cj o,S k)→∀ s1 i s2 o,σ=s1++i::s2→l[i]?=some o→(∀ k∈cj o,S k)→∀ j∈s1,¬ S j→mD ab L (gs.getD j default) (gs.getD i default)=true
theorem C3{ab:List FuncId}{L:eb}{l:List Oper}{gs:List aE}{cl σ:List Nat}(hlen:gs.length=l.length)(h:pI ab L (l.map cj) gs cl σ=true):uq ab L l gs σ:=by
 simp only[pI,t8,zz4,decide_eq_true_eq,zx0,List.contains_eq_mem] at h;obtain ⟨⟨J,U,ah,ar,h5⟩,h6,h7⟩:=h;have fK:∀ i o,l[i]?=some o→(∀ k∈cj o,k<i)∧(∀ j,(cl.getD i 0).testBit j=true→j∈cj o∨∃ k∈cj o,(cl.getD k 0).testBit j=true):=by
  intro i o ho;have hi:i<l.length:=(Z5.1 ho).1;have h8:=h7 i (by omega);have hon:(l.map cj).getD i []=cj o:=by simp[Z0,ho]
  rw[hon] at h8;have hb:=Nat.eq_of_beq_eq_true h8.2;exact ⟨h8.1,fun j hj=>rQ (by rw[←hb];exact hj)⟩
 have keyS:∀ (S:Nat→Prop),(∀ i o,l[i]?=some o→S i→∀ k∈cj o,S k)→∀ n i o,i≤n→l[i]?=some o→(∀ k∈cj o,S k)→∀ j,(cl.getD i 0).testBit j=true→S j:=by
  intro S hS n
  induction n with
  |zero =>
   intro i o hi ho hon j hj;obtain ⟨h8,h9⟩:=fK i o ho;rcases h9 j hj with h | ⟨k,hk,_⟩
   ·exact hon j h
   ·have:=h8 k hk;omega
  |succ n ih =>
   intro i o hi ho hon j hj;obtain ⟨h8,h9⟩:=fK i o ho;rcases h9 j hj with h | ⟨k,hk,hjk⟩
   ·exact hon j h
   ·have hki:=h8 k hk;have hkl:k<l.length:=Nat.lt_trans hki (Z5.1 ho).1;obtain ⟨ok,hok⟩:∃ ok,l[k]?=some ok:=⟨l[k],Y7 hkl⟩
    exact ih k ok (by omega) hok (hS k ok hok (hon k hk)) j hjk
 refine ⟨wH U,ah,ar,fun i hi=>(h5 i hi).1,fun i o ho =>?_,Nat.eq_of_beq_eq_true J,fun i o ho=>(fK i o ho).1,?_⟩
 ·have hi:i<gs.length:=by rw[hlen];exact (Z5.1 ho).1
  have h5o:=(h5 i hi).2;rw[Bool.or_eq_true] at h5o;rcases h5o with h | h
  ·exact .inl h
  ·rw[t8] at h;obtain ⟨h,hla⟩:=h;refine .inr ⟨by simpa using hla,fun S hS hon j hj hji =>?_⟩;simp only[sU,zz4,zx0,Bool.or_eq_true,beq_iff_eq] at h;rcases h j hj with e | e
   ·exact absurd e hji
   ·exact keyS S hS i i o (Z3 _) ho hon j e
 intro S hS s1 i s2 o e ho hon j hj hnj;have key:=keyS S hS;rcases uz h6 s1 i s2 e j (.inr hj) with h | h
 ·exact absurd (key i i o (Z3 _) ho hon j h) hnj
 ·exact h
section
variable {c:cV}
theorem G0{K:ai→Prop}{fs:List FuncId}{L:eb}{aS:Array Oper}{gs:List aE}{σ:List Nat}{Q:Exit→Act→World→Prop}(hQ:∀ B a w,K B→bX c B a w→Q .normal a w)(hgs:fP c.P c.n aS aS.toList=some gs)(af:uq fs L aS.toList gs σ) :
  ∀ (fuel:Nat) (listed:Array Bool) (A:ai) (a:Act) (w:World),listed.size=aS.size→(∀ i o,aS.toList[i]?=some o→listed.getD i false=true→∀ k∈cj o,listed.getD k false=true)→(dZ σ listed).length≤fuel →
   (dZ σ listed=[]∨cW L A)→bO c.P c.Y fs K (az (gz gs σ listed) A)→bX c A a w→wpAnyIn c.bz 9 c.P .any aS Q fuel listed a w:=by
 obtain ⟨hlen,hat⟩:=iB hgs;have onOf_mem:∀ (o:Oper) (e:Edge),e∈o.after→Region.binds .any e=true→e.on∈cj o:=fun o e he hb=>by
  simp only[cj,zz5,zy3];exact ⟨e,⟨by simpa using he,hb⟩,rfl⟩
 have of_onOf:∀ (o:Oper) (k:Nat),k∈cj o→∃ e∈o.after,Region.binds .any e=true∧e.on=k:=fun o k hk=>by
  simp only[cj,zz5,zy3] at hk;obtain ⟨e,⟨J,U⟩,ah⟩:=hk;exact ⟨e,by simpa using J,U,ah⟩
 have hgl:gs.length=aS.size:=by rw[hlen,zz6]
 have last:∀ (listed:Array Bool) (A:ai) (a:Act) (w:World),listed.size=aS.size→Region.ready .any aS listed=[]→bO c.P c.Y fs K (az (gz gs σ listed) A)→bX c A a w→Q .normal a w:=by
  intro listed A a w hsz hr hwp ab;have hnone:dZ σ listed=[]:=by
   have all:∀ n,∀ i,i<n→i<aS.size→listed.getD i true=true:=by
    intro n
    induction n with
    |zero=>intro i hi;omega
    |succ n ih =>
     intro i hi his;cases hb:listed.getD i true with
     |true=>rfl
     |false =>
      exfalso
      have ho:aS[i]?=some aS[i]:=zy7 his;have:i∈Region.ready .any aS listed:=mem_ready.2 ⟨hb,aS[i],ho,fun e he hbd=>by
       have hlt:=af.iA i aS[i] (by simp) e.on (onOf_mem _ e he hbd);have J:=ih e.on (by omega) (by omega);have U:e.on<listed.size:=by omega
       simpa[Array.getD_eq_getD_getElem?,U] using J⟩
      rw[hr] at this;cases this
   simp only[dZ];refine List.filter_eq_nil_iff.2 fun i hi =>?_;have:=all (i+1) i (by omega) (by rw[←hgl];exact af.lt i hi);simp only[this,Bool.not_true,Z2,not_false_eq_true]
  simp only[gz,hnone,zy1,az] at hwp;cases hwp with
  |done hk=>exact hQ A a w hk ab
 intro fuel
 induction fuel with
 |zero =>
  intro listed A a w hsz hcl hcnt hinv hwp ab;have hnone:dZ σ listed=[]:=List.length_eq_zero_iff.1 (by omega);have hr:Region.ready .any aS listed=[]:=by
   refine List.eq_nil_iff_forall_not_mem.2 fun i hi =>?_;obtain ⟨J,o,ho,_⟩:=mem_ready.1 hi;have:i∈dZ σ listed:=by
    simp only[dZ,zy3,J,Bool.not_false,and_true];exact af.all i (by rw[hgl];exact (Y4.1 ho).1)
   rw[hnone] at this;cases this
  exact ⟨hr,last listed A a w hsz hr hwp ab⟩
 |succ fuel ih =>
  intro listed A a w hsz hcl hcnt hinv hwp ab;refine ⟨fun hr=>last listed A a w hsz hr hwp ab,fun i hi =>?_⟩;obtain ⟨hun,o,ho,hall⟩:=mem_ready.1 hi;have hin:i<aS.size:=(Y4.1 ho).1;obtain ⟨s1,s2,hσ,e1,e2⟩:=xd af.nS (af.all i (by omega)) (by omega) hun;have hinv:cW L A:=by
   rcases hinv with h | h
   ·rw[e1] at h;simp at h
   ·exact h
  have hol:aS.toList[i]?=some o:=by simpa using ho
  obtain ⟨g,hgi,hcg⟩:=hat i o hol;have hon:∀ k∈cj o,listed.getD k false=true:=fun k hk=>by
   obtain ⟨e,J,U,ah⟩:=of_onOf o k hk;exact ah▸hall e J U
  have hgd:gs.getD i default=g:=by simp[Z0,hgi]
  have hwp':bO c.P c.Y fs K (az (g::gz gs σ (listed.setIfInBounds i true)) A):=by
   simp only[gz,e1,Y6,Z4,hgd] at hwp;simp only[gz,e2,Y6];refine bO.nx hinv (fun j hj =>?_) hwp;obtain ⟨k,hk,rfl⟩:=zz5.1 hj;obtain ⟨hk1,hk2⟩:=zy3.1 hk;have:=af.pc (fun k=>listed.getD k false=true) hcl s1 i s2 o hσ hol hon k hk1 (by
    have hks:k<listed.size:=by
     have:=af.lt k (by rw[hσ];exact List.mem_append_left _ hk1);omega
    simp[Array.getD_eq_getD_getElem?,hks] at hk2 ⊢;exact hk2)
   rw[hgd] at this;have hkl:=af.lt k (by rw[hσ];exact List.mem_append_left _ hk1);have hks:k<aS.size:=by omega
   refine ⟨this,?_⟩;rcases af.qG k aS[k] (by simp) with h | h
   ·exact h
   ·exfalso
    have h9:=h.1;rw[hσ,List.getLast?_append] at h9;have hne:(i::s2).getLast?=some k:=by
     cases h10:(i::s2).getLast? with
     |none=>simp at h10
     |some q=>rw[h10] at h9;simpa using h9
    have hk2:k∈i::s2:=List.mem_of_getLast? hne;have hnd:=af.nS;rw[hσ] at hnd;exact (List.nodup_append.1 hnd).2.2 k hk1 k hk2 rfl
  unfold wpOpIn;rw[ho];have hgm:g∈gs:=List.mem_of_getElem? hgi;have hokg:mL g.op=true:=by
   have:=af.ok i (by omega)
   rwa [hgd] at this
  have hcl':∀ m om,aS.toList[m]?=some om→(listed.setIfInBounds i true).getD m false=true→∀ k∈cj om,(listed.setIfInBounds i true).getD k false=true:=by
   intro m om hom hm k hk;by_cases hmi:m=i
   ·subst hmi;rw[hol,v6] at hom;subst hom;exact getD_set_true (hon k hk)
   ·rw[getD_set_ne false (Ne.symm hmi)] at hm;exact getD_set_true (hcl m om hom hm k hk)
  have hfu:(dZ σ (listed.setIfInBounds i true)).length≤fuel:=by
   have:(dZ σ listed).length=(dZ σ (listed.setIfInBounds i true)).length+1:=by
    rw[e1,e2];simp;omega
   omega
  rcases af.qG i o hol with hlb | ⟨hla,hlb⟩
  ·rw[hgd] at hlb;exact sK hcg hinv ⟨hokg,hlb⟩ hwp' ab fun B a' w' hw hiB hs'=>ih _ B a' w' (by simpa using hsz) hcl' hfu (.inr hiB) hw hs'
  ·have hnil:dZ σ (listed.setIfInBounds i true)=[]:=by
    simp only[dZ];refine List.filter_eq_nil_iff.2 fun j hj =>?_;have hjl:=af.lt j hj;by_cases hji:j=i
    ·subst hji;have:j<listed.size:=by omega
     simp[this]
    ·have h5:=hlb (fun k=>listed.getD k false=true) hcl hon j hjl hji;have hjs:j<listed.size:=by omega
     have h6:(listed.setIfInBounds i true).getD j true=listed.getD j true:=getD_set_ne true (Ne.symm hji);rw[h6];simp[Array.getD_eq_getD_getElem?,hjs] at h5 ⊢;exact h5
   have hin0:cW [] A:=fun s ns h=>by cases h
   exact sK (L:=[]) hcg hin0 ⟨hokg,by simp[hZ,hX];cases g.dst <;>rfl⟩ hwp' ab fun B a' w' hw hiB hs'=>ih _ B a' w' (by simpa using hsz) hcl' hfu (.inl hnil) hw hs'
theorem ae.XS{Q:Exit→ai→Prop}{A:ai}{on:List (List Nat)}{gs:List aE}(ab:List FuncId)(L:eb)(cl σ:List Nat)(af:pI ab L on gs cl σ=true)(hi:cW L A)(h:∀ K:ai→Prop,(∀ B,Q .normal B→K B)→bO c.P c.Y ab K (az (fe σ gs) A)):ae c (.b8 (some on) gs) Q A:=by
 intro code hc a w hs';cases code <;>simp only[eC] at hc <;>try (first | (cases hc;done) | ((repeat' split at hc) <;>cases hc;done))
 rename_i id aS draw;split at hc
 ·rename_i gs' hgs;split at hc
  case isFalse=>cases hc
  rename_i hok;simp only[v6,bx.b8.injEq] at hc;obtain ⟨he,rfl⟩:=hc;cases draw with
  |false=>cases he
  |true =>
   simp only[cond_true,v6] at he;subst he;simp only[Bool.not_true,Bool.false_or] at hok;have hp:=C3 (iB hgs).1 af;refine wpIn_region_any hok (G0 (K:=Q .normal) (fun B a w hk ab=>⟨B,hk,ab⟩) hgs hp aS.size (Array.replicate aS.size false) A a _ (by simp) ?_ ?_ (.inr hi) ?_ ?_)
   ·intro i o _ h
    exfalso
    simp only[Array.getD_eq_getD_getElem?,Array.getElem?_replicate] at h;split at h <;>simp at h
   ·refine zx4 (List.length_filter_le _ _) ?_;rw[hp.len,(iB hgs).1,zz6];exact Z3 _
   ·have hall:dZ σ (Array.replicate aS.size false)=σ:=by
     simp only[dZ];refine List.filter_eq_self.2 fun i hi =>?_;have J:=hp.lt i hi;rw[(iB hgs).1,zz6] at J;simp[J]
    simp only[gz,hall];exact h _ fun _ hb=>hb
   ·obtain ⟨D,E,hs'⟩:=hs';exact ⟨D,E,hs'.grow (w' := { w with drawn:=w.drawn+1 }) ⟨rfl,rfl,rfl,Z3 _,fun _ _=>rfl⟩ (fun _ _ h=>h) (fun _ _ h _=>h) (fun b o h=>hs'.aQ b o h)⟩
 ·cases hc
end
def ka(on:List (List Nat)):List Nat:=on.foldl (fun acc ks=>acc++[lx acc ks]) []
def ve(d:Option (List (List Nat)))(gs:List aE):Bool:=match d with
 |none=>true
 |some on=>sB on gs (ka on)
section
variable {c:cV} {Q:Exit→ai→Prop} {A:ai} {d:Option (List (List Nat))} {on:List (List Nat)} {gs:List aE}
theorem ae.j0(af:ve d gs=true)(h:∀ K:ai→Prop,(∀ B,Q .normal B→K B)→aR c.P c.Y d.isSome K (az gs A)):ae c (.b8 d gs) Q A:=by
 cases d with
 |none=>exact ae.b8 (cl:=[]) rfl h
 |some on=>exact ae.b8 (cl:=ka on) af h
theorem ae.gq{y:bx}(af:ve d gs=true)(h:∀ K:ai→Prop,(∀ B,ae c y Q B→K B)→aR c.P c.Y d.isSome K (az gs A)):ae c (.seq (.b8 d gs) y) Q A :=
 ae.seq (ae.j0 af h)
theorem ae.rp(ab:List FuncId)(L:eb)(σ:List Nat)(af:tu ab L on gs (ka on) σ=true)(hi:cW L A)(h:∀ K:ai→Prop,(∀ B,Q .normal B→K B)→bO c.P c.Y ab K (az (fe σ gs) A)):ae c (.b8 (some on) gs) Q A :=
 ae.XR ab L (ka on) σ af hi h
theorem ae.rq(ab:List FuncId)(L:eb)(σ:List Nat)(af:pI ab L on gs (ka on) σ=true)(hi:cW L A)(h:∀ K:ai→Prop,(∀ B,Q .normal B→K B)→bO c.P c.Y ab K (az (fe σ gs) A)):ae c (.b8 (some on) gs) Q A :=
 ae.XS ab L (ka on) σ af hi h
def gD(c:cV):bx→(Exit→ai→Prop)→ai→Prop
 | .seq x y,Q,A=>gD c x (ef (fun B=>ae c y Q B) Q) A
 | .block id x,Q,A=>gD c x (jL id Q) A
 | .skip,Q,A=>Q .normal A
 | .exit id,Q,A=>Q (.exit id) A
 | .ret,Q,A=>Q .ret A
 | .cond b x y,Q,A=>aC (ak A b) (ae c x Q A) (ae c y Q A)
 |x,Q,A=>ae c x Q A
def Vq:bx→Bool
 | .seq _ _ | .block _ _ | .skip | .exit _ | .ret | .cond _ _ _=>true
 |_=>false
theorem gD.uE:∀ (x:bx) {Q:Exit→ai→Prop} {A:ai},gD c x Q A→ae c x Q A
 | .seq x y,_,_,h=>ae.seq (gD.uE x h)
 | .block id x,_,_,h=>ae.block (gD.uE x h)
 | .skip,_,_,h=>ae.skip h
 | .exit _,_,_,h=>ae.exit h
 | .ret,_,_,h=>ae.ret h
 | .cond _ _ _,_,_,h=>ae.js h
 | .b8 _ _,_,_,h | .loop _,_,_,h | .scope _,_,_,h | .label,_,_,h | .uF,_,_,h | .l9 _ _ _ _,_,_,h=>h
theorem ae.of{x:bx}(_:Vq x=true)(h:gD c x Q A):ae c x Q A:=gD.uE x h
theorem aK :
  (∀ c x y Q A,gD c (.seq x y) Q A=gD c x (ef (fun B=>ae c y Q B) Q) A)∧(∀ c id x Q A,gD c (.block id x) Q A=gD c x (jL id Q) A)∧(∀ c Q A,gD c .skip Q A=Q .normal A)∧(∀ c id Q A,gD c (.exit id) Q A=Q (.exit id) A)∧(∀ c Q A,gD c .ret Q A=Q .ret A) ∧
  (∀ c b x y Q A,gD c (.cond b x y) Q A=aC (ak A b) (ae c x Q A) (ae c y Q A))∧(∀ c d gs Q A,gD c (.b8 d gs) Q A=ae c (.b8 d gs) Q A)∧(∀ c x Q A,gD c (.loop x) Q A=ae c (.loop x) Q A)∧(∀ c f ps x y Q A,gD c (.l9 f ps x y) Q A=ae c (.l9 f ps x y) Q A) ∧
  (∀ k Q A,ef k Q .normal A=k A)∧(∀ k Q A,ef k Q .ret A=Q .ret A)∧(∀ k Q A i,ef k Q (.exit i) A=Q (.exit i) A)∧(∀ i Q A,jL i Q .normal A=Q .normal A)∧(∀ i Q A,jL i Q .ret A=Q .ret A)∧(∀ i Q A j,jL i Q (.exit j) A=if j=i then Q .normal A else Q (.exit j) A) ∧
  (∀ p q,aC (.bool true) p q=p)∧(∀ p q,aC (.bool false) p q=q)∧(type_of% @B5) :=
 ⟨fun _ _ _ _ _=>rfl,fun _ _ _ _ _=>rfl,fun _ _ _=>rfl,fun _ _ _ _=>rfl,fun _ _ _=>rfl,fun _ _ _ _ _ _=>rfl,fun _ _ _ _ _=>rfl,fun _ _ _ _=>rfl,fun _ _ _ _ _ _ _=>rfl,fun _ _ _=>rfl,fun _ _ _=>rfl,fun _ _ _ _=>rfl,fun _ _ _=>rfl,fun _ _ _=>rfl,fun _ _ _ _=>rfl,
  fun p q=>by simp[aC],fun p q=>by simp[aC],B5⟩
theorem aC.aI{t:Bool}{p q:Prop}(J:t=true→p)(U:t=false→q):aC (.bool t) p q:=⟨J,U⟩
theorem ae.aJ{g:aE}{r:List aE}(af:ve d gs=true)(e:gs=g::r)(h:∀ K:ai→Prop,(∀ B,Q .normal B→K B)→aR c.P c.Y d.isSome K (az (g::r) A)):ae c (.b8 d gs) Q A :=
 ae.j0 af (e▸h)
theorem aR.aA(L:List Nat){P:Program}{Y:Value→List I→List (Nat×aq)→cF→Prop}{dr:Bool}{x:bx}{K:ai→Prop}{ts:List (Nat×I)}{os:List (Nat×aq)}(hK:∀ B,ae c x Q B→K B)(h:ae c x Q (au (gV L ts) os)):aR P Y dr K (.done (au ts os)) :=
 .done (hK _ (ae.eT L h))
theorem bO.aA(L:List Nat){P:Program}{Y:Value→List I→List (Nat×aq)→cF→Prop}{ab:List FuncId}{x:bx}{K:ai→Prop}{ts:List (Nat×I)}{os:List (Nat×aq)}(hK:∀ B,ae c x Q B→K B)(h:ae c x Q (au (gV L ts) os)):bO P Y ab K (.done (au ts os)) :=
 .done (hK _ (ae.eT L h))
end
section
variable {c:cV} {A:ai} {o:Oper}
theorem zE{P:Program}{m:Nat}{aS:Array Oper}{l:List Oper}{gs:List aE}(h:fP P m aS (o::l)=some gs):∃ g gs',gs=g::gs'∧lG P m aS o=some g∧fP P m aS l=some gs':=by
 simp only[fP] at h;split at h
 ·rename_i g gs' J U;simp only[v6] at h;exact ⟨g,gs',h.symm,J,U⟩
 ·cases h
end
def tM(P:Program)(f:FuncId)(ch:List PanicEntry)(vs:Array Value)(w:World)(R:Ending→World→Prop):Prop :=
 Calls P f vs w fun e w'=>e=.panicked ch∧R (.returned (.tuple #[])) w'
theorem tM.mono{P:Program}{f:FuncId}{ch:List PanicEntry}{vs:Array Value}{w:World}{R R':Ending→World→Prop}(h:tM P f ch vs w R)(hr:∀ e w',R e w'→R' e w'):tM P f ch vs w R' :=
 Calls.mono h fun _ _ q=>⟨q.1,hr _ _ q.2⟩
def pH(post:List (Nat×aq)→Prop):cF:=fun r os'=>r=.tuple []∧post os'
def fi(P:Program)(f:FuncId)(ch:List PanicEntry)(args:List I)(os:List (Nat×aq))(post:List (Nat×aq)→Prop):Prop :=
 e8 P f=true∧np (tM P f ch) (fun w _ E=>gL P w (cI E)) args os (pH post)
def wX(ch:List PanicEntry)(post:List (Nat×aq)→Prop):Exit→ai→Prop
 | .panic ch',A=>ch'=ch∧iW [] (pH post) A
 |_,_=>False
theorem B9{P:Program}{n:Nat}{w:World}{D:aP}{E:aY}{Y:Value→List I→List (Nat×aq)→cF→Prop}{post:List (Nat×aq)→Prop}{fn:Func}{A:ai}{D':aP}{E':aY}{ch:List PanicEntry}(h:iW [] (pH post) A){R:World→Prop}(hR:∀ v w',lA w D E (pH post) v w'→R w') :
  ∀ (ds:List Deferred) (a:Act) (w':World),a.defers=ds→aU ⟨P,w,D,n,cI E,E,Y,none,none⟩ A a w' D' E'→LeavesInM Fence.wide 9 P fn a.tmps (fun e w'=>e=.panicked ch∧R w') ds (.panicking ch) w'
 | [],a,w',_,ab=>by
  obtain ⟨v,J,U⟩:=ab.sW (fn := { fn with results := #[] }) (rs:=[]) rfl h;exact ⟨rfl,hR v w' U⟩
 |d::ds,a,w',af,ab=>by
  obtain ⟨Bs,J,_⟩:=ab.eD;rw[af] at J;cases Bs with
  |nil=>cases J
  |cons B Bs =>
   simp only[Z4,zx2] at J;obtain ⟨rfl,rfl⟩:=J;obtain ⟨k1,k2⟩:=ab.Am rfl af;exact ⟨by simp,.inl ⟨B,_,rfl,run_takeDeferred k1,B9 h hR _ { a with defers:=Bs.map _ } _ rfl k2⟩⟩
theorem Cc{w:World}{D:aP}{E:aY}{post:List (Nat×aq)→Prop}{v:Value}{w':World}(h:lA w D E (pH post) v w'):∃ v' D' E' r os',Ending.returned (.tuple #[])=.returned v'∧pH post r os'∧aZ w' D' E' r v'∧jH (fun b=>w.heap.size≤b∨cI E b) w' D' E' (aj os') ∧
   eZ (fun b=>w.heap.size≤b∨cI E b) w w'∧(∀ b o,D b o→D' b o)∧(∀ b o,D' b o→b<w'.heap.size)∧(∀ b o,D' b o→b<w.heap.size→¬ cI E b→D b o) ∧
   (∀ n e,E n=some e→aw os' n=true→∃ e',E' n=some e'∧e.le e')∧gM w D w':=by
 obtain ⟨D',E',r,os',J,U,ah⟩:=h;refine ⟨_,D',E',r,os',rfl,J,?_,ah⟩;obtain ⟨rfl,_⟩:=J;simp only[aZ];exact ⟨[],by simp,by simp[aF]⟩
theorem fi.mk{P:Program}{f:FuncId}{fn:Func}{x:bx}{ch:List PanicEntry}{args:List I}{os:List (Nat×aq)}{post:List (Nat×aq)→Prop}(hf:P.funcs[f]?=some fn)(hcall:e8 P f=true)(hc:(fn.body.bind (eC P fn.ntmps))=some x)
  (hn:args.length≤fn.ntmps) (hn2:fn.ntmps≤1000000) (hos:∀ m,aw os m=true→1000000≤m) (h:I.gl args→∀ (w:World) (D:aP) (E:aY),ae ⟨P,w,D,fn.ntmps,cI E,E,dj,none,none⟩ x (wX ch post) (au (bN 0 args) os)):fi P f ch args os post:=by
 obtain ⟨body,hb,hc'⟩:=zy6.1 hc;refine ⟨hcall,fun w D E vs ao hD ho hv =>?_⟩;have hlen:=rF hv;have hsim:=xI (P:=P) (n:=fn.ntmps) (Y:=dj) hD ho hv (by omega) (fun m hm=>⟨zx4 hn2 (hos m hm),hos m hm⟩) (pT ao);refine (callsIn_wide (n:=9)).1 (callsIn_of_wp_marks hf hb trivial ?_);refine wpIn_mono (((h (pO _ _ hv) w D E).sub (tW args os)) body hc' _ w ⟨D,E,hsim⟩) ?_;rintro e a w' ⟨A,hq,D',E',ab⟩;cases e <;>simp only[wX] at hq
 obtain ⟨rfl,hq⟩:=hq;exact B9 hq (fun v w' h=>Cc h) a.defers a w' rfl ab
theorem fi.Xq{P:Program}{f:FuncId}{ch:List PanicEntry}{args:List I}(hcall:e8 P f=true)(h:∀ (w:World) (D:aP) (vs:List Value),aF w D c4 args vs→Calls P f vs.toArray w fun e w'=>e=.panicked ch∧w'=w)(hfl:I.nF args=true):fi P f ch args [] (fun os'=>os'=[]):=by
 refine ⟨hcall,fun w D E vs _ hD ho hv =>?_⟩;refine Calls.mono (h w D vs (aF.flat _ _ hfl hv)) ?_;rintro e w' ⟨rfl,rfl⟩;refine ⟨rfl,Cc (v:=.tuple #[]) ⟨D,E,.tuple [],[],⟨rfl,rfl⟩,by simp only[aZ];exact ⟨[],by simp,by simp[aF]⟩,?_,eZ.refl _ _,fun _ _ h=>h,hD,fun _ _ h _ _=>h,fun n e h hn=>by simp[aw,aj] at hn,.refl _ _⟩⟩;exact ⟨fun n=>ho.bP n,fun n m e e' b J U ah ar=>ho.cN n m e e' b J U ah ar⟩
section
variable {c:cV} {A:ai} {Q:Exit→ai→Prop}
theorem sN{dr:Bool}{K:ai→Prop}{aS:Array Oper}{Q:Exit→Act→World→Prop}{l2:List Oper}(hQ:∀ B a w,K B→bX c B a w→wpListIn c.bz 9 c.P aS Q l2 a w):∀ (l:List Oper) (gs:List aE) (A:ai) (a:Act) (w:World),fP c.P c.n aS l=some gs→aR c.P c.Y dr K (az gs A) →
  bX c A a w→wpListIn c.bz 9 c.P aS Q (l++l2) a w
 | [],gs,A,a,w,hc,hwp,ab=>by
  simp only[fP,v6] at hc;subst hc;simp only[az] at hwp;cases hwp with
  |done hk=>exact hQ A a w hk ab
 |o::l,gs,A,a,w,hc,hwp,ab=>by
  simp only[fP] at hc;split at hc
  case h_2=>cases hc
  rename_i g gs' hg hgs;simp only[v6] at hc;subst hc;obtain ⟨J,U,ah,ar⟩:=ny hg;have step:aR c.P c.Y dr K (bj A g.dst g.op gs' (az gs'))→o.wpIn c.bz 9 c.P a w (wpListIn c.bz 9 c.P aS Q (l++l2)) Q:=fun h =>
   sL J U.symm (by rw[U];exact ah) h ab (fun B a' w' hw hs'=>sN hQ l gs' B a' w' hgs hw hs')
  simp only[Z9,wpListIn];simp only[az] at hwp;rcases ar with ⟨h5,h6⟩ | ⟨j,b,t,h5,h6,h7⟩
  ·rw[h6] at hwp;have hw:Region.wanted o (yielded aS a.tmps)=true:=by simp[Region.wanted,h5]
   rw[hw,if_pos rfl];exact step hwp
  ·rw[h7] at hwp;simp only at hwp;split at hwp
   ·rename_i b' hb';rw[sP ab h5 h6 hb'];split at hwp
    ·rename_i hbb;subst hbb;simp only[BEq.rfl,if_true];exact step hwp
    ·rename_i hbb;have:(b'==b)=false:=by simpa using hbb
     rw[this];simp only[Z2,if_false];exact ⟨fun f _=>lO c f,sN hQ l gs' _ _ w hgs hwp (by rw[U];exact ab.mS ah)⟩
   ·rename_i hb';rw[sQ ab h5 h6 hb'];simp only[Z2,if_false];exact ⟨fun f _=>lO c f,sN hQ l gs' _ _ w hgs hwp (by rw[U];exact ab.mS ah)⟩
   ·cases hwp
theorem zD{P:Program}{m:Nat}{aS:Array Oper}{g:aE}{gs2:List aE} : ∀ {l:List Oper} {gs1:List aE},fP P m aS l=some (gs1++g::gs2)→∃ l1 o l2,l=l1++o::l2∧fP P m aS l1=some gs1∧lG P m aS o=some g
 | [],gs1,h=>by simp[fP] at h
 |o::l,[],h=>by
  obtain ⟨g',gs',e,J,U⟩:=zE h;simp only[List.nil_append,zx2] at e;obtain ⟨rfl,rfl⟩:=e;exact ⟨[],o,l,rfl,rfl,J⟩
 |o::l,k::gs1,h=>by
  obtain ⟨g',gs',e,J,U⟩:=zE h;simp only[Z9,zx2] at e;obtain ⟨rfl,rfl⟩:=e;obtain ⟨l1,o',l2,rfl,q1,q2⟩:=zD U;exact ⟨o::l1,o',l2,rfl,by simp only[fP,J,q1],q2⟩
inductive nr (P:Program) (Q:Exit→ai→Prop) (f:FuncId) (avs:List I):ai→Prop where
 |mk {ts:List (Nat×I)} {os0:List (Nat×aq)} (aN:Bool) (ρ:List (Nat×Nat)) (os:List (Nat×aq)) (cargs:List I) (ch:List PanicEntry) (post:List (Nat×aq)→Prop):fi P f ch cargs os post→gn ρ os os0→gN aN (au ts (eM (iK ρ os) os0)) ρ os avs cargs →
  (∀ os',post os'→gC aN ρ os os0 (.tuple []) os')→(∀ os',post os'→Q (.panic ch) (au ts (dB ρ os'++os0)))→nr P Q f avs (au ts os0)
inductive mn (P:Program) (Q:Exit→ai→Prop):bT→ai→Prop where
 |call {f:FuncId} {args:List aO} {A:ai} : nr P Q f (args.map (ak A)) A→mn P Q (.call f args) A
 |fQ {x:aO} {args:List aO} {f:Nat} {caps:List I} {A:ai} : ak A x=.func f caps→nr P Q (kU f) (h4 f (args.map (ak A)) caps) A→mn P Q (.fQ x args) A
theorem wZ{o:Oper}{g:bT}{f:FuncId}{avs:List I}{vs:List Value}{a:Act}{w:World}{D:aP}{E:aY}{Kw:Act→World→Prop}(hop0:db c.P o=some g)(h:nr c.P Q f avs A)(ab:aU c A a w D E)(hall:fD (aZ w D E) avs vs)
  (hrun:e8 c.P f=true→(execOp a.eval o).run c.P w=.ok (.enter f vs.toArray) w):o.wpIn c.bz 9 c.P a w Kw (sX c Q):=by
 cases h with
 |mk aN ρ os cargs ch post hspec hgv ha hb hrest =>
  have hu:=hspec.2.use ab aN (fun h=>h.mono) ⟨fun _ _=>ab.pk,fun _=>ab.pk⟩ hgv ha (fun r os' hp=>by obtain ⟨rfl,hp⟩:=hp;exact hb os' hp) hall;refine ⟨kG,?_⟩;rw[lp hop0,hrun hspec.1,Oper.uponIn_enter];refine ⟨vb c,zY (Calls.mono hu ?_)⟩;rintro e w' ⟨rfl,v,r,os',D2,E2,he,⟨rfl,hp⟩,hs',hv,_⟩;exact ⟨_,hrest os' hp,D2,E2,hs'⟩
theorem C0{o:Oper}{g:bT}{a:Act}{w:World}{Kw:Act→World→Prop}(hop:db c.P o=some g)(h:mn c.P Q g A)(hsim:bX c A a w):o.wpIn c.bz 9 c.P a w Kw (sX c Q):=by
 have hop0:=hop;obtain ⟨D,E,ab⟩:=hsim;cases h with
 |call h =>
  unfold db at hop;split at hop <;>try (first | (simp at hop;done) | ((repeat' split at hop) <;>simp at hop;done))
  rename_i f' xs ts ho;split at hop
  case isFalse=>simp at hop
  simp only[t7,bT.call.injEq] at hop;obtain ⟨ys,hys,rfl,rfl⟩:=hop;have e:xs.map a.eval=(xs.toList.map a.eval).toArray:=by apply Array.ext';simp
  refine wZ (vs:=xs.toList.map a.eval) hop0 h ab (kH ab xs.toList ts.toList ys hys) fun hc =>?_;simp only[execOp,ho,resolve,Act.eval,Deferred.ofValue,Sem.run_bind,Sem.run_pure,Result.andThen_ok,invoke,Array.append_empty,Array.empty_append,mW hc];rw[←e]
 |fQ hx h =>
  rename_i x args f caps;unfold db at hop;split at hop <;>try (first | (simp at hop;done) | ((repeat' split at hop) <;>simp at hop;done))
  rename_i y xs ts _ ho;split at hop
  case h_2=>cases hop
  rename_i y' ys J U;simp only[v6,bT.fQ.injEq] at hop;obtain ⟨rfl,rfl⟩:=hop;have hv:=bV ab J;rw[hx] at hv;obtain ⟨cs,q1,q2⟩:=hv;simp only[al] at q2;obtain ⟨vs,q3,q4⟩:=q2;have hval:a.eval y=jr f vs:=by simpa[bA,I.isAgg,q3] using q1.symm
  have e:xs.map a.eval=(xs.toList.map a.eval).toArray:=by apply Array.ext';simp
  have hargs:=kH ab xs.toList ts.toList ys U;rcases Nat.lt_or_ge f 1000000 with hf | hf
  ·rw[vx hf,vw hf] at h;rw[mB hf] at hval;refine wZ (vs:=xs.toList.map a.eval++vs) hop0 h ab (hargs.append (rE q4)) fun hc =>?_;simp only[execOp,ho,resolve,hval,Deferred.ofValue,Sem.run_bind,Sem.run_pure,Result.andThen_ok,invoke,Array.empty_append,mW hc];rw[e];simp
  ·obtain ⟨g,rfl⟩:∃ g:Nat,f=g+1000000:=⟨Nat.sub f 1000000,(Nat.sub_add_cancel hf).symm⟩
   rw[sD,vv] at h;rw[qo] at hval;refine wZ (vs:=vs++xs.toList.map a.eval) hop0 h ab ((rE q4).append hargs) fun hc =>?_;simp only[execOp,ho,resolve,hval,Deferred.ofValue,Sem.run_bind,Sem.run_pure,Result.andThen_ok,invoke,Array.append_empty,mW hc];rw[e];simp
theorem ae.XQ{gs:List aE}(k:Nat){g:bT}{dst:Option Nat}(hk:gs=gs.take k++⟨dst,g,none⟩::gs.drop (k+1))(h:∀ K:ai→Prop,(∀ B,mn c.P Q g B→K B)→aR c.P c.Y false K (az (gs.take k) A)):ae c (.b8 none gs) Q A:=by
 intro code hc a w ab;cases code <;>simp only[eC] at hc <;>try (first | (cases hc;done) | ((repeat' split at hc) <;>cases hc;done))
 rename_i id aS draw;split at hc
 case h_2=>cases hc
 rename_i gs' hgs;split at hc
 case isFalse=>cases hc
 simp only[v6,bx.b8.injEq] at hc;obtain ⟨hdr,rfl⟩:=hc;cases draw with
 |true=>simp at hdr
 |false =>
  refine wpIn_region_list ?_;rw[hk] at hgs;obtain ⟨l1,o,l2,ao,J,U⟩:=zD hgs;rw[ao];refine sN (K:=mn c.P Q g) (fun B a' w' hp hs' =>?_) l1 _ A a w J (h _ fun _ hb=>hb) ab;obtain ⟨q1,q2,q3,q4⟩:=ny U;have wn:Region.wanted o (yielded aS a'.tmps)=true:=by
   rcases q4 with ⟨a5,_⟩ | ⟨_,_,_,_,_,a5⟩
   ·simp[Region.wanted,a5]
   ·simp at a5
  simp only[wpListIn,wn,if_true];exact C0 q1 hp hs'
theorem ae.n2{gs gs1 gs2:List aE}{g:bT}{dst:Option Nat}(e:gs=gs1++⟨dst,g,none⟩::gs2)(h:∀ K:ai→Prop,(∀ B,mn c.P Q g B→K B)→aR c.P c.Y false K (az gs1 A)):ae c (.b8 none gs) Q A:=by
 subst e;refine ae.XQ gs1.length (g:=g) (dst:=dst) ?_ fun K hK =>?_
 ·simp
 ·simpa using h K hK
end
theorem Ym{w:World}{b:Nat}{cs:Array Value}{T:TypeId}{fr:Nat×Nat}{v:Value}(h:w.heap[b]?=some (.cells cs T fr)):w.setCell ⟨b,0,none⟩ v=w.setRow b (cs.setIfInBounds 0 v):=by
 unfold World.setCell World.setRow
 congr 1
 apply Array.ext
 ·simp
 ·intro i J U;simp only[Array.getElem_modify];split
  ·rename_i e;subst e;obtain ⟨_,hv⟩:=Y4.1 h;simp[hv]
  ·rfl
def r3(P:Program)(f:FuncId):Prop:=e8 P f=true∧∀ (b:Nat) (T:TypeId) (w:World) (x:Bool),w.heap[b]?=some (.cells #[.bool x] T (0,0))→CallsDIn Fence.wide 8 P f #[.pointer (some ⟨b,0,none⟩)] .returning w fun e u' w'=>(∃ v,e=.returned v)∧u'=.returning∧w'=w
def rW(P:Program)(f:FuncId)(ch:List PanicEntry):Prop:=e8 P f=true∧∀ (b:Nat) (T:TypeId) (w:World) (x:Bool),w.heap[b]?=some (.cells #[.bool x] T (0,0)) →
 CallsDIn Fence.wide 8 P f #[.pointer (some ⟨b,0,none⟩)] (.panicking ch) w fun e u' w'=>(∃ v,e=.returned v)∧settle u'=.returning∧∃ w2,Below w.heap.size w w2∧w'=w2.setCell ⟨b,0,none⟩ (.bool false)
def kc(f:FuncId)(v:Value):Deferred := { target:=.fn (.func f) #[v],args := #[] }
def rn(rs:List bR)(post:cF)(ch:List PanicEntry)(N:Nat):Exit→ai→Prop
 | .ret,A=>(∃ x,A.o N=some (.box (.bool x)))∧iW rs post A
 | .panic ch',A=>ch'=ch∧(∃ x,A.o N=some (.box (.bool x)))∧iW rs post (A.aV N (.box (.bool false)))
 |_,_=>False
section
variable {P:Program} {n:Nat} {w:World} {D:aP} {E:aY} {rs:List bR} {post:cF} {fn:Func} {ch:List PanicEntry} {f:FuncId} {N b:Nat}
theorem Ca(hrs:gO P fn.results.toList=some rs)(hEN:E N=some (.aN b .one)){A:ai}{D':aP}{E':aY}{u:FrameMode}(hx:∃ x,A.o N=some (.box (.bool x)))
  (hcase:(u=.returning∧iW rs post A∧r3 P f)∨(u=.panicking ch∧iW rs post (A.aV N (.box (.bool false)))∧rW P f ch)) :
  ∀ (ds:List Deferred) (a:Act) (w':World),a.defers=ds→aU ⟨P,w,D,n,cI E,E,dj,none,some [kc f (.pointer (some ⟨b,0,none⟩))]⟩ A a w' D' E'→LeavesInM Fence.wide 9 P fn a.tmps (fun e w'=>∃ v,e=.returned v∧lA w D E post v w') ds u w'
 | [],a,w',af,ab=>by
  have J:a.defers=[kc f (.pointer (some ⟨b,0,none⟩))]:=ab.eD;rw[af] at J;cases J
 |d::ds,a,w',af,ab=>by
  have J:a.defers=[kc f (.pointer (some ⟨b,0,none⟩))]:=ab.eD;rw[af] at J;simp only[zx2] at J;obtain ⟨rfl,rfl⟩:=J
  ·skip
   obtain ⟨x,hx⟩:=hx;obtain ⟨b',cs,T,e1,e2,e3,e4,e5⟩:cZ _ w' D' E' N (some (.box (.bool x))):=hx▸ab.bP N;have hfx:E' N=none∨E' N=some (.aN b .one):=ab.vJ (n:=N) (e:=.aN b .one) hEN rfl;have hE':E' N=some (.aN b .one):=by
    rcases hfx with h | h
    ·rw[h] at e1;cases e1
    ·exact h
   rw[hE'] at e1;simp only[v6,bM.aN.injEq] at e1;obtain ⟨rfl,_⟩:=e1;have hcs:cs = #[.bool x]:=by
    simp only[al] at e4;apply Array.ext';simpa using e4
   subst hcs;refine ⟨by rcases hcase with ⟨rfl,_⟩ | ⟨rfl,_⟩ <;>simp,.inr ⟨fun _=>by decide,.func f,#[.pointer (some ⟨b,0,none⟩)],f,#[.pointer (some ⟨b,0,none⟩)],rfl,?_,fun _ _=>trivial,?_⟩⟩
   ·have hcb:e8 P f=true:=by rcases hcase with ⟨_,_,h⟩ | ⟨_,_,h⟩ <;>exact h.1
    simp only[kc,invoke,mW hcb,Array.empty_append]
   ·rcases hcase with ⟨rfl,hr,hi⟩ | ⟨rfl,hr,hc⟩
    ·refine (hi.2 b T w' x e3).mono ?_;rintro e u' w'' ⟨⟨v,rfl⟩,rfl,rfl⟩;obtain ⟨v,J,U⟩:=ab.sW hrs hr;exact ⟨v,J,v,rfl,U⟩
    ·refine (hc.2 b T w' x e3).mono ?_;rintro e u' w'' ⟨⟨v,rfl⟩,hu,w2,hb2,rfl⟩;have hs1:=ab.grow (D':=D') hb2 (fun _ _ h=>h) (fun _ _ h _=>h) (fun b o af=>Nat.lt_of_lt_of_le (ab.aQ b o af) hb2.size);have e3':w2.heap[b]?=some (.cells #[.bool x] T (0,0)):=(hb2.block b (fM e3)).trans e3;have hs2:=hs1.xy (y:=.bool false) (cs' := #[.bool false]) hx hE' rfl (by simp[al]);have hw:w2.setCell ⟨b,0,none⟩ (.bool false)=w2.setRow b #[.bool false]:=by
      rw[Ym e3'];rfl
     rw[←hw] at hs2;obtain ⟨v,J,U⟩:=hs2.sW hrs hr;simp only[hu];exact ⟨v,J,v,rfl,U⟩
theorem pn{bz:Fence}{m:Nat}{tmps:Array Value}{R R':Ending→World→Prop}(hr:∀ e w,R e w→R' e w):∀ (ds:List Deferred) (u:FrameMode) (w:World),LeavesInM bz m P fn tmps R ds u w→LeavesInM bz m P fn tmps R' ds u w
 | [],u,w,h=>by
  cases u with
  |run=>exact h
  |returning=>obtain ⟨v,J,U⟩:=h;exact ⟨v,J,hr _ _ U⟩
  |panicking c=>exact hr _ _ h
 |d::ds,u,w,h=>by
  obtain ⟨J,U⟩:=h;refine ⟨J,?_⟩;rcases U with ⟨r,w',k1,k2,k3⟩ | ⟨k1,fv,cap,g,args,k2,k3,k4,k5⟩
  ·exact .inl ⟨r,w',k1,k2,pn hr ds u w' k3⟩
  ·refine .inr ⟨k1,fv,cap,g,args,k2,k3,k4,k5.mono fun e u' w' h =>?_⟩;cases e with
   |returned v=>exact pn hr ds _ w' h
   |panicked c=>exact pn hr ds _ w' h
   |outgrown=>exact hr _ _ h
def rD(P:Program)(fn:Func)(rest:Code)(slots:List Nat)(a:Act)(vs:Array Value)(w:World)(R:Ending→World→Prop):Prop :=
 vs.toList=slots.map (fun t=>a.tmps.getD t undef)→rest.wpIn Fence.wide 9 P (bodyPostM Fence.wide 9 P fn R) a w
theorem rD.mono{rest:Code}{slots:List Nat}{a:Act}{vs:Array Value}{w:World}{R R':Ending→World→Prop}(h:rD P fn rest slots a vs w R)(hr:∀ e w,R e w→R' e w):rD P fn rest slots a vs w R':=fun hv=>by
 refine wpIn_mono (h hv) fun e a' w' q =>?_;cases e <;>simp only[bodyPostM] at q ⊢ <;>first
  |exact pn hr _ _ _ q
  |exact hr _ _ q
  |exact q
theorem Ft{w:World}{D:aP}{E:aY}(g:Nat→Value):∀ (slots:List Nat) (args:List I),aF w D E args (slots.map g)→∀ t,aZ w D E (bW (slots.zip args) t) (g t)
 | [],args,h,t=>by simp[bW,aZ]
 |s::slots,[],h,t=>by simp[bW,aZ]
 |s::slots,x::args,h,t=>by
  simp only[aF,Z4] at h;obtain ⟨v,rest,cs,e,J,U,ah⟩:=h;simp only[zx2] at e;obtain ⟨rfl,rfl⟩:=e;simp only[List.zip_cons_cons,bW];split
  ·rename_i hk;subst hk;exact ju J U
  ·exact Ft g slots args ah t
theorem X2{rest:Code}{x:bx}{slots:List Nat}{a:Act}{args:List I}{os:List (Nat×aq)}{ts:Nat}(hrs:gO P fn.results.toList=some rs)(hx:eC P n rest=some x)(hsz:a.tmps.size=n)(af:a.defers=[kc f (a.tmps.getD ts undef)])(hos:∀ m,aw os m=true→n≤m∧1000000≤m)
  (hts:bW (slots.zip args) ts=.ptr N []) {y:Bool} (hN:aj os N=some (.box (.bool y))) (hi:r3 P f) (hc:rW P f ch)
  (hAW:∀ (w:World) (D:aP) (E:aY) (d:Deferred),ae ⟨P,w,D,n,cI E,E,dj,none,some [d]⟩ x (rn rs post ch N) (au (slots.zip args) os)):np (rD P fn rest slots a) (fun w _ E=>gL P w (cI E)) args os post:=by
 intro w D E vs ao hD ho hv hvs;have hvs':vs=slots.map (fun t=>a.tmps.getD t undef):=by simpa using hvs
 subst hvs';have htm:=Ft (fun t=>a.tmps.getD t undef) slots args hv;have hp:=htm ts;rw[hts] at hp;obtain ⟨b,aX,off,p1,p2,p3⟩:=lj hp;have hob:cZ _ w D E N (some (.box (.bool y))):=hN▸ho.bP N;obtain ⟨b',cs,T,e1,_⟩:=hob;have hsh:aX=.one:=by
  rw[p1] at e1;simp only[v6,bM.aN.injEq] at e1;rw[e1.2];rfl
 subst hsh;have hoff:off=0:=by simpa[cP.off] using p2.symm
 subst hoff;simp only[p3] at af;have hsim:aU ⟨P,w,D,n,cI E,E,dj,none,some [kc f (.pointer (some ⟨b,0,none⟩))]⟩ (au (slots.zip args) os) a w D E:=by
  refine ⟨hsz,af,htm,eZ.refl _ _,fun _ _ h _=>h,hD,fun m =>?_,ho.cN,fun m e h=>.inr ⟨e,h,.refl e⟩,fun m hm =>?_,fun _ _ h=>h,pT ao,.refl _ _⟩
  ·have h:=ho.bP m;simp only[au];cases hx:aj os m with
   |none=>rw[hx] at h;exact h
   |some x=>rw[hx] at h;exact cZ.ib h fun e b he hb=>.inr ⟨m,e,he,hb⟩
  ·refine hos m ?_;cases hx:aj os m with
   |none=>have h:=ho.bP m;rw[hx] at h;exact absurd h hm
   |some x=>simp[aw,hx]
 refine wpIn_mono ((hAW w D E _) rest hx a w ⟨D,E,hsim⟩) ?_;rintro e a' w' ⟨A,hq,D',E',ab⟩;have bh:∀ e w',(∃ v,e=Ending.returned v∧lA w D E post v w')→∃ v D' E' r os',e=.returned v∧post r os'∧aZ w' D' E' r v∧jH (fun b=>w.heap.size≤b∨cI E b) w' D' E' (aj os') ∧
   eZ (fun b=>w.heap.size≤b∨cI E b) w w'∧(∀ b o,D b o→D' b o)∧(∀ b o,D' b o→b<w'.heap.size)∧(∀ b o,D' b o→b<w.heap.size→¬ cI E b→D b o) ∧
   (∀ n e,E n=some e→aw os' n=true→∃ e',E' n=some e'∧e.le e')∧gM w D w':=fun e w' ⟨v,J,D',E',r,os',U⟩=>⟨v,D',E',r,os',J,U⟩
 cases e <;>simp only[rn] at hq
 ·obtain ⟨J,U⟩:=hq;exact pn bh _ _ _ (Ca (ch:=ch) hrs p1 J (.inl ⟨rfl,U,hi⟩) a'.defers a' w' rfl ab)
 ·obtain ⟨rfl,J,U⟩:=hq;exact pn bh _ _ _ (Ca hrs p1 J (.inr ⟨rfl,U,hc⟩) a'.defers a' w' rfl ab)
end
def u9(P:Program)(n:Nat):Code→Option (bx×FuncId×Nat×Nat×bx)
 | .seq lb (.seq (.region _ aS false) rest)=>match aS.toList with
  | [o1,o2]=>match lG P n aS o1,o2.op with
   |some ⟨some t5,.mk g [.t ts],none⟩,.defer { callee:=.value (.tmp t),args,.. } =>if t=t5∧args = #[]∧o2.guard=none∧o2.dst=none then (match eC P n lb,eC P n rest with
     |some x0,some x=>some (x0,g,ts,t5,x)
     |_,_=>none)
    else none
   |_,_=>none
  |_=>none
 |_=>none
structure GH (P:Program) (n:Nat) (x:bx) (rs:List bR) (post:cF) (ch:List PanicEntry) (g:FuncId) (ts t5:Nat) (tsl:List (Nat×I)) (os0:List (Nat×aq)) (ρ:List (Nat×Nat)) (os1:List (Nat×aq)) (slots:List Nat) (cargs:List I) (N:Nat) (y:Bool) (post1:cF):Prop where
 fK:bW tsl ts=.ptr (bI ρ N) []
 BN:gn ρ os1 os0
 arg:gN false (au ((t5,.func g [.ptr (bI ρ N) []])::tsl) (eM (iK ρ os1) os0)) ρ os1 (slots.map (bW ((t5,.func g [.ptr (bI ρ N) []])::tsl))) cargs
 yq:∀ r os',post1 r os'→gC false ρ os1 os0 r os'
 Fa:bW (slots.zip cargs) ts=.ptr N []
 box:aj os1 N=some (.box (.bool y))
 lP:∀ m,aw os1 m=true→n≤m∧1000000≤m
 rest:∀ (w:World) (D:aP) (E:aY) (d:Deferred),ae ⟨P,w,D,n,cI E,E,dj,none,some [d]⟩ x (rn rs post1 ch N) (au (slots.zip cargs) os1)
 iA:∀ r os',post1 r os'→∃ osF,r.flat=true∧r.bl (bI ρ)=r∧(∀ m z,aj osF m=some z→aj (dB ρ os'++os0) m=some z∧z.only (aw osF)=true∧z.eh=true)∧post r osF
abbrev sA(P:Program)(w:World)(D:aP)(n:Nat)(E:aY)(b:Option (List Deferred)):cV:=⟨P,w,D,n,cI E,E,dj,none,b⟩
theorem aU.VP{P:Program}{n:Nat}{w:World}{D:aP}{E:aY}{fo:Option (List Deferred)}{post:cF}{A:ai}{a:Act}{w':World}{D':aP}{E':aY}{r:I}{v:Value}{os:List (Nat×aq)}
  (ab:aU (sA P w D n E fo) A a w' D' E') (J:∀ m z,aj os m=some z→A.o m=some z∧z.only (aw os)=true∧z.eh=true) (hf:r.flat=true) (hv:aZ w' D' E' r v) (hp:post r os):lA w D E post v w':=by
 obtain ⟨D2,E2,hw,e2,e2n,q1,q2,q3,q4,q5,q6⟩:=ab.wj J;exact ⟨D2,E2,r,os,hp,aZ.flat hf hv,q1,q2,q3,q4,q5,q6⟩
theorem cU.W8{P:Program}{f:FuncId}{fn:Func}{x0 x:bx}{g:FuncId}{ts t5:Nat}{rs:List bR}{args:List I}{os:List (Nat×aq)}{post:cF}{ch:List PanicEntry}(hf:P.funcs[f]?=some fn)(hcall:e8 P f=true)(hc:(fn.body.bind (u9 P fn.ntmps))=some (x0,g,ts,t5,x))
  (hrs:gO P fn.results.toList=some rs) (hn:args.length≤fn.ntmps) (hn2:fn.ntmps≤1000000) (hos:∀ m,aw os m=true→1000000≤m) (hi:r3 P g) (hca:rW P g ch) (hts:ts≠t5)
  (h:I.gl args→∀ (w:World) (D:aP) (E:aY),ae ⟨P,w,D,fn.ntmps,cI E,E,dj,none,some []⟩ x0 (ef (fun B=>∃ tsl os0 ρ os1 slots cargs N y post1,B=au tsl os0∧GH P fn.ntmps x rs post ch g ts t5 tsl os0 ρ os1 slots cargs N y post1) (fun _ _=>False)) (au (bN 0 args) os)):cU P f args os post:=by
 obtain ⟨body,hb,hc⟩:=zy6.1 hc;refine ⟨hcall,fun w D E vs ao hD ho hv =>?_⟩;have hlen:=rF hv;have s0:=xI (P:=P) (n:=fn.ntmps) (Y:=dj) hD ho hv (by omega) (fun m hm=>⟨zx4 hn2 (hos m hm),hos m hm⟩) (pT ao);have hsim:aU (sA P w D fn.ntmps E (some [])) (oA args os) { tmps:=vs.toArray++Array.replicate (fn.ntmps-vs.toArray.size) undef,defers:=[] } w D E :=
  ⟨s0.sz,rfl,s0.dQ,s0.dM,s0.c6,s0.aQ,s0.bP,s0.cN,s0.dR,s0.eU,s0.cT,pT ao,s0.fB⟩
 obtain ⟨RR,hRR⟩:∃ RR:Ending→World→Prop,RR=fun e w'=>∃ v,e=.returned v∧lA w D E post v w':=⟨_,rfl⟩
 refine Calls.mono (R:=RR) ?_ (fun e w' q=>by rw[hRR] at q;obtain ⟨v,he,D',E',r,os',k⟩:=q;exact ⟨v,D',E',r,os',he,k⟩);refine (callsIn_wide (n:=9)).1 (callsIn_of_wp_marks hf hb trivial ?_);unfold u9 at hc;split at hc
 case h_2=>cases hc
 rename_i lb id aS rest;split at hc
 case h_2=>cases hc
 rename_i o1 o2 hops;split at hc
 case h_2=>cases hc
 rename_i t5' g' ts' t dargs _ hg1 ho2;split at hc
 case isFalse=>cases hc
 rename_i hok;obtain ⟨rfl,rfl,hgd,hdst⟩:=hok;split at hc
 case h_2=>cases hc
 rename_i y0 y hx0 hx;simp only[v6,Prod.mk.injEq] at hc;obtain ⟨rfl,rfl,rfl,rfl,rfl⟩:=hc;refine wpIn_seq ?_;have hw0:=((h (pO _ _ hv) w D E).sub (tW args os)) lb hx0 _ w ⟨D,E,hsim⟩;refine wpIn_mono hw0 ?_;rintro e a1 w1 ⟨B,hq,D1,E1,hs1⟩;cases e <;>simp only[ef] at hq
 obtain ⟨tsl,os0,ρ,os1,slots,cargs,N,yb,post1,rfl,R⟩:=hq;simp only[Exit.then];refine wpIn_seq (wpIn_region_list ?_);rw[hops];obtain ⟨q1,q2,q3,q4⟩:=ny hg1;simp only at q1 q2;have wn1:∀ a:Act,Region.wanted o1 (yielded aS a.tmps)=true:=fun a=>by
  rcases q4 with ⟨a5,_⟩ | ⟨_,_,_,_,_,a5⟩
  ·simp[Region.wanted,a5]
  ·simp at a5
 have wn2:∀ a:Act,Region.wanted o2 (yielded aS a.tmps)=true:=fun a=>by simp[Region.wanted,hgd]
 simp only[wpListIn,wn1,if_true];have hmk:bm (au tsl os0) (.mk g' [.t ts'])=some (.func g' [.ptr (bI ρ N) []]):=by
  simp[bm,ak,au,R.fK,I.bU]
 have d1:=(Db (c:=sA P w D fn.ntmps E (some [])) q1 hmk).does q3;rw[←q2] at d1;refine d1.wp q1 ⟨D1,E1,hs1⟩ fun a2 w2 hs2 =>?_;obtain ⟨D2,E2,hs2⟩:=hs2;simp only[wn2,if_true];rw[Cy] at hs2
 -- the deferred call
 have hglt:=zX hi.1;have hfv:=hs2.dQ t;simp only[au,bW,if_true] at hfv;obtain ⟨fc,f1,f2⟩:=hfv;simp only[al] at f2;obtain ⟨fvs,f3,f4⟩:=f2;have hval:a2.tmps.getD t undef=.func (.func g') #[] fvs.toArray:=by
  rw[←mB hglt];simpa[bA,I.isAgg,f3] using f1.symm
 simp only[aF] at f4;obtain ⟨pv,prest,pcs,rfl,p1,p2,rfl⟩:=f4;have hpv:=hs2.dQ ts';simp only[au,bW,if_neg hts,R.fK] at hpv;obtain ⟨pb,psh,poff,b1,b2,b3⟩:=lj hpv;obtain ⟨pb',psh',poff',b1',b2',b3'⟩:=lj (ju p1 p2);have hpeq:pv=a2.tmps.getD ts' undef:=by
  rw[b1] at b1';simp only[v6,bM.aN.injEq] at b1';obtain ⟨rfl,rfl⟩:=b1';rw[b2] at b2';simp only[v6] at b2';subst b2';rw[b3,b3']
 have hdf:a2.defers=[]:=hs2.eD;obtain ⟨a3,ha3⟩:∃ a3:Act,a3 = { a2 with defers:=[kc g' (a2.tmps.getD ts' undef)] } :=⟨_,rfl⟩
 have hrun:(o2.semAt Fence.wide.round a2.eval).run P w2=.ok (.defer (kc g' (a2.tmps.getD ts' undef))) w2:=by
  show (execOp a2.eval o2).run P w2=_
  have he:a2.eval (.tmp t)=.func (.func g') #[] #[pv]:=hval;simp[execOp,ho2,resolve,he,Deferred.ofValue,kc,hpeq]
 refine ⟨fun _ _=>trivial,?_⟩;rw[hrun,Oper.uponIn_defer,hdf,hdst];simp only[Exit.then];have hput:({ tmps:=a2.tmps,defers:=[kc g' (a2.tmps.getD ts' undef)] } : Act).put none undef=a3:=by rw[ha3];rfl
 rw[hput]
 -- the rest
 have hand:=X2 (P:=P) (n:=fn.ntmps) (fn:=fn) (f:=g') (N:=N) (ch:=ch) (slots:=slots) (a:=a3) (args:=cargs) (os:=os1) (ts:=ts') hrs hx (by rw[ha3];exact hs2.sz) (by rw[ha3]) R.lP R.Fa R.box hi hca R.rest;have hs3:aU (sA P w D fn.ntmps E (some [kc g' (a2.tmps.getD ts' undef)])) (au ((t,.func g' [.ptr (bI ρ N) []])::tsl) os0) a3 w2 D2 E2:=by
  rw[ha3];exact ⟨hs2.sz,rfl,hs2.dQ,hs2.dM,hs2.c6,hs2.aQ,hs2.bP,hs2.cN,hs2.dR,hs2.eU,hs2.cT,pT ao,hs2.fB⟩
 have hall:∀ l:List Nat,fD (aZ w2 D2 E2) (l.map (bW ((t,.func g' [.ptr (bI ρ N) []])::tsl))) (l.map fun k=>a3.tmps.getD k undef):=fun l=>by
  induction l with
  |nil=>exact .nil
  |cons k l ih=>exact .cons (hs3.dQ k) ih
 have hus:=hand.use hs3 false (fun h hr=>h.mono hr) ⟨(fun h=>by cases h),fun _=>hs3.pk⟩ R.BN R.arg R.yq (hall slots);refine rD.mono hus ?_ (by simp);rintro e w' ⟨v,r,os',D4,E4,rfl,hp,hs4,hv4,_⟩;rw[hRR];obtain ⟨osF,g1,g2,g3,g4⟩:=R.iA r os' hp;rw[g2] at hv4;exact ⟨v,rfl,hs4.VP g3 g1 hv4 g4⟩
def gx:aE:=⟨none,.mv (.c (.bool true)),none⟩
theorem HI{l:List Oper}{cl:List Nat}(h7:∀ i,i<l.length→(((l.map cj).getD i []).all (fun k=>decide (k<i))&&Nat.beq (cl.getD i 0) (lx cl ((l.map cj).getD i [])))=true)
  {S:Nat→Prop} (hS:∀ i o,l[i]?=some o→S i→∀ k∈cj o,S k):∀ n i o,i≤n→l[i]?=some o→(∀ k∈cj o,S k)→∀ j,(cl.getD i 0).testBit j=true→S j:=by
 have fK:∀ i o,l[i]?=some o→(∀ k∈cj o,k<i)∧(∀ j,(cl.getD i 0).testBit j=true→j∈cj o∨∃ k∈cj o,(cl.getD k 0).testBit j=true):=by
  intro i o ho;have hi:i<l.length:=(Z5.1 ho).1;have h8:=h7 i hi;have hon:(l.map cj).getD i []=cj o:=by simp[Z0,ho]
  rw[hon] at h8;simp only[t8,zz4,decide_eq_true_eq] at h8;have hb:=Nat.eq_of_beq_eq_true h8.2;exact ⟨h8.1,fun j hj=>rQ (by rw[←hb];exact hj)⟩
 intro n
 induction n with
 |zero =>
  intro i o hi ho hon j hj;obtain ⟨h8,h9⟩:=fK i o ho;rcases h9 j hj with h | ⟨k,hk,_⟩
  ·exact hon j h
  ·have:=h8 k hk;omega
 |succ n ih =>
  intro i o hi ho hon j hj;obtain ⟨h8,h9⟩:=fK i o ho;rcases h9 j hj with h | ⟨k,hk,hjk⟩
  ·exact hon j h
  ·have hki:=h8 k hk;have hkl:k<l.length:=Nat.lt_trans hki (Z5.1 ho).1;obtain ⟨ok,hok⟩:∃ ok,l[k]?=some ok:=⟨l[k],Y7 hkl⟩
   exact ih k ok (by omega) hok (hS k ok hok (hon k hk)) j hjk
def CZ(ab:List FuncId)(L:eb)(on:List (List Nat))(gs:List aE)(σ:List Nat)(m:Nat):Bool :=
 pI ab L on (gs.take m++[gx]) (ka on) (σ++[m])&&(sU (m+1) (ka on) m&&Nat.beq gs.length (m+1))
section
variable {c:cV}
theorem GX{K:ai→Prop}{fs:List FuncId}{L:eb}{aS:Array Oper}{gs0 gs:List aE}{σ:List Nat}{Q:Exit→Act→World→Prop}{m:Nat}(hm:m<aS.size)(hQ:∀ (B:ai) (a:Act) (w:World) (Kw:Act→World→Prop),K B→bX c B a w→wpOpIn c.bz 9 c.P aS Q m Kw a w)
  (hgs:fP c.P c.n aS aS.toList=some gs0) (hsame:∀ i,i≠m→gs[i]?=gs0[i]?) (hgm:gs[m]?=some gx) (hgl:gs.length=aS.size) (af:uq fs L aS.toList gs σ)
  (hlast:∀ (S:Nat→Prop),(∀ i o,aS.toList[i]?=some o→S i→∀ k∈cj o,S k)→∀ o,aS.toList[m]?=some o→(∀ k∈cj o,S k)→∀ j,j<gs.length→j≠m→S j) :
  ∀ (fuel:Nat) (listed:Array Bool) (A:ai) (a:Act) (w:World),listed.size=aS.size→(∀ i o,aS.toList[i]?=some o→listed.getD i false=true→∀ k∈cj o,listed.getD k false=true)→(dZ σ listed).length≤fuel →
   cW L A→listed.getD m true=false→bO c.P c.Y fs K (az (gz gs σ listed) A)→bX c A a w→wpAnyIn c.bz 9 c.P .any aS Q fuel listed a w:=by
 obtain ⟨hlen,hat⟩:=iB hgs;have onOf_mem:∀ (o:Oper) (e:Edge),e∈o.after→Region.binds .any e=true→e.on∈cj o:=fun o e he hb=>by
  simp only[cj,zz5,zy3];exact ⟨e,⟨by simpa using he,hb⟩,rfl⟩
 have of_onOf:∀ (o:Oper) (k:Nat),k∈cj o→∃ e∈o.after,Region.binds .any e=true∧e.on=k:=fun o k hk=>by
  simp only[cj,zz5,zy3] at hk;obtain ⟨e,⟨J,U⟩,ah⟩:=hk;exact ⟨e,by simpa using J,U,ah⟩
 have last:∀ (listed:Array Bool),listed.size=aS.size→Region.ready .any aS listed=[]→listed.getD m true=false→False:=by
  intro listed hsz hr hml;have all:∀ n,∀ i,i<n→i<aS.size→listed.getD i true=true:=by
   intro n
   induction n with
   |zero=>intro i hi;omega
   |succ n ih =>
    intro i hi his;cases hb:listed.getD i true with
    |true=>rfl
    |false =>
     exfalso
     have ho:aS[i]?=some aS[i]:=zy7 his;have:i∈Region.ready .any aS listed:=mem_ready.2 ⟨hb,aS[i],ho,fun e he hbd=>by
      have hlt:=af.iA i aS[i] (by simp) e.on (onOf_mem _ e he hbd);have J:=ih e.on (by omega) (by omega);have U:e.on<listed.size:=by omega
      simpa[Array.getD_eq_getD_getElem?,U] using J⟩
     rw[hr] at this;cases this
  have:=all (m+1) m (by omega) hm;rw[hml] at this;cases this
 intro fuel
 induction fuel with
 |zero =>
  intro listed A a w hsz hcl hcnt hinv hml hwp ab;have hnone:dZ σ listed=[]:=List.length_eq_zero_iff.1 (by omega);have:m∈dZ σ listed:=by
   simp only[dZ,zy3,hml,Bool.not_false,and_true];exact af.all m (by omega)
  rw[hnone] at this;cases this
 |succ fuel ih =>
  intro listed A a w hsz hcl hcnt hinv hml hwp ab;refine ⟨fun hr=>(last listed hsz hr hml).elim,fun i hi =>?_⟩;obtain ⟨hun,o,ho,hall⟩:=mem_ready.1 hi;have hin:i<aS.size:=(Y4.1 ho).1;obtain ⟨s1,s2,hσ,e1,e2⟩:=xd af.nS (af.all i (by omega)) (by omega) hun;have hol:aS.toList[i]?=some o:=by simpa using ho
  obtain ⟨g,hgi0,hcg⟩:=hat i o hol;have hon:∀ k∈cj o,listed.getD k false=true:=fun k hk=>by
   obtain ⟨e,J,U,ah⟩:=of_onOf o k hk;exact ah▸hall e J U
  by_cases him:i=m
  ·subst him;have hnil:dZ σ listed=[i]:=by
    have hz:∀ j∈s1++s2,(!listed.getD j true)=false:=fun j hj=>by
     have hjσ:j∈σ:=by rw[hσ];rcases zy0.1 hj with h | h <;>simp[h]
     have hjl:=af.lt j hjσ;have hji:j≠i:=fun e=>by
      subst e;have hnd:=af.nS;rw[hσ] at hnd;rcases zy0.1 hj with h | h
      ·exact (List.nodup_append.1 hnd).2.2 j h j (by simp) rfl
      ·exact (List.nodup_cons.1 (List.nodup_append.1 hnd).2.1).1 h
     have h5:=hlast (fun k=>listed.getD k false=true) hcl o hol hon j hjl hji;have hjs:j<listed.size:=by omega
     simp[Array.getD_eq_getD_getElem?,hjs] at h5 ⊢;exact h5
    rw[e1];have f1:(s1.filter fun j => !listed.getD j true)=[]:=List.filter_eq_nil_iff.2 fun j hj=>by rw[hz j (List.mem_append_left _ hj)];simp
    have f2:(s2.filter fun j => !listed.getD j true)=[]:=List.filter_eq_nil_iff.2 fun j hj=>by rw[hz j (List.mem_append_right _ hj)];simp
    rw[f1,f2];rfl
   have hgd:gs.getD i default=gx:=by simp[Z0,hgm]
   simp only[gz,hnil,Z4,zy1,hgd] at hwp;have e:az [gx] A=.done A:=rfl;rw[e] at hwp;cases hwp with
   |done hk=>exact hQ A a w _ hk ab
  have hgi:gs[i]?=some g:=by rw[hsame i him];exact hgi0
  have hgd:gs.getD i default=g:=by simp[Z0,hgi]
  have hwp':bO c.P c.Y fs K (az (g::gz gs σ (listed.setIfInBounds i true)) A):=by
   simp only[gz,e1,Y6,Z4,hgd] at hwp;simp only[gz,e2,Y6];refine bO.nx hinv (fun j hj =>?_) hwp;obtain ⟨k,hk,rfl⟩:=zz5.1 hj;obtain ⟨hk1,hk2⟩:=zy3.1 hk;have:=af.pc (fun k=>listed.getD k false=true) hcl s1 i s2 o hσ hol hon k hk1 (by
    have hks:k<listed.size:=by
     have:=af.lt k (by rw[hσ];exact List.mem_append_left _ hk1);omega
    simp[Array.getD_eq_getD_getElem?,hks] at hk2 ⊢;exact hk2)
   rw[hgd] at this;have hkl:=af.lt k (by rw[hσ];exact List.mem_append_left _ hk1);have hks:k<aS.size:=by omega
   refine ⟨this,?_⟩;rcases af.qG k aS[k] (by simp) with h | h
   ·exact h
   ·exfalso
    have h9:=h.1;rw[hσ,List.getLast?_append] at h9;have hne:(i::s2).getLast?=some k:=by
     cases h10:(i::s2).getLast? with
     |none=>simp at h10
     |some q=>rw[h10] at h9;simpa using h9
    have hk2:k∈i::s2:=List.mem_of_getLast? hne;have hnd:=af.nS;rw[hσ] at hnd;exact (List.nodup_append.1 hnd).2.2 k hk1 k hk2 rfl
  unfold wpOpIn;rw[ho];have hokg:mL g.op=true:=by
   have:=af.ok i (by omega)
   rwa [hgd] at this
  have hcl':∀ m om,aS.toList[m]?=some om→(listed.setIfInBounds i true).getD m false=true→∀ k∈cj om,(listed.setIfInBounds i true).getD k false=true:=by
   intro m om hom hm k hk;by_cases hmi:m=i
   ·subst hmi;rw[hol,v6] at hom;subst hom;exact getD_set_true (hon k hk)
   ·rw[getD_set_ne false (Ne.symm hmi)] at hm;exact getD_set_true (hcl m om hom hm k hk)
  have hfu:(dZ σ (listed.setIfInBounds i true)).length≤fuel:=by
   have:(dZ σ listed).length=(dZ σ (listed.setIfInBounds i true)).length+1:=by
    rw[e1,e2];simp;omega
   omega
  have hml':(listed.setIfInBounds i true).getD m true=false:=by rw[getD_set_ne true him];exact hml
  rcases af.qG i o hol with hlb | ⟨hla,hlb⟩
  ·rw[hgd] at hlb;exact sK hcg hinv ⟨hokg,hlb⟩ hwp' ab fun B a' w' hw hiB hs'=>ih _ B a' w' (by simpa using hsz) hcl' hfu hiB hml' hw hs'
  ·exfalso
   have h5:=hlb (fun k=>listed.getD k false=true) hcl hon m (by omega) (Ne.symm him);have hms:m<listed.size:=by omega
   simp[Array.getD_eq_getD_getElem?,hms] at h5 hml;rw[hml] at h5;cases h5
theorem ae.jw{Q:Exit→ai→Prop}{A:ai}{on:List (List Nat)}{gs:List aE}(m:Nat)(ab:List FuncId)(L:eb)(σ:List Nat){g:bT}{dst:Option Nat}(af:CZ ab L on gs σ m=true)(hk:gs[m]?=some ⟨dst,g,none⟩)(hi:cW L A)
  (h:∀ K:ai→Prop,(∀ B,mn c.P Q g B→K B)→bO c.P c.Y ab K (az (fe (σ++[m]) (gs.take m++[gx])) A)):ae c (.b8 (some on) gs) Q A:=by
 intro code hc a w hs';cases code <;>simp only[eC] at hc <;>try (first | (cases hc;done) | ((repeat' split at hc) <;>cases hc;done))
 rename_i id aS draw;split at hc
 case h_2=>cases hc
 rename_i gs' hgs;split at hc
 case isFalse=>cases hc
 rename_i hok;simp only[v6,bx.b8.injEq] at hc;obtain ⟨he,rfl⟩:=hc;cases draw with
 |false=>cases he
 |true =>
  simp only[cond_true,v6] at he;subst he;simp only[Bool.not_true,Bool.false_or] at hok;simp only[CZ,t8] at af;obtain ⟨hd1,hd2,hd3⟩:=af;have hglen:=Nat.eq_of_beq_eq_true hd3;have hops:gs'.length=aS.size:=by rw[(iB hgs).1,zz6]
  have hXl:(gs'.take m++[gx]).length=aS.size:=by simp;omega
  have hp:=C3 (l:=aS.toList) (by rw[hXl,zz6]) hd1;have h7:∀ i,i<aS.toList.length→(((aS.toList.map cj).getD i []).all (fun k=>decide (k<i))&&Nat.beq ((ka (aS.toList.map cj)).getD i 0) (lx (ka (aS.toList.map cj)) ((aS.toList.map cj).getD i [])))=true:=by
   simp only[pI,t8,zz4,zx0] at hd1;intro i hi;have:=hd1.2.2 i (by rw[hXl];simpa using hi);simpa only[t8,zz4] using this
  have hmlt:m<aS.size:=by omega
  refine wpIn_region_any hok (GX (K:=mn c.P Q g) (m:=m) hmlt (fun B a' w' Kw hpn hs2 =>?_) hgs (gs:=gs'.take m++[gx]) (fun i him =>?_) ?_ hXl hp (fun S hS o ho hon j hj hjm =>?_) aS.size (Array.replicate aS.size false) A a _ (by simp) ?_ ?_ hi (by simp[Array.getD_eq_getD_getElem?,hmlt]) ?_ ?_)
  ·obtain ⟨g1,hg1,hg2⟩:=(iB hgs).2 m aS[m] (by simp[hmlt]);rw[hk,v6] at hg1;subst hg1;obtain ⟨q1,q2,q3,q4⟩:=ny hg2;have wn:Region.wanted aS[m] (yielded aS a'.tmps)=true:=by
    rcases q4 with ⟨a5,_⟩ | ⟨_,_,_,_,_,a5⟩
    ·simp[Region.wanted,a5]
    ·simp at a5
   unfold wpOpIn;rw[zy7 hmlt];simp only[wn,if_true];exact C0 q1 hpn hs2
  ·rcases Nat.lt_or_ge i m with ao | ao
   ·rw[Y8 (by simp;omega),List.getElem?_take,if_pos ao]
   ·rw[zy9 (by rw[hXl];omega),zy9 (by omega)]
  ·rw[zy4 (by simp;omega)];simp[show min m gs'.length=m by omega]
  ·have hb:(ka (aS.toList.map cj)).getD m 0 |>.testBit j:=by
    simp only[sU,zz4,zx0,Bool.or_eq_true,beq_iff_eq] at hd2;rcases hd2 j (by omega) with e | e
    ·exact absurd e hjm
    ·exact e
   exact HI h7 hS m m o (Z3 _) ho hon j hb
  ·intro i o _ h
   exfalso
   simp only[Array.getD_eq_getD_getElem?,Array.getElem?_replicate] at h;split at h <;>simp at h
  ·refine zx4 (List.length_filter_le _ _) ?_;rw[hp.len,hXl];exact Z3 _
  ·have hall:dZ (σ++[m]) (Array.replicate aS.size false)=σ++[m]:=by
    simp only[dZ];refine List.filter_eq_self.2 fun i hi =>?_;have J:=hp.lt i hi;rw[hXl] at J;simp[J]
   simp only[gz,hall];exact h _ fun _ hb=>hb
  ·obtain ⟨D,E,hs'⟩:=hs';exact ⟨D,E,hs'.grow (w' := { w with drawn:=w.drawn+1 }) ⟨rfl,rfl,rfl,Z3 _,fun _ _=>rfl⟩ (fun _ _ h=>h) (fun _ _ h _=>h) (fun b o h=>hs'.aQ b o h)⟩
end
end Go.Abs
namespace Go.Abs
open Go Go.RowKit
open Enc (enc)
def lB(w:World):aP:=fun b _=>b<w.heap.size
structure iy (P:Program) (t:TypeId) (α:Type) [Enc α]:Prop where
 cells:P.cellsOf t=Enc.sz α
 Xr:0<Enc.sz α
 pE:∀ {H:Type} {enc0:TypeId×Value→H} {w:World} {fuel:Nat} {cs:List Value} {x:DataW H×List MemPlace},DataW.trod enc0 P w 0 (fun _=>true) true fuel t cs=some x→∃ a:α,al w (lB w) c4 (enc a) cs
theorem Xi{P:Program}{t:TypeId}(ht:P.underlying t=some (.int .i64))(hc:P.cellsOf t=1):iy P t Int :=
 ⟨hc,by decide,fun h=>by
  obtain ⟨n,rfl,_,hw⟩:=DataW.trod_int ht h;refine ⟨n,?_⟩;rw[eE,al];simp only[Lit.wf,t8,decide_eq_true_eq] at hw;exact ⟨rfl,hw.1,hw.2⟩⟩
theorem GO(a:Addr)(i j:Nat):(a.add i).add j=a.add (i+j):=by
 unfold Addr.add;by_cases hi:i=0 <;>by_cases hj:j=0 <;>simp[hi,hj,Nat.add_assoc]
theorem Xj{P:Program}{t e:TypeId}{α:Type}[Enc α](ht:P.underlying t=some (.slice e))(he:iy P e α)(hc:P.cellsOf t=1):iy P t (List α) :=
 ⟨hc,by rw[kd];exact Nat.one_pos,fun {H enc0 w fuel cs x} h=>by
  rcases DataW.trod_slice ht h with ⟨rfl,_⟩ | ⟨a,len,cap,elems,rest,n,_,rfl,_,hb,ao,hm,hlen,hel,_⟩
  ·refine ⟨[],?_⟩;simp only[hs,zy1];rw[al];exact ⟨none,0,rfl,Z3 _,by decide,.inl rfl,by simp⟩
  ·have key:∀ k,k≤len→∃ (l:List α) (cs':List Value),l.length=k∧aM w (lB w) c4 (l.map enc) cs'∧cs'.length=k*Enc.sz α∧∀ j v,cs'[j]?=some v→w.cell? (a.add j)=some v:=by
    intro k
    induction k with
    |zero=>exact fun _=>⟨[],[],rfl,by simp[aM],by simp,by simp⟩
    |succ k ih =>
     intro hk;obtain ⟨l,cs',J,U,ah,ar⟩:=ih (by omega);have h5:=hel k (by omega);have h6:k<elems.length:=by omega
     rw[Y7 h6] at h5;obtain ⟨ce,h7,h8⟩:=zy6.1 h5;obtain ⟨y,hy⟩:=he.pE h8;rw[he.cells] at h7;obtain ⟨_,h9,h10⟩:=World.cells?_some h7;refine ⟨l++[y],cs'++ce,by simp[J],?_,by rw[Z6,ah,h9,Nat.succ_mul],fun j v hj =>?_⟩
     ·rw[Y6];refine jZ _ _ _ _ U ?_;simp only[Z4,zy1,aM];exact ⟨ce,[],by simp,hy,rfl⟩
     ·rcases Nat.lt_or_ge j cs'.length with hlt | hge
      ·rw[Y8 hlt] at hj;exact ar j v hj
      ·rw[zy4 hge] at hj;have hlt:j-cs'.length<Enc.sz α:=by
        have:=(Z5.1 hj).1;omega
       have:=h10 (j-cs'.length) hlt;rw[GO,←ah,Nat.add_sub_cancel' hge] at this;rw[this];exact hj
   obtain ⟨l,cs',J,U,ah,ar⟩:=key len (Z3 _);refine ⟨l,?_⟩;simp only[hs,al,Z8];refine ⟨some a,cap,by rw[J],by omega,hm,?_,GW l⟩;by_cases hz:len=0
   ·left;have:l=[]:=List.length_eq_zero_iff.1 (by omega);rw[this];rfl
   right
   have hpos:0<cs'.length:=by rw[ah];exact Nat.mul_pos (Nat.pos_of_ne_zero hz) he.Xr
   have aW:=ar 0 cs'[0] (Y7 hpos);have hsp:a.spot=none:=by
    simp only[Addr.add,if_true] at aW;unfold World.cell? at aW;split at aW
    ·split at aW
     ·cases aW
     ·rename_i ab;cases bC:a.spot <;>simp_all
    ·cases aW
   have ha:∀ j,a.add j=⟨a.block,a.off+j,none⟩:=fun j=>by
    unfold Addr.add;split
    ·rename_i hj;subst hj;cases a;simp_all
    ·rfl
   refine ⟨a.block,a.off,cs',by cases a;simp_all,fun j v hj =>?_,U⟩;have h5:=ar j v hj;rw[ha] at h5;refine ⟨h5,?_⟩
   show (⟨a.block,a.off+j,none⟩:Addr).block<_
   exact World.block_lt_of_cell? w _ h5⟩
end Go.Abs
