/-
  A part of the proof that the law MarchPounds returns true for every input; three tables of Go's library start as the text lays them (the card ties them); conditions: none beyond the statement's own. (part 3 of 6)
-/
import Derived.Test.YthbdbocionnfgaaGreatDoorChecked
import Derived.KernelRfl
import Derived.RangeFuncIn
import Derived.Laws.Externs
import Derived.RecoverIn
import Derived.Test.YthbdbocionnfgaaGreatDoorNeb
set_option linter.unusedSimpArgs false
set_option linter.unusedVariables false
set_option maxHeartbeats 16000000
set_option maxRecDepth 100000
namespace Go.Proofs.YthbdbocionnfgaaGreatDoor
open Go Go.Abs Go.Abs.C
def Tk:=[o 4 (.mv bC)]
def Tl:=[m 14 0,m 15 1,o 16 (.call 37 [.t 14,.t 15]),m 13 16,o 17 (.ext (.t 13) 0),o 18 (.ext (.t 13) 1),m 5 17,m 6 18]
def Tm:=[m 20 0,m 21 1,o 22 (.call 38 [.t 20,.t 21]),m 19 22,o 23 (.ext (.t 19) 0),o 24 (.ext (.t 19) 1),m 7 23,m 8 24]
def Tn:=[m 26 0,m 27 1,o 28 (.call 39 [.t 26,.t 27]),m 25 28,o 29 (.ext (.t 25) 0),o 30 (.ext (.t 25) 1),m 9 29,m 10 30]
def Tp:=[m 32 0,m 33 1,o 34 (.call 40 [.t 32,.t 33]),m 31 34,o 35 (.ext (.t 31) 0),o 36 (.ext (.t 31) 1),m 11 35,m 12 36]
def Tq:=[m 37 5,m 38 7,o 39 (.call 41 [.t 37,.t 38]),m 40 39,cW 41 6 40,cW 42 8 40,bL 43 (.bin .eql (.t 41) (.t 42)) 40,and 44 40 43,m 45 44,cW 46 9 45,cW 47 11 45,bL 48 (.call 42 [.t 46,.t 47]) 45,and 49 45 48,m 50 49,cW 51 10 50,cW 52 12 50,bL 53 (.bin .eql (.t 51) (.t 52)) 50,and 54 50 53,m 55 54,bL 56 (.call 18 []) 55,and 57 55 56,m 4 57]
def zx:bu:=(s (r Tk) (s (r Tl) (s (r Tm) (s (r Tn) (s (r Tp) (s (r Tq) .ret))))))
def D8:List bN:=[.tmp 4]
theorem JH:cB Tryz.prog Tryz.f6 zx:=e (by kernel_rfl)
theorem KY:cA Tryz.prog Tryz.f6 D8:=e (by kernel_rfl)
theorem IE:cz Tryz.prog 6:=e (by kernel_rfl)
def NP:=[b 1 0,o 2 (.alloc (.agg [.int .i64 0,.nils 4,.int .i64 0])),bW 3 0]
def NQ:=[L 5 3 1,o 6 (.call 23 [.t 5]),m 4 6]
def NR:=[m 7 4,o 8 (.bin .neq (.t 7) (bf 0))]
def NS:=[o 9 (.bld [.int .i64 0,.nils 4,.int .i64 0] []),m 10 4,p (.bd (some 3) (.t 2) (.t 9)),m 3 10]
def NT:=[L 11 3 1,o 12 (.call 57 [.t 11]),p (.bd (some 3) (.t 1) (.t 12))]
def NU:=[f 13 1 1 1,l 14 13,o 15 (.len (.t 14)),f 16 2 2 1,p (.bd none (.t 16) (.t 15))]
def NV:=[L 17 3 1,p (.bd (some 3) (.t 2) (.t 17)),bW 3 0]
def yT:bu:=(s (r NP) (s (s (r NQ) (s (r NR) (.cond (.t 8) (s (r NS) .ret) .skip))) (s (r NT) (s (r NU) (s (r NV) .ret)))))
def Dm:List bN:=[.cell 2 (some 3),.tmp 3]
theorem Jb:cB Tryz.prog Tryz.f10 yT:=e (by kernel_rfl)
theorem Ki:cA Tryz.prog Tryz.f10 Dm:=e (by kernel_rfl)
theorem H6:cz Tryz.prog 10:=e (by kernel_rfl)
def OG:=[b 2 0,o 4 (.mv (.c (.nils 5))),bW 5 0]
def OH:=[L 11 3 2,o 12 (.call 23 [.t 11]),m 6 12]
def OL:=[m 13 6,o 14 (.bin .neq (.t 13) (bf 0))]
def OM:=[m 15 6,o 4 (.mv (.c (.nils 5))),m 5 15]
def ON:=[m 16 1,o 17 (.call 61 [.t 16]),no 18 17,m 19 18,kl 20 1 19,fn 21 0 0 2 19,fx 22 21 19,on 23 (.bin .eql (.t 20) (.t 22)) 19,or 24 19 23]
def OO:=[o 4 (.mv (.c (.nils 5))),bW 5 90]
def OP:=[f 26 0 0 2,l 27 26,f 28 1 1 2,l 29 28,f 30 2 2 2,l 31 30,f 32 2 2 2,l 33 32,o 34 (.sl 4 (.t 29) none (some (.t 31)) (some (.t 33))),o 35 (.call 62 [.t 27,.t 34]),m 25 35,o 36 (.ext (.t 25) 0),o 37 (.ext (.t 25) 1),m 7 36,m 8 37]
def LL:=some [[],[0],[],[2],[],[4],[],[6],[3,5,7],[1,8],[9],[10],[10],[11,9,0,1,2,3,4,5,6,7,8,9,10,11],[12,13,0,1,2,3,4,5,6,7,8,9,10,11,12,13]]
def OQ:=[o 9 (.alloc (.nils 5))]
def OR:=[m 38 7,m 39 1,o 40 (.call 63 [.t 38,.t 39])]
def OS:=[o 10 (.alloc (.agg [.int .i64 0,.int .i64 0,.int .i64 0,.int .i64 0,.int .i64 0])),p (.bd (some 5) (.t 10) (.t 41))]
def OI:=[l 42 9,o 43 (.len (.t 42)),o 44 (.bin .eql (.t 43) (bf 0)),m 45 44,fx 46 9 45,fx 47 9 45,on 48 (.len (.t 47)) 45,on 49 (.bin .sub (.t 48) (bf 1)) 45,on 50 (.is 5 (.t 46) (.t 49)) 45,on 51 (.ld (some 5) (.t 50)) 45,on 52 (.ld (some 5) (.t 10)) 45,on 53 (.eqv (.bd [(.i .i64),(.i .i64),(.i .i64),(.i .i64),(.i .i64)]) true (.t 51) (.t 52)) 45,or 54 45 53]
def LK:=some [[],[0],[1],[2],[3],[3],[5,3],[6,3],[4,7,3],[8,3],[3],[9,10,3],[3,11]]
def OJ:=[l 55 9,L 56 5 10,o 57 (.bs 39 5 [.t 56]),o 58 (.dn 39 5 40 (.agg [.int .i64 0,.int .i64 0,.int .i64 0,.int .i64 0,.int .i64 0]) (.t 55) (.t 57)),p (.bd none (.t 9) (.t 58))]
def OK:=[l 59 9,m 4 59,bW 5 0]
def za:bu:=(s (r OG) (s (s (r OH) (s (r OL) (.cond (.t 14) (s (r OM) .ret) .skip))) (s (s (r ON) (.cond (.t 24) (s (r OO) .ret) .skip)) (s (.cu LL OP) (s (r OQ) (s (s (r OR) (.block 0 (.mc (.t 40) [41] (r OS) (.block 1 (s (.cu LK OI) (.cond (.t 54) (r OJ) .skip)))))) (s (r OK) .ret)))))))
def DI:List bN:=[.tmp 4,.tmp 5]
theorem Jm:cB Tryz.prog Tryz.f14 za:=e (by kernel_rfl)
theorem KC:cA Tryz.prog Tryz.f14 DI:=e (by kernel_rfl)
theorem Ih:cz Tryz.prog 14:=e (by kernel_rfl)
def OZ:=[b 2 0,b 3 1,o 4 (.mv bC)]
def O0:=[f 5 0 0 2,l 6 5,f 7 0 0 3,l 8 7,o 9 (.bin .eql (.t 6) (.t 8)),m 10 9,dA 11 2 2 2 10,di 12 11 10,dA 13 2 2 3 10,di 14 13 10,bL 15 (.bin .eql (.t 12) (.t 14)) 10,and 16 10 15,m 17 16,dA 18 1 1 2 17,di 19 18 17,dA 20 1 1 3 17,di 21 20 17,bL 22 (.call 52 [.t 19,.t 21]) 17,and 23 17 22,m 4 23]
def zc:bu:=(s (r OZ) (s (r O0) .ret))
def DL:List bN:=[.tmp 4]
theorem Jo:cB Tryz.prog Tryz.f16 zc:=e (by kernel_rfl)
theorem KF:cA Tryz.prog Tryz.f16 DL:=e (by kernel_rfl)
theorem Ij:cz Tryz.prog 16:=e (by kernel_rfl)
def O1:=[o 4 (.mv bC)]
def O2:=[m 6 0,o 7 (.len (.t 6)),m 8 1,o 9 (.len (.t 8)),o 10 (.bin .neq (.t 7) (.t 9))]
def O3:=[o 4 (.mv bC)]
def O4:=[m 11 0,o 12 (.len (.t 11)),bW 13 0]
def O5:=[lt 14 13 12]
def O6:=[m 15 13,m 5 15]
def O7:=[m 16 0,m 17 5,o 18 (.is 5 (.t 16) (.t 17)),L 19 5 18,m 20 1,m 21 5,o 22 (.is 5 (.t 20) (.t 21)),L 23 5 22,o 24 (.eqv (.bd [(.i .i64),(.i .i64),(.i .i64),(.i .i64),(.i .i64)]) true (.t 19) (.t 23))]
def LQ:=some [[],[],[0,1],[2],[],[],[4,5],[6],[3,7]]
def O8:=[o 4 (.mv bC)]
def O9:=[ad 25 13 1,m 13 25]
def Pa:=[o 4 (.mv T)]
def zd:bu:=(s (r O1) (s (s (r O2) (.cond (.t 10) (s (r O3) .ret) .skip)) (s (s (r O4) (.block 0 (.loop (s (r O5) (s (.cond (.t 14) .skip (.exit 0)) (s (.block 1 (s (r O6) (s (.cu LQ O7) (.cond (.t 24) (s (r O8) .ret) .skip)))) (r O9))))))) (s (r Pa) .ret))))
def DM:List bN:=[.tmp 4]
theorem Jp:cB Tryz.prog Tryz.f17 zd:=e (by kernel_rfl)
theorem KG:cA Tryz.prog Tryz.f17 DM:=e (by kernel_rfl)
theorem Ik:cz Tryz.prog 17:=e (by kernel_rfl)
def Pb:=[o 0 (.mv bC)]
def Pc:=[o 28 (.call 19 [(bf 0)]),m 27 28,o 29 (.ext (.t 27) 0),o 30 (.ext (.t 27) 1),o 1 (.alloc (.agg [.int .i64 0,.nils 4,.int .i64 0])),p (.bd (some 3) (.t 1) (.t 29)),m 2 30]
def Pn:=[o 32 (.call 19 [(bf 1)]),m 31 32,o 33 (.ext (.t 31) 0),o 34 (.ext (.t 31) 1),o 3 (.alloc (.agg [.int .i64 0,.nils 4,.int .i64 0])),p (.bd (some 3) (.t 3) (.t 33)),m 4 34]
def Po:=[L 36 3 1,o 37 (.call 27 [.t 36,(bf 7)]),m 35 37,o 38 (.ext (.t 35) 0),o 39 (.ext (.t 35) 1),p (.bd (some 3) (.t 1) (.t 38)),m 5 39]
def Pp:=[L 41 3 1,o 42 (.call 10 [.t 41]),m 40 42,o 43 (.ext (.t 40) 0),o 44 (.ext (.t 40) 1),p (.bd (some 3) (.t 1) (.t 43)),m 6 44]
def Pq:=[L 46 3 1,o 47 (.call 31 [.t 46,(bf 7),(bf 1)]),m 45 47,o 48 (.ext (.t 45) 0),o 49 (.ext (.t 45) 1),o 50 (.ext (.t 45) 2),o 7 (.alloc (.agg [.int .i64 0,.int .i64 0,.int .i64 0,.bool false])),p (.bd (some 3) (.t 1) (.t 48)),p (.bd (some 4) (.t 7) (.t 49)),m 8 50]
def Pr:=[L 52 3 1,o 53 (.call 14 [.t 52,(bf 1)]),m 51 53,o 54 (.ext (.t 51) 0),o 55 (.ext (.t 51) 1),m 9 54,m 10 55]
def Ps:=[L 57 3 1,o 58 (.call 53 [.t 57]),m 56 58,o 59 (.ext (.t 56) 0),o 60 (.ext (.t 56) 1),m 11 59,m 12 60]
def Pt:=[L 62 3 1,o 63 (.call 10 [.t 62]),m 61 63,o 64 (.ext (.t 61) 0),o 65 (.ext (.t 61) 1),p (.bd (some 3) (.t 1) (.t 64)),m 13 65]
def Pu:=[L 67 3 1,o 68 (.call 14 [.t 67,(bf 1)]),m 66 68,o 69 (.ext (.t 66) 0),o 70 (.ext (.t 66) 1),m 14 69,m 15 70]
def Pd:=[o 71 (.bld [.int .i64 0,.int .i64 0,.int .i64 0,.int .i64 0,.int .i64 0] [(0,(bf 1)),(2,(bf 1)),(3,(bf 7)),(4,(bf 1))]),o 16 (.alloc (.agg [.int .i64 0,.int .i64 0,.int .i64 0,.int .i64 0,.int .i64 0])),p (.bd (some 5) (.t 16) (.t 71))]
def Pe:=[L 73 3 3,L 74 5 16,o 75 (.call 35 [.t 73,.t 74]),m 72 75,o 76 (.ext (.t 72) 0),o 77 (.ext (.t 72) 1),p (.bd (some 3) (.t 3) (.t 76)),m 17 77]
def Pf:=[L 79 3 1,L 80 3 3,o 81 (.bs 24 3 [.t 79,.t 80]),o 82 (.call 37 [.t 81,(bf 7)]),m 78 82,o 83 (.ext (.t 78) 0),o 84 (.ext (.t 78) 1),m 18 83,m 19 84]
def Pg:=[L 86 3 3,o 87 (.call 10 [.t 86]),m 85 87,o 88 (.ext (.t 85) 0),o 89 (.ext (.t 85) 1),p (.bd (some 3) (.t 3) (.t 88)),m 20 89]
def Ph:=[L 91 3 3,o 92 (.call 14 [.t 91,(bf 0)]),m 90 92,o 93 (.ext (.t 90) 0),o 94 (.ext (.t 90) 1),m 21 93,m 22 94]
def Pj:=[L 96 3 1,o 97 (.bld [.int .i64 0,.int .i64 0,.int .i64 0,.int .i64 0,.int .i64 0] [(0,(bf 2)),(1,(bf 1)),(3,(bf 7)),(4,(bf 1))]),o 98 (.call 35 [.t 96,.t 97]),m 95 98,o 99 (.ext (.t 95) 0),o 100 (.ext (.t 95) 1),p (.bd (some 3) (.t 1) (.t 99)),m 23 100]
def Pk:=[L 102 3 1,o 103 (.call 46 [.t 102]),m 101 103,o 104 (.ext (.t 101) 0),o 105 (.ext (.t 101) 1),m 24 104,m 25 105]
def Pl:=[m 106 2,o 107 (.bin .eql (.t 106) (bf 0)),m 108 107,cW 109 4 108,bL 110 (.bin .eql (.t 109) (bf 0)) 108,and 111 108 110,m 112 111,cW 113 5 112,bL 114 (.bin .eql (.t 113) (bf 0)) 112,and 115 112 114,m 116 115,cW 117 6 116,bL 118 (.bin .eql (.t 117) (bf 0)) 116,and 119 116 118,m 120 119,cW 121 8 120,bL 122 (.bin .eql (.t 121) (bf 0)) 120,and 123 120 122,m 124 123,cW 125 10 124,bL 126 (.bin .eql (.t 125) (bf 0)) 124,and 127 124 126,m 128 127,cW 129 12 128,bL 130 (.bin .eql (.t 129) (bf 0)) 128,and 131 128 130,m 132 131,cW 133 13 132,bL 134 (.bin .eql (.t 133) (bf 0)) 132,and 135 132 134,m 136 135,cW 137 15 136,bL 138 (.bin .eql (.t 137) (bf 0)) 136,and 139 136 138,m 140 139,cW 141 17 140,bL 142 (.bin .eql (.t 141) (bf 0)) 140,and 143 140 142,m 144 143,cW 145 19 144,bL 146 (.bin .eql (.t 145) (bf 0)) 144,and 147 144 146,m 148 147,cW 149 20 148,bL 150 (.bin .eql (.t 149) (bf 0)) 148,and 151 148 150,m 152 151,cW 153 22 152,bL 154 (.bin .eql (.t 153) (bf 0)) 152,and 155 152 154,m 156 155,cW 157 23 156,bL 158 (.bin .eql (.t 157) (bf 0)) 156,and 159 156 158,m 160 159,cW 161 25 160,bL 162 (.bin .eql (.t 161) (bf 0)) 160,and 163 160 162,m 26 163]
def Pm:=[m 164 26,m 165 164,bL 166 (.ld (some 4) (.t 7)) 165,bL 167 (.bld [.int .i64 0,.int .i64 0,.int .i64 0,.bool false] [(0,(bf 1)),(1,(bf 1)),(2,(bf 7))]) 165,bL 168 (.eqv (.bd [(.i .i64),(.i .i64),(.i .i64),.b]) false (.t 166) (.t 167)) 165,and 169 165 168,m 170 169,cW 171 9 170,bL 172 (.len (.t 171)) 170,bL 173 (.bin .eql (.t 172) (bf 0)) 170,and 174 170 173,m 175 174,cW 176 11 175,bL 177 (.bin .eql (.t 176) (.c (.bQ ⟨#[112,111,117,110,100,32,48,32,49,10,112,111,117,110,100,32,55,10,115,101,110,100,32,55,32,49,32,49,10]⟩))) 175,and 178 175 177,m 179 178,cW 180 14 179,bL 181 (.ld (some 5) (.t 16)) 179,bL 182 (.bs 39 5 [.t 181]) 179,bL 183 (.call 17 [.t 180,.t 182]) 179,and 184 179 183,m 185 184,cW 186 18 185,bL 187 (.bs 3 1 [(bf 1)]) 185,bL 188 (.call 41 [.t 186,.t 187]) 185,and 189 185 188,m 190 189,cW 191 21 190,bL 192 (.bld [.int .i64 0,.int .i64 0,.int .i64 0,.int .i64 0,.int .i64 0] [(0,(bf 2)),(1,(bf 1)),(3,(bf 7)),(4,(bf 1))]) 190,bL 193 (.bs 39 5 [.t 192]) 190,bL 194 (.call 17 [.t 191,.t 193]) 190,and 195 190 194,m 196 195,cW 197 24 196,bL 198 (.len (.t 197)) 196,bL 199 (.bin .eql (.t 198) (bf 0)) 196,and 200 196 199,m 0 200]
def ze:bu:=(s (r Pb) (s (r Pc) (s (r Pn) (s (r Po) (s (r Pp) (s (r Pq) (s (r Pr) (s (r Ps) (s (r Pt) (s (r Pu) (s (r Pd) (s (r Pe) (s (r Pf) (s (r Pg) (s (r Ph) (s (r Pj) (s (r Pk) (s (r Pl) (s (r Pm) .ret)))))))))))))))))))
def DN:List bN:=[.tmp 0]
theorem Jq:cB Tryz.prog Tryz.f18 ze:=e (by kernel_rfl)
theorem KH:cA Tryz.prog Tryz.f18 DN:=e (by kernel_rfl)
theorem Il:cz Tryz.prog 18:=e (by kernel_rfl)
def Pv:=[o 2 (.alloc (.agg [.int .i64 0,.nils 4,.int .i64 0])),bW 3 0]
def Pw:=[m 4 0,o 5 (.call 61 [.t 4]),no 6 5]
def Px:=[o 7 (.bld [.int .i64 0,.nils 4,.int .i64 0] []),p (.bd (some 3) (.t 2) (.t 7)),bW 3 90]
def Py:=[m 8 0,o 9 (.bld [.int .i64 0,.nils 4,.int .i64 0] [(0,(.t 8))]),p (.bd (some 3) (.t 2) (.t 9)),bW 3 0]
def zf:bu:=(s (r Pv) (s (s (r Pw) (.cond (.t 6) (s (r Px) .ret) .skip)) (s (r Py) .ret)))
def DO:List bN:=[.cell 2 (some 3),.tmp 3]
theorem Jr:cB Tryz.prog Tryz.f19 zf:=e (by kernel_rfl)
theorem KI:cA Tryz.prog Tryz.f19 DO:=e (by kernel_rfl)
theorem Im:cz Tryz.prog 19:=e (by kernel_rfl)
def Pz:=[b 1 0,bW 2 0]
def PA:=[f 3 0 0 1,l 4 3]
def PG:=[o 6 (.bin .eql (.t 4) (bf 1)),m 5 6]
def PH:=[o 7 (.bin .eql (.t 4) (bf 2)),m 5 7]
def PI:=[f 8 1 1 1,l 9 8,o 10 (.call 67 [.t 9]),m 11 10,dA 12 2 2 1 11,di 13 12 11,bL 14 (.bin .eql (.t 13) (bf 0)) 11,and 15 11 14,m 16 15,dA 17 3 3 1 16,di 18 17 16,bL 19 (.bin .eql (.t 18) (bf 0)) 16,and 20 16 19]
def PJ:=[bW 2 0]
def PK:=[o 22 (.bin .eql (.t 4) (bf 3)),m 21 22]
def PL:=[o 23 (.bin .eql (.t 4) (bf 4)),m 21 23]
def PM:=[o 24 (.bin .eql (.t 4) (bf 5)),m 21 24]
def PN:=[o 25 (.bin .eql (.t 4) (bf 6)),m 21 25]
def PB:=[o 26 (.bin .eql (.t 4) (bf 7)),m 21 26]
def PC:=[o 27 (.bin .eql (.t 4) (bf 8)),m 21 27]
def PD:=[f 28 1 1 1,l 29 28,o 30 (.call 67 [.t 29]),m 31 30,dA 32 2 2 1 31,di 33 32 31,bL 34 (.call 64 [.t 33]) 31,and 35 31 34,m 36 35,dA 37 3 3 1 36,di 38 37 36,bL 39 (.call 68 [.t 38,(bf 1),(bf 200)]) 36,and 40 36 39]
def PE:=[bW 2 0]
def PF:=[bW 2 1]
def zg:bu:=(s (r Pz) (s (s (r PA) (.block 0 (s (s (r PG) (.cond (.t 5) .skip (r PH))) (.cond (.t 5) (s (r PI) (.cond (.t 20) (s (r PJ) .ret) .skip)) (s (s (r PK) (.cond (.t 21) .skip (s (r PL) (.cond (.t 21) .skip (s (r PM) (.cond (.t 21) .skip (s (r PN) (.cond (.t 21) .skip (s (r PB) (.cond (.t 21) .skip (r PC))))))))))) (.cond (.t 21) (s (r PD) (.cond (.t 40) (s (r PE) .ret) .skip)) .skip)))))) (s (r PF) .ret)))
def DP:List bN:=[.tmp 2]
theorem Js:cB Tryz.prog Tryz.f22 zg:=e (by kernel_rfl)
theorem KJ:cA Tryz.prog Tryz.f22 DP:=e (by kernel_rfl)
theorem Io:cz Tryz.prog 22:=e (by kernel_rfl)
def PO:=[b 1 0,bW 2 0]
def PQ:=[L 6 3 1,o 7 (.call 69 [.t 6]),m 5 7,o 8 (.ext (.t 5) 0),o 9 (.ext (.t 5) 1),m 3 8,m 4 9]
def PR:=[m 10 4,m 2 10]
def zh:bu:=(s (r PO) (s (r PQ) (s (r PR) .ret)))
def DQ:List bN:=[.tmp 2]
theorem Jt:cB Tryz.prog Tryz.f23 zh:=e (by kernel_rfl)
theorem KK:cA Tryz.prog Tryz.f23 DQ:=e (by kernel_rfl)
theorem Ip:cz Tryz.prog 23:=e (by kernel_rfl)
def PS:=[b 1 0,bW 2 0]
def PT:=[f 5 0 0 1,l 6 5,o 7 (.call 64 [.t 6]),no 8 7,m 9 8,fn 10 1 1 1 9,fx 11 10 9,on 12 (.len (.t 11)) 9,on 13 (.bin .gtr (.t 12) (bf 200)) 9,or 14 9 13,m 15 14,fn 16 2 2 1 15,fx 17 16 15,fn 18 1 1 1 15,fx 19 18 15,on 20 (.len (.t 19)) 15,on 21 (.call 68 [.t 17,(bf 0),.t 20]) 15,on 22 (.un .not (.t 21)) 15,or 23 15 22]
def PU:=[bW 2 91]
def PV:=[L 25 3 1,f 26 1 1 1,l 27 26,o 28 (.len (.t 27)),o 29 (.call 65 [.t 25,.t 28]),m 24 29,o 30 (.ext (.t 24) 0),o 31 (.ext (.t 24) 1),o 3 (.alloc (.agg [.int .i64 0,.nils 1,.int .i64 0,.nils 4,.nils 4])),p (.bd (some 5) (.t 3) (.t 30)),m 4 31]
def PW:=[m 32 4,no 33 32]
def PX:=[bW 2 91]
def PY:=[bW 2 0]
def zi:bu:=(s (r PS) (s (s (r PT) (.cond (.t 23) (s (r PU) .ret) .skip)) (s (s (r PV) (s (r PW) (.cond (.t 33) (s (r PX) .ret) .skip))) (s (r PY) .ret))))
def DR:List bN:=[.tmp 2]
theorem Ju:cB Tryz.prog Tryz.f24 zi:=e (by kernel_rfl)
theorem KL:cA Tryz.prog Tryz.f24 DR:=e (by kernel_rfl)
theorem Iq:cz Tryz.prog 24:=e (by kernel_rfl)
def PZ:=[b 2 0,o 4 (.alloc (.agg [.int .i64 0,.nils 4,.int .i64 0])),bW 5 0]
def P0:=[L 9 3 2,o 10 (.call 69 [.t 9]),m 8 10,o 11 (.ext (.t 8) 0),o 12 (.ext (.t 8) 1),m 6 11,m 7 12]
def P1:=[m 14 7,o 15 (.bin .neq (.t 14) (bf 0)),m 13 15]
def P2:=[o 16 (.bld [.int .i64 0,.nils 4,.int .i64 0] []),m 17 7,p (.bd (some 3) (.t 4) (.t 16)),m 5 17]
def P3:=[m 19 1,o 20 (.call 71 [.t 19]),no 21 20,m 18 21]
def P4:=[o 22 (.bld [.int .i64 0,.nils 4,.int .i64 0] []),p (.bd (some 3) (.t 4) (.t 22)),bW 5 1]
def P5:=[m 24 6,o 25 (.nilC (.t 24)),f 26 1 1 25,l 27 26,m 28 1,o 29 (.lk (.i .i64) (.bool false) false (.t 27) (.t 28)),m 30 29,kl 31 6 30,kl 32 1 30,on 33 (.call 72 [.t 31,.t 32]) 30,or 34 30 33,m 23 34]
def P6:=[o 35 (.bld [.int .i64 0,.nils 4,.int .i64 0] []),p (.bd (some 3) (.t 4) (.t 35)),bW 5 92]
def P7:=[L 36 3 2,m 37 1,o 38 (.bld [.int .i64 0,.int .i64 0,.int .i64 0,.int .i64 0] [(0,(bf 1)),(1,(.t 37))]),o 39 (.call 73 [.t 36,.t 38]),o 40 (.ext (.t 39) 0),o 41 (.ext (.t 39) 1),p (.bd (some 3) (.t 4) (.t 40)),m 5 41]
def zj:bu:=(s (r PZ) (s (r P0) (s (.block 0 (s (r P1) (.cond (.t 13) (s (r P2) .ret) (s (r P3) (.cond (.t 18) (s (r P4) .ret) (s (r P5) (.cond (.t 23) (s (r P6) .ret) .skip))))))) (s (r P7) .ret))))
def DS:List bN:=[.cell 4 (some 3),.tmp 5]
theorem Jv:cB Tryz.prog Tryz.f27 zj:=e (by kernel_rfl)
theorem KM:cA Tryz.prog Tryz.f27 DS:=e (by kernel_rfl)
theorem Ir:cz Tryz.prog 27:=e (by kernel_rfl)
def P8:=[b 3 0,o 6 (.alloc (.agg [.int .i64 0,.nils 4,.int .i64 0])),o 7 (.alloc (.agg [.int .i64 0,.int .i64 0,.int .i64 0,.bool false])),bW 8 0]
def P9:=[L 13 3 3,o 14 (.call 69 [.t 13]),m 12 14,o 15 (.ext (.t 12) 0),o 16 (.ext (.t 12) 1),m 9 15,m 10 16]
def Qe:=[m 18 10,o 19 (.bin .neq (.t 18) (bf 0)),m 17 19]
def Qf:=[o 20 (.bld [.int .i64 0,.nils 4,.int .i64 0] []),o 21 (.bld [.int .i64 0,.int .i64 0,.int .i64 0,.bool false] []),m 22 10,p (.bd (some 3) (.t 6) (.t 20)),p (.bd (some 4) (.t 7) (.t 21)),m 8 22]
def Qg:=[m 24 1,o 25 (.call 71 [.t 24]),no 26 25,m 23 26]
def Qh:=[o 27 (.bld [.int .i64 0,.nils 4,.int .i64 0] []),o 28 (.bld [.int .i64 0,.int .i64 0,.int .i64 0,.bool false] []),p (.bd (some 3) (.t 6) (.t 27)),p (.bd (some 4) (.t 7) (.t 28)),bW 8 1]
def Qi:=[m 30 2,o 31 (.call 61 [.t 30]),no 32 31,m 33 32,kl 34 2 33,fn 35 0 0 3 33,fx 36 35 33,on 37 (.bin .eql (.t 34) (.t 36)) 33,or 38 33 37,m 29 38]
def Qj:=[o 39 (.bld [.int .i64 0,.nils 4,.int .i64 0] []),o 40 (.bld [.int .i64 0,.int .i64 0,.int .i64 0,.bool false] []),p (.bd (some 3) (.t 6) (.t 39)),p (.bd (some 4) (.t 7) (.t 40)),bW 8 90]
def Qk:=[m 42 9,o 43 (.nilC (.t 42)),f 44 1 1 43,l 45 44,m 46 1,o 47 (.lk (.i .i64) (.bool false) false (.t 45) (.t 46)),no 48 47,m 41 48]
def Ql:=[o 49 (.bld [.int .i64 0,.nils 4,.int .i64 0] []),o 50 (.bld [.int .i64 0,.int .i64 0,.int .i64 0,.bool false] []),p (.bd (some 3) (.t 6) (.t 49)),p (.bd (some 4) (.t 7) (.t 50)),bW 8 93]
def Qa:=[m 51 9,o 52 (.nilC (.t 51)),f 53 3 3 52,l 54 53,ad 55 54 1,m 56 2,m 57 1,o 58 (.bld [.int .i64 0,.int .i64 0,.int .i64 0,.bool false] [(0,(.t 55)),(1,(.t 56)),(2,(.t 57))]),o 11 (.alloc (.agg [.int .i64 0,.int .i64 0,.int .i64 0,.bool false])),p (.bd (some 4) (.t 11) (.t 58))]
def Qb:=[L 60 3 3,m 61 1,m 62 2,f 63 0 0 11,l 64 63,o 65 (.bld [.int .i64 0,.int .i64 0,.int .i64 0,.int .i64 0] [(0,(bf 3)),(1,(.t 61)),(2,(.t 62)),(3,(.t 64))]),o 66 (.call 73 [.t 60,.t 65]),m 59 66,o 67 (.ext (.t 59) 0),o 68 (.ext (.t 59) 1),p (.bd (some 3) (.t 3) (.t 67)),m 10 68]
def Qc:=[m 69 10,o 70 (.bin .neq (.t 69) (bf 0))]
def Qd:=[o 71 (.bld [.int .i64 0,.nils 4,.int .i64 0] []),o 72 (.bld [.int .i64 0,.int .i64 0,.int .i64 0,.bool false] []),m 73 10,p (.bd (some 3) (.t 6) (.t 71)),p (.bd (some 4) (.t 7) (.t 72)),m 8 73]
def vW:=[L 74 3 3,L 75 4 11,p (.bd (some 3) (.t 6) (.t 74)),p (.bd (some 4) (.t 7) (.t 75)),bW 8 0]
def LR:=some [[],[],[0,0],[1,2,0,1,2],[3,0,1,2,3]] -- DRAW BAD
def zk:bu:=(s (r P8) (s (r P9) (s (.block 0 (s (r Qe) (.cond (.t 17) (s (r Qf) .ret) (s (r Qg) (.cond (.t 23) (s (r Qh) .ret) (s (r Qi) (.cond (.t 29) (s (r Qj) .ret) (s (r Qk) (.cond (.t 41) (s (r Ql) .ret) .skip))))))))) (s (r Qa) (s (r Qb) (s (s (r Qc) (.cond (.t 70) (s (r Qd) .ret) .skip)) (s (.cu LR vW) .ret)))))))
def DT:List bN:=[.cell 6 (some 3),.cell 7 (some 4),.tmp 8]
theorem Jw:cB Tryz.prog Tryz.f31 zk:=e (by kernel_rfl)
theorem KN:cA Tryz.prog Tryz.f31 DT:=e (by kernel_rfl)
theorem Is:cz Tryz.prog 31:=e (by kernel_rfl)
def Qm:=[b 2 0,b 3 1,o 4 (.alloc (.agg [.int .i64 0,.nils 4,.int .i64 0])),bW 5 0]
def Qn:=[L 10 3 2,o 11 (.call 69 [.t 10]),m 9 11,o 12 (.ext (.t 9) 0),o 13 (.ext (.t 9) 1),m 6 12,m 7 13]
def Qo:=[m 15 7,o 16 (.bin .neq (.t 15) (bf 0)),m 14 16]
def Qp:=[o 17 (.bld [.int .i64 0,.nils 4,.int .i64 0] []),m 18 7,p (.bd (some 3) (.t 4) (.t 17)),m 5 18]
def Qq:=[L 20 5 3,o 21 (.call 70 [.t 20]),no 22 21,m 23 22,fn 24 2 2 3 23,fx 25 24 23,fn 26 0 0 2 23,fx 27 26 23,on 28 (.bin .neq (.t 25) (.t 27)) 23,or 29 23 28,m 19 29]
def Qr:=[o 30 (.bld [.int .i64 0,.nils 4,.int .i64 0] []),p (.bd (some 3) (.t 4) (.t 30)),bW 5 95]
def Qs:=[f 31 0 0 3,l 32 31,o 33 (.call 80 [.t 32]),f 34 3 3 3,l 35 34,f 36 1 1 3,l 37 36,f 38 4 4 3,l 39 38,o 40 (.bld [.int .i64 0,.int .i64 0,.int .i64 0,.int .i64 0] [(0,(.t 33)),(1,(.t 35)),(2,(.t 37)),(3,(.t 39))]),o 8 (.alloc (.agg [.int .i64 0,.int .i64 0,.int .i64 0,.int .i64 0])),p (.bd (some 4) (.t 8) (.t 40))]
def LS:=some [[],[0],[1],[],[3],[],[5],[],[7],[2,4,6,8],[],[10,9,2,0,1,2,3,4,5,6,7,8,9,10]]
def Qt:=[m 41 6,L 42 4 8,o 43 (.call 81 [.t 41,.t 42]),no 44 43]
def Qu:=[L 45 3 2,o 46 (.call 57 [.t 45]),p (.bd (some 3) (.t 4) (.t 46)),bW 5 0]
def Qv:=[L 47 3 2,L 48 4 8,o 49 (.call 73 [.t 47,.t 48]),o 50 (.ext (.t 49) 0),o 51 (.ext (.t 49) 1),p (.bd (some 3) (.t 4) (.t 50)),m 5 51]
def zl:bu:=(s (r Qm) (s (r Qn) (s (.block 0 (s (r Qo) (.cond (.t 14) (s (r Qp) .ret) (s (r Qq) (.cond (.t 19) (s (r Qr) .ret) .skip))))) (s (.cu LS Qs) (s (s (r Qt) (.cond (.t 44) (s (r Qu) .ret) .skip)) (s (r Qv) .ret))))))
def DU:List bN:=[.cell 4 (some 3),.tmp 5]
theorem Jx:cB Tryz.prog Tryz.f35 zl:=e (by kernel_rfl)
theorem KO:cA Tryz.prog Tryz.f35 DU:=e (by kernel_rfl)
theorem It:cz Tryz.prog 35:=e (by kernel_rfl)
def Qw:=[o 4 (.mv (.c (.nils 1))),bW 5 0]
def Qx:=[m 12 0,m 13 1,o 14 (.call 83 [.t 12,.t 13]),m 11 14,o 15 (.ext (.t 11) 0),o 16 (.ext (.t 11) 1),m 6 15,m 7 16]
def Qy:=[o 8 (.mv (.c (.nils 1)))]
def Qz:=[m 17 6,o 18 (.len (.t 17)),bW 19 0]
def QA:=[lt 20 19 18]
def QB:=[o 21 (.is 1 (.t 17) (.t 19)),l 22 21,m 10 22]
def QC:=[m 23 10,o 24 (.nilC (.t 23)),f 25 1 1 24,l 26 25,m 27 1,o 28 (.lk (.i .i64) (.bool false) false (.t 26) (.t 27))]
def QD:=[m 29 8,m 30 10,o 31 (.nilC (.t 30)),f 32 0 0 31,l 33 32,o 34 (.bs 3 1 [.t 33]),o 35 (.dn 3 1 8 (.int .i64 0) (.t 29) (.t 34)),m 8 35]
def QE:=[ad 36 19 1,m 19 36]
def QF:=[m 37 8,m 38 7,m 4 37,m 5 38]
def zm:bu:=(s (r Qw) (s (r Qx) (s (r Qy) (s (s (r Qz) (.block 0 (.loop (s (r QA) (s (.cond (.t 20) .skip (.exit 0)) (s (.block 1 (s (r QB) (s (r QC) (.cond (.t 28) (r QD) .skip)))) (r QE))))))) (s (r QF) .ret)))))
def DV:List bN:=[.tmp 4,.tmp 5]
theorem Jy:cB Tryz.prog Tryz.f37 zm:=e (by kernel_rfl)
theorem KP:cA Tryz.prog Tryz.f37 DV:=e (by kernel_rfl)
theorem Iu:cz Tryz.prog 37:=e (by kernel_rfl)
def QG:=[o 4 (.mv (.c (.nils 1))),bW 5 0]
def QH:=[m 10 0,m 11 1,o 12 (.call 84 [.t 10,.t 11]),m 6 12]
def QK:=[m 13 6,o 14 (.bin .neq (.t 13) (bf 0))]
def QL:=[m 15 6,o 4 (.mv (.c (.nils 1))),m 5 15]
def QM:=[o 7 (.mv (.c (.nils 1)))]
def QN:=[m 16 0,o 17 (.len (.t 16)),bW 18 0]
def QO:=[lt 19 18 17]
def QP:=[o 20 (.is 3 (.t 16) (.t 18)),L 21 3 20,o 9 (.alloc (.agg [.int .i64 0,.nils 4,.int .i64 0])),p (.bd (some 3) (.t 9) (.t 21))]
def QR:=[L 22 3 9,o 23 (.call 75 [.t 22]),o 24 (.fl 1 1 none (.t 23)),m 25 1,o 26 (.call 78 [.t 24,.t 25])]
def QS:=[m 27 7,f 28 0 0 9,l 29 28,o 30 (.bs 3 1 [.t 29]),o 31 (.dn 3 1 8 (.int .i64 0) (.t 27) (.t 30)),m 7 31]
def QI:=[ad 32 18 1,m 18 32]
def QJ:=[m 33 7,m 4 33,bW 5 0]
def zn:bu:=(s (r QG) (s (s (r QH) (s (r QK) (.cond (.t 14) (s (r QL) .ret) .skip))) (s (r QM) (s (s (r QN) (.block 0 (.loop (s (r QO) (s (.cond (.t 19) .skip (.exit 0)) (s (.block 1 (s (r QP) (s (r QR) (.cond (.t 26) (r QS) .skip)))) (r QI))))))) (s (r QJ) .ret)))))
def DW:List bN:=[.tmp 4,.tmp 5]
theorem Jz:cB Tryz.prog Tryz.f38 zn:=e (by kernel_rfl)
theorem KQ:cA Tryz.prog Tryz.f38 DW:=e (by kernel_rfl)
theorem Iv:cz Tryz.prog 38:=e (by kernel_rfl)
def QT:=[o 4 (.mv (.c (.nils 4))),bW 5 0]
def QU:=[m 16 0,m 17 1,o 18 (.call 83 [.t 16,.t 17]),m 15 18,o 19 (.ext (.t 15) 0),o 20 (.ext (.t 15) 1),m 6 19,m 7 20]
def Q1:=[o 8 (.mv (.c (.nils 4)))]
def Q2:=[m 21 6,o 22 (.len (.t 21)),bW 23 0]
def Q3:=[lt 24 23 22]
def Q4:=[o 25 (.is 1 (.t 21) (.t 23)),l 26 25,o 10 (.alloc (.nilp)),p (.bd none (.t 10) (.t 26))]
def Q5:=[l 27 10,o 28 (.call 85 [.t 27]),o 29 (.len (.t 28)),bW 30 0]
def Q6:=[lt 31 30 29]
def Q7:=[o 32 (.is 1 (.t 28) (.t 30)),l 33 32,o 12 (.alloc (.int .i64 0)),p (.bd none (.t 12) (.t 33))]
def Q8:=[l 34 10,o 35 (.nilC (.t 34)),f 36 2 2 35,l 37 36,l 38 12,o 39 (.lk (.i .i64) (.nilp) false (.t 37) (.t 38)),o 40 (.nilC (.t 39)),L 41 4 40,o 13 (.alloc (.agg [.int .i64 0,.int .i64 0,.int .i64 0,.bool false])),p (.bd (some 4) (.t 13) (.t 41))]
def LU:=some [[],[0],[1],[2],[],[3,4],[5],[6],[],[8,7,0,1,2,3,4,5,6,7,8]]
def QV:=[m 42 6,o 43 (.mk 87 [.t 13,.t 10,.t 12]),o 44 (.call 86 [.t 42,.t 43]),m 14 44]
def QW:=[f 45 2 2 13,l 46 45,m 47 1,o 48 (.bin .eql (.t 46) (.t 47)),m 49 48,cW 50 14 49,bL 51 (.un .not (.t 50)) 49,and 52 49 51]
def QX:=[m 53 8,L 54 4 13,o 55 (.bs 48 4 [.t 54]),o 56 (.dn 48 4 32 (.agg [.int .i64 0,.int .i64 0,.int .i64 0,.bool false]) (.t 53) (.t 55)),m 8 56]
def QY:=[ad 57 30 1,m 30 57]
def QZ:=[ad 58 23 1,m 23 58]
def Q0:=[m 59 8,m 60 7,m 4 59,m 5 60]
def zo:bu:=(s (r QT) (s (r QU) (s (r Q1) (s (s (r Q2) (.block 0 (.loop (s (r Q3) (s (.cond (.t 24) .skip (.exit 0)) (s (.block 1 (s (r Q4) (s (r Q5) (.block 2 (.loop (s (r Q6) (s (.cond (.t 31) .skip (.exit 2)) (s (.block 3 (s (r Q7) (s (.cu LU Q8) (s (r QV) (s (r QW) (.cond (.t 52) (r QX) .skip)))))) (r QY))))))))) (r QZ))))))) (s (r Q0) .ret)))))
def DX:List bN:=[.tmp 4,.tmp 5]
theorem JA:cB Tryz.prog Tryz.f39 zo:=e (by kernel_rfl)
theorem KR:cA Tryz.prog Tryz.f39 DX:=e (by kernel_rfl)
theorem Iw:cz Tryz.prog 39:=e (by kernel_rfl)
def Q9:=[o 4 (.mv (.c (.nils 4))),bW 5 0]
def Ra:=[m 15 0,m 16 1,o 17 (.call 84 [.t 15,.t 16]),m 6 17]
def Rm:=[m 18 6,o 19 (.bin .neq (.t 18) (bf 0))]
def Rp:=[m 20 6,o 4 (.mv (.c (.nils 4))),m 5 20]
def Rq:=[o 7 (.mv (.c (.nils 4)))]
def Rr:=[m 21 0,o 22 (.len (.t 21)),bW 23 0]
def Rs:=[lt 24 23 22]
def Rt:=[o 25 (.is 3 (.t 21) (.t 23)),L 26 3 25,o 9 (.alloc (.agg [.int .i64 0,.nils 4,.int .i64 0])),p (.bd (some 3) (.t 9) (.t 26))]
def Ru:=[L 27 3 9,o 28 (.call 75 [.t 27]),o 29 (.fl 3 3 none (.t 28)),o 30 (.len (.t 29)),bW 31 0]
def Rv:=[lt 32 31 30]
def Rb:=[o 33 (.is 4 (.t 29) (.t 31)),L 34 4 33,o 11 (.alloc (.agg [.int .i64 0,.int .i64 0,.int .i64 0,.bool false])),p (.bd (some 4) (.t 11) (.t 34))]
def Rc:=[o 12 (.mv bC)]
def Re:=[m 35 0,o 36 (.len (.t 35)),bW 37 0]
def Rf:=[lt 38 37 36]
def Rg:=[o 39 (.is 3 (.t 35) (.t 37)),L 40 3 39,o 14 (.alloc (.agg [.int .i64 0,.nils 4,.int .i64 0])),p (.bd (some 3) (.t 14) (.t 40))]
def Rh:=[m 41 12,m 42 41,fn 43 0 0 14 42,fx 44 43 42,fn 45 1 1 11 42,fx 46 45 42,on 47 (.bin .eql (.t 44) (.t 46)) 42,kl 48 47 42,bL 49 (.ld (some 3) (.t 14)) 48,bL 50 (.call 75 [.t 49]) 48,dA 51 0 0 9 48,di 52 51 48,dA 53 0 0 11 48,di 54 53 48,bL 55 (.call 88 [.t 50,.t 52,.t 54]) 48,bL 56 (.bin .eql (.t 55) (bf 7)) 48,on 57 (.pick (.t 48) (.t 56) bC) 42,or 58 42 57,m 12 58]
def LV:=some [[],[0],[1],[2,1],[1],[4,1],[3,5,1],[6,1,1],[7],[8,7,7],[7],[10,7],[7],[12,7],[9,11,13,9,7],[14,7],[7,15,1],[1,16],[17,14,0,1,2,3,4,5,6,7,8,9,10,11,12,13,14,15,16,17]]
def Ri:=[ad 59 37 1,m 37 59]
def Rj:=[f 60 2 2 11,l 61 60,m 62 1,o 63 (.bin .eql (.t 61) (.t 62)),m 64 63,cW 65 12 64,bL 66 (.un .not (.t 65)) 64,and 67 64 66]
def Rk:=[m 68 7,L 69 4 11,o 70 (.bs 48 4 [.t 69]),o 71 (.dn 48 4 32 (.agg [.int .i64 0,.int .i64 0,.int .i64 0,.bool false]) (.t 68) (.t 70)),m 7 71]
def Rl:=[ad 72 31 1,m 31 72]
def Rn:=[ad 73 23 1,m 23 73]
def Ro:=[m 74 7,m 4 74,bW 5 0]
def zp:bu:=(s (r Q9) (s (s (r Ra) (s (r Rm) (.cond (.t 19) (s (r Rp) .ret) .skip))) (s (r Rq) (s (s (r Rr) (.block 0 (.loop (s (r Rs) (s (.cond (.t 24) .skip (.exit 0)) (s (.block 1 (s (r Rt) (s (r Ru) (.block 2 (.loop (s (r Rv) (s (.cond (.t 32) .skip (.exit 2)) (s (.block 3 (s (r Rb) (s (r Rc) (s (s (r Re) (.block 4 (.loop (s (r Rf) (s (.cond (.t 38) .skip (.exit 4)) (s (.block 5 (s (r Rg) (.cu LV Rh))) (r Ri))))))) (s (r Rj) (.cond (.t 67) (r Rk) .skip)))))) (r Rl))))))))) (r Rn))))))) (s (r Ro) .ret)))))
def DY:List bN:=[.tmp 4,.tmp 5]
theorem JB:cB Tryz.prog Tryz.f40 zp:=e (by kernel_rfl)
theorem KS:cA Tryz.prog Tryz.f40 DY:=e (by kernel_rfl)
theorem Iy:cz Tryz.prog 40:=e (by kernel_rfl)
def Rw:=[o 4 (.mv bC)]
def Rx:=[m 6 0,o 7 (.len (.t 6)),m 8 1,o 9 (.len (.t 8)),o 10 (.bin .neq (.t 7) (.t 9))]
def Ry:=[o 4 (.mv bC)]
def Rz:=[m 11 0,o 12 (.len (.t 11)),bW 13 0]
def RA:=[lt 14 13 12]
def RB:=[m 15 13,m 5 15]
def RC:=[m 16 0,m 17 5,o 18 (.is 1 (.t 16) (.t 17)),l 19 18,m 20 1,m 21 5,o 22 (.is 1 (.t 20) (.t 21)),l 23 22,o 24 (.bin .neq (.t 19) (.t 23))]
def LW:=some [[],[],[0,1],[2],[],[],[4,5],[6],[3,7]]
def RD:=[o 4 (.mv bC)]
def RE:=[ad 25 13 1,m 13 25]
def RF:=[o 4 (.mv T)]
def zq:bu:=(s (r Rw) (s (s (r Rx) (.cond (.t 10) (s (r Ry) .ret) .skip)) (s (s (r Rz) (.block 0 (.loop (s (r RA) (s (.cond (.t 14) .skip (.exit 0)) (s (.block 1 (s (r RB) (s (.cu LW RC) (.cond (.t 24) (s (r RD) .ret) .skip)))) (r RE))))))) (s (r RF) .ret))))
def DZ:List bN:=[.tmp 4]
theorem JC:cB Tryz.prog Tryz.f41 zq:=e (by kernel_rfl)
theorem KT:cA Tryz.prog Tryz.f41 DZ:=e (by kernel_rfl)
theorem Iz:cz Tryz.prog 41:=e (by kernel_rfl)
def RG:=[o 4 (.mv bC)]
def RH:=[m 6 0,o 7 (.len (.t 6)),m 8 1,o 9 (.len (.t 8)),o 10 (.bin .neq (.t 7) (.t 9))]
def RI:=[o 4 (.mv bC)]
def RJ:=[m 11 0,o 12 (.len (.t 11)),bW 13 0]
def RK:=[lt 14 13 12]
def RL:=[m 15 13,m 5 15]
def RM:=[m 16 0,m 17 5,o 18 (.is 4 (.t 16) (.t 17)),L 19 4 18,m 20 1,m 21 5,o 22 (.is 4 (.t 20) (.t 21)),L 23 4 22,o 24 (.eqv (.bd [(.i .i64),(.i .i64),(.i .i64),.b]) true (.t 19) (.t 23))]
def LX:=some [[],[],[0,1],[2],[],[],[4,5],[6],[3,7]]
def RN:=[o 4 (.mv bC)]
def RO:=[ad 25 13 1,m 13 25]
def RP:=[o 4 (.mv T)]
def zr:bu:=(s (r RG) (s (s (r RH) (.cond (.t 10) (s (r RI) .ret) .skip)) (s (s (r RJ) (.block 0 (.loop (s (r RK) (s (.cond (.t 14) .skip (.exit 0)) (s (.block 1 (s (r RL) (s (.cu LX RM) (.cond (.t 24) (s (r RN) .ret) .skip)))) (r RO))))))) (s (r RP) .ret))))
def D0:List bN:=[.tmp 4]
theorem JD:cB Tryz.prog Tryz.f42 zr:=e (by kernel_rfl)
theorem KU:cA Tryz.prog Tryz.f42 D0:=e (by kernel_rfl)
theorem IA:cz Tryz.prog 42:=e (by kernel_rfl)
def RQ:=[b 1 0,o 2 (.mv (.c (.nils 4))),bW 3 0]
def RS:=[L 10 3 1,o 11 (.call 69 [.t 10]),m 9 11,o 12 (.ext (.t 9) 0),o 13 (.ext (.t 9) 1),m 4 12,m 5 13]
def RU:=[m 14 5,o 15 (.bin .neq (.t 14) (bf 0))]
def RV:=[m 16 5,o 2 (.mv (.c (.nils 4))),m 3 16]
def RW:=[o 6 (.mv (.c (.nils 4)))]
def RX:=[m 17 4,o 18 (.call 85 [.t 17]),o 19 (.len (.t 18)),bW 20 0]
def RY:=[lt 21 20 19]
def RZ:=[o 22 (.is 1 (.t 18) (.t 20)),l 23 22,m 8 23]
def R0:=[m 24 6,m 25 4,o 26 (.nilC (.t 25)),f 27 2 2 26,l 28 27,m 29 8,o 30 (.lk (.i .i64) (.nilp) false (.t 28) (.t 29)),o 31 (.nilC (.t 30)),L 32 4 31,o 33 (.bs 48 4 [.t 32]),o 34 (.dn 48 4 32 (.agg [.int .i64 0,.int .i64 0,.int .i64 0,.bool false]) (.t 24) (.t 33)),m 6 34]
def R1:=[ad 35 20 1,m 20 35]
def RT:=[m 36 6,m 2 36,bW 3 0]
def zt:bu:=(s (r RQ) (s (r RS) (s (s (r RU) (.cond (.t 15) (s (r RV) .ret) .skip)) (s (r RW) (s (s (r RX) (.block 0 (.loop (s (r RY) (s (.cond (.t 21) .skip (.exit 0)) (s (.block 1 (s (r RZ) (r R0))) (r R1))))))) (s (r RT) .ret))))))
def D5:List bN:=[.tmp 2,.tmp 3]
theorem JE:cB Tryz.prog Tryz.f46 zt:=e (by kernel_rfl)
theorem KV:cA Tryz.prog Tryz.f46 D5:=e (by kernel_rfl)
theorem IB:cz Tryz.prog 46:=e (by kernel_rfl)
def R2:=[o 4 (.mv bC)]
def R3:=[m 6 0,o 7 (.len (.t 6)),m 8 1,o 9 (.len (.t 8)),o 10 (.bin .neq (.t 7) (.t 9))]
def R4:=[o 4 (.mv bC)]
def R5:=[m 11 0,o 12 (.len (.t 11)),bW 13 0]
def R6:=[lt 14 13 12]
def R7:=[m 15 13,m 5 15]
def R8:=[m 16 0,m 17 5,o 18 (.is 4 (.t 16) (.t 17)),L 19 4 18,m 20 1,m 21 5,o 22 (.is 4 (.t 20) (.t 21)),L 23 4 22,o 24 (.eqv (.bd [(.i .i64),(.i .i64),(.i .i64),(.i .i64)]) true (.t 19) (.t 23))]
def LY:=some [[],[],[0,1],[2],[],[],[4,5],[6],[3,7]]
def R9:=[o 4 (.mv bC)]
def Sa:=[ad 25 13 1,m 13 25]
def Sb:=[o 4 (.mv T)]
def zu:bu:=(s (r R2) (s (s (r R3) (.cond (.t 10) (s (r R4) .ret) .skip)) (s (s (r R5) (.block 0 (.loop (s (r R6) (s (.cond (.t 14) .skip (.exit 0)) (s (.block 1 (s (r R7) (s (.cu LY R8) (.cond (.t 24) (s (r R9) .ret) .skip)))) (r Sa))))))) (s (r Sb) .ret))))
def D6:List bN:=[.tmp 4]
theorem JF:cB Tryz.prog Tryz.f52 zu:=e (by kernel_rfl)
theorem KW:cA Tryz.prog Tryz.f52 D6:=e (by kernel_rfl)
theorem IC:cz Tryz.prog 52:=e (by kernel_rfl)
def Sc:=[b 1 0,o 2 (.mv (.c (.bQ ⟨#[]⟩))),bW 3 0]
def Sd:=[L 8 3 1,o 9 (.call 23 [.t 8]),m 4 9]
def Sh:=[m 10 4,o 11 (.bin .neq (.t 10) (bf 0))]
def Si:=[m 12 4,o 2 (.mv (.c (.bQ ⟨#[]⟩))),m 3 12]
def Sj:=[f 13 0 0 1,l 14 13,f 15 2 2 1,l 16 15,o 17 (.bs 3 1 [.t 14,.t 16]),o 18 (.call 93 [(.c (.bQ ⟨#[112,111,117,110,100]⟩)),.t 17]),m 5 18]
def Sk:=[f 19 1 1 1,l 20 19,o 21 (.len (.t 20)),bW 22 0]
def Sl:=[lt 23 22 21]
def Sm:=[o 24 (.is 4 (.t 20) (.t 22)),L 25 4 24,o 7 (.alloc (.agg [.int .i64 0,.int .i64 0,.int .i64 0,.int .i64 0])),p (.bd (some 4) (.t 7) (.t 25))]
def Sn:=[f 26 0 0 7,l 27 26,o 28 (.bin .leq (.t 27) (bf 2))]
def Sp:=[m 29 5,o 30 (.call 94 []),f 31 0 0 7,l 32 31,o 33 (.is 1 (.t 30) (.t 32)),l 34 33,f 35 1 1 7,l 36 35,o 37 (.bs 3 1 [.t 36]),o 38 (.call 93 [.t 34,.t 37]),o 39 (.bin .add (.t 29) (.t 38)),m 5 39]
def L0:=some [[],[],[],[2],[1,3],[4],[],[6],[7],[5,8,1],[0,9],[10,9,0,1,2,3,4,5,6,7,8,9,10]]
def Se:=[m 40 5,o 41 (.call 94 []),f 42 0 0 7,l 43 42,o 44 (.is 1 (.t 41) (.t 43)),l 45 44,f 46 1 1 7,l 47 46,f 48 2 2 7,l 49 48,f 50 3 3 7,l 51 50,o 52 (.bs 3 1 [.t 47,.t 49,.t 51]),o 53 (.call 93 [.t 45,.t 52]),o 54 (.bin .add (.t 40) (.t 53)),m 5 54]
def LZ:=some [[],[],[],[2],[1,3],[4],[],[6],[],[8],[],[10],[7,9,11],[5,12,1],[0,13],[14,13,0,1,2,3,4,5,6,7,8,9,10,11,12,13,14]]
def Sf:=[ad 55 22 1,m 22 55]
def Sg:=[m 56 5,m 2 56,bW 3 0]
def zw:bu:=(s (r Sc) (s (s (r Sd) (s (r Sh) (.cond (.t 11) (s (r Si) .ret) .skip))) (s (r Sj) (s (s (r Sk) (.block 0 (.loop (s (r Sl) (s (.cond (.t 23) .skip (.exit 0)) (s (.block 1 (s (r Sm) (s (r Sn) (.cond (.t 28) (.cu L0 Sp) (.cu LZ Se))))) (r Sf))))))) (s (r Sg) .ret)))))
def D7:List bN:=[.tmp 2,.tmp 3]
theorem JG:cB Tryz.prog Tryz.f53 zw:=e (by kernel_rfl)
theorem KX:cA Tryz.prog Tryz.f53 D7:=e (by kernel_rfl)
theorem ID:cz Tryz.prog 53:=e (by kernel_rfl)
def Sq:=[b 1 0,o 2 (.alloc (.agg [.int .i64 0,.nils 4,.int .i64 0]))]
def Sr:=[f 3 1 1 1,l 4 3,o 5 (.call 59 [.t 4]),f 6 1 1 1,p (.bd none (.t 6) (.t 5))]
def St:=[L 7 3 1,p (.bd (some 3) (.t 2) (.t 7))]
def u3:bu:=(s (r Sq) (s (r Sr) (s (r St) .ret)))
def xh:List bN:=[.cell 2 (some 3)]
theorem AB:cB Tryz.prog Tryz.f57 u3:=e (by kernel_rfl)
theorem AK:cA Tryz.prog Tryz.f57 xh:=e (by kernel_rfl)
theorem Aj:cz Tryz.prog 57:=e (by kernel_rfl)
def vX:=[o 2 (.mv (.c (.nils 4)))]
def qy:=[m 3 0,o 4 (.nilS false (.t 3))]
def vY:=[o 2 (.mv (.c (.nils 4)))]
def qz:=[o 5 (.bs0 4),m 6 0,o 7 (.dn 37 4 32 (.agg [.int .i64 0,.int .i64 0,.int .i64 0,.int .i64 0]) (.t 5) (.t 6)),m 2 7]
def u4:bu:=(s (r vX) (s (s (r qy) (.cond (.t 4) (s (r vY) .ret) .skip)) (s (r qz) .ret)))
def xi:List bN:=[.tmp 2]
theorem AD:cB Tryz.prog Tryz.f59 u4:=e (by kernel_rfl)
theorem AL:cA Tryz.prog Tryz.f59 xi:=e (by kernel_rfl)
theorem Ak:cz Tryz.prog 59:=e (by kernel_rfl)
def Su:=[o 2 (.mv bC)]
def Sv:=[m 3 0,o 4 (.call 105 [.t 3,(bf 0),(bf 5)]),m 2 4]
def zy:bu:=(s (r Su) (s (r Sv) .ret))
def D9:List bN:=[.tmp 2]
theorem JI:cB Tryz.prog Tryz.f61 zy:=e (by kernel_rfl)
theorem KZ:cA Tryz.prog Tryz.f61 D9:=e (by kernel_rfl)
theorem IF:cz Tryz.prog 61:=e (by kernel_rfl)
def Sw:=[o 4 (.mv (.c (.nilp))),o 5 (.mv bC)]
def Sx:=[m 9 0,o 10 (.call 106 [.t 9]),m 6 10]
def Sy:=[m 11 1,o 12 (.len (.t 11)),bW 13 0]
def Sz:=[lt 14 13 12]
def SA:=[o 15 (.is 4 (.t 11) (.t 13)),L 16 4 15,o 8 (.alloc (.agg [.int .i64 0,.int .i64 0,.int .i64 0,.int .i64 0])),p (.bd (some 4) (.t 8) (.t 16))]
def SB:=[m 17 6,L 18 4 8,o 19 (.call 81 [.t 17,.t 18]),no 20 19]
def SC:=[o 4 (.mv (.c (.nilp))),o 5 (.mv bC)]
def SD:=[ad 21 13 1,m 13 21]
def SE:=[m 22 6,m 4 22,o 5 (.mv T)]
def u5:bu:=(s (r Sw) (s (r Sx) (s (s (r Sy) (.block 0 (.loop (s (r Sz) (s (.cond (.t 14) .skip (.exit 0)) (s (.block 1 (s (r SA) (s (r SB) (.cond (.t 20) (s (r SC) .ret) .skip)))) (r SD))))))) (s (r SE) .ret))))
def xj:List bN:=[.tmp 4,.tmp 5]
theorem AE:cB Tryz.prog Tryz.f62 u5:=e (by kernel_rfl)
theorem AM:cA Tryz.prog Tryz.f62 xj:=e (by kernel_rfl)
theorem Al:cz Tryz.prog 62:=e (by kernel_rfl)
def SF:=[b 2 0,b 3 1,o 4 (.mv (.c (.dB)))]
def SG:=[o 5 (.mk 107 [.t 2,.t 3]),m 4 5]
def zA:bu:=(s (r SF) (s (r SG) .ret))
def Ea:List bN:=[.tmp 4]
theorem JJ:cB Tryz.prog Tryz.f63 zA:=e (by kernel_rfl)
theorem K0:cA Tryz.prog Tryz.f63 Ea:=e (by kernel_rfl)
theorem IG:cz Tryz.prog 63:=e (by kernel_rfl)
def SH:=[o 2 (.mv bC)]
def SI:=[m 3 0,o 4 (.call 68 [.t 3,(bf 0),(bf 5)]),m 2 4]
def zB:bu:=(s (r SH) (s (r SI) .ret))
def Eb:List bN:=[.tmp 2]
theorem JK:cB Tryz.prog Tryz.f64 zB:=e (by kernel_rfl)
theorem K1:cA Tryz.prog Tryz.f64 Eb:=e (by kernel_rfl)
theorem IH:cz Tryz.prog 64:=e (by kernel_rfl)
def SJ:=[b 2 0,o 4 (.alloc (.agg [.int .i64 0,.nils 1,.int .i64 0,.nils 4,.nils 4])),o 5 (.mv bC)]
def SK:=[f 10 0 0 2,l 11 10,o 12 (.bld [.int .i64 0,.nils 1,.int .i64 0,.nils 4,.nils 4] [(0,(.t 11))]),o 6 (.alloc (.agg [.int .i64 0,.nils 1,.int .i64 0,.nils 4,.nils 4])),p (.bd (some 5) (.t 6) (.t 12))]
def SN:=[bW 7 0]
def SO:=[m 13 7,m 14 1,lt 15 13 14]
def SP:=[f 18 1 1 2,l 19 18,m 20 7,o 21 (.is 4 (.t 19) (.t 20)),L 22 4 21,o 23 (.call 22 [.t 22]),o 24 (.bin .neq (.t 23) (bf 0))]
def SQ:=[L 25 5 6,p (.bd (some 5) (.t 4) (.t 25)),o 5 (.mv bC)]
def SR:=[L 27 5 6,f 28 1 1 2,l 29 28,m 30 7,o 31 (.is 4 (.t 29) (.t 30)),L 32 4 31,o 33 (.call 76 [.t 27,.t 32]),m 26 33,o 34 (.ext (.t 26) 0),o 35 (.ext (.t 26) 1),o 8 (.alloc (.agg [.int .i64 0,.nils 1,.int .i64 0,.nils 4,.nils 4])),p (.bd (some 5) (.t 8) (.t 34)),m 9 35]
def L1:=some [[],[],[1],[],[2,3],[4],[0,5],[6],[7],[7],[],[10,8,6,0,1,2,3,4,5,6,7,8,10],[9,11,0,1,2,3,4,5,6,7,8,9,10,11]]
def SS:=[m 36 9,no 37 36]
def SU:=[L 38 5 6,p (.bd (some 5) (.t 4) (.t 38)),o 5 (.mv bC)]
def SV:=[L 39 5 8,p (.bd (some 5) (.t 6) (.t 39))]
def SL:=[m 16 7,ad 17 16 1,m 7 17]
def SM:=[L 40 5 6,p (.bd (some 5) (.t 4) (.t 40)),o 5 (.mv T)]
def zC:bu:=(s (r SJ) (s (r SK) (s (s (r SN) (.block 0 (.loop (s (s (r SO) (.cond (.t 15) .skip (.exit 0))) (s (.block 1 (s (s (r SP) (.cond (.t 24) (s (r SQ) .ret) .skip)) (s (.cu L1 SR) (s (s (r SS) (.cond (.t 37) (s (r SU) .ret) .skip)) (r SV))))) (r SL)))))) (s (r SM) .ret))))
def Ec:List bN:=[.cell 4 (some 5),.tmp 5]
theorem JL:cB Tryz.prog Tryz.f65 zC:=e (by kernel_rfl)
theorem K2:cA Tryz.prog Tryz.f65 Ec:=e (by kernel_rfl)
theorem II:cz Tryz.prog 65:=e (by kernel_rfl)
def SW:=[b 1 0,o 2 (.mv bC)]
def SX:=[f 3 0 0 1,l 4 3]
def S1:=[o 6 (.bin .eql (.t 4) (bf 1)),m 5 6]
def S2:=[o 7 (.bin .eql (.t 4) (bf 2)),m 5 7]
def S3:=[f 8 1 1 1,l 9 8,o 10 (.call 71 [.t 9]),m 11 10,dA 12 2 2 1 11,di 13 12 11,bL 14 (.bin .eql (.t 13) (bf 0)) 11,and 15 11 14,m 16 15,dA 17 3 3 1 16,di 18 17 16,bL 19 (.bin .eql (.t 18) (bf 0)) 16,and 20 16 19,m 2 20]
def S4:=[o 22 (.bin .eql (.t 4) (bf 3)),m 21 22]
def S5:=[o 23 (.bin .eql (.t 4) (bf 4)),m 21 23]
def S6:=[o 24 (.bin .eql (.t 4) (bf 5)),m 21 24]
def S7:=[o 25 (.bin .eql (.t 4) (bf 6)),m 21 25]
def S8:=[o 26 (.bin .eql (.t 4) (bf 7)),m 21 26]
def SY:=[o 27 (.bin .eql (.t 4) (bf 8)),m 21 27]
def SZ:=[f 28 1 1 1,l 29 28,o 30 (.call 71 [.t 29]),m 31 30,dA 32 2 2 1 31,di 33 32 31,bL 34 (.call 61 [.t 33]) 31,and 35 31 34,m 36 35,dA 37 3 3 1 36,di 38 37 36,bL 39 (.call 90 [.t 38]) 36,and 40 36 39,m 2 40]
def S0:=[o 2 (.mv bC)]
def zD:bu:=(s (r SW) (s (s (r SX) (.block 0 (s (s (r S1) (.cond (.t 5) .skip (r S2))) (.cond (.t 5) (s (r S3) .ret) (s (s (r S4) (.cond (.t 21) .skip (s (r S5) (.cond (.t 21) .skip (s (r S6) (.cond (.t 21) .skip (s (r S7) (.cond (.t 21) .skip (s (r S8) (.cond (.t 21) .skip (r SY))))))))))) (.cond (.t 21) (s (r SZ) .ret) .skip)))))) (s (r S0) .ret)))
def Ed:List bN:=[.tmp 2]
theorem JM:cB Tryz.prog Tryz.f66 zD:=e (by kernel_rfl)
theorem K3:cA Tryz.prog Tryz.f66 Ed:=e (by kernel_rfl)
theorem IJ:cz Tryz.prog 66:=e (by kernel_rfl)
def S9:=[o 2 (.mv bC)]
def Ta:=[m 3 0,o 4 (.call 68 [.t 3,(bf 1),(bf 9999)]),m 2 4]
def zE:bu:=(s (r S9) (s (r Ta) .ret))
def Ee:List bN:=[.tmp 2]
theorem JN:cB Tryz.prog Tryz.f67 zE:=e (by kernel_rfl)
theorem K4:cA Tryz.prog Tryz.f67 Ee:=e (by kernel_rfl)
theorem IK:cz Tryz.prog 67:=e (by kernel_rfl)
def Tb:=[o 6 (.mv bC)]
def Tc:=[m 7 1,m 8 0,o 9 (.bin .leq (.t 7) (.t 8)),m 10 9,cW 11 0 10,cW 12 2 10,bL 13 (.bin .leq (.t 11) (.t 12)) 10,and 14 10 13,m 6 14]
def zF:bu:=(s (r Tb) (s (r Tc) .ret))
def Ef:List bN:=[.tmp 6]
theorem JO:cB Tryz.prog Tryz.f68 zF:=e (by kernel_rfl)
theorem K5:cA Tryz.prog Tryz.f68 Ef:=e (by kernel_rfl)
theorem IL:cz Tryz.prog 68:=e (by kernel_rfl)
def Td:=[b 1 0,o 2 (.mv (.c (.nilp))),bW 3 0]
def Te:=[f 6 0 0 1,l 7 6,o 8 (.call 61 [.t 7]),no 9 8,m 10 9,fn 11 1 1 1 10,fx 12 11 10,on 13 (.len (.t 12)) 10,on 14 (.bin .gtr (.t 13) (bf 200)) 10,or 15 10 14,m 16 15,fn 17 2 2 1 16,fx 18 17 16,fn 19 1 1 1 16,fx 20 19 16,on 21 (.len (.t 20)) 16,on 22 (.call 105 [.t 18,(bf 0),.t 21]) 16,on 23 (.un .not (.t 22)) 16,or 24 16 23]
def Tf:=[o 2 (.mv (.c (.nilp))),bW 3 91]
def Tg:=[f 26 0 0 1,l 27 26,f 28 1 1 1,l 29 28,o 30 (.call 62 [.t 27,.t 29]),m 25 30,o 31 (.ext (.t 25) 0),o 32 (.ext (.t 25) 1),m 4 31,m 5 32]
def Th:=[m 33 5,no 34 33]
def Ti:=[o 2 (.mv (.c (.nilp))),bW 3 91]
def Tj:=[m 35 4,m 2 35,bW 3 0]
def u6:bu:=(s (r Td) (s (s (r Te) (.cond (.t 24) (s (r Tf) .ret) .skip)) (s (r Tg) (s (s (r Th) (.cond (.t 34) (s (r Ti) .ret) .skip)) (s (r Tj) .ret)))))
def xk:List bN:=[.tmp 2,.tmp 3]
theorem AF:cB Tryz.prog Tryz.f69 u6:=e (by kernel_rfl)
theorem AN:cA Tryz.prog Tryz.f69 xk:=e (by kernel_rfl)
theorem Am:cz Tryz.prog 69:=e (by kernel_rfl)
def Tr:=[b 1 0,o 2 (.mv bC)]
def Ts:=[f 3 0 0 1,l 4 3,o 5 (.call 105 [.t 4,(bf 1),(bf 4)]),m 6 5,dA 7 1 1 1 6,di 8 7 6,bL 9 (.call 61 [.t 8]) 6,and 10 6 9,m 11 10,dA 12 2 2 1 11,di 13 12 11,bL 14 (.call 61 [.t 13]) 11,and 15 11 14,m 16 15,dA 17 1 1 1 16,di 18 17 16,dA 19 2 2 1 16,di 20 19 16,bL 21 (.bin .neq (.t 18) (.t 20)) 16,and 22 16 21,m 23 22,dA 24 3 3 1 23,di 25 24 23,bL 26 (.call 71 [.t 25]) 23,and 27 23 26,m 28 27,dA 29 4 4 1 28,di 30 29 28,bL 31 (.call 90 [.t 30]) 28,and 32 28 31,m 2 32]
def zG:bu:=(s (r Tr) (s (r Ts) .ret))
def Eg:List bN:=[.tmp 2]
theorem JP:cB Tryz.prog Tryz.f70 zG:=e (by kernel_rfl)
theorem K6:cA Tryz.prog Tryz.f70 Eg:=e (by kernel_rfl)
theorem IM:cz Tryz.prog 70:=e (by kernel_rfl)
def Tt:=[o 2 (.mv bC)]
def Tu:=[m 3 0,o 4 (.call 105 [.t 3,(bf 1),(bf 9999)]),m 2 4]
def zH:bu:=(s (r Tt) (s (r Tu) .ret))
def Ei:List bN:=[.tmp 2]
theorem JQ:cB Tryz.prog Tryz.f71 zH:=e (by kernel_rfl)
theorem K7:cA Tryz.prog Tryz.f71 Ei:=e (by kernel_rfl)
theorem IN:cz Tryz.prog 71:=e (by kernel_rfl)
def Bw:=[o 4 (.mv bC)]
def Bx:=[m 7 0,o 8 (.nilC (.t 7)),f 9 2 2 8,l 10 9,o 11 (.jz (.t 10))]
def vZ:=[o 12 (.ic (.t 11)),o 13 (.ext (.t 12) 0)]
def Tv:=[o 14 (.ent (.t 11)),o 15 (.ext (.t 14) 1),m 6 15]
def Tw:=[m 16 6,o 17 (.nilC (.t 16)),f 18 2 2 17,l 19 18,m 20 1,o 21 (.bin .eql (.t 19) (.t 20))]
def Tx:=[o 4 (.mv T)]
def Ty:=[o 4 (.mv bC)]
def zI:bu:=(s (r Bw) (s (s (r Bx) (.block 0 (.loop (s (r vZ) (s (.cond (.t 13) .skip (.exit 0)) (.block 1 (s (r Tv) (s (r Tw) (.cond (.t 21) (s (r Tx) .ret) .skip))))))))) (s (r Ty) .ret)))
def Ej:List bN:=[.tmp 4]
theorem JR:cB Tryz.prog Tryz.f72 zI:=e (by kernel_rfl)
theorem K8:cA Tryz.prog Tryz.f72 Ej:=e (by kernel_rfl)
theorem IP:cz Tryz.prog 72:=e (by kernel_rfl)
def Tz:=[b 2 0,b 3 1,o 4 (.alloc (.agg [.int .i64 0,.nils 4,.int .i64 0])),bW 5 0]
def TA:=[f 6 1 1 2,l 7 6,o 8 (.len (.t 7)),o 9 (.bin .eql (.t 8) (bf 200))]
def TB:=[o 10 (.bld [.int .i64 0,.nils 4,.int .i64 0] []),p (.bd (some 3) (.t 4) (.t 10)),bW 5 2]
def TC:=[L 11 3 2,o 12 (.call 57 [.t 11]),p (.bd (some 3) (.t 2) (.t 12))]
def TD:=[f 13 1 1 2,l 14 13,L 15 4 3,o 16 (.bs 37 4 [.t 15]),o 17 (.dn 37 4 32 (.agg [.int .i64 0,.int .i64 0,.int .i64 0,.int .i64 0]) (.t 14) (.t 16)),f 18 1 1 2,p (.bd none (.t 18) (.t 17))]
def TE:=[L 19 3 2,p (.bd (some 3) (.t 4) (.t 19)),bW 5 0]
def zJ:bu:=(s (r Tz) (s (s (r TA) (.cond (.t 9) (s (r TB) .ret) .skip)) (s (r TC) (s (r TD) (s (r TE) .ret)))))
def Ek:List bN:=[.cell 4 (some 3),.tmp 5]
theorem JS:cB Tryz.prog Tryz.f73 zJ:=e (by kernel_rfl)
theorem K9:cA Tryz.prog Tryz.f73 Ek:=e (by kernel_rfl)
theorem IQ:cz Tryz.prog 73:=e (by kernel_rfl)
def TF:=[b 1 0,o 2 (.alloc (.agg [.int .i64 0,.nils 1,.int .i64 0,.nils 4,.nils 4]))]
def TG:=[L 6 3 1,f 7 1 1 1,l 8 7,o 9 (.len (.t 8)),o 10 (.call 65 [.t 6,.t 9]),m 5 10,o 11 (.ext (.t 5) 0),o 12 (.ext (.t 5) 1),o 3 (.alloc (.agg [.int .i64 0,.nils 1,.int .i64 0,.nils 4,.nils 4])),p (.bd (some 5) (.t 3) (.t 11)),m 4 12]
def TH:=[L 13 5 3,p (.bd (some 5) (.t 2) (.t 13))]
def zK:bu:=(s (r TF) (s (r TG) (s (r TH) .ret)))
def El:List bN:=[.cell 2 (some 5)]
theorem JT:cB Tryz.prog Tryz.f75 zK:=e (by kernel_rfl)
theorem La:cA Tryz.prog Tryz.f75 El:=e (by kernel_rfl)
theorem IS:cz Tryz.prog 75:=e (by kernel_rfl)
def By:=[b 2 0,b 3 1,o 4 (.alloc (.agg [.int .i64 0,.nils 1,.int .i64 0,.nils 4,.nils 4])),o 5 (.mv bC)]
def Bz:=[f 9 1 1 2,l 10 9,f 11 1 1 3,l 12 11,o 13 (.call 78 [.t 10,.t 12]),m 6 13]
def BA:=[L 14 5 2,f 15 3 3 3,l 16 15,o 17 (.call 79 [.t 14,.t 16]),m 7 17]
def BB:=[m 18 7,o 19 (.bin .geq (.t 18) (bf 0)),m 20 19,dA 21 3 3 2 20,di 22 21 20,cW 23 7 20,bL 24 (.max2 (.t 23) (bf 0)) 20,bL 25 (.is 4 (.t 22) (.t 24)) 20,dA 26 1 1 25 20,di 27 26 20,dA 28 2 2 3 20,di 29 28 20,bL 30 (.bin .eql (.t 27) (.t 29)) 20,and 31 20 30,m 32 31,dA 33 3 3 2 32,di 34 33 32,cW 35 7 32,bL 36 (.max2 (.t 35) (bf 0)) 32,bL 37 (.is 4 (.t 34) (.t 36)) 32,dA 38 2 2 37 32,di 39 38 32,dA 40 1 1 3 32,di 41 40 32,bL 42 (.bin .eql (.t 39) (.t 41)) 32,and 43 32 42,m 8 43]
def AO:=some [[],[0],[1],[2],[3,2],[2],[5,2],[4,6,2],[7,2],[8,2],[2],[10,2],[9,11,2],[2,12],[13,2],[14],[15,14],[14],[17,14],[16,18,14],[19,14],[20,14],[14],[22,14],[21,23,14],[14,24],[25,14,0,1,2,3,4,5,6,7,8,9,10,11,12,13,14,15,16,17,18,19,20,21,22,23,24,25]]
def Ub:=[f 44 0 0 3,l 45 44]
def Uf:=[o 47 (.bin .eql (.t 45) (bf 1)),m 46 47]
def Ug:=[m 48 6,m 49 48,on 50 (.ld (some 5) (.t 2)) 49,fn 51 1 1 3 49,fx 52 51 49,on 53 (.call 108 [.t 50,.t 52]) 49,or 54 49 53]
def Uh:=[L 55 5 2,p (.bd (some 5) (.t 4) (.t 55)),o 5 (.mv bC)]
def Ui:=[f 56 1 1 2,l 57 56,f 58 1 1 3,l 59 58,o 60 (.call 109 [.t 57,.t 59]),f 61 1 1 2,p (.bd none (.t 61) (.t 60))]
def Uj:=[L 62 5 2,p (.bd (some 5) (.t 4) (.t 62)),o 5 (.mv T)]
def TI:=[o 64 (.bin .eql (.t 45) (bf 2)),m 63 64]
def TJ:=[f 65 1 1 2,l 66 65,f 67 1 1 3,l 68 67,o 69 (.call 110 [.t 66,.t 68]),f 70 1 1 2,p (.bd none (.t 70) (.t 69))]
def TK:=[L 71 5 2,m 72 6,p (.bd (some 5) (.t 4) (.t 71)),m 5 72]
def TL:=[o 74 (.bin .eql (.t 45) (bf 3)),m 73 74]
def TM:=[m 75 6,no 76 75,m 77 76,fn 78 2 2 3 77,fx 79 78 77,fn 80 0 0 2 77,fx 81 80 77,on 82 (.bin .eql (.t 79) (.t 81)) 77,or 83 77 82,m 84 83,fn 85 3 3 3 84,fx 86 85 84,fn 87 2 2 2 84,fx 88 87 84,on 89 (.bin .add (.t 88) (bf 1)) 84,on 90 (.bin .neq (.t 86) (.t 89)) 84,or 91 84 90]
def TN:=[L 92 5 2,p (.bd (some 5) (.t 4) (.t 92)),o 5 (.mv bC)]
def TO:=[f 93 1 1 2,l 94 93,f 95 1 1 3,l 96 95,o 97 (.call 110 [.t 94,.t 96]),f 98 1 1 2,p (.bd none (.t 98) (.t 97))]
def TP:=[f 99 3 3 3,l 100 99,f 101 2 2 2,p (.bd none (.t 101) (.t 100))]
def v7:=[o 102 (.bs0 4),f 103 3 3 2,l 104 103,o 105 (.dn 48 4 32 (.agg [.int .i64 0,.int .i64 0,.int .i64 0,.bool false]) (.t 102) (.t 104)),f 106 3 3 3,l 107 106,f 108 2 2 3,l 109 108,f 110 1 1 3,l 111 110,o 112 (.bld [.int .i64 0,.int .i64 0,.int .i64 0,.bool false] [(0,(.t 107)),(1,(.t 109)),(2,(.t 111))]),o 113 (.bs 48 4 [.t 112]),o 114 (.dn 48 4 32 (.agg [.int .i64 0,.int .i64 0,.int .i64 0,.bool false]) (.t 105) (.t 113)),f 115 3 3 2,p (.bd none (.t 115) (.t 114))]
def L2:=some [[],[],[1],[0,2],[],[4],[],[6],[],[8],[5,7,9],[10],[3,11,3],[0,1,2,3,4,5,6,7,8,9,10,11,12],[13,12,12,0,1,2,3,4,5,6,7,8,9,10,11,12]] -- DRAW BAD
def TQ:=[L 116 5 2,p (.bd (some 5) (.t 4) (.t 116)),o 5 (.mv T)]
def TR:=[o 118 (.bin .eql (.t 45) (bf 4)),m 117 118]
def TS:=[m 119 8,no 120 119,m 121 120,fn 122 3 3 2 121,fx 123 122 121,kl 124 7 121,on 125 (.is 4 (.t 123) (.t 124)) 121,fn 126 3 3 125 121,fx 127 126 121,or 128 121 127]
def TT:=[L 129 5 2,p (.bd (some 5) (.t 4) (.t 129)),o 5 (.mv bC)]
def TU:=[o 130 (.bs0 4),f 131 3 3 2,l 132 131,o 133 (.dn 48 4 32 (.agg [.int .i64 0,.int .i64 0,.int .i64 0,.bool false]) (.t 130) (.t 132)),f 134 3 3 2,p (.bd none (.t 134) (.t 133))]
def TV:=[f 135 3 3 2,l 136 135,m 137 7,o 138 (.is 4 (.t 136) (.t 137)),f 139 3 3 138,p (.bd none (.t 139) T)]
def TW:=[L 140 5 2,p (.bd (some 5) (.t 4) (.t 140)),o 5 (.mv T)]
def TX:=[o 142 (.bin .eql (.t 45) (bf 5)),m 141 142]
def TY:=[m 143 8,no 144 143]
def TZ:=[L 145 5 2,p (.bd (some 5) (.t 4) (.t 145)),o 5 (.mv bC)]
def T0:=[L 146 5 2,m 147 7,o 148 (.call 111 [.t 146,.t 147]),p (.bd (some 5) (.t 4) (.t 148)),o 5 (.mv T)]
def T1:=[o 150 (.bin .eql (.t 45) (bf 6)),m 149 150]
def T2:=[m 151 8,no 152 151,m 153 152,fn 154 3 3 2 153,fx 155 154 153,kl 156 7 153,on 157 (.is 4 (.t 155) (.t 156)) 153,fn 158 3 3 157 153,fx 159 158 153,on 160 (.un .not (.t 159)) 153,or 161 153 160]
def T3:=[L 162 5 2,p (.bd (some 5) (.t 4) (.t 162)),o 5 (.mv bC)]
def T4:=[L 163 5 2,m 164 7,o 165 (.call 111 [.t 163,.t 164]),p (.bd (some 5) (.t 2) (.t 165))]
def T5:=[f 166 1 1 2,l 167 166,f 168 1 1 3,l 169 168,o 170 (.call 109 [.t 167,.t 169]),f 171 1 1 2,p (.bd none (.t 171) (.t 170))]
def T6:=[L 172 5 2,p (.bd (some 5) (.t 4) (.t 172)),o 5 (.mv T)]
def T7:=[f 173 2 2 3,l 174 173,f 175 0 0 2,l 176 175,o 177 (.bin .eql (.t 174) (.t 176)),m 178 177,on 179 (.ld (some 5) (.t 2)) 178,fn 180 2 2 3 178,fx 181 180 178,fn 182 3 3 3 178,fx 183 182 178,on 184 (.call 88 [.t 179,.t 181,.t 183]) 178,on 185 (.bin .neq (.t 184) (bf 0)) 178,or 186 178 185]
def T8:=[L 187 5 2,p (.bd (some 5) (.t 4) (.t 187)),o 5 (.mv bC)]
def T9:=[f 188 0 0 3,l 189 188,o 190 (.bin .eql (.t 189) (bf 7))]
def Ua:=[m 191 6,m 192 191,on 193 (.ld (some 5) (.t 2)) 192,fn 194 1 1 3 192,fx 195 194 192,on 196 (.call 108 [.t 193,.t 195]) 192,or 197 192 196]
def Uc:=[L 198 5 2,p (.bd (some 5) (.t 4) (.t 198)),o 5 (.mv bC)]
def Ud:=[f 199 1 1 2,l 200 199,f 201 1 1 3,l 202 201,o 203 (.call 109 [.t 200,.t 202]),f 204 1 1 2,p (.bd none (.t 204) (.t 203))]
def Ue:=[L 205 5 2,L 206 4 3,o 207 (.call 112 [.t 205,.t 206]),p (.bd (some 5) (.t 4) (.t 207)),o 5 (.mv T)]
def lE:bu:=(s (r By) (s (r Bz) (s (r BA) (s (.cu AO BB) (s (s (r Ub) (.block 0 (s (r Uf) (.cond (.t 46) (s (s (r Ug) (.cond (.t 54) (s (r Uh) .ret) .skip)) (s (r Ui) (s (r Uj) .ret))) (s (r TI) (.cond (.t 63) (s (r TJ) (s (r TK) .ret)) (s (r TL) (.cond (.t 73) (s (s (r TM) (.cond (.t 91) (s (r TN) .ret) .skip)) (s (r TO) (s (r TP) (s (.cu L2 v7) (s (r TQ) .ret))))) (s (r TR) (.cond (.t 117) (s (s (r TS) (.cond (.t 128) (s (r TT) .ret) .skip)) (s (r TU) (s (r TV) (s (r TW) .ret)))) (s (r TX) (.cond (.t 141) (s (s (r TY) (.cond (.t 144) (s (r TZ) .ret) .skip)) (s (r T0) .ret)) (s (r T1) (.cond (.t 149) (s (s (r T2) (.cond (.t 161) (s (r T3) .ret) .skip)) (s (r T4) (s (r T5) (s (r T6) .ret)))) .skip)))))))))))))) (s (s (r T7) (.cond (.t 186) (s (r T8) .ret) .skip)) (s (s (r T9) (.cond (.t 190) (s (s (r Ua) (.cond (.t 197) (s (r Uc) .ret) .skip)) (r Ud)) .skip)) (s (r Ue) .ret))))))))
def lZ:List bN:=[.cell 4 (some 5),.tmp 5]
theorem mD:cB Tryz.prog Tryz.f76 lE:=e (by kernel_rfl)
theorem mE:cA Tryz.prog Tryz.f76 lZ:=e (by kernel_rfl)
theorem mC:cz Tryz.prog 76:=e (by kernel_rfl)
def Uk:=[o 4 (.mv bC)]
def Ul:=[m 7 0,o 8 (.len (.t 7)),bW 9 0]
def Um:=[lt 10 9 8]
def Un:=[o 11 (.is 1 (.t 7) (.t 9)),l 12 11,m 6 12]
def Uo:=[m 13 6,m 14 1,o 15 (.bin .eql (.t 13) (.t 14))]
def Up:=[o 4 (.mv T)]
def Uq:=[ad 16 9 1,m 9 16]
def Ur:=[o 4 (.mv bC)]
def zL:bu:=(s (r Uk) (s (s (r Ul) (.block 0 (.loop (s (r Um) (s (.cond (.t 10) .skip (.exit 0)) (s (.block 1 (s (r Un) (s (r Uo) (.cond (.t 15) (s (r Up) .ret) .skip)))) (r Uq))))))) (s (r Ur) .ret)))
def Em:List bN:=[.tmp 4]
theorem JU:cB Tryz.prog Tryz.f78 zL:=e (by kernel_rfl)
theorem Lb:cA Tryz.prog Tryz.f78 Em:=e (by kernel_rfl)
theorem IT:cz Tryz.prog 78:=e (by kernel_rfl)
def Us:=[b 2 0,bW 4 0]
def Ut:=[f 7 3 3 2,l 8 7,o 9 (.len (.t 8)),bW 10 0]
def Uu:=[lt 11 10 9]
def Uv:=[m 12 10,o 13 (.is 4 (.t 8) (.t 10)),L 14 4 13,o 6 (.alloc (.agg [.int .i64 0,.int .i64 0,.int .i64 0,.bool false])),m 5 12,p (.bd (some 4) (.t 6) (.t 14))]
def Uw:=[f 15 0 0 6,l 16 15,m 17 1,o 18 (.bin .eql (.t 16) (.t 17))]
def Ux:=[m 19 5,m 4 19]
def Uy:=[ad 20 10 1,m 10 20]
def Uz:=[bW 4 (-1)]
def zM:bu:=(s (r Us) (s (s (r Ut) (.block 0 (.loop (s (r Uu) (s (.cond (.t 11) .skip (.exit 0)) (s (.block 1 (s (r Uv) (s (r Uw) (.cond (.t 18) (s (r Ux) .ret) .skip)))) (r Uy))))))) (s (r Uz) .ret)))
def En:List bN:=[.tmp 4]
theorem JV:cB Tryz.prog Tryz.f79 zM:=e (by kernel_rfl)
theorem Lc:cA Tryz.prog Tryz.f79 En:=e (by kernel_rfl)
theorem IU:cz Tryz.prog 79:=e (by kernel_rfl)
def UA:=[bW 2 0]
def UB:=[o 3 (.iD),p (.eT (.i .i64) (.t 3) (bf 1) (bf 7)),p (.eT (.i .i64) (.t 3) (bf 2) (bf 5)),p (.eT (.i .i64) (.t 3) (bf 3) (bf 8)),p (.eT (.i .i64) (.t 3) (bf 4) (bf 6)),m 4 3,m 5 0,o 6 (.lk (.i .i64) (.int .i64 0) false (.t 4) (.t 5)),m 2 6]
def zN:bu:=(s (r UA) (s (r UB) .ret))
def Eo:List bN:=[.tmp 2]
theorem JW:cB Tryz.prog Tryz.f80 zN:=e (by kernel_rfl)
theorem Ld:cA Tryz.prog Tryz.f80 Eo:=e (by kernel_rfl)
theorem IV:cz Tryz.prog 80:=e (by kernel_rfl)
def BC:=[b 3 1,o 4 (.alloc (.bool false))]
def BD:=[L 6 4 3,o 7 (.call 66 [.t 6]),o 8 (.call 114 [.t 7])]
def qA:=[m 9 0,o 10 (.nilC (.t 9)),f 11 5 5 10,l 12 11,f 13 0 0 3,l 14 13,o 15 (.lk (.i .i64) (.dB) false (.t 12) (.t 14)),L 16 4 3,o 17 (.fH (.t 15) [.t 16])]
def L3:=some [[],[0],[1],[2],[],[4],[3,5],[],[6,7]]
def UC:=[p (.bd none (.t 4) T)]
def YB:List bN:=[.cell 4 none]
theorem Le:cA Tryz.prog Tryz.f81 YB:=e (by kernel_rfl)
theorem IW:cz Tryz.prog 81:=e (by kernel_rfl)
def UD:=[o 4 (.mv (.c (.nils 1))),bW 5 0]
def UE:=[o 6 (.mv (.c (.nils 1)))]
def UI:=[m 11 0,o 12 (.len (.t 11)),bW 13 0]
def UJ:=[lt 14 13 12]
def UK:=[m 15 13,o 16 (.is 3 (.t 11) (.t 13)),L 17 3 16,o 8 (.alloc (.agg [.int .i64 0,.nils 4,.int .i64 0])),m 7 15,p (.bd (some 3) (.t 8) (.t 17))]
def UL:=[L 19 3 8,o 20 (.call 69 [.t 19]),m 18 20,o 21 (.ext (.t 18) 0),o 22 (.ext (.t 18) 1),m 9 21,m 10 22]
def UM:=[m 23 10,o 24 (.bin .neq (.t 23) (bf 0)),m 25 24,kl 26 7 25,on 27 (.bin .gtr (.t 26) (bf 0)) 25,kl 28 27 25,cW 29 0 28,cW 30 7 28,bL 31 (.bin .sub (.t 30) (bf 1)) 28,bL 32 (.is 3 (.t 29) (.t 31)) 28,dA 33 0 0 32 28,di 34 33 28,dA 35 0 0 8 28,di 36 35 28,bL 37 (.bin .geq (.t 34) (.t 36)) 28,on 38 (.pick (.t 28) (.t 37) bC) 25,or 39 25 38]
def L4:=some [[],[0],[1],[2],[3,2],[4,2,2],[5],[5],[7,5],[6,8,5],[9,5],[10,5],[5],[12,5],[11,13,5],[5,14,2],[2,15]]
def UN:=[o 4 (.mv (.c (.nils 1))),bW 5 96]
def UO:=[m 40 6,m 41 9,o 42 (.bs 80 1 [.t 41]),o 43 (.dn 80 1 8 (.nilp) (.t 40) (.t 42)),m 6 43]
def UP:=[ad 44 13 1,m 13 44]
def UF:=[m 45 1,o 46 (.call 71 [.t 45]),no 47 46]
def UG:=[o 4 (.mv (.c (.nils 1))),bW 5 1]
def UH:=[m 48 6,m 4 48,bW 5 0]
def zO:bu:=(s (r UD) (s (r UE) (s (s (r UI) (.block 0 (.loop (s (r UJ) (s (.cond (.t 14) .skip (.exit 0)) (s (.block 1 (s (r UK) (s (r UL) (s (s (.cu L4 UM) (.cond (.t 39) (s (r UN) .ret) .skip)) (r UO))))) (r UP))))))) (s (s (r UF) (.cond (.t 47) (s (r UG) .ret) .skip)) (s (r UH) .ret)))))
def Ep:List bN:=[.tmp 4,.tmp 5]
theorem JX:cB Tryz.prog Tryz.f83 zO:=e (by kernel_rfl)
theorem Lf:cA Tryz.prog Tryz.f83 Ep:=e (by kernel_rfl)
theorem IX:cz Tryz.prog 83:=e (by kernel_rfl)
def UQ:=[bW 4 0]
def UR:=[m 7 0,o 8 (.len (.t 7)),o 9 (.bin .gtr (.t 8) (bf 6))]
def UU:=[bW 4 96]
def UW:=[m 10 0,o 11 (.len (.t 10)),bW 12 0]
def UX:=[lt 13 12 11]
def UY:=[m 14 12,o 15 (.is 3 (.t 10) (.t 12)),L 16 3 15,o 6 (.alloc (.agg [.int .i64 0,.nils 4,.int .i64 0])),m 5 14,p (.bd (some 3) (.t 6) (.t 16))]
def UZ:=[L 17 3 6,o 18 (.call 24 [.t 17]),o 19 (.bin .neq (.t 18) (bf 0)),m 20 19,kl 21 5 20,on 22 (.bin .gtr (.t 21) (bf 0)) 20,kl 23 22 20,cW 24 0 23,cW 25 5 23,bL 26 (.bin .sub (.t 25) (bf 1)) 23,bL 27 (.is 3 (.t 24) (.t 26)) 23,dA 28 0 0 27 23,di 29 28 23,dA 30 0 0 6 23,di 31 30 23,bL 32 (.bin .geq (.t 29) (.t 31)) 23,on 33 (.pick (.t 23) (.t 32) bC) 20,or 34 20 33]
def L5:=some [[],[0],[1],[2,1],[3],[4,3],[5,3,3],[6],[6],[8,6],[7,9,6],[10,6],[11,6],[6],[13,6],[12,14,6],[6,15,3],[3,16]]
def U0:=[bW 4 96]
def U1:=[ad 35 12 1,m 12 35]
def U2:=[m 36 1,o 37 (.call 67 [.t 36]),no 38 37]
def US:=[bW 4 1]
def UT:=[bW 4 0]
def zP:bu:=(s (r UQ) (s (s (r UR) (.cond (.t 9) (s (r UU) .ret) .skip)) (s (s (r UW) (.block 0 (.loop (s (r UX) (s (.cond (.t 13) .skip (.exit 0)) (s (.block 1 (s (r UY) (s (.cu L5 UZ) (.cond (.t 34) (s (r U0) .ret) .skip)))) (r U1))))))) (s (s (r U2) (.cond (.t 38) (s (r US) .ret) .skip)) (s (r UT) .ret)))))
def Er:List bN:=[.tmp 4]
theorem JY:cB Tryz.prog Tryz.f84 zP:=e (by kernel_rfl)
theorem Lg:cA Tryz.prog Tryz.f84 Er:=e (by kernel_rfl)
theorem IY:cz Tryz.prog 84:=e (by kernel_rfl)
def BE:=[o 2 (.mv (.c (.nils 1)))]
def BF:=[o 3 (.mv (.c (.nils 1)))]
def BG:=[m 5 0,o 6 (.nilC (.t 5)),f 7 2 2 6,l 8 7,o 9 (.jz (.t 8))]
def v8:=[o 10 (.ic (.t 9)),o 11 (.ext (.t 10) 0)]
def U3:=[o 12 (.ent (.t 9)),o 13 (.ext (.t 12) 0),m 4 13]
def U4:=[m 14 3,m 15 4,o 16 (.bs 3 1 [.t 15]),o 17 (.dn 3 1 8 (.int .i64 0) (.t 14) (.t 16)),m 3 17]
def U5:=[m 18 3,o 19 (.call 89 [.t 18])]
def U6:=[m 20 3,m 2 20]
def zQ:bu:=(s (r BE) (s (r BF) (s (s (r BG) (.block 0 (.loop (s (r v8) (s (.cond (.t 11) .skip (.exit 0)) (.block 1 (s (r U3) (r U4)))))))) (s (r U5) (s (r U6) .ret)))))
def Es:List bN:=[.tmp 2]
theorem JZ:cB Tryz.prog Tryz.f85 zQ:=e (by kernel_rfl)
theorem Lh:cA Tryz.prog Tryz.f85 Es:=e (by kernel_rfl)
theorem IZ:cz Tryz.prog 85:=e (by kernel_rfl)
def U7:=[o 4 (.mv bC)]
def U8:=[m 5 0,m 6 1,o 7 (.call 115 [.t 5,.t 6]),o 8 (.bin .geq (.t 7) (bf 0)),m 4 8]
def zR:bu:=(s (r U7) (s (r U8) .ret))
def Et:List bN:=[.tmp 4]
theorem J0:cB Tryz.prog Tryz.f86 zR:=e (by kernel_rfl)
theorem Li:cA Tryz.prog Tryz.f86 Et:=e (by kernel_rfl)
theorem I0:cz Tryz.prog 86:=e (by kernel_rfl)
def U9:=[o 5 (.mv bC)]
def Va:=[m 6 0,o 7 (.nilC (.t 6)),f 8 0 0 7,l 9 8,f 10 1 1 1,l 11 10,o 12 (.bin .eql (.t 9) (.t 11)),m 13 12,cW 14 0 13,bL 15 (.nilC (.t 14)) 13,dA 16 4 4 15 13,di 17 16 13,di 18 2 13,bL 19 (.nilC (.t 18)) 13,dA 20 0 0 19 13,di 21 20 13,di 22 3 13,bL 23 (.bld [.int .i64 0,.int .i64 0] [(0,(.t 21)),(1,(.t 22))]) 13,bL 24 (.lk (.bd [(.i .i64),(.i .i64)]) (.agg [.int .i64 0,.int .i64 0,.int .i64 0,.int .i64 0]) false (.t 17) (.t 23)) 13,bL 25 (.fl 0 0 none (.t 24)) 13,bL 26 (.bin .eql (.t 25) (bf 7)) 13,and 27 13 26,m 5 27]
def L6:=some [[],[0],[1],[2],[],[4],[3,5],[6],[7],[8,7],[9,7],[10,7],[7],[12,7],[13,7],[14,7],[7],[15,16,7],[11,17,7],[18,7],[19,7],[7,20],[21,7,0,1,2,3,4,5,6,7,8,9,10,11,12,13,14,15,16,17,18,19,20,21]]
def zS:bu:=(s (r U9) (s (.cu L6 Va) .ret))
def Eu:List bN:=[.tmp 5]
theorem J1:cB Tryz.prog Tryz.f87 zS:=e (by kernel_rfl)
theorem Lj:cA Tryz.prog Tryz.f87 Eu:=e (by kernel_rfl)
theorem I1:cz Tryz.prog 87:=e (by kernel_rfl)
def Vb:=[b 3 0,bW 6 0]
def Vc:=[f 9 4 4 3,l 10 9,o 11 (.len (.t 10)),bW 12 0]
def Vd:=[lt 13 12 11]
def Ve:=[o 14 (.is 4 (.t 10) (.t 12)),L 15 4 14,o 8 (.alloc (.agg [.int .i64 0,.int .i64 0,.int .i64 0,.int .i64 0])),p (.bd (some 4) (.t 8) (.t 15))]
def Vf:=[f 16 1 1 8,l 17 16,m 18 1,o 19 (.bin .eql (.t 17) (.t 18)),m 20 19,dA 21 2 2 8 20,di 22 21 20,cW 23 2 20,bL 24 (.bin .eql (.t 22) (.t 23)) 20,and 25 20 24]
def Vg:=[f 26 0 0 8,l 27 26,m 6 27]
def Vh:=[ad 28 12 1,m 12 28]
def Vi:=[bW 6 0]
def zT:bu:=(s (r Vb) (s (s (r Vc) (.block 0 (.loop (s (r Vd) (s (.cond (.t 13) .skip (.exit 0)) (s (.block 1 (s (r Ve) (s (r Vf) (.cond (.t 25) (s (r Vg) .ret) .skip)))) (r Vh))))))) (s (r Vi) .ret)))
def Ev:List bN:=[.tmp 6]
theorem J2:cB Tryz.prog Tryz.f88 zT:=e (by kernel_rfl)
theorem Lk:cA Tryz.prog Tryz.f88 Ev:=e (by kernel_rfl)
theorem I2:cz Tryz.prog 88:=e (by kernel_rfl)
theorem An:cz Tryz.prog 89:=e (by kernel_rfl)
def Vj:=[o 2 (.mv bC)]
def Vk:=[m 3 0,o 4 (.call 105 [.t 3,(bf 1),(bf 200)]),m 2 4]
def zU:bu:=(s (r Vj) (s (r Vk) .ret))
def Ew:List bN:=[.tmp 2]
theorem J3:cB Tryz.prog Tryz.f90 zU:=e (by kernel_rfl)
theorem Ll:cA Tryz.prog Tryz.f90 Ew:=e (by kernel_rfl)
theorem I3:cz Tryz.prog 90:=e (by kernel_rfl)
def BH:=[o 4 (.mv (.c (.bQ ⟨#[]⟩)))]
def BI:=[m 7 1,o 8 (.len (.t 7)),bW 9 0]
def BJ:=[lt 10 9 8]
def BK:=[o 11 (.is 1 (.t 7) (.t 9)),l 12 11,m 6 12]
def BL:=[m 13 0,m 14 6,o 15 (.call 119 [.t 14]),o 16 (.bin .add (.c (.bQ ⟨#[32]⟩)) (.t 15)),o 17 (.bin .add (.t 13) (.t 16)),m 0 17]
def BM:=[ad 18 9 1,m 9 18]
def BN:=[m 19 0,o 20 (.bin .add (.t 19) (.c (.bQ ⟨#[10]⟩))),m 4 20]
def zV:bu:=(s (r BH) (s (s (r BI) (.block 0 (.loop (s (r BJ) (s (.cond (.t 10) .skip (.exit 0)) (s (.block 1 (s (r BK) (r BL))) (r BM))))))) (s (r BN) .ret)))
def Ey:List bN:=[.tmp 4]
theorem J4:cB Tryz.prog Tryz.f93 zV:=e (by kernel_rfl)
theorem Lm:cA Tryz.prog Tryz.f93 Ey:=e (by kernel_rfl)
theorem I4:cz Tryz.prog 93:=e (by kernel_rfl)
def Vl:=[o 0 (.mv (.c (.nils 1)))]
def Vm:=[o 1 (.bs 9 1 [(.c (.bQ ⟨#[]⟩)),(.c (.bQ ⟨#[112,111,117,110,100]⟩)),(.c (.bQ ⟨#[114,101,108,101,97,115,101]⟩)),(.c (.bQ ⟨#[115,101,110,100]⟩)),(.c (.bQ ⟨#[99,97,108,108]⟩)),(.c (.bQ ⟨#[100,111,110,101]⟩)),(.c (.bQ ⟨#[98,97,99,107]⟩)),(.c (.bQ ⟨#[116,97,107,101]⟩)),(.c (.bQ ⟨#[114,101,102,117,115,101]⟩))]),m 0 1]
def zW:bu:=(s (r Vl) (s (r Vm) .ret))
def Ez:List bN:=[.tmp 0]
theorem J5:cB Tryz.prog Tryz.f94 zW:=e (by kernel_rfl)
theorem Ln:cA Tryz.prog Tryz.f94 Ez:=e (by kernel_rfl)
theorem I5:cz Tryz.prog 94:=e (by kernel_rfl)
def Nb:=[o 6 (.mv bC)]
def Nc:=[m 7 0,m 8 1,o 9 (.bin .geq (.t 7) (.t 8)),m 10 9,cW 11 0 10,cW 12 2 10,bL 13 (.bin .leq (.t 11) (.t 12)) 10,and 14 10 13,m 6 14]
def yU:bu:=(s (r Nb) (s (r Nc) .ret))
def Dn:List bN:=[.tmp 6]
theorem Jc:cB Tryz.prog Tryz.f105 yU:=e (by kernel_rfl)
theorem Kj:cA Tryz.prog Tryz.f105 Dn:=e (by kernel_rfl)
theorem H7:cz Tryz.prog 105:=e (by kernel_rfl)
def Nd:=[o 2 (.mv (.c (.nilp)))]
def Nf:=[m 4 0,o 5 (.iD),o 6 (.iD),o 7 (.iD),o 8 (.bld [.int .i64 0,.raw (.map none),.raw (.map none),.int .i64 0,.raw (.map none),.raw (.map none)] [(0,(.t 4)),(1,(.t 5)),(2,(.t 6)),(4,(.t 7))]),b 9 8,m 3 9]
def Ng:=[m 10 3,o 11 (.iD),m 12 3,o 13 (.mk 1000125 [.t 12]),p (.eT (.i .i64) (.t 11) (bf 1) (.t 13)),m 14 3,o 15 (.mk 1000126 [.t 14]),p (.eT (.i .i64) (.t 11) (bf 2) (.t 15)),m 16 3,o 17 (.mk 1000127 [.t 16]),p (.eT (.i .i64) (.t 11) (bf 3) (.t 17)),m 18 3,o 19 (.mk 1000128 [.t 18]),p (.eT (.i .i64) (.t 11) (bf 4) (.t 19)),m 20 3,o 21 (.mk 1000129 [.t 20]),p (.eT (.i .i64) (.t 11) (bf 5) (.t 21)),m 22 3,o 23 (.mk 1000130 [.t 22]),p (.eT (.i .i64) (.t 11) (bf 6) (.t 23)),m 24 3,o 25 (.mk 1000131 [.t 24]),p (.eT (.i .i64) (.t 11) (bf 7) (.t 25)),m 26 3,o 27 (.mk 1000132 [.t 26]),p (.eT (.i .i64) (.t 11) (bf 8) (.t 27)),m 28 11,o 29 (.nilC (.t 10)),f 30 5 5 29,p (.bd none (.t 30) (.t 28))]
def Nh:=[m 31 3,m 2 31]
def yV:bu:=(s (r Nd) (s (r Nf) (s (r Ng) (s (r Nh) .ret))))
def Dp:List bN:=[.tmp 2]
theorem Jd:cB Tryz.prog Tryz.f106 yV:=e (by kernel_rfl)
theorem Kk:cA Tryz.prog Tryz.f106 Dp:=e (by kernel_rfl)
theorem H8:cz Tryz.prog 106:=e (by kernel_rfl)
def Ni:=[l 12 1,o 13 (.call 85 [.t 12]),o 14 (.len (.t 13)),bW 15 0]
def Nj:=[lt 16 15 14]
def Nt:=[o 17 (.is 1 (.t 13) (.t 15)),l 18 17,m 5 18]
def Nu:=[l 19 1,o 20 (.nilC (.t 19)),f 21 2 2 20,l 22 21,m 23 5,o 24 (.lk (.i .i64) (.nilp) false (.t 22) (.t 23)),m 6 24]
def Nv:=[l 25 1,o 26 (.nilC (.t 25)),f 27 0 0 26,l 28 27,l 29 2,m 30 6,o 31 (.nilC (.t 30)),f 32 2 2 31,l 33 32,m 34 5,o 35 (.bld [.int .i64 0,.int .i64 0,.int .i64 0,.int .i64 0,.int .i64 0] [(0,(bf 1)),(1,(.t 28)),(2,(.t 29)),(3,(.t 33)),(4,(.t 34))]),o 7 (.alloc (.agg [.int .i64 0,.int .i64 0,.int .i64 0,.int .i64 0,.int .i64 0])),p (.bd (some 5) (.t 7) (.t 35))]
def Lq:=some [[],[0],[1],[2],[],[],[5],[6],[7],[],[3,4,8,9],[],[11,10,0,1,2,3,4,5,6,7,8,9,10,11]]
def Nw:=[m 36 6,o 37 (.nilC (.t 36)),f 38 3 3 37,l 39 38]
def Nx:=[f 40 0 0 7,p (.bd none (.t 40) (bf 3))]
def nI:=[m 41 6,o 42 (.nilC (.t 41)),f 43 1 1 42,l 44 43,l 45 2,o 46 (.bin .eql (.t 44) (.t 45)),m 47 46,cW 48 0 47,bL 49 (.ld (some 5) (.t 7)) 47,bL 50 (.fH (.t 48) [.t 49]) 47,bL 51 (.un .not (.t 50)) 47,and 52 47 51]
def Lr:=some [[],[0],[1],[2],[],[3,4],[5],[6],[6],[7,8,6,6],[9,6],[6,10]]
def Ny:=[ad 53 15 1,m 15 53]
def Nz:=[bW 8 1]
def Nk:=[m 54 8,o 55 (.bin .leq (.t 54) (bf 200))]
def Nl:=[l 59 1,o 60 (.nilC (.t 59)),f 61 4 4 60,l 62 61,l 63 2,m 64 8,o 65 (.bld [.int .i64 0,.int .i64 0] [(0,(.t 63)),(1,(.t 64))]),o 66 (.lk (.bd [(.i .i64),(.i .i64)]) (.agg [.int .i64 0,.int .i64 0,.int .i64 0,.int .i64 0]) true (.t 62) (.t 65)),m 58 66,o 67 (.ext (.t 58) 0),o 68 (.ext (.t 58) 1),o 9 (.alloc (.agg [.int .i64 0,.int .i64 0,.int .i64 0,.int .i64 0])),p (.bd (some 4) (.t 9) (.t 67)),m 10 68]
def Lo:=some [[],[0],[1],[2],[],[],[4,5],[3,6],[7],[8],[8],[],[11,9,0,1,2,3,4,5,6,7,8,9,11],[10,12,0,1,2,3,4,5,6,7,8,9,10,11,12]]
def Nn:=[l 69 1,o 70 (.nilC (.t 69)),f 71 0 0 70,l 72 71,l 73 2,f 74 1 1 9,l 75 74,m 76 8,o 77 (.bld [.int .i64 0,.int .i64 0,.int .i64 0,.int .i64 0,.int .i64 0] [(0,(bf 2)),(1,(.t 72)),(2,(.t 73)),(3,(.t 75)),(4,(.t 76))]),o 11 (.alloc (.agg [.int .i64 0,.int .i64 0,.int .i64 0,.int .i64 0,.int .i64 0])),p (.bd (some 5) (.t 11) (.t 77))]
def Lp:=some [[],[0],[1],[2],[],[],[5],[],[3,4,6,7],[],[9,8,0,1,2,3,4,5,6,7,8,9]]
def Np:=[f 78 0 0 9,l 79 78,o 80 (.bin .eql (.t 79) (bf 8))]
def Nq:=[f 81 0 0 11,p (.bd none (.t 81) (bf 4))]
def Nr:=[m 82 10,m 83 82,cW 84 0 83,bL 85 (.ld (some 5) (.t 11)) 83,bL 86 (.fH (.t 84) [.t 85]) 83,bL 87 (.un .not (.t 86)) 83,and 88 83 87]
def Ns:=[m 56 8,ad 57 56 1,m 8 57]
def yW:bu:=(s (s (r Ni) (.block 0 (.loop (s (r Nj) (s (.cond (.t 16) .skip (.exit 0)) (s (.block 1 (s (r Nt) (s (r Nu) (s (.cu Lq Nv) (s (s (r Nw) (.cond (.t 39) (r Nx) .skip)) (s (.cu Lr nI) (.cond (.t 52) .ret .skip))))))) (r Ny))))))) (s (r Nz) (.block 2 (.loop (s (s (r Nk) (.cond (.t 55) .skip (.exit 2))) (s (.block 3 (s (.cu Lo Nl) (s (.cu Lp Nn) (s (s (r Np) (.cond (.t 80) (r Nq) .skip)) (s (r Nr) (.cond (.t 88) .ret .skip)))))) (r Ns)))))))
def Dq:List bN:=[]
theorem Je:cB Tryz.prog Tryz.f107 yW:=e (by kernel_rfl)
theorem Kl:cA Tryz.prog Tryz.f107 Dq:=e (by kernel_rfl)
theorem zZ:cz Tryz.prog 107:=e (by kernel_rfl)
def NA:=[b 2 0,o 4 (.mv bC)]
def NB:=[f 7 3 3 2,l 8 7,o 9 (.len (.t 8)),bW 10 0]
def NC:=[lt 11 10 9]
def ND:=[o 12 (.is 4 (.t 8) (.t 10)),L 13 4 12,o 6 (.alloc (.agg [.int .i64 0,.int .i64 0,.int .i64 0,.bool false])),p (.bd (some 4) (.t 6) (.t 13))]
def NF:=[f 14 2 2 6,l 15 14,m 16 1,o 17 (.bin .eql (.t 15) (.t 16))]
def NG:=[o 4 (.mv T)]
def NH:=[ad 18 10 1,m 10 18]
def NI:=[o 4 (.mv bC)]
def yX:bu:=(s (r NA) (s (s (r NB) (.block 0 (.loop (s (r NC) (s (.cond (.t 11) .skip (.exit 0)) (s (.block 1 (s (r ND) (s (r NF) (.cond (.t 17) (s (r NG) .ret) .skip)))) (r NH))))))) (s (r NI) .ret)))
def Dr:List bN:=[.tmp 4]
theorem Jf:cB Tryz.prog Tryz.f108 yX:=e (by kernel_rfl)
theorem Km:cA Tryz.prog Tryz.f108 Dr:=e (by kernel_rfl)
theorem H9:cz Tryz.prog 108:=e (by kernel_rfl)
def NJ:=[o 4 (.mv (.c (.nils 1)))]
def NK:=[bW 5 0]
def NL:=[m 6 5,m 7 0,o 8 (.len (.t 7)),lt 9 6 8,m 10 9,cW 11 0 10,cW 12 5 10,bL 13 (.is 1 (.t 11) (.t 12)) 10,di 14 13 10,cW 15 1 10,bL 16 (.bin .lss (.t 14) (.t 15)) 10,and 17 10 16]
def NM:=[m 18 5,ad 19 18 1,m 5 19]
def NN:=[m 20 5,m 21 0,o 22 (.len (.t 21)),lt 23 20 22,m 24 23,cW 25 0 24,cW 26 5 24,bL 27 (.is 1 (.t 25) (.t 26)) 24,di 28 27 24,cW 29 1 24,bL 30 (.bin .eql (.t 28) (.t 29)) 24,and 31 24 30]
def NO:=[m 32 0,m 4 32]
def qw:=[o 33 (.bs0 1),m 34 0,m 35 5,o 36 (.sl 1 (.t 34) none (some (.t 35)) none),o 37 (.dn 3 1 8 (.int .i64 0) (.t 33) (.t 36)),m 38 1,o 39 (.bs 3 1 [.t 38]),o 40 (.dn 3 1 8 (.int .i64 0) (.t 37) (.t 39)),m 41 0,m 42 5,o 43 (.sl 1 (.t 41) (some (.t 42)) none none),o 44 (.dn 3 1 8 (.int .i64 0) (.t 40) (.t 43)),m 4 44]
def Ls:=some [[],[],[],[1,2],[0,3],[],[5],[4,6,4],[],[],[8,9],[7,10,7],[11,11,0,1,2,3,4,5,6,7,8,9,10,11]] -- DRAW BAD
def yY:bu:=(s (r NJ) (s (r NK) (s (.block 0 (.loop (s (s (r NL) (.cond (.t 17) .skip (.exit 0))) (.block 1 (r NM))))) (s (s (r NN) (.cond (.t 31) (s (r NO) .ret) .skip)) (s (.cu Ls qw) .ret)))))
def Ds:List bN:=[.tmp 4]
theorem Jg:cB Tryz.prog Tryz.f109 yY:=e (by kernel_rfl)
theorem Kn:cA Tryz.prog Tryz.f109 Ds:=e (by kernel_rfl)
theorem Ia:cz Tryz.prog 109:=e (by kernel_rfl)
def NW:=[o 4 (.mv (.c (.nils 1)))]
def NX:=[o 5 (.mv (.c (.nils 1)))]
def NY:=[m 8 0,o 9 (.len (.t 8)),bW 10 0]
def NZ:=[lt 11 10 9]
def N0:=[o 12 (.is 1 (.t 8) (.t 10)),l 13 12,m 7 13]
def N1:=[m 14 7,m 15 1,o 16 (.bin .neq (.t 14) (.t 15))]
def N2:=[m 17 5,m 18 7,o 19 (.bs 3 1 [.t 18]),o 20 (.dn 3 1 8 (.int .i64 0) (.t 17) (.t 19)),m 5 20]
def N3:=[ad 21 10 1,m 10 21]
def N4:=[m 22 5,m 4 22]
def yZ:bu:=(s (r NW) (s (r NX) (s (s (r NY) (.block 0 (.loop (s (r NZ) (s (.cond (.t 11) .skip (.exit 0)) (s (.block 1 (s (r N0) (s (r N1) (.cond (.t 16) (r N2) .skip)))) (r N3))))))) (s (r N4) .ret))))
def Dt:List bN:=[.tmp 4]
theorem Jh:cB Tryz.prog Tryz.f110 yZ:=e (by kernel_rfl)
theorem Ko:cA Tryz.prog Tryz.f110 Dt:=e (by kernel_rfl)
theorem Ib:cz Tryz.prog 110:=e (by kernel_rfl)
def N5:=[b 2 0,o 4 (.alloc (.agg [.int .i64 0,.nils 1,.int .i64 0,.nils 4,.nils 4]))]
def vS:=[o 5 (.bs0 4),f 6 3 3 2,l 7 6,m 8 1,o 9 (.sl 4 (.t 7) none (some (.t 8)) none),o 10 (.dn 48 4 32 (.agg [.int .i64 0,.int .i64 0,.int .i64 0,.bool false]) (.t 5) (.t 9)),f 11 3 3 2,l 12 11,m 13 1,ad 14 13 1,o 15 (.sl 4 (.t 12) (some (.t 14)) none none),o 16 (.dn 48 4 32 (.agg [.int .i64 0,.int .i64 0,.int .i64 0,.bool false]) (.t 10) (.t 15)),f 17 3 3 2,p (.bd none (.t 17) (.t 16))]
def Lt:=some [[],[],[1],[],[2,3],[0,4],[],[6],[],[8],[7,9],[5,10,5],[0,1,2,3,4,5,6,7,8,9,10,11],[12,11,11,0,1,2,3,4,5,6,7,8,9,10,11]] -- DRAW BAD
def N6:=[L 18 5 2,p (.bd (some 5) (.t 4) (.t 18))]
def y5:bu:=(s (r N5) (s (.cu Lt vS) (s (r N6) .ret)))
def Du:List bN:=[.cell 4 (some 5)]
theorem Ji:cB Tryz.prog Tryz.f111 y5:=e (by kernel_rfl)
theorem Kp:cA Tryz.prog Tryz.f111 Du:=e (by kernel_rfl)
theorem Ic:cz Tryz.prog 111:=e (by kernel_rfl)
def N7:=[b 2 0,b 3 1,o 4 (.alloc (.agg [.int .i64 0,.nils 1,.int .i64 0,.nils 4,.nils 4]))]
def vT:=[o 5 (.bs0 4),f 6 4 4 2,l 7 6,o 8 (.dn 91 4 32 (.agg [.int .i64 0,.int .i64 0,.int .i64 0,.int .i64 0]) (.t 5) (.t 7)),f 9 0 0 3,l 10 9,f 11 2 2 3,l 12 11,f 13 3 3 3,l 14 13,f 15 1 1 3,l 16 15,o 17 (.bld [.int .i64 0,.int .i64 0,.int .i64 0,.int .i64 0] [(0,(.t 10)),(1,(.t 12)),(2,(.t 14)),(3,(.t 16))]),o 18 (.bs 91 4 [.t 17]),o 19 (.dn 91 4 32 (.agg [.int .i64 0,.int .i64 0,.int .i64 0,.int .i64 0]) (.t 8) (.t 18)),f 20 4 4 2,p (.bd none (.t 20) (.t 19))]
def Lu:=some [[],[],[1],[0,2],[],[4],[],[6],[],[8],[],[10],[5,7,9,11],[12],[3,13,3],[0,1,2,3,4,5,6,7,8,9,10,11,12,13,14],[15,14,14,0,1,2,3,4,5,6,7,8,9,10,11,12,13,14]] -- DRAW BAD
def N8:=[L 21 5 2,p (.bd (some 5) (.t 4) (.t 21))]
def y7:bu:=(s (r N7) (s (.cu Lu vT) (s (r N8) .ret)))
def Dv:List bN:=[.cell 4 (some 5)]
theorem Jj:cB Tryz.prog Tryz.f112 y7:=e (by kernel_rfl)
theorem Kq:cA Tryz.prog Tryz.f112 Dv:=e (by kernel_rfl)
theorem Ie:cz Tryz.prog 112:=e (by kernel_rfl)
theorem z7:cz Tryz.prog 113:=e (by kernel_rfl)
def N9:=[m 2 0,no 3 2]
def y8:bu:=(s (r N9) (.cond (.t 3) .uN .skip))
def Dw:List bN:=[]
theorem Jk:cB Tryz.prog Tryz.f114 y8:=e (by kernel_rfl)
theorem Kr:cA Tryz.prog Tryz.f114 Dw:=e (by kernel_rfl)
theorem z8:cz Tryz.prog 114:=e (by kernel_rfl)
def Oa:=[bW 4 0]
def Ob:=[m 6 0,o 7 (.len (.t 6)),bW 8 0]
def Oc:=[lt 9 8 7]
def Od:=[m 10 8,m 5 10]
def Oe:=[m 11 1,m 12 0,m 13 5,o 14 (.is 1 (.t 12) (.t 13)),l 15 14,o 16 (.fH (.t 11) [.t 15])]
def Of:=[m 17 5,m 4 17]
def Og:=[ad 18 8 1,m 8 18]
def Oh:=[bW 4 (-1)]
def y9:bu:=(s (r Oa) (s (s (r Ob) (.block 0 (.loop (s (r Oc) (s (.cond (.t 9) .skip (.exit 0)) (s (.block 1 (s (r Od) (s (r Oe) (.cond (.t 16) (s (r Of) .ret) .skip)))) (r Og))))))) (s (r Oh) .ret)))
def Dy:List bN:=[.tmp 4]
theorem Jl:cB Tryz.prog Tryz.f115 y9:=e (by kernel_rfl)
theorem Ks:cA Tryz.prog Tryz.f115 Dy:=e (by kernel_rfl)
theorem If:cz Tryz.prog 115:=e (by kernel_rfl)
theorem Ig:cz Tryz.prog 119:=e (by kernel_rfl)
def Oi:=[b 3 1]
def qx:=[m 4 0,o 5 (.nilC (.t 4)),f 6 1 1 5,l 7 6,f 8 1 1 3,l 9 8,o 10 (.lk (.i .i64) (.bool false) false (.t 7) (.t 9)),no 11 10,m 12 11,cW 13 0 12,dA 14 1 1 3 12,di 15 14 12,bL 16 (.call 72 [.t 13,.t 15]) 12,bL 17 (.un .not (.t 16)) 12,and 18 12 17,o 19 (.call 114 [.t 18])]
def Lv:=some [[],[0],[1],[2],[],[4],[3,5],[6],[7],[8],[8],[10,8],[9,11,8,8],[12,8],[8,13],[14,12]]
def Oj:=[m 20 0,o 21 (.nilC (.t 20)),f 22 1 1 21,l 23 22,f 24 1 1 3,l 25 24,p (.eT (.i .i64) (.t 23) (.t 25) T)]
def Lw:=some [[],[0],[1],[2],[],[4],[3,5,0,1,2,3,4,5]]
def uR:bu:=(s (r Oi) (s (.cu Lv qx) (.cu Lw Oj)))
def Dz:List bN:=[]
theorem Ar:cB Tryz.prog Tryz.f125 uR:=e (by kernel_rfl)
theorem Kt:cA Tryz.prog Tryz.f125 Dz:=e (by kernel_rfl)
theorem Aa:cz Tryz.prog 125:=e (by kernel_rfl)
def Ol:=[b 3 1]
def vU:=[m 4 0,o 5 (.nilC (.t 4)),f 6 1 1 5,l 7 6,f 8 1 1 3,l 9 8,o 10 (.lk (.i .i64) (.bool false) false (.t 7) (.t 9)),o 11 (.call 114 [.t 10])]
def Lx:=some [[],[0],[1],[2],[],[4],[3,5],[6]]
def Om:=[m 12 0,o 13 (.nilC (.t 12)),f 14 1 1 13,l 15 14,f 16 1 1 3,l 17 16,p (.iC (.i .i64) (.t 15) (.t 17))]
def Ly:=some [[],[0],[1],[2],[],[4],[3,5]]
def uS:bu:=(s (r Ol) (s (.cu Lx vU) (.cu Ly Om)))
def DA:List bN:=[]
theorem As:cB Tryz.prog Tryz.f126 uS:=e (by kernel_rfl)
theorem Ku:cA Tryz.prog Tryz.f126 DA:=e (by kernel_rfl)
theorem Ab:cz Tryz.prog 126:=e (by kernel_rfl)
def On:=[b 3 1]
def nJ:=[m 4 0,o 5 (.nilC (.t 4)),f 6 1 1 5,l 7 6,f 8 1 1 3,l 9 8,o 10 (.lk (.i .i64) (.bool false) false (.t 7) (.t 9)),m 11 10,dA 12 2 2 3 11,di 13 12 11,cW 14 0 11,bL 15 (.nilC (.t 14)) 11,dA 16 0 0 15 11,di 17 16 11,bL 18 (.bin .neq (.t 13) (.t 17)) 11,and 19 11 18,m 20 19,dA 21 3 3 3 20,di 22 21 20,cW 23 0 20,bL 24 (.nilC (.t 23)) 20,dA 25 3 3 24 20,di 26 25 20,bL 27 (.bin .add (.t 26) (bf 1)) 20,bL 28 (.bin .eql (.t 22) (.t 27)) 20,and 29 20 28,o 30 (.call 114 [.t 29])]
def Lz:=some [[],[0],[1],[2],[],[4],[3,5],[6],[7],[8,7],[7],[10,7],[11,7],[12,7],[9,13,7],[7,14],[15,7],[16],[17,16],[16],[19,16],[20,16],[21,16],[22,16],[18,23,16],[16,24],[25,16]]
def Oo:=[m 31 0,o 32 (.nilC (.t 31)),f 33 1 1 32,l 34 33,f 35 1 1 3,l 36 35,p (.iC (.i .i64) (.t 34) (.t 36))]
def LA:=some [[],[0],[1],[2],[],[4],[3,5]]
def Oq:=[m 37 0,o 38 (.nilC (.t 37)),f 39 3 3 38,l 40 39,ad 41 40 1,o 42 (.nilC (.t 37)),f 43 3 3 42,p (.bd none (.t 43) (.t 41))]
def Ot:=[m 44 0,o 45 (.nilC (.t 44)),f 46 2 2 45,l 47 46,f 48 3 3 3,l 49 48,f 50 3 3 3,l 51 50,f 52 2 2 3,l 53 52,f 54 1 1 3,l 55 54,o 56 (.bld [.int .i64 0,.int .i64 0,.int .i64 0,.bool false] [(0,(.t 51)),(1,(.t 53)),(2,(.t 55))]),b 57 56,p (.eT (.i .i64) (.t 47) (.t 49) (.t 57))]
def LB:=some [[],[0],[1],[2],[],[4],[],[6],[],[8],[],[10],[7,9,11],[12],[3,5,13,0,1,2,3,4,5,6,7,8,9,10,11,12,13]]
def uT:bu:=(s (r On) (s (.cu Lz nJ) (s (.cu LA Oo) (s (r Oq) (.cu LB Ot)))))
def DB:List bN:=[]
theorem Au:cB Tryz.prog Tryz.f127 uT:=e (by kernel_rfl)
theorem Kv:cA Tryz.prog Tryz.f127 DB:=e (by kernel_rfl)
theorem Ac:cz Tryz.prog 127:=e (by kernel_rfl)
def Ou:=[b 3 1]
def Br:=[m 5 0,L 6 4 3,o 7 (.call 151 [.t 5,.t 6]),m 4 7]
def Bt:=[m 8 4,o 9 (.nilC (.t 8)),f 10 3 3 9,l 11 10,no 12 11,o 13 (.call 114 [.t 12])]
def Ov:=[m 14 4,o 15 (.nilC (.t 14)),f 16 3 3 15,p (.bd none (.t 16) T)]
def uU:bu:=(s (r Ou) (s (r Br) (s (r Bt) (r Ov))))
def DC:List bN:=[]
theorem Av:cB Tryz.prog Tryz.f128 uU:=e (by kernel_rfl)
theorem Kx:cA Tryz.prog Tryz.f128 DC:=e (by kernel_rfl)
theorem Ad:cz Tryz.prog 128:=e (by kernel_rfl)
def Ow:=[b 3 1]
def Bu:=[m 4 0,L 5 4 3,o 6 (.call 151 [.t 4,.t 5])]
def Ox:=[m 7 0,o 8 (.nilC (.t 7)),f 9 2 2 8,l 10 9,f 11 3 3 3,l 12 11,p (.iC (.i .i64) (.t 10) (.t 12))]
def LC:=some [[],[0],[1],[2],[],[4],[3,5]]
def uV:bu:=(s (r Ow) (s (r Bu) (.cu LC Ox)))
def DE:List bN:=[]
theorem Aw:cB Tryz.prog Tryz.f129 uV:=e (by kernel_rfl)
theorem Ky:cA Tryz.prog Tryz.f129 DE:=e (by kernel_rfl)
theorem Ae:cz Tryz.prog 129:=e (by kernel_rfl)
def Oy:=[b 3 1]
def vV:=[m 4 0,L 5 4 3,o 6 (.call 151 [.t 4,.t 5]),o 7 (.nilC (.t 6)),f 8 3 3 7,l 9 8,o 10 (.call 114 [.t 9])]
def Oz:=[m 11 0,o 12 (.nilC (.t 11)),f 13 2 2 12,l 14 13,f 15 3 3 3,l 16 15,p (.iC (.i .i64) (.t 14) (.t 16))]
def LD:=some [[],[0],[1],[2],[],[4],[3,5]]
def OA:=[m 17 0,o 18 (.nilC (.t 17)),f 19 1 1 18,l 20 19,f 21 1 1 3,l 22 21,p (.eT (.i .i64) (.t 20) (.t 22) T)]
def LF:=some [[],[0],[1],[2],[],[4],[3,5,0,1,2,3,4,5]]
def uW:bu:=(s (r Oy) (s (r vV) (s (.cu LD Oz) (.cu LF OA))))
def DF:List bN:=[]
theorem Ax:cB Tryz.prog Tryz.f130 uW:=e (by kernel_rfl)
theorem Kz:cA Tryz.prog Tryz.f130 DF:=e (by kernel_rfl)
theorem Af:cz Tryz.prog 130:=e (by kernel_rfl)
def OB:=[b 3 1]
def nK:=[m 4 0,L 5 4 3,o 6 (.call 152 [.t 4,.t 5]),m 7 6,cW 8 0 7,bL 9 (.nilC (.t 8)) 7,dA 10 1 1 9 7,di 11 10 7,dA 12 1 1 3 7,di 13 12 7,bL 14 (.lk (.i .i64) (.bool false) false (.t 11) (.t 13)) 7,bL 15 (.un .not (.t 14)) 7,and 16 7 15,m 17 16,cW 18 0 17,dA 19 1 1 3 17,di 20 19 17,bL 21 (.call 72 [.t 18,.t 20]) 17,bL 22 (.un .not (.t 21)) 17,and 23 17 22,o 24 (.call 114 [.t 23])]
def LG:=some [[],[],[0,1],[2,2],[3],[4,3],[5,3],[6,3],[3],[8,3],[7,9,3],[10,3],[3,11],[12,3],[13],[13],[15,13],[14,16,13,13],[17,13],[13,18],[19,17]]
def OC:=[m 25 0,o 26 (.nilC (.t 25)),f 27 4 4 26,l 28 27,f 29 2 2 3,l 30 29,f 31 3 3 3,l 32 31,o 33 (.bld [.int .i64 0,.int .i64 0] [(0,(.t 30)),(1,(.t 32))]),L 34 4 3,p (.eT (.bd [(.i .i64),(.i .i64)]) (.t 28) (.t 33) (.t 34))]
def LH:=some [[],[0],[1],[2],[],[4],[],[6],[5,7],[],[3,8,9,0,1,2,3,4,5,6,7,8,9]]
def OD:=[m 35 0,o 36 (.nilC (.t 35)),f 37 1 1 36,l 38 37,f 39 1 1 3,l 40 39,p (.eT (.i .i64) (.t 38) (.t 40) T)]
def LI:=some [[],[0],[1],[2],[],[4],[3,5,0,1,2,3,4,5]]
def uX:bu:=(s (r OB) (s (.cu LG nK) (s (.cu LH OC) (.cu LI OD))))
def DG:List bN:=[]
theorem Ay:cB Tryz.prog Tryz.f131 uX:=e (by kernel_rfl)
theorem KA:cA Tryz.prog Tryz.f131 DG:=e (by kernel_rfl)
theorem Ag:cz Tryz.prog 131:=e (by kernel_rfl)
def OE:=[b 3 1]
def Bv:=[m 4 0,L 5 4 3,o 6 (.call 152 [.t 4,.t 5]),o 7 (.call 114 [.t 6])]
def OF:=[m 8 0,o 9 (.nilC (.t 8)),f 10 4 4 9,l 11 10,f 12 2 2 3,l 13 12,f 14 3 3 3,l 15 14,o 16 (.bld [.int .i64 0,.int .i64 0] [(0,(.t 13)),(1,(.t 15))]),L 17 4 3,p (.eT (.bd [(.i .i64),(.i .i64)]) (.t 11) (.t 16) (.t 17))]
def LJ:=some [[],[0],[1],[2],[],[4],[],[6],[5,7],[],[3,8,9,0,1,2,3,4,5,6,7,8,9]]
def uY:bu:=(s (r OE) (s (r Bv) (.cu LJ OF)))
def DH:List bN:=[]
theorem Az:cB Tryz.prog Tryz.f132 uY:=e (by kernel_rfl)
theorem KB:cA Tryz.prog Tryz.f132 DH:=e (by kernel_rfl)
theorem Ah:cz Tryz.prog 132:=e (by kernel_rfl)
def OT:=[b 3 1,o 4 (.mv (.c (.nilp)))]
def OU:=[m 8 0,o 9 (.nilC (.t 8)),f 10 2 2 9,l 11 10,f 12 3 3 3,l 13 12,o 14 (.lk (.i .i64) (.nilp) true (.t 11) (.t 13)),m 7 14,o 15 (.ext (.t 7) 0),o 16 (.ext (.t 7) 1),m 5 15,m 6 16]
def LM:=some [[],[0],[1],[2],[],[4],[3,5],[6],[7],[7],[8,0,1,2,3,4,5,6,7,8],[9,10,0,1,2,3,4,5,6,7,8,9,10]]
def nL:=[m 17 6,m 18 17,cW 19 5 18,bL 20 (.nilC (.t 19)) 18,dA 21 1 1 20 18,di 22 21 18,dA 23 2 2 3 18,di 24 23 18,bL 25 (.bin .eql (.t 22) (.t 24)) 18,and 26 18 25,m 27 26,cW 28 5 27,bL 29 (.nilC (.t 28)) 27,dA 30 2 2 29 27,di 31 30 27,dA 32 1 1 3 27,di 33 32 27,bL 34 (.bin .eql (.t 31) (.t 33)) 27,and 35 27 34,o 36 (.call 114 [.t 35])]
def LN:=some [[],[0],[1],[2,1],[3,1],[4,1],[1],[6,1],[5,7,1],[1,8],[9,1],[10],[11,10],[12,10],[13,10],[10],[15,10],[14,16,10],[10,17],[18,10]]
def OV:=[m 37 5,m 4 37]
def uZ:bu:=(s (r OT) (s (.cu LM OU) (s (.cu LN nL) (s (r OV) .ret))))
def DJ:List bN:=[.tmp 4]
theorem AA:cB Tryz.prog Tryz.f151 uZ:=e (by kernel_rfl)
theorem KD:cA Tryz.prog Tryz.f151 DJ:=e (by kernel_rfl)
theorem Ai:cz Tryz.prog 151:=e (by kernel_rfl)
def OW:=[b 3 1,o 4 (.mv bC)]
def OX:=[m 8 0,o 9 (.nilC (.t 8)),f 10 4 4 9,l 11 10,f 12 2 2 3,l 13 12,f 14 3 3 3,l 15 14,o 16 (.bld [.int .i64 0,.int .i64 0] [(0,(.t 13)),(1,(.t 15))]),o 17 (.lk (.bd [(.i .i64),(.i .i64)]) (.agg [.int .i64 0,.int .i64 0,.int .i64 0,.int .i64 0]) true (.t 11) (.t 16)),m 7 17,o 18 (.ext (.t 7) 0),o 19 (.ext (.t 7) 1),o 5 (.alloc (.agg [.int .i64 0,.int .i64 0,.int .i64 0,.int .i64 0])),p (.bd (some 4) (.t 5) (.t 18)),m 6 19]
def LO:=some [[],[0],[1],[2],[],[4],[],[6],[5,7],[3,8],[9],[10],[10],[],[13,11,0,1,2,3,4,5,6,7,8,9,10,11,13],[12,14,0,1,2,3,4,5,6,7,8,9,10,11,12,13,14]]
def OY:=[f 20 2 2 3,l 21 20,m 22 0,o 23 (.nilC (.t 22)),f 24 0 0 23,l 25 24,o 26 (.bin .neq (.t 21) (.t 25)),m 27 26,cW 28 6 27,bL 29 (.un .not (.t 28)) 27,and 30 27 29,m 4 30]
def LP:=some [[],[0],[],[2],[3],[4],[1,5],[6],[7],[8,7],[7,9],[10,7,0,1,2,3,4,5,6,7,8,9,10]]
def zb:bu:=(s (r OW) (s (.cu LO OX) (s (.cu LP OY) .ret)))
def DK:List bN:=[.tmp 4]
theorem Jn:cB Tryz.prog Tryz.f152 zb:=e (by kernel_rfl)
theorem KE:cA Tryz.prog Tryz.f152 DK:=e (by kernel_rfl)
theorem Ii:cz Tryz.prog 152:=e (by kernel_rfl)
end Go.Proofs.YthbdbocionnfgaaGreatDoor
namespace Go.Abs
open Go Go.RowKit
open Enc (enc)
def az(x:I)(p q:Prop):Prop:=match x with
 | .bool t=>(t=true→p)∧(t=false→q)
 |_=>False
theorem ae.jN{c:cV}{A:ai}{Q:Exit→ai→Prop}{b:aO}{x y:bu}(h:az (ak A b) (ae c x Q A) (ae c y Q A)):ae c (.cond b x y) Q A:=by
 generalize hb:ak A b=v at h;unfold az at h;split at h
 ·exact ae.cond hb h.1 h.2
 ·exact h.elim
def oi(r:I):Option (List I)→Prop
 |some xs=>jU xs=r
 |none=>False
theorem Y1(rs:List bN)(r:I)(A:ai):kq rs r .ret A=oi r (fg A rs):=by
 simp only[kq,oi];cases fg A rs <;>simp
theorem Y0(rs:List bN)(r:I)(A:ai):kq rs r .normal A=oi r (fg A rs):=by
 simp only[kq,oi];cases fg A rs <;>simp
def rG(s:Option Nat)(A:ai):Option I→Option I
 |some x=>if cg s x=true then bj true A x else none
 |none=>none
def j8:Option I→Option (List I)→Option (List I)
 |some x,some xs=>some (x::xs)
 |_,_=>none
theorem YU(A:ai):fg A []=some []:=rfl
theorem YV(A:ai)(t:Nat)(rs:List bN):fg A (.tmp t::rs)=j8 (bj true A (A.t t)) (fg A rs):=by
 simp only[fg,tM];cases bj true A (A.t t) <;>cases fg A rs <;>rfl
theorem YT(A:ai)(a:Nat)(s:Option Nat)(rs:List bN):fg A (.cell a s::rs)=j8 (rG s A (gR A (A.t a))) (fg A rs):=by
 simp only[fg,tM,lG];cases gR A (A.t a) with
 |none=>cases fg A rs <;>rfl
 |some x =>
  by_cases h:cg s x=true
  ·simp only[rG,if_pos h];cases bj true A x <;>cases fg A rs <;>rfl
  ·simp only[rG,if_neg h];cases fg A rs <;>rfl
def sK(aL:Bool)(A:ai):Option I→Option I
 |some x=>if x.bA=true then some (.ref x) else (c4 A 9 x).map .ref
 |none=>none
theorem M4(A:ai)(n:Nat)(p:List Nat):bj true A (.ptr n p)=sK true A (ft p (A.o n)):=by
 simp only[bj,lG,gR,if_true,sK];cases ft p (A.o n) <;>rfl
open Classical in
noncomputable def lK(sz lo k:Nat):Option (List I)→Option I
 |some fs=>if I.cq ((fs.drop lo).take k)=true then some (.slice sz ((fs.drop lo).take k)) else none
 |none=>none
theorem vM(A:ai)(n:Nat)(p:List Nat)(sz lo k:Nat):bj true A (.view n p sz lo k)=lK sz lo k (fI (ft p (A.o n))):=by
 simp only[bj,lG,gR,if_true];cases ft p (A.o n) with
 |none=>rfl
 |some c=>cases c <;>simp only[fI,I.dP,lK] <;>(split <;>simp_all)
open Classical in
noncomputable def kd(k:Nat):Option ao→Option I
 |some (.bU _ sz es)=>if k=es.length∧I.cq es=true then some (.slice sz es) else none
 |_=>none
theorem M3(aL:Bool)(A:ai)(n k:Nat):bj aL A (.own n k)=kd k (A.o n):=by
 simp only[bj];cases A.o n with
 |none=>rfl
 |some y=>cases y <;>simp only[kd] <;>(split <;>simp_all)
theorem vL(aL:Bool)(A:ai)(fs:List I):bj aL A (.agg fs)=(b8 aL A fs).map .agg:=by simp only[bj]
theorem MY(aL:Bool)(A:ai)(f:FuncId)(fs:List I):bj aL A (.func f fs)=if f<1000000 then (b8 aL A fs).map (.func f) else some .any:=by simp only[bj]
theorem MZ(aL:Bool)(A:ai)(k:IntKind)(n:Int):bj aL A (.int k n)=some (.int k n):=by simp only[bj]
theorem MX(aL:Bool)(A:ai)(n:Bool):bj aL A (.bool n)=some (.bool n):=by simp only[bj]
theorem M7(aL:Bool)(A:ai)(n:ByteArray):bj aL A (.bQ n)=some (.bQ n):=by simp only[bj]
theorem M2(aL:Bool)(A:ai)(n:Nat):bj aL A (.nils n)=some (.slice n []):=by simp only[bj]
theorem M6(aL:Bool)(A:ai)(n:Nat)(es:List I):bj aL A (.slice n es)=if I.cq es=true then some (.slice n es) else none:=by simp only[bj]
theorem M5(aL:Bool)(A:ai)(x:I):bj aL A (.ref x)=if x.bA=true then some (.ref x) else none:=by simp only[bj]
theorem vO(aL:Bool)(A:ai):b8 aL A []=some []:=by simp only[b8]
theorem vN(aL:Bool)(A:ai)(x:I)(xs:List I):b8 aL A (x::xs)=j8 (bj aL A x) (b8 aL A xs):=by
 simp only[b8];cases bj aL A x <;>cases b8 aL A xs <;>rfl
theorem J8(fs:List I):(I.agg fs).bA=I.cq fs:=by simp only[I.bA]
theorem Kd(n:Nat)(fs:List I):(I.slice n fs).bA=I.cq fs:=by simp only[I.bA]
theorem Kc(x:I):(I.ref x).bA=x.bA:=by simp only[I.bA]
theorem Kb(k:IntKind)(n:Int):(I.int k n).bA=true:=by simp only[I.bA]
theorem J9(n:Bool):(I.bool n).bA=true:=by simp only[I.bA]
theorem Ke(n:ByteArray):(I.bQ n).bA=true:=by simp only[I.bA]
theorem Ka(f:FuncId)(fs:List I):(I.func f fs).bA=I.cq fs:=by simp only[I.bA]
theorem Kg:I.cq []=true:=by simp only[I.cq]
theorem Kf(x:I)(xs:List I):I.cq (x::xs)=(x.bA&&I.cq xs):=by simp only[I.cq]
theorem Hw(k:IntKind)(a b:Int):cH .add (.int k a) (.int k b)=some (.int k (k.wrap (a+b))):=by simp[cH]
theorem HN(k:IntKind)(a b:Int):cH .sub (.int k a) (.int k b)=some (.int k (k.wrap (a-b))):=by simp[cH]
theorem HE(k:IntKind)(a b:Int):cH .mul (.int k a) (.int k b)=some (.int k (k.wrap (a*b))):=by simp[cH]
theorem HJ(k:IntKind)(a b:Int):cH .quo (.int k a) (.int k b)=if b=0 then none else some (.int k (k.wrap (a.tdiv b))):=by simp[cH]
theorem HK(k:IntKind)(a b:Int):cH .rem (.int k a) (.int k b)=if b=0 then none else some (.int k (a.tmod b)):=by simp[cH]
theorem Hx(k:IntKind)(a b:Int):cH .and (.int k a) (.int k b)=some (.int k (k.wrap ((BitVec.ofInt k.bits a &&& BitVec.ofInt k.bits b).toNat:Int))):=by simp[cH]
theorem HI(k:IntKind)(a b:Int):cH .or (.int k a) (.int k b)=some (.int k (k.wrap ((BitVec.ofInt k.bits a ||| BitVec.ofInt k.bits b).toNat:Int))):=by simp[cH]
theorem HO(k:IntKind)(a b:Int):cH .xor (.int k a) (.int k b)=some (.int k (k.wrap ((BitVec.ofInt k.bits a ^^^ BitVec.ofInt k.bits b).toNat:Int))):=by simp[cH]
theorem Hy(k:IntKind)(a b:Int):cH .andNot (.int k a) (.int k b)=some (.int k (k.wrap ((BitVec.ofInt k.bits a &&& ~~~ BitVec.ofInt k.bits b).toNat:Int))):=by simp[cH]
theorem HL(k k':IntKind)(a b:Int):cH .shl (.int k a) (.int k' b)=if 0≤b then some (.int k (k.wrap (a*2^(min b.toNat k.bits)))) else none:=by simp[cH]
theorem HM(k k':IntKind)(a b:Int):cH .shr (.int k a) (.int k' b)=if 0≤b then some (.int k (a.fdiv (2^(min b.toNat k.bits)))) else none:=by simp[cH]
theorem Hz(k:IntKind)(a b:Int):cH .eql (.int k a) (.int k b)=some (.bool (a==b)):=by simp[cH]
theorem HF(k:IntKind)(a b:Int):cH .neq (.int k a) (.int k b)=some (.bool (a != b)):=by simp[cH]
theorem HD(k:IntKind)(a b:Int):cH .lss (.int k a) (.int k b)=some (.bool (decide (a<b))):=by simp[cH]
theorem HC(k:IntKind)(a b:Int):cH .leq (.int k a) (.int k b)=some (.bool (decide (a≤b))):=by simp[cH]
theorem HB(k:IntKind)(a b:Int):cH .gtr (.int k a) (.int k b)=some (.bool (decide (b<a))):=by simp[cH]
theorem HA(k:IntKind)(a b:Int):cH .geq (.int k a) (.int k b)=some (.bool (decide (b≤a))):=by simp[cH]
theorem yx :
  (∀ ts os d v,(av ts os).put d v=av ((d,v)::ts) os)∧(∀ ts os d v,(av ts os).aS (some d) v=av ((d,v)::ts) os)∧(∀ (A:ai) v,A.aS none v=A) ∧
  (∀ ts os d x,(av ts os).aT d x=av ts ((d,x)::os))∧(∀ ts os k,(av ts os).t k=bY ts k)∧(∀ ts os k,(av ts os).o k=aj os k) ∧
  (∀ j v r k,bY ((j,v)::r) k=if k=j then v else bY r k)∧(∀ j v r k,aj ((j,v)::r) k=if k=j then some v else aj r k)∧(∀ k,aj [] k=none) ∧
  (∀ A k,ak A (.t k)=A.t k)∧(∀ A x,ak A (.c x)=x)∧(∀ d rest A v,dh d rest A v=aB rest (A.aS d v))∧(∀ v k,cS (some v) k=k v)∧(∀ A,aB [] A=.done A) :=
 ⟨th,CD,Xa,qW,Xb,W9,bZ,cY,qS,MB,MA,WC,HP,G9⟩
theorem C3 :
  (∀ d rest A op,aB (⟨d,op,none⟩::rest) A=bK A d op rest)∧(∀ d rest A op t b,aB (⟨d,op,some (t,b)⟩::rest) A=gT (A.t t) b d op rest A) ∧
  (∀ d rest A op,gT (.bool true) true d op rest A=bK A d op rest)∧(∀ d rest A op,gT (.bool false) false d op rest A=bK A d op rest) ∧
  (∀ d rest A op,gT (.bool true) false d op rest A=aB rest (A.aS d .undef))∧(∀ d rest A op,gT (.bool false) true d op rest A=aB rest (A.aS d .undef))∧(∀ d rest A op b,gT .undef b d op rest A=aB rest (A.aS d .undef)) ∧
  (∀ d rest A x,bK A d (.mv x) rest=aB rest (A.aS d (ak A x)))∧(∀ d rest A c a b,bK A d (.pick c a b) rest=rn A d a b rest (ak A c)) ∧
  (∀ A d a b rest,rn A d a b rest (.bool true)=aB rest (A.aS d (ak A a)))∧(∀ A d a b rest,rn A d a b rest (.bool false)=aB rest (A.aS d (ak A b))) ∧
  (∀ d rest A op x y,bK A d (.bin op x y) rest=cS (cH op (ak A x) (ak A y)) (dh d rest A)) ∧
  (∀ d rest A ty neg x y,bK A d (.eqv ty neg x y) rest=cS ((ca ty (ak A x) (ak A y)).map fun b=>.bool (if neg then !b else b)) (dh d rest A)) ∧
  (∀ d rest A op x,bK A d (.un op x) rest=cS (rW op (ak A x)) (dh d rest A))∧(∀ b,rW .not (.bool b)=some (.bool !b))∧(∀ k n,rW .neg (.int k n)=some (.int k (k.wrap (0-n))))∧(∀ k n,rW .xor (.int k n)=some (.int k (oV k n))) ∧
  (∀ d rest A k x,bK A d (.conv k x) rest=cS (vg k (ak A x)) (dh d rest A))∧(∀ k k' n,vg k (.int k' n)=some (.int k (k.wrap n))) ∧
  (∀ d rest A s x,bK A d (.ld s x) rest=cS (nZ s (gR A (ak A x))) (dh d rest A))∧(∀ d rest A f off x,bK A d (.fa f off x) rest=cS (jb A f off (ak A x)) (dh d rest A)) ∧
  (∀ d rest A f off s x,bK A d (.fl f off s x) rest=cS (ke f off s (ak A x).dP) (dh d rest A))∧(∀ d rest A n esz x i,bK A d (.ia n esz x i) rest=cS (qD A n esz (ak A x) (ak A i)) (dh d rest A)) ∧
  (∀ d rest A esz x i,bK A d (.is esz x i) rest=cS (qG A esz (ak A x) (ak A i)) (dh d rest A))∧(∀ d rest A n esz s x i,bK A d (.ix n esz s x i) rest=cS (qJ n esz s (ak A x) (ak A i)) (dh d rest A)) ∧
  (∀ d rest A x,bK A d (.len x) rest=cS (jt A (ak A x)) (dh d rest A))∧(∀ d rest A n esz x,bK A d (.va n esz x) rest=cS (oD A n esz (ak A x)) (dh d rest A)) ∧
  (∀ d rest A zs ps,bK A d (.bld zs ps) rest=cS ((dQ zs (ps.map fun p=>(p.1,ak A p.2))).map .agg) (dh d rest A))∧(∀ d rest A x i,bK A d (.ext x i) rest=cS (vA i (ak A x)) (dh d rest A))∧(∀ i fs,vA i (.tuple fs)=fs[i]?) ∧
  (∀ d rest A f caps,bK A d (.mk f caps) rest=cS (if ((caps.map (ak A)).all fun y=>y.bT)=true then some (.func f (caps.map (ak A))) else none) (dh d rest A)) ∧
  (∀ rest A d z,bK A (some d) (.alloc z) rest=uI A d z rest (A.o d))∧(∀ A d z rest,uI A d z rest none=aB rest ((A.aT d (.box z)).put d (.ptr d []))) ∧
  (∀ rest A d x,bK A (some d) (.box x) rest=sx A d (ak A x) rest (A.o d))∧(∀ A d z rest,sx A d z rest none=sy A d z rest z.bT)∧(∀ A d z rest,sy A d z rest true=aB rest ((A.aT d (.box z)).put d (.ptr d []))) ∧
  (∀ rest A s x v,bK A none (.bd s x v) rest=c8 A s (ak A v) rest (ak A x))∧(∀ A s v rest n p,c8 A s v rest (.ptr n p)=tX A s n p v rest (A.o n))∧(∀ A s n p v rest b,tX A s n p v rest (some (.box b))=de A s n p b v rest (b.at p)) ∧
  (∀ d rest A f args,bK A d (.call f args) rest=.call f (args.map (ak A)) (b8 true A (args.map (ak A))) (b8 false A (args.map (ak A))) d rest A) ∧
  (∀ d rest A x args,bK A d (.fH x args) rest=qe A d (args.map (ak A)) rest (ak A x))∧(∀ A d args rest f caps,qe A d args rest (.func f caps)=if f<1000000 then .call f (args++caps) (b8 true A (args++caps)) (b8 false A (args++caps)) d rest A else .call (kS f) (caps++args) (b8 true A (caps++args)) (b8 false A (caps++args)) d rest A) :=
 ⟨GV,GW,VJ,VG,VI,VH,VK,XO,XS,fun _ _ _ _ _=>rfl,fun _ _ _ _ _=>rfl,Xp,Xy,XX,fun _=>rfl,fun _ _=>rfl,fun _ _=>rfl,Xw,fun _ _ _=>rfl,XF,XA,XB,XC,XD,XE,XG,XY,Xq,Xz,fun _ _=>rfl,XK,
  Xn,fun _ _ _ _=>rfl,Xr,fun _ _ _ _=>rfl,fun _ _ _ _=>rfl,XW,fun _ _ _ _ _ _=>rfl,fun _ _ _ _ _ _ _=>rfl,Xt,Xu,fun A d args rest f caps=>by
   simp only[qe];split
   ·rename_i h;rw[vD h,vC h]
   ·rename_i h;simp only[h4,if_neg h]⟩
theorem dG{A:ai}{s:Option Nat}{n:Nat}{p:List Nat}{b v old:I}{rest:List aH}(J:v.bT=true)(U:cg s v=true)(ah:v.aX=old.aX):de A s n p b v rest (some old)=aB rest (A.aT n (.box (b.ev p v))):=by
 simp only[de];rw[if_pos ⟨J,U,ah⟩]
theorem FF :
  (∀ A x,gR A (.ref x)=some x)∧(∀ A n p,gR A (.ptr n p)=ft p (A.o n))∧(∀ p c,ft p (some (.box c))=c.at p)∧(∀ c:I,c.at []=some c)∧(∀ (c:I) i p,c.at (i::p)=mB i p c.dP) ∧
  (∀ i p fs,mB i p (some fs)=oM p fs[i]?)∧(∀ p f,oM p (some f)=f.at p)∧(∀ c v:I,c.ev [] v=v)∧(∀ (c:I) i p v,c.ev (i::p) v=tS c i p v c.dP)∧(∀ c i p v fs,tS c i p v (some fs)=xJ fs i p v fs[i]?) ∧
  (∀ fs i p v f,xJ fs i p v (some f)=.agg (fs.set i (f.ev p v)))∧(∀ fs,(I.agg fs).dP=some fs)∧(∀ x:I,fI (some x)=x.dP) ∧
  (∀ s x,nZ s (some x)=if cg s x=true then some x else none) ∧
  (∀ A f off c,jb A f off (.ref c)=qo f off c.dP)∧(∀ A f off n p,jb A f off (.ptr n p)=qn n p f off (fI (ft p (A.o n))))∧(∀ f off fs,qo f off (some fs)=o5 fs f off fs[f]?)∧(∀ fs f off v,o5 fs f off (some v)=du fs f off (.ref v)) ∧
  (∀ n p f off fs,qn n p f off (some fs)=du fs f off (.ptr n (p++[f])))∧(∀ A n esz x kk k,qD A n esz x (.int kk k)=nM A n esz k x)∧(∀ A n esz k c,nM A n esz k (.ref c)=lQ k n (sX n esz k c.dP)) ∧
  (∀ A n esz k m p,nM A n esz k (.ptr m p)=lQ k n (qE n esz m p k (fI (ft p (A.o m)))))∧(∀ n esz k fs,sX n esz k (some fs)=lP n esz fs ((fs[k.toNat]?).map .ref))∧(∀ n esz m p k fs,qE n esz m p k (some fs)=lP n esz fs (some (.ptr m (p++[k.toNat])))) ∧
  (∀ A esz x kk k,qG A esz x (.int kk k)=js A esz k x)∧(∀ n esz s x kk k,qJ n esz s x (.int kk k)=s7 n esz s k x.dP)∧(∀ n esz s k fs,s7 n esz s k (some fs)=lQ k n (lP n esz fs (nZ s fs[k.toNat]?))) ∧
  (∀ A n esz m p,oD A n esz (.ptr m p)=rZ n esz m p (fI (ft p (A.o m))))∧(∀ n esz m p fs,rZ n esz m p (some fs)=rY n esz fs (.view m p esz 0 n)) ∧
  (∀ A sz es,jt A (.slice sz es)=some (.int .i64 es.length))∧(∀ A n,jt A (.nils n)=some (.int .i64 0))∧(∀ A n,jt A (.c0 n)=some (.int .i64 0)) :=
 ⟨fun _ _=>rfl,fun _ _ _=>rfl,fun _ _=>rfl,yG,Ho,fun _ _ _=>rfl,fun _ _=>rfl,ot,Zf,fun _ _ _ _ _=>rfl,fun _ _ _ _ _=>rfl,fun _=>rfl,fun _=>rfl,fun _ _=>rfl,fun _ _ _ _=>rfl,fun _ _ _ _ _=>rfl,fun _ _ _=>rfl,fun _ _ _ _=>rfl,
  fun _ _ _ _ _=>rfl,fun _ _ _ _ _ _=>rfl,fun _ _ _ _ _=>rfl,fun _ _ _ _ _ _=>rfl,fun _ _ _ _=>rfl,fun _ _ _ _ _ _=>rfl,fun _ _ _ _ _=>rfl,fun _ _ _ _ _ _=>rfl,fun _ _ _ _ _=>rfl,fun _ _ _ _ _=>rfl,fun _ _ _ _ _=>rfl,fun _ _ _=>rfl,fun _ _=>rfl,fun _ _=>rfl⟩
theorem Bd :
  (∀ A n p,bj true A (.ptr n p)=sK true A (ft p (A.o n)))∧(∀ A x,sK true A (some x)=if x.bA=true then some (.ref x) else (c4 A 9 x).map .ref)∧(∀ A n p sz lo k,bj true A (.view n p sz lo k)=lK sz lo k (fI (ft p (A.o n)))) ∧
  (∀ A n p,bj false A (.ptr n p)=none)∧(∀ A n p sz lo k,bj false A (.view n p sz lo k)=none)∧(∀ x,j8 none x=none)∧(∀ x,j8 x none=none) ∧
  (∀ aL A n k,bj aL A (.own n k)=kd k (A.o n))∧(∀ aL A fs,bj aL A (.agg fs)=(b8 aL A fs).map .agg)∧(∀ aL A f fs,bj aL A (.func f fs)=if f<1000000 then (b8 aL A fs).map (.func f) else some .any)∧(∀ aL A k n,bj aL A (.int k n)=some (.int k n))∧(∀ aL A b,bj aL A (.bool b)=some (.bool b)) ∧
  (∀ aL A s,bj aL A (.bQ s)=some (.bQ s))∧(∀ aL A n,bj aL A (.nils n)=some (.slice n []))∧(∀ aL A n es,bj aL A (.slice n es)=if I.cq es=true then some (.slice n es) else none)∧(∀ aL A x,bj aL A (.ref x)=if x.bA=true then some (.ref x) else none) ∧
  (∀ aL A,b8 aL A []=some [])∧(∀ aL A x xs,b8 aL A (x::xs)=j8 (bj aL A x) (b8 aL A xs))∧(∀ x xs,j8 (some x) (some xs)=some (x::xs)) ∧
  (∀ fs,(I.agg fs).bA=I.cq fs)∧(∀ n fs,(I.slice n fs).bA=I.cq fs)∧(∀ x,(I.ref x).bA=x.bA)∧(∀ k n,(I.int k n).bA=true)∧(∀ n,(I.bool n).bA=true)∧(∀ n,(I.bQ n).bA=true)∧(∀ f fs,(I.func f fs).bA=I.cq fs) ∧
  I.cq []=true∧(∀ x xs,I.cq (x::xs)=(x.bA&&I.cq xs)) ∧
  (∀ rs r A,kq rs r .ret A=oi r (fg A rs))∧(∀ rs r A,kq rs r .normal A=oi r (fg A rs))∧(∀ r xs,oi r (some xs)=(jU xs=r))∧(∀ A,fg A []=some [])∧(∀ A t rs,fg A (.tmp t::rs)=j8 (bj true A (A.t t)) (fg A rs)) ∧
  (∀ A a s rs,fg A (.cell a s::rs)=j8 (rG s A (gR A (A.t a))) (fg A rs))∧(∀ s A x,rG s A (some x)=if cg s x=true then bj true A x else none)∧(∀ x,jU [x]=x)∧(∀ x y xs,jU (x::y::xs)=.tuple (x::y::xs)) :=
 ⟨M4,fun _ _=>rfl,vM,fun _ _ _=>rfl,fun _ _ _ _ _ _=>rfl,fun _=>rfl,fun x=>by cases x <;>rfl,M3,vL,MY,MZ,MX,M7,M2,M6,M5,vO,vN,fun _ _=>rfl,J8,Kd,Kc,Kb,J9,Ke,Ka,Kg,Kf,
  Y1,Y0,fun _ _=>rfl,YU,YV,YT,fun _ _ _=>rfl,fun _=>rfl,fun _ _ _=>rfl⟩
theorem yM :
  (∀ k a b,cH .add (.int k a) (.int k b)=some (.int k (k.wrap (a+b))))∧(∀ k a b,cH .sub (.int k a) (.int k b)=some (.int k (k.wrap (a-b))))∧(∀ k a b,cH .mul (.int k a) (.int k b)=some (.int k (k.wrap (a*b)))) ∧
  (∀ k a b,cH .quo (.int k a) (.int k b)=if b=0 then none else some (.int k (k.wrap (a.tdiv b))))∧(∀ k a b,cH .rem (.int k a) (.int k b)=if b=0 then none else some (.int k (a.tmod b))) ∧
  (∀ k a b,cH .and (.int k a) (.int k b)=some (.int k (k.wrap ((BitVec.ofInt k.bits a &&& BitVec.ofInt k.bits b).toNat:Int))))∧(∀ k a b,cH .or (.int k a) (.int k b)=some (.int k (k.wrap ((BitVec.ofInt k.bits a ||| BitVec.ofInt k.bits b).toNat:Int)))) ∧
  (∀ k a b,cH .xor (.int k a) (.int k b)=some (.int k (k.wrap ((BitVec.ofInt k.bits a ^^^ BitVec.ofInt k.bits b).toNat:Int))))∧(∀ k a b,cH .andNot (.int k a) (.int k b)=some (.int k (k.wrap ((BitVec.ofInt k.bits a &&& ~~~ BitVec.ofInt k.bits b).toNat:Int)))) ∧
  (∀ k k' a b,cH .shl (.int k a) (.int k' b)=if 0≤b then some (.int k (k.wrap (a*2^(min b.toNat k.bits)))) else none)∧(∀ k k' a b,cH .shr (.int k a) (.int k' b)=if 0≤b then some (.int k (a.fdiv (2^(min b.toNat k.bits)))) else none) ∧
  (∀ k a b,cH .eql (.int k a) (.int k b)=some (.bool (a==b)))∧(∀ k a b,cH .neq (.int k a) (.int k b)=some (.bool (a != b)))∧(∀ k a b,cH .lss (.int k a) (.int k b)=some (.bool (decide (a<b))))∧(∀ k a b,cH .leq (.int k a) (.int k b)=some (.bool (decide (a≤b)))) ∧
  (∀ k a b,cH .gtr (.int k a) (.int k b)=some (.bool (decide (b<a))))∧(∀ k a b,cH .geq (.int k a) (.int k b)=some (.bool (decide (b≤a)))) :=
 ⟨Hw,HN,HE,HJ,HK,Hx,HI,HO,Hy,HL,HM,Hz,HF,HD,HC,HB,HA⟩
end Go.Abs
namespace Go.Abs
open Go Go.RowKit
open Enc (enc)
section
variable {α:Type} [Enc α]
theorem WM(A:ai)(l:List α):jt A (enc l)=some (.int .i64 l.length):=by simp[hE,jt]
theorem Wo{A:ai}(esz:Nat){k:Int}{l:List α}(h:0≤k∧k.toNat<l.length)(ab:Enc.sz α=esz):js A esz k (enc l)=some (.ref (enc l[k.toNat])):=by
 simp only[hE,js,ab,Z8,true_and];rw[if_pos ⟨h.1,by omega⟩];simp[h.2]
theorem eb{A:ai}(esz:Nat){k:Nat}{l:List α}(h:k<l.length)(ab:Enc.sz α=esz):js A esz k (enc l)=some (.ref (enc l[k])):=by
 have:=Wo (A:=A) esz (k:=(k:Int)) (l:=l) ⟨by omega,by simpa using h⟩ ab;simpa using this
end
mutual
/-- What every value in memory keeps to: whole numbers within their kind,slices no longer than a slice can be. -/
def I.wf:I→Prop
 | .agg fs=>I.gi fs
 | .int k n=>k.min≤n∧n≤k.max
 | .bQ s=>s.size≤maxLen
 | .slice _ es=>es.length≤maxLen∧I.gi es
 | .ref c=>c.wf
 | .func _ caps=>I.gi caps
 | .iface _ v=>v.wf
 |_=>True
def I.gi:List I→Prop
 | []=>True
 |x::xs=>x.wf∧I.gi xs
end
mutual
theorem tG{w:World}{D:aP}{E:aY} : ∀ (x:I) (cs:List Value),al w D E x cs→x.wf
 | .agg fs,cs,h=>by simp only[al,I.wf] at *;exact xm fs cs h
 | .int k n,cs,h=>by simp only[al,I.wf] at *;exact h.2
 | .bQ s,cs,h=>by simp only[al,I.wf] at *;exact h.2
 | .slice sz es,cs,h=>by
  simp only[al,I.wf] at *;obtain ⟨a,cap,_,J,U,ah,_⟩:=h;refine ⟨by omega,?_⟩;rcases ah with rfl | ⟨b,off,cs',_,_,ar⟩
  ·simp[I.gi]
  ·exact xm es cs' ar
 | .ref c,cs,h=>by simp only[al,I.wf] at *;obtain ⟨b,off,cs',_,_,h⟩:=h;exact tG c cs' h
 | .func f caps,cs,h=>by simp only[al,I.wf] at *;obtain ⟨vs,_,h⟩:=h;exact pR caps vs h
 | .iface t v,cs,h=>by simp only[al,I.wf] at *;obtain ⟨u,cs',_,_,h⟩:=h;exact tG v cs' h
 | .bool _,_,_ | .nilp,_,_ | .dB,_,_ | .dX,_,_ | .any,_,_ | .raw _,_,_ | .nils _,_,_ | .c0 _,_,_ | .ptr _ _,_,_ | .own _ _,_,_ | .view _ _ _ _ _,_,_ | .mref _,_,_ | .dq _,_,_ | .dj _ _,_,_ | .undef,_,_ | .dw,_,_ | .tuple _,_,_=>by simp[I.wf]
theorem xm{w:World}{D:aP}{E:aY} : ∀ (xs:List I) (cs:List Value),aN w D E xs cs→I.gi xs
 | [],_,_=>by simp[I.gi]
 |x::xs,cs,h=>by
  simp only[aN,I.gi] at *;obtain ⟨c1,c2,_,J,U⟩:=h;exact ⟨tG x c1 J,xm xs c2 U⟩
theorem pR{w:World}{D:aP}{E:aY} : ∀ (xs:List I) (vs:List Value),aI w D E xs vs→I.gi xs
 | [],_,_=>by simp[I.gi]
 |x::xs,vs,h=>by
  simp only[aI,I.gi] at *;obtain ⟨v,rest,cs,_,_,J,U⟩:=h;exact ⟨tG x cs J,pR xs rest U⟩
end
theorem ZQ{α:Type}[Enc α](l:List α):I.gi (l.map enc)↔∀ x∈l,(enc x:I).wf:=by
 induction l with
 |nil=>simp[I.gi]
 |cons x l ih=>simp[I.gi,ih]
theorem lv{α:Type}[Enc α](l:List α):(enc l:I).wf↔l.length≤maxLen∧∀ x∈l,(enc x:I).wf:=by
 simp only[hE,I.wf,Z8,ZQ]
theorem a8.wf{P:Program}{f:FuncId}{args:List I}{r:I}(hc:e8 P f=true)(h:I.gi args→a8 P f args r):a8 P f args r :=
 ⟨hc,fun w D vs aq J U=>(h (pR _ _ U)).2 w D vs aq J U⟩
theorem a8.cd{P:Program}{f:FuncId}{fn:Func}{x:bu}{rs:List bN}{args:List I}{r:I}(hf:P.funcs[f]?=some fn)(hcall:e8 P f=true)(hc:(fn.body.bind (eA P fn.ntmps))=some x)
  (hrs:gQ P fn.results.toList=some rs) (hn:args.length≤fn.ntmps) (h:I.gi args→∀ (w:World) (D:aP) (E:aY),ae ⟨P,w,D,fn.ntmps,cL E,E,dx,none,none⟩ x (kq rs r) (av (bJ 0 args) [])):a8 P f args r :=
 a8.wf hcall fun hw=>a8.mk hf hcall hc hrs hn (h hw)
theorem kA{α:Type}[Enc α] :
  (∀ A (l:List α),jt A (enc l)=some (.int .i64 l.length))∧(∀ n (x:xY n α),(enc x).dP=some (x.l.map enc)) :=
 ⟨WM,fun _ _=>rfl⟩
end Go.Abs
namespace Go.Abs
open Go Go.RowKit
open Enc (enc)
def pz(neg:Bool):I→Option I
 | .nils _=>some (.bool (!neg))
 | .slice _ es=>if es.isEmpty then none else some (.bool neg)
 | .view _ _ _ _ _=>some (.bool neg)
 |_=>none
def Cl:I→Option I
 | .bQ s=>some (.int .i64 s.size)
 |_=>none
open Classical in
noncomputable def mn(n:Nat)(p:List Nat)(sz l0 k esz:Nat)(lo hi mx:Option I):Option (List I)→Option I
 |some fs=>if sz=esz then nh n p sz l0 k fs.length lo hi mx else none
 |none=>none
noncomputable def jZ(A:ai)(esz:Nat)(lo hi mx:Option I):I→Option I
 | .slice sz es=>if sz=esz then iP sz es lo hi mx else none
 | .nils sz=>if sz=esz then iP sz [] lo hi mx else none
 | .c0 sz=>if sz=esz then iP sz [] lo hi mx else none
 | .view n p sz l0 k=>mn n p sz l0 k esz lo hi mx (fI (ft p (A.o n)))
 |_=>none
open Classical in
noncomputable def e7(esz:Nat):Option (List I)→Option I
 |some es=>if (es.all fun e=>e.size==esz)=true∧I.cq es=true then some (.slice esz es) else none
 |none=>none
open Classical in
noncomputable def p9(A:ai)(d:Option Nat)(e esz bytes n l T sz':Nat)(es:List I)(rest:List aH):I→cO
 | .slice sz ys=>if wY e esz bytes l sz ys T sz' es then aB rest ((A.aT n (.bU e esz (es++ys))).aS d (.own n (es.length+ys.length))) else .fail
 |_=>.fail
open Classical in
noncomputable def oL(A:ai)(d:Option Nat)(e esz bytes:Nat)(z:I)(n l T:Nat)(xs:List Int)(rest:List aH):I→cO
 | .slice _ ys=>if wZ e esz bytes l ys T xs z then aB rest ((A.aT n (.dK e (xs++qF ys))).aS d (.own n (xs.length+ys.length))) else .fail
 |_=>.fail
noncomputable def p8(A:ai)(d:Option Nat)(e esz bytes:Nat)(z:I)(n l:Nat)(x:I)(rest:List aH):Option ao→cO
 |some (.bU T sz' es)=>p9 A d e esz bytes n l T sz' es rest x
 |some (.dK T xs)=>oL A d e esz bytes z n l T xs rest x
 |_=>.fail
noncomputable def fN(A:ai)(d:Option Nat)(e esz bytes:Nat)(z x:I)(rest:List aH):I→cO
 | .own n l=>p8 A d e esz bytes z n l x rest (A.o n)
 |s=>e6 A d esz bytes z s (eJ A esz s) (eJ A esz x) (aB rest)
section
variable (d:Option Nat) (rest:List aH) (A:ai)
noncomputable def pA(neg:Bool)(x:I):Bool→cO
 |true=>.any (fun m=>m<2) (fun m=>aB rest (A.aS d (.bool (m==0))))
 |false=>cS (pz neg x) (dh d rest A)
theorem XQ(neg:Bool)(x:aO):bK A d (.nilS neg x) rest=pA d rest A neg (ak A x) (jD (ak A x)):=by
 simp only[bK,bl,bo];cases jD (ak A x)
 ·simp only[Z2,if_false,pA,pz];cases ak A x <;>rfl
 ·rfl
theorem XH(x:aO):bK A d (.lenT x) rest=cS (Cl (ak A x)) (dh d rest A):=by
 simp only[bK,bl,bo];cases ak A x <;>rfl
theorem XV(esz:Nat)(x:aO)(lo hi mx:Option aO):bK A d (.sl esz x lo hi mx) rest=cS (jZ A esz (lo.map (ak A)) (hi.map (ak A)) (mx.map (ak A)) (ak A x)) (dh d rest A):=by
 simp only[bK,bl,bo];cases ak A x <;>try rfl
 rename_i n p sz l0 k;simp only[jZ,lG,gR];cases ft p (A.o n) with
 |none=>rfl
 |some c=>cases c <;>simp only[fI,I.dP,mn] <;>(first | rfl | (split <;>rfl))
theorem Xs(T esz:Nat)(ps:List aO):bK A d (.bs T esz ps) rest=cS (e7 esz (b8 false A (ps.map (ak A)))) (dh d rest A):=by
 simp only[bK,bl,bo];cases b8 false A (ps.map (ak A)) <;>simp only[e7] <;>rfl
theorem Xo(e esz bytes:Nat)(z:I)(s x:aO):bK A d (.dn e esz bytes z s x) rest=fN A d e esz bytes z (ak A x) rest (ak A s):=by
 simp only[bK,bl];generalize ak A s=s';generalize ak A x=x';cases s' <;>simp only[fN]
 rename_i n l;cases x' <;>simp only <;>generalize A.o n=z <;>(cases z with
  |none=>rfl
  |some y=>cases y <;>simp only[p8,p9,oL])
end
theorem C4 :
  (∀ d rest A neg x,bK A d (.nilS neg x) rest=pA d rest A neg (ak A x) (jD (ak A x)))∧(∀ d rest A neg x,pA d rest A neg x false=cS (pz neg x) (dh d rest A))∧(∀ z,jD (.nils z)=false)∧(∀ n p sz lo k,jD (.view n p sz lo k)=false)∧(∀ d rest A x,bK A d (.lenT x) rest=cS (Cl (ak A x)) (dh d rest A)) ∧
  (∀ d rest A esz x lo hi mx,bK A d (.sl esz x lo hi mx) rest=cS (jZ A esz (lo.map (ak A)) (hi.map (ak A)) (mx.map (ak A)) (ak A x)) (dh d rest A)) ∧
  (∀ d rest A T esz ps,bK A d (.bs T esz ps) rest=cS (e7 esz (b8 false A (ps.map (ak A)))) (dh d rest A))∧(∀ d rest A e esz bytes z s x,bK A d (.dn e esz bytes z s x) rest=fN A d e esz bytes z (ak A x) rest (ak A s)) ∧
  (∀ A d e esz bytes z x rest n l,fN A d e esz bytes z x rest (.own n l)=p8 A d e esz bytes z n l x rest (A.o n))∧(∀ A d e esz bytes z n l x rest T sz es,p8 A d e esz bytes z n l x rest (some (.bU T sz es))=p9 A d e esz bytes n l T sz es rest x)∧(∀ A d e esz bytes z n l x rest T xs,p8 A d e esz bytes z n l x rest (some (.dK T xs))=oL A d e esz bytes z n l T xs rest x) ∧
  (∀ neg z,pz neg (.nils z)=some (.bool (!neg))) :=
 ⟨XQ,fun _ _ _ _ _=>rfl,fun _=>rfl,fun _ _ _ _ _=>rfl,XH,XV,Xs,Xo,fun _ _ _ _ _ _ _ _ _ _=>rfl,fun _ _ _ _ _ _ _ _ _ _ _ _ _=>rfl,fun _ _ _ _ _ _ _ _ _ _ _ _=>rfl,fun _ _=>rfl⟩
theorem mR(p:Nat→Bool)(xs ys:List I):I.cv p (xs++ys)=(I.cv p xs&&I.cv p ys):=by
 induction xs with
 |nil=>simp[I.cv]
 |cons x xs ih=>simp[I.cv,ih,Bool.and_assoc]
section
variable {α:Type} [Enc α]
theorem mA{A:ai}{d:Option Nat}(e:Nat)(esz bytes n:Nat){l:Nat}{es ys:List α}{rest:List aH}(aq:l=es.length)(ab:Enc.sz α=esz)(hy:ys≠[])(J:es.length+ys.length≤maxLen)(U:(es.length+ys.length)*bytes≤140737488355328) :
  p9 A d e esz bytes n l e esz (es.map enc) rest (enc ys)=aB rest ((A.aT n (.bU e esz ((es++ys).map enc))).aS d (.own n (es++ys).length)):=by
 simp only[hE,p9];rw[if_pos ⟨by simpa using aq,ab,rfl,rfl,by simpa using hy,by simpa using J,by simpa using U⟩];simp
theorem qd(esz:Nat){ys:List α}(ab:Enc.sz α=esz):e7 esz (some (ys.map enc))=some (enc ys):=by
 have J:((ys.map enc).all fun e:I=>e.size==esz)=true:=by
  simp only[zz6,zy1];rintro x ⟨y,_,rfl⟩;simp[Enc.size,ab]
 simp only[e7,hE];rw[if_pos ⟨J,iy ys⟩,ab]
theorem h3(esz:Nat)(y:α)(ab:Enc.sz α=esz):e7 esz (some [enc y])=some (enc [y]):=qd (ys:=[y]) esz ab
theorem o6(sz:Nat){T k:Nat}{es:List α}(hk:k=es.length)(ab:Enc.sz α=sz):kd k (some (.bU T sz (es.map enc)))=some (enc es):=by
 simp only[kd,Z8];rw[if_pos ⟨hk,iy es⟩,hE,ab]
theorem eE(p:Nat→Bool)(l:List α):I.cv p (l.map enc)=true:=by
 induction l with
 |nil=>rfl
 |cons x l ih=>simp only[Z3,I.cv,b7,ih,Bool.and_self]
theorem WN(A:ai)(n k T sz:Nat)(es:List α)(ho:A.o n=some (.bU T sz (es.map enc)))(hk:k=es.length):jt A (.own n k)=some (.int .i64 es.length):=by
 simp only[jt,ho,Z8,hk,if_true]
end
theorem B4 :
  (∀ n:Int,e7 1 (some [.int .i64 n])=some (enc [n]))∧(∀ (T:Nat) (es:List Int),kd es.length (some (.bU T 1 (es.map enc)))=some (enc es)) :=
 ⟨fun n=>h3 1 n rfl,fun _ _=>o6 1 rfl rfl⟩
theorem bm.GY{A:ai}{d n T sz z:Nat}(af:A.t d=.nils z)(hn:A.o n=none)(hlt:n<1000000):bm A ((A.aT n (.bU T sz [])).put d (.own n 0)):=by
 rintro c a w ⟨D,E,h⟩;have aA:E n=none:=by have:=h.bP n;rw[hn] at this;exact this
 have aq:dW w D E w D (fun m=>if m=n then some (.rw none 0) else E m):=by
  have eM:∀ {m:Nat} {e:bM},E m=some e→(if m=n then some (.rw none 0) else E m)=some e:=fun {m e} he=>by
   have:m≠n:=fun e=>by rw[e,aA] at he;cases he
   rw[if_neg this];exact he
  refine ⟨fun _ _ h=>h,fun _ _ _ _ h=>h,fun m b aX he=>eM he,fun m aJ l he =>?_,fun m b he=>eM he,fun m b he=>eM he,fun _ _ _ _ h=>h⟩
  ·have:m≠n:=fun e=>by rw[e,aA] at he;cases he
   exact ⟨aJ,l,by simp only[if_neg this];exact he,Z4 _,fun _=>rfl⟩
 refine ⟨D,fun m=>if m=n then some (.rw none 0) else E m,h.sz,h.eB,fun t =>?_,h.dO,h.c9,h.aQ,fun m =>?_,fun m m' e e' b J U ah ar =>?_,fun m e hm =>?_,h.eP,h.cT,h.eW,h.fC⟩
 ·simp only[ai.put,ai.aT];by_cases ht:t=d
  ·subst ht;simp only[if_true];have hv:=h.dR t;rw[af] at hv;obtain ⟨cs,q1,q2⟩:=hv;simp only[al] at q2;subst q2;refine ⟨[.slice none 0 0],by simpa[bD,I.isAgg] using q1,?_⟩;simp only[al,if_true];exact ⟨none,0,rfl,Z4 _,⟨_,_,_,rfl⟩,fun _=>trivial⟩
  ·simp only[if_neg ht];exact aZ.later aq (h.dR t)
 ·simp only[ai.put,ai.aT];by_cases hm:m=n
  ·subst hm;simp only[if_true,c6];exact ⟨none,by simp,by simp,trivial⟩
  ·simp only[if_neg hm];exact (h.bP m).later aq (by simp only[if_neg hm]) fun _ _ _ _=>⟨rfl,fun _ ho=>ho⟩
 ·by_cases hm:m=n <;>by_cases hm':m'=n
  ·rw[hm,hm']
  ·simp only[if_pos hm,v6] at J;subst J;simp[bM.aJ] at ah
  ·simp only[if_pos hm',v6] at U;subst U;simp[bM.aJ] at ar
  ·simp only[if_neg hm] at J;simp only[if_neg hm'] at U;exact h.cQ m m' e e' b J U ah ar
 ·have hmn:m≠n:=fun e=>by rw[e,h.kg (.inr hlt)] at hm;cases hm
  simp only[if_neg hmn];exact h.dS m e hm
theorem bm.nx{ts:List (Nat×I)}{os:List (Nat×ao)}(d n T sz z:Nat)(af:bY ts d=.nils z)(hn:aj os n=none){B:ai}(h:bm (av ((d,.own n 0)::ts) ((n,.bU T sz [])::os)) B)(hlt:n<1000000:=by decide):bm (av ts os) B :=
 ((bm.GY (A:=av ts os) (T:=T) (sz:=sz) af hn hlt).trans (by rw[qW,th];exact bm.refl _)).trans h
theorem CS:(∀ k n,cg none (.int k n)=true)∧(∀ b,cg none (.bool b)=true)∧(∀ z es,cg none (.slice z es)=true)∧(∀ f es,cg none (.func f es)=true)∧(∀ z,cg none (.nils z)=true)∧(∀ n k,cg none (.own n k)=true) :=
 ⟨fun _ _=>rfl,fun _=>rfl,fun _ _=>rfl,fun _ _=>rfl,fun _=>rfl,fun _ _=>rfl⟩
theorem bG:(type_of% @yx)∧(type_of% @C3)∧(type_of% @C4)∧(type_of% @B4)∧(type_of% @CS)∧(type_of% @FF)∧(type_of% @Bd)∧(type_of% @yM)∧(∀ n:Int,(enc n:I)=.int .i64 n)∧(∀ n:Bool,(enc n:I)=.bool n) ∧
  (∀ {α β:Type} (f:α→β) (x:α) (xs:List α),List.map f (x::xs)=f x::List.map f xs)∧(∀ {α β:Type} (f:α→β),List.map f []=[])∧(∀ {α:Type} (xs:List α),[]++xs=xs)∧(∀ n:Nat,(n:Int).toNat=n)∧(∀ {α β:Type} (f:α→β) (x:α),Option.map f (some x)=some (f x)) ∧
  (∀ n:Nat,0≤(n:Int))∧((!true)=false)∧((!false)=true)∧((false=true)=False)∧((true=false)=False) :=
 ⟨@yx,@C3,@C4,@B4,@CS,@FF,@Bd,@yM,eC,Ms,fun _ _ _=>rfl,fun _=>rfl,fun _=>rfl,fun _=>rfl,fun _ _=>rfl,fun n=>Int.natCast_nonneg n,rfl,rfl,by simp,by simp⟩
end Go.Abs
namespace Go.Abs
open Go Go.RowKit
open Enc (enc)
theorem kC.cd{P:Program}{f:FuncId}{fn:Func}{x:bu}{rs:List bN}{Y:Value→List I→List (Nat×ao)→cK→Prop}{args:List I}{os:List (Nat×ao)}{post:cK}(hf:P.funcs[f]?=some fn)(hcall:e8 P f=true)(hc:(fn.body.bind (eA P fn.ntmps))=some x)
  (hrs:gQ P fn.results.toList=some rs) (hn:args.length≤fn.ntmps) (hn2:fn.ntmps≤1000000) (hos:∀ m,aw os m=true→1000000≤m) (h:I.gi args→∀ (w:World) (D:aP) (E:aY),ae ⟨P,w,D,fn.ntmps,cL E,E,Y,none,none⟩ x (og rs post) (av (bJ 0 args) os)):kC P f Y args os post:=by
 obtain ⟨body,hb,hc'⟩:=zx9.1 hc;refine ⟨hcall,fun w D E vs hy hD ho hv =>?_⟩;exact (kC.tq hf hb hcall hc' hrs hn (fun m hm=>⟨zw3 hn2 (hos m hm),hos m hm⟩) (fun w D E=>(h (pR _ _ hv) w D E).sub (ua args os))).2 w D E vs hy hD ho hv
theorem cU.cd{P:Program}{f:FuncId}{fn:Func}{x:bu}{rs:List bN}{args:List I}{os:List (Nat×ao)}{post:cK}(hf:P.funcs[f]?=some fn)(hcall:e8 P f=true)(hc:(fn.body.bind (eA P fn.ntmps))=some x)
  (hrs:gQ P fn.results.toList=some rs) (hn:args.length≤fn.ntmps) (hn2:fn.ntmps≤1000000) (hos:∀ m,aw os m=true→1000000≤m) (h:I.gi args→∀ (w:World) (D:aP) (E:aY),ae ⟨P,w,D,fn.ntmps,cL E,E,dx,none,none⟩ x (og rs post) (av (bJ 0 args) os)):cU P f args os post :=
 cU.CM (kC.cd hf hcall hc hrs hn hn2 hos h)
theorem BZ{A:ai} : ∀ n x,aj [] n=some x→A.o n=some x∧x.only (aw [])=true∧x.eg=true:=fun n x h=>by simp[aj] at h
theorem Wi{A:ai}{k:Nat}{c:I}(J:A.o k=some (.box c))(U:∀ p,c.only p=true):∀ n x,aj [(k,.box c)] n=some x→A.o n=some x∧x.only (aw [(k,.box c)])=true∧x.eg=true:=fun n x h=>by
 simp only[aj] at h;split at h
 ·rename_i hn;subst hn;simp only[v6] at h;subst h;exact ⟨J,U _,rfl⟩
 ·cases h
theorem mJ{k:Nat}{x:ao}{m:Nat} : aw [(k,x)] m=true↔m=k:=by
 simp only[aw,aj];split <;>simp_all
mutual
theorem rC(ρ:Nat→Nat):∀ x:I,x.bA=true→x.bn ρ=x
 | .agg fs,h=>by simp only[I.bn,I.bA] at *;rw[mZ ρ fs h]
 | .slice _ es,h=>by simp only[I.bn,I.bA] at *;rw[mZ ρ es h]
 | .ref x,h=>by simp only[I.bn,I.bA] at *;rw[rC ρ x h]
 | .func _ caps,h=>by simp only[I.bn,I.bA] at *;rw[mZ ρ caps h]
 | .iface _ v,h=>by simp only[I.bn,I.bA] at *;rw[rC ρ v h]
 | .bool _,_ | .int _ _,_ | .bQ _,_ | .nilp,_ | .dB,_ | .dX,_ | .any,_ | .raw _,_ | .nils _,_ | .c0 _,_=>by simp only[I.bn]
 | .dj ks vs,h=>by simp only[I.bn,I.bA,t8] at *;rw[mZ ρ ks h.1,mZ ρ vs h.2]
 | .ptr _ _,h | .own _ _,h | .view _ _ _ _ _,h | .mref _,h | .dq _,h | .undef,h | .dw,h | .tuple _,h=>by simp[I.bA] at h
theorem mZ(ρ:Nat→Nat):∀ xs:List I,I.cq xs=true→I.dU ρ xs=xs
 | [],_=>rfl
 |x::xs,h=>by
  simp only[I.cq,t8] at h;simp only[I.dU,rC ρ x h.1,mZ ρ xs h.2]
end
section
variable {α:Type} [Enc α]
theorem kR(ρ:Nat→Nat)(x:α):(enc x).bn ρ=enc x:=rC ρ _ (ka x)
theorem tL(ρ:Nat→Nat)(l:List α):I.dU ρ (l.map enc)=l.map enc:=mZ ρ _ (iy l)
theorem nk(A:ai)(esz:Nat)(l:List α)(ab:Enc.sz α=esz):eJ A esz (enc l)=some (l.map enc):=by
 simp only[hE,eJ,ab,if_true]
theorem ue(l:List α):jD (enc l)=l.isEmpty:=by
 simp only[hE,jD];cases l <;>rfl
theorem CK(neg:Bool)(l:List α)(h:l≠[]):pz neg (enc l)=some (.bool neg):=by
 simp only[hE,pz];cases l with
 |nil=>exact absurd rfl h
 |cons=>rfl
section
variable {P:Program} {Y:Value→List I→List (Nat×ao)→cK→Prop} {K:ai→Prop} {A:ai} {rest:List aH} {d:Nat} {e esz bytes:Nat} {q:Nat}
theorem aR.uJ(z:α){l:List α}(ab:Enc.sz α=esz)(aq:l≠[])(hf:A.o d=none)(hb:l.length*bytes≤140737488355328)(hml:l.length≤maxLen)
  (h:∀ m,aR P Y false K (aB rest ((A.aT d (.box (.agg ((l++List.replicate m z).map enc)))).aS (some d) (.view d [] esz 0 l.length)))):aR P Y false K (fN A (some d) e esz bytes (enc z) (enc l) rest (.c0 q)):=by
 have hne:l.map (enc (α:=α))≠[]:=by simpa using aq
 have J:eJ A esz (.c0 q)=some []:=rfl;simp only[fN,J,nk A esz l ab,e6,if_neg hne,fW,hf,List.length_nil,Z1,Z8,if_pos (y6 hb hml),zy8];refine .any rfl fun m _ =>?_;have:=h m;simp only[zz3,List.map_replicate] at this;exact this
theorem Hj(z:I)(ab:Enc.sz α=esz):fN A (some d) e esz bytes z (enc ([]:List α)) rest (.c0 q)=aB rest (A.aS (some d) (.c0 q)):=by
 have J:eJ A esz (.c0 q)=some []:=rfl;simp only[fN,J,nk A esz ([]:List α) ab,e6,zx0,if_true]
theorem Xv(esz:Nat)(z:I)(x:aO)(rest:List aH)(A:ai):bK A none (.jJ esz z x) rest=oU A esz z (aB rest) (ak A x):=rfl
theorem ZZ{n:Nat}{p:List Nat}{sz k total i:Nat}(h:i≤total)(aW:0<total):nh n p sz 0 k total none (some (.int .i64 i)) none=some (.view n p sz 0 i):=by
 simp only[nh,jk];rw[if_pos ⟨by omega,by omega,by omega⟩,if_neg (by omega)];simp
theorem Wt{m:Nat}{p:List Nat}{sz lo l j:Nat}{fs:List I}(h:j<l):mK m p sz lo l sz (j:Int) (some fs)=some (.ptr m (p++[lo+j])):=by
 simp only[mK,true_and];rw[if_pos ⟨by omega,by omega⟩];simp
theorem vK{sz k:Nat}{xs:List α}(ab:Enc.sz α=sz):lK sz 0 k (some (xs.map enc))=some (enc (xs.take k)):=by
 have h:((xs.map (enc (α:=α))).drop 0).take k=(xs.take k).map enc:=by rw[List.drop_zero,List.map_take]
 simp only[lK,h];rw[if_pos (iy _),hE,ab]
end
end
theorem Wp(A:ai)(esz m:Nat)(p:List Nat)(sz lo l:Nat)(k:Int):js A esz k (.view m p sz lo l)=mK m p sz lo l esz k (fI (ft p (A.o m))):=rfl
theorem WO(A:ai)(m:Nat)(p:List Nat)(sz lo l:Nat):jt A (.view m p sz lo l)=some (.int .i64 l):=rfl
theorem Zl(A:ai)(esz:Nat)(lo hi mx:Option I)(n:Nat)(p:List Nat)(l0 k:Nat):jZ A esz lo hi mx (.view n p esz l0 k)=mn n p esz l0 k esz lo hi mx (fI (ft p (A.o n))):=rfl
theorem Zm(n:Nat)(p:List Nat)(sz l0 k:Nat)(lo hi mx:Option I)(fs:List I):mn n p sz l0 k sz lo hi mx (some fs)=nh n p sz l0 k fs.length lo hi mx:=by simp[mn]
theorem kB :
  (∀ A esz m p sz lo l k,js A esz k (.view m p sz lo l)=mK m p sz lo l esz k (fI (ft p (A.o m))))∧(∀ A m p sz lo l,jt A (.view m p sz lo l)=some (.int .i64 l)) ∧
  (∀ A esz lo hi mx n p l0 k,jZ A esz lo hi mx (.view n p esz l0 k)=mn n p esz l0 k esz lo hi mx (fI (ft p (A.o n))))∧(∀ n p sz l0 k lo hi mx fs,mn n p sz l0 k sz lo hi mx (some fs)=nh n p sz l0 k fs.length lo hi mx) ∧
  (∀ esz z x rest A,bK A none (.jJ esz z x) rest=oU A esz z (aB rest) (ak A x))∧(∀ rest A d esz,bK A d (.bs0 esz) rest=aB rest (A.aS d (.c0 esz))) :=
 ⟨Wp,WO,Zl,Zm,Xv,fun _ _ _ _=>rfl⟩
theorem oh(rs:List bN)(post:cK)(A:ai):og rs post .ret A=iX rs post A:=rfl
theorem bm.jL{ts:List (Nat×I)}{os0:List (Nat×ao)}(ns:List Nat)(d:Nat){x y:I}(af:bY ts d=x)(h:bj true (av ts (mM ns os0)) x=some y)(ho:cn (fun n => !ns.contains n) (eK ns os0)) :
  bm (av ts os0) (av ((d,y)::lJ ns ts) (eK ns os0)):=by
 rintro c a w ⟨D,E,ab⟩;obtain ⟨D1,E1,hs1,hw⟩:=ab.Bo ns ho;have hu:ep (av ts (mM ns os0)) (av ts os0):=fun n z hz=>by
  simp only[av,pt] at hz ⊢;split at hz
  ·exact hz
  ·cases hz
 have hx:x.bT=true:=by cases x <;>first | rfl | simp[bj] at h
 have hv:=ab.dR d;simp only[av] at hv;rw[af] at hv;have J:aI w D E [x] [a.tmps.getD d undef]:=lh [x] _ (.cons hv .nil) (by intro z hz;simp only[zy4] at hz;subst hz;exact hx);have U:=lL (E':=E1) ab hu hw [x] [y] _ J (by simp only[b8,h]);have ah:aZ w D1 E1 y (a.tmps.getD d undef):=by
  simp only[aI] at U;obtain ⟨v',rest,cs,e,k1,k2,_⟩:=U;simp only[zw2] at e;obtain ⟨e1,_⟩:=e;rw[e1];exact ju k1 k2
 refine ⟨D1,E1,hs1.sz,hs1.eB,fun t =>?_,hs1.dO,hs1.c9,hs1.aQ,hs1.bP,hs1.cQ,hs1.dS,hs1.eP,hs1.cT,hs1.eW,hs1.fC⟩;simp only[av,bY];split
 ·rename_i ht;subst ht;exact ah
 ·exact hs1.dR t
theorem YC{w:World}{D:aP}{E:aY}{p:List Nat}{c x y:I}{cs:List Value}(hr:al w D E c cs)(h:c.at p=some x)(hxy:∀ ds,al w D E x ds→al w D E y ds)(ab:y.aX=x.aX):al w D E (c.ev p y) cs∧(c.ev p y).aX=c.aX:=by
 obtain ⟨off,c1,c2,c3,J,rfl,U,ah⟩:=xl p c x cs hr h;obtain ⟨off',k1,k2,k3,k4⟩:=tF p c x y _ c2 hr h (hxy c2 ah) ab;rw[J,v6] at k1;subst k1;refine ⟨?_,k4⟩;have e:(c1++c2++c3).take off++c2++(c1++c2++c3).drop (off+c2.length)=c1++c2++c3:=by
  rw[zz1 c1 c2 c3,←U,List.take_left,List.drop_length_add_append,List.drop_left,zz1]
 rw[←e];exact k3
theorem bm.GZ{A:ai}{m n T sz z:Nat}{p:List Nat}{b:I}(hm:A.o m=some (.box b))(hp:b.at p=some (.nils z))(hn:A.o n=none)(hlt:n<1000000):bm A ((A.aT n (.bU T sz [])).aT m (.box (b.ev p (.own n 0)))):=by
 rintro c a w ⟨D,E,h⟩;have aA:E n=none:=by have:=h.bP n;rw[hn] at this;exact this
 have hmn:m≠n:=fun e=>by rw[e,hn] at hm;cases hm
 have aq:dW w D E w D (fun m=>if m=n then some (.rw none 0) else E m):=by
  have eM:∀ {m:Nat} {e:bM},E m=some e→(if m=n then some (.rw none 0) else E m)=some e:=fun {m e} he=>by
   have:m≠n:=fun e=>by rw[e,aA] at he;cases he
   rw[if_neg this];exact he
  refine ⟨fun _ _ h=>h,fun _ _ _ _ h=>h,fun m b aX he=>eM he,fun m aJ l he =>?_,fun m b he=>eM he,fun m b he=>eM he,fun _ _ _ _ h=>h⟩
  ·have:m≠n:=fun e=>by rw[e,aA] at he;cases he
   exact ⟨aJ,l,by simp only[if_neg this];exact he,Z4 _,fun _=>rfl⟩
 refine ⟨D,fun m=>if m=n then some (.rw none 0) else E m,h.sz,h.eB,fun t=>aZ.later aq (h.dR t),h.dO,h.c9,h.aQ,fun k =>?_,fun m m' e e' b J U ah ar =>?_,fun m e hm =>?_,h.eP,h.cT,h.eW,h.fC⟩
 ·simp only[ai.aT];by_cases hk:k=m
  ·subst hk;have ho:=h.bP k;rw[hm] at ho;obtain ⟨b',cs,T',J,U,ah,ar,h5⟩:=ho;obtain ⟨q1,q2⟩:=YC (y:=.own n 0) (al.later aq _ _ ar) hp (fun ds af=>by
    simp only[al] at af;subst af;simp only[al,if_true];exact ⟨none,0,rfl,Z4 _,⟨_,_,_,rfl⟩,fun _=>trivial⟩) rfl
   simp only[if_true,c6];exact ⟨b',cs,T',by rw[q2];simp only[if_neg hmn];exact J,U,ah,q1,h5⟩
  ·simp only[if_neg hk];by_cases hkn:k=n
   ·subst hkn;simp only[if_true,c6];exact ⟨none,by simp,by simp,trivial⟩
   ·simp only[if_neg hkn];exact (h.bP k).later aq (by simp only[if_neg hkn]) fun _ _ _ _=>⟨rfl,fun _ ho=>ho⟩
 ·by_cases hm:m=n <;>by_cases hm':m'=n
  ·rw[hm,hm']
  ·simp only[if_pos hm,v6] at J;subst J;simp[bM.aJ] at ah
  ·simp only[if_pos hm',v6] at U;subst U;simp[bM.aJ] at ar
  ·simp only[if_neg hm] at J;simp only[if_neg hm'] at U;exact h.cQ m m' e e' b J U ah ar
 ·have hmn:m≠n:=fun e=>by rw[e,h.kg (.inr hlt)] at hm;cases hm
  simp only[if_neg hmn];exact h.dS m e hm
theorem bm.G0{ts:List (Nat×I)}{os:List (Nat×ao)}(m n T sz z:Nat)(p:List Nat)(b:I)(hm:aj os m=some (.box b))(hp:b.at p=some (.nils z))(hn:aj os n=none){B:ai}(h:bm (av ts ((m,.box (b.ev p (.own n 0)))::(n,.bU T sz [])::os)) B)(hlt:n<1000000:=by decide):bm (av ts os) B :=
 ((bm.GZ (A:=av ts os) (T:=T) (sz:=sz) hm hp hn hlt).trans (by rw[qW,qW];exact bm.refl _)).trans h
mutual
theorem iI{p q:Nat→Bool}(h:∀ n,p n=true→q n=true):∀ x:I,x.only p=true→x.only q=true
 | .agg fs,hx | .tuple fs,hx=>by simp only[I.only] at *;exact ig h fs hx
 | .slice _ es,hx=>by simp only[I.only] at *;exact ig h es hx
 | .ref x,hx=>by simp only[I.only] at *;exact iI h x hx
 | .func _ caps,hx=>by simp only[I.only] at *;exact ig h caps hx
 | .iface _ v,hx=>by simp only[I.only] at *;exact iI h v hx
 | .ptr _ _,hx | .own _ _,hx | .view _ _ _ _ _,hx | .mref _,hx | .dq _,hx=>by simp only[I.only] at *;exact h _ hx
 | .dj ks vs,hx=>by simp only[I.only,t8] at *;exact ⟨ig h ks hx.1,ig h vs hx.2⟩
 | .bool _,_ | .int _ _,_ | .bQ _,_ | .nilp,_ | .dB,_ | .dX,_ | .any,_ | .raw _,_ | .nils _,_ | .c0 _,_ | .undef,_ | .dw,_=>by simp[I.only]
theorem ig{p q:Nat→Bool}(h:∀ n,p n=true→q n=true):∀ xs:List I,I.cv p xs=true→I.cv q xs=true
 | [],_=>rfl
 |x::xs,hx=>by
  simp only[I.cv,t8] at *;exact ⟨iI h x hx.1,ig h xs hx.2⟩
end
theorem ao.iI{p q:Nat→Bool}(h:∀ n,p n=true→q n=true)(x:ao)(hx:x.only p=true):x.only q=true:=by
 cases x with
 |box y=>simp only[ao.only] at *;exact Abs.iI h y hx
 |bU T sz es=>simp only[ao.only] at *;exact ig h es hx
 |dJ o=>rfl
 |dK T xs=>rfl
 |bz ks vs=>simp only[ao.only,t8] at *;exact ⟨ig h ks hx.1,ig h vs hx.2⟩
 |it ks vs left cur=>simp only[ao.only,t8] at *;exact ⟨ig h ks hx.1,ig h vs hx.2⟩
theorem B7{x:I}(h:x.bA=true):x.bT=true:=by
 cases x <;>first | rfl | simp[I.bA] at h
theorem sr{aL:Bool}{A0:ai}{ρ:List (Nat×Nat)}{os:List (Nat×ao)} : ∀ xs:List I,I.cq xs=true→gP aL A0 ρ os xs xs
 | [],_=>trivial
 |x::xs,h=>by
  simp only[I.cq,t8] at h;exact ⟨.inl ⟨(rC _ x h.1).symm,jS _ x h.1,B7 h.1⟩,sr xs h.2⟩
structure eX (os os':List (Nat×ao)):Prop where
 same:∀ m,aw os' m=aw os m
 ok:∀ m x,aj os' m=some x→x.only (aw os')=true∧x.eg=true
 lO:∀ m,aw os m=true→1000000≤m
def ym(P:Program)(g:FuncId)(caps:List I)(N:Nat)(item:Nat→List I):Prop :=
 ∀ (Y:Value→List I→List (Nat×ao)→cK→Prop) (v:Value) (bf:Nat→List (Nat×ao)→Prop) (Ix:List (Nat×ao)→Prop) (os:List (Nat×ao)),v.oneCell'=true →
  (∀ k os' post,k<N→bf k os'→(∀ r os2,(r=.bool true∧bf (k+1) os2)∨(r=.bool false∧Ix os2)→post r os2)→Y v (item k) os' post) →
  (∀ k os',bf k os'→eX os os')→(∀ os',Ix os'→eX os os')→bf 0 os→kC P g Y (.raw v::caps) os (fun r os'=>r=.tuple []∧(bf N os'∨Ix os'))
def en(o:Obj)(os:List (Nat×ao)):List (Nat×ao):=(1999999,.dJ o)::os
theorem kU(o:Obj)(os:List (Nat×ao))(m:Nat):aw (en o os) m=(decide (m=1999999)||aw os m):=by
 simp only[en,aw,aj];by_cases h:m=1999999 <;>simp[h]
theorem pw(o:Obj)(os:List (Nat×ao))(m:Nat):aj (en o os) m=if m=1999999 then some (.dJ o) else aj os m:=rfl
theorem eX.en{os os':List (Nat×ao)}(h:eX os os')(o o':Obj):eX (en o os) (en o' os'):=by
 refine ⟨fun m=>by rw[kU,kU,h.same],fun m x hx =>?_,fun m hm =>?_⟩
 ·rw[pw] at hx;split at hx
  ·cases hx;exact ⟨rfl,rfl⟩
  ·obtain ⟨J,U⟩:=h.ok m x hx;exact ⟨x.iI (fun n hn=>by rw[kU,hn];simp) J,U⟩
 ·rw[kU] at hm;simp only[Bool.or_eq_true,decide_eq_true_eq] at hm;rcases hm with rfl | hm
  ·decide
  ·exact h.lO m hm
def tD:List Nat→List I→List (Nat×I)→List (Nat×I)
 |p::ps,v::vs,ts=>tD ps vs ((p,v)::ts)
 |_,_,ts=>ts
def ni(ρ:List (Nat×Nat))(p:Nat→Bool)(ts:List (Nat×I)):List (Nat×I)→Prop
 | []=>True
 |(k,v)::r=>bY ts k=v.bn (bI ρ)∧v.only p=true∧ni ρ p ts r
theorem Fl{ρ:List (Nat×Nat)}{p:Nat→Bool}{ts:List (Nat×I)} : ∀ {tsR:List (Nat×I)},ni ρ p ts tsR→∀ k,bY tsR k=.dw∨(bY ts k=(bY tsR k).bn (bI ρ)∧(bY tsR k).only p=true)
 | [],_,k=>.inl rfl
 |(j,v)::r,h,k=>by
  simp only[ni] at h;simp only[bY];split
  ·rename_i hk;subst hk;exact .inr ⟨h.1,h.2.1⟩
  ·exact Fl h.2.2 k
section
variable {c:cV} {a:Act} {w:World} {D:aP} {E:aY}
theorem aU.xK{A:ai}(h:aU c A a w D E){n b:Nat}{o o':Obj}(hn:A.o n=some (.dJ o))(aA:E n=some (.op b))(ho:ph o'=true):aU c (A.aT n (.dJ o')) a (w.putObj b o') D E:=by
 have hob:=h.bP n;rw[hn] at hob;obtain ⟨b',k1,k2,k3,k4,k5⟩:=hob;rw[aA] at k1;cases k1;have hnc:o.isCells=false:=by cases o <;>first | rfl | cases k4
 have hlt:b<w.heap.size:=fJ k3;have aq:dW w D E (w.putObj b o') D E:=⟨fun _ _ h=>h,fun b1 o1 v _ hv=>vc k3 hnc hv,fun _ _ _ h=>h,fun _ aJ l h=>⟨aJ,l,h,Z4 _,fun _=>rfl⟩,fun _ _ h=>h,fun _ _ h=>h,fun b1 es ck af hm=>(World.putObj_heap_other (fun e1=>k5 0 (by rw[←e1];exact af))).trans hm⟩
 refine ⟨h.sz,h.eB.mono fun B _ hB=>(World.putObj_heap_other (fun e=>by rw[e,k3] at hB;cases hB;cases k4)).trans hB,fun t=>aZ.later aq (h.dR t),h.dO.trans ⟨rfl,rfl,rfl,by simp,fun k hk=>World.putObj_heap_other (fun e=>hk (e▸k2))⟩,h.c9,
  fun b1 o1 af=>by have:=h.aQ b1 o1 af;simpa using this,fun m =>?_,h.cQ,h.dS,h.eP,h.cT,h.eW,h.kz aq⟩
 simp only[ai.aT];by_cases hm:m=n
 ·subst hm;simp only[if_true,c6];exact ⟨b,aA,k2,World.putObj_heap_same hlt,ho,k5⟩
 ·simp only[if_neg hm];exact (h.bP m).later aq rfl fun e b1 he hb=>⟨World.putObj_heap_other (fun e1=>hm (h.cQ m n e _ b1 he aA hb (by rw[e1];rfl))),fun _ ho=>ho⟩
theorem aU.Mr{A:ai}(h:aU c A a w D E){n b:Nat}(aA:E n=some (.op b)):aU c ⟨A.t,fun m=>if m=n then none else A.o m⟩ a w D (fun m=>if m=n then none else E m):=by
 have hne:∀ {m:Nat} {e:bM},E m=some e→(∀ b,e≠.op b)→m≠n:=fun he U e'=>by
  subst e';rw[aA] at he;cases he;exact U _ rfl
 have aq:dW w D E w D (fun m=>if m=n then none else E m):=by
  refine ⟨fun _ _ h=>h,fun _ _ _ _ h=>h,fun m b aX he =>?_,fun m aJ l he=>⟨aJ,l,?_,Z4 _,fun _=>rfl⟩,fun m b he =>?_,fun m b he =>?_,fun _ _ _ _ h=>h⟩
  ·simp only[if_neg (hne he (fun b=>by simp))];exact he
  ·simp only[if_neg (hne he (fun b=>by simp))];exact he
  ·simp only[if_neg (hne he (fun b=>by simp))];exact he
  ·simp only[if_neg (hne he (fun b=>by simp))];exact he
 refine ⟨h.sz,h.eB,fun t=>aZ.later aq (h.dR t),h.dO,h.c9,h.aQ,fun m =>?_,fun m m' e e' b J U ah ar =>?_,fun m e hm =>?_,h.eP,h.cT,h.eW,h.fC⟩
 ·by_cases hm:m=n
  ·simp only[hm,if_true,c6]
  ·simp only[if_neg hm];exact (h.bP m).later aq (by simp only[if_neg hm]) fun _ _ _ _=>⟨rfl,fun _ ho=>ho⟩
 ·split at J
  ·cases J
  ·split at U
   ·cases U
   ·exact h.cQ m m' e e' b J U ah ar
 ·by_cases hmn:m=n
  ·left;simp only[hmn,if_true]
  ·simp only[if_neg hmn];exact h.dS m e hm
theorem aU.enter{ts:List (Nat×I)}{os0:List (Nat×ao)}(h:aU c (av ts os0) a w D E)(hbase:c.fq=none)(hfree:aj os0 999999=none)(hE0:c.dk 999999=none){o:Obj}(ho:ph o=true) :
  ∃ E1,aU c (av ts ((999999,.dJ o)::os0)) { a with defers := { target:=.collected w.heap.size,args := #[] } :: a.defers } ((w.alloc (.deferred (some []))).alloc o) D E1∧E1 999999=some (.op (w.heap.size+1))∧∀ xs vs,aI w D E xs vs→aI ((w.alloc (.deferred (some []))).alloc o) D E1 xs vs:=by
 have hb:Below w.heap.size w ((w.alloc (.deferred (some []))).alloc o):=((Below.refl _ w).alloc (Z4 _) _).alloc (by simp) _;have J:=h.grow (D':=D) hb (fun _ _ h=>h) (fun _ _ h _=>h) (fun b o' af=>by have:=h.aQ b o' af;simp;omega);obtain ⟨W,hW⟩:∃ W,W=(w.alloc (.deferred (some []))).alloc o:=⟨_,rfl⟩
 have hL:W.heap[w.heap.size+1]?=some o:=by
  rw[hW];have:=World.alloc_heap_new (w.alloc (.deferred (some []))) o;rwa [World.size_alloc] at this
 have hK:W.heap[w.heap.size]?=some (.deferred (some [])):=by
  rw[hW];exact (Below.heap_alloc _ _ _ (by simp)).trans (World.alloc_heap_new w _)
 rw[←hW] at J hb ⊢;have hEn:E 999999=none:=by have:=h.bP 999999;simp only[av,hfree] at this;exact this
 have aq:dW W D E W D (fun m=>if m=999999 then some (.op (w.heap.size+1)) else E m):=by
  refine ⟨fun _ _ h=>h,fun _ _ _ _ h=>h,fun m b aX he =>?_,fun m aJ l he=>⟨aJ,l,?_,Z4 _,fun _=>rfl⟩,fun m b he =>?_,fun m b he =>?_,fun _ _ _ _ h=>h⟩
  all_goals
   have:m≠999999:=fun e=>by rw[e,hEn] at he;cases he
   simp only[if_neg this];exact he
 have hsz:c.fV.heap.size≤w.heap.size:=h.dO.size;have nb:∀ {m:Nat} {e:bM} {b:Nat},E m=some e→e.aJ=some b→b<w.heap.size:=fun he hb'=>h.fX he hb';refine ⟨fun m=>if m=999999 then some (.op (w.heap.size+1)) else E m,⟨J.sz,?_,fun t=>aZ.later aq (J.dR t),J.dO,J.c9,J.aQ,fun m =>?_,fun m m' e e' b g1 g2 g3 g4 =>?_,fun m e hm =>?_,J.eP,J.cT,J.eW,J.fC⟩,by simp,fun xs vs hx=>aI.later aq xs vs (aI.later (dW.grow hb fun _ _ h=>h) xs vs hx)⟩
 ·have hdf:=J.eB;rw[hbase] at hdf ⊢;obtain ⟨Bs,k1,k2,k3⟩:=hdf;refine ⟨w.heap.size::Bs,by simp only[Z3];rw[←k1],List.nodup_cons.2 ⟨fun hin =>?_,k2⟩,fun B hB =>?_⟩
  ·have hdf':=h.eB;rw[hbase] at hdf';obtain ⟨Bs',j1,_,j3⟩:=hdf';have e1:Bs=Bs':=by
    have:Bs.map (fun B=>({ target:=.collected B,args := #[] } : Deferred))=Bs'.map (fun B => { target:=.collected B,args := #[] }):=by rw[←k1,←j1]
    exact (List.map_inj_right (fun x y hxy=>by simpa using hxy)).1 this
   rw[e1] at hin;have:=fJ (j3 _ hin).2;omega
  ·rcases zw5.1 hB with rfl | hB
   ·exact ⟨hsz,hK⟩
   ·exact k3 B hB
 ·simp only[av,aj];by_cases hm:m=999999
  ·subst hm;simp only[if_true,c6];exact ⟨_,rfl,.inl (by omega),hL,ho,fun o' af=>by have:=h.aQ _ o' af;omega⟩
  ·simp only[if_neg hm];exact (J.bP m).later aq (by simp only[if_neg hm]) fun _ _ _ _=>⟨rfl,fun _ ho=>ho⟩
 ·by_cases hm:m=999999 <;>by_cases hm':m'=999999
  ·rw[hm,hm']
  ·simp only[if_pos hm,v6] at g1;simp only[if_neg hm'] at g2;subst g1;simp only[bM.aJ,v6] at g3;have:=nb g2 g4;omega
  ·simp only[if_neg hm] at g1;simp only[if_pos hm',v6] at g2;subst g2;simp only[bM.aJ,v6] at g4;have:=nb g1 g3;omega
  ·simp only[if_neg hm] at g1;simp only[if_neg hm'] at g2;exact h.cQ m m' e e' b g1 g2 g3 g4
 ·have hmn:m≠999999:=fun e=>by rw[e,hE0] at hm;cases hm
  simp only[if_neg hmn];exact h.dS m e hm
theorem c6.ib{M M':Nat→Prop}{n:Nat}{x:Option ao}(h:c6 M w D E n x)(hM:∀ e b,E n=some e→e.aJ=some b→M' b):c6 M' w D E n x:=by
 unfold c6 at *;split
 ·exact h
 ·obtain ⟨b,cs,T,J,_,ah⟩:=h;exact ⟨b,cs,T,J,hM _ b J rfl,ah⟩
 ·obtain ⟨aJ,J,U,ah⟩:=h;refine ⟨aJ,J,U,?_⟩;split
  ·exact ah
  ·obtain ⟨cs,pre,rest,_,ar⟩:=ah;exact ⟨cs,pre,rest,hM _ _ J rfl,ar⟩
 ·obtain ⟨b,J,_,ah⟩:=h;exact ⟨b,J,hM _ b J rfl,ah⟩
 ·obtain ⟨b,es,ck,J,_,ah⟩:=h;exact ⟨b,es,ck,J,hM _ b J rfl,ah⟩
 ·obtain ⟨r,b,es,ck,si,se,la,J,_,ah⟩:=h;exact ⟨r,b,es,ck,si,se,la,J,hM _ r J rfl,ah⟩
 ·obtain ⟨aJ,J,U,ah⟩:=h;refine ⟨aJ,J,U,?_⟩;split
  ·exact ah
  ·obtain ⟨cs,m,_,ar⟩:=ah;exact ⟨cs,m,hM _ _ J rfl,ar⟩
theorem aU.Dl{os:List (Nat×ao)} : ∀ (ps:List Nat) (vs:List Value) (xs:List I) (ts:List (Nat×I)) (a:Act),aU c (av ts os) a w D E→(∀ p∈ps,p<c.n)→aI w D E xs vs→ps.length=vs.length →
  aU c (av (tD ps xs ts) os) { a with tmps:=(ps.zip vs).foldl (fun t q=>t.setIfInBounds q.1 q.2) a.tmps } w D E
 | [],[],xs,ts,a,h,_,hv,_=>by
  cases xs with
  |nil=>exact h
  |cons x xs=>simp[aI] at hv
 | [],_::_,_,_,_,_,_,_,aq=>by simp at aq
 |_::_,[],_,_,_,_,_,_,aq=>by simp at aq
 |p::ps,v::vs,xs,ts,a,h,hp,hv,aq=>by
  cases xs with
  |nil=>simp[aI] at hv
  |cons x xs =>
   simp only[aI] at hv;obtain ⟨v',rest,cs,e,J,U,ah⟩:=hv;simp only[zw2] at e;obtain ⟨rfl,rfl⟩:=e;have ar:=h.put (hp p (by simp)) (ju J U);rw[th] at ar;have:=aU.Dl ps vs xs ((p,x)::ts) (a.put (some p) v) ar (fun q hq=>hp q (by simp[hq])) ah (by simpa using aq);exact this
end
end Go.Abs
namespace Go.Abs
open Go Go.RowKit
def iQ:bS→Bool
 | .mv _ | .pick .. | .bin .. | .eqv .. | .conv .. | .un .. | .fl .. | .ix .. | .lenT _ | .bld .. | .ext .. | .mk .. | .nilC _ | .ptrE .. | .max2 .. =>true
 | .ld .. | .fa .. | .ia .. | .is .. | .len _ | .va .. | .bs .. | .sl .. | .cap _ | .bs0 _ | .lk .. =>true
 |_=>false
def mQ:bS→Bool
 | .alloc _ | .box _ | .bd .. | .call .. | .fH .. | .dn .. =>true
 |op=>iQ op
def pq(ab:List FuncId):bS→Bool
 | .alloc _ | .box _=>true
 | .call f _ => !ab.contains f
 |op=>iQ op
abbrev dZ:=List (Nat×List Nat)
def hZ(L:dZ)(s:Nat):Option (List Nat):=(L.find? fun q=>q.1==s).map (·.2)
def cX(L:dZ)(A:ai):Prop:=∀ s ns,hZ L s=some ns→(A.t s).only (fun n=>ns.contains n)=true
def qO(L:dZ):aO→Option (List Nat)
 | .t s=>hZ L s
 | .c x=>if x.bA then some [] else none
def ub(a:Option (List Nat))(ns:List Nat):Bool:=match a with
 |some ms=>ms.all fun m=>ns.contains m
 |none=>false
def h0(L:dZ)(g:aH):Bool:=match g.dst with
 |none=>true
 |some d=>match hZ L d with
  |none=>true
  |some ns=>match g.op with
   | .mv x | .nilC x | .fa _ _ x | .ia _ _ x _=>ub (qO L x) ns
   | .bin .. | .len _ | .bs .. | .bs0 _ | .conv .. | .lenT _=>true
   | .box _ | .alloc _=>ns.contains d
   |_=>false
def mP:bS→Option (List Nat)
 | .ld _ (.t x) | .fa _ _ (.t x) | .ia _ _ (.t x) _ | .is _ (.t x) _ | .len (.t x) | .va _ _ (.t x) | .sl _ (.t x) _ _ _ | .cap (.t x) | .lk _ _ _ (.t x) _=>some [x]
 | .bs _ _ ps=>if (ps.all fun x=>match x with | .t _=>true | .c _=>false)=true then some (jB ps) else none
 | .bs0 _=>some []
 |op=>if op.gG=0∧iQ op=true then some [] else none
def sn(L:dZ)(g:aH)(p:Nat→Bool):Bool:=match mP g.op with
 |some xs=>xs.all fun s=>match hZ L s with | some ns=>ns.all p | none=>false
 |none=>false
def n0(ab:List FuncId)(L:dZ)(g h:aH):Bool:=pq ab h.op||match h.op with
 | .bd _ (.t y) _=>match mP g.op with
  |some []=>true
  |_=>match hZ L y with
   |some ms=>sn L g fun n => !ms.contains n
   |none=>false
 | .bd .. =>match mP g.op with
  |some []=>true
  |_=>false
 | .dn _ _ _ _ s _=>sn L g (fun _=>false)||ub (qO L s) []
 |_=>false
def mI(ab:List FuncId)(L:dZ)(g h:aH):Bool:=iQ g.op&&(n0 ab L g h&&((match g.dst with
  |some d => !h.da.contains d&&h.dst != some d
  |none=>true)&&(match h.dst with
  |some d => !g.da.contains d
  |none=>true)))
theorem wa{op:bS}(h:iQ op=true)(A:ai)(dst:Option Nat)(rest:List aH)(k:ai→cO):bl A dst op rest k=cS (bo A op) fun v=>k (A.aS dst v):=by
 cases op <;>first | rfl | cases h
inductive bO (P:Program) (Y:Value→List I→List (Nat×ao)→cK→Prop) (ab:List FuncId) (K:ai→Prop):cO→Prop where
 |done {A:ai} : K A→bO P Y ab K (.done A)
 |flat {f:FuncId} {avs cargs:List I} {a2:Option (List I)} {dst:Option Nat} {rest:List aH} {A:ai} (r:I):a8 P f cargs r→r.flat=true→bO P Y ab K (aB rest (A.aS dst r))→bO P Y ab K (.call f avs (some cargs) a2 dst rest A)
 |lead {f:FuncId} {avs cargs:List I} {a1:Option (List I)} {dst:Option Nat} {rest:List aH} {A:ai} (r:I):a8 P f cargs r→bO P Y ab K (aB rest (A.aS dst r))→bO P Y ab K (.call f avs a1 (some cargs) dst rest A)
 |bP {f:FuncId} {avs:List I} {a1 a2:Option (List I)} {dst:Option Nat} {rest:List aH} {ts:List (Nat×I)} {os0:List (Nat×ao)} (ρ:List (Nat×Nat)) (cargs:List I) (post:cK):cU P f cargs [] post →
   gl ρ [] os0→gP false (av ts os0) ρ [] avs cargs→(∀ r os',post r os'→gE false ρ [] os0 r os') →
   (∀ r os',post r os'→bO P Y ab K (aB rest ((av ts (dE ρ os'++os0)).aS dst (r.bn (bI ρ)))))→bO P Y ab K (.call f avs a1 a2 dst rest (av ts os0))
 |any {p:Nat→Prop} {k:Nat→cO} : (∀ m,p m→bO P Y ab K (k m))→bO P Y ab K (.any p k)
 |wW {f:FuncId} {avs:List I} {a1 a2:Option (List I)} {dst:Option Nat} {rest:List aH} {ts:List (Nat×I)} {os0:List (Nat×ao)} (aL:Bool) (ρ:List (Nat×Nat)) (os:List (Nat×ao)) (cargs:List I) (post:cK):ab.contains f=true→cU P f cargs os post →
   gl ρ os os0→gP aL (av ts (eK (iE ρ os) os0)) ρ os avs cargs→(∀ r os',post r os'→gE aL ρ os os0 r os') →
   (∀ r os',post r os'→bO P Y ab K (aB rest ((av ts (dE ρ os'++os0)).aS dst (r.bn (bI ρ)))))→bO P Y ab K (.call f avs a1 a2 dst rest (av ts os0))
 |FI {v:Value} {avs:List I} {dst:Option Nat} {rest:List aH} {ts:List (Nat×I)} {os0:List (Nat×ao)} (os:List (Nat×ao)) (cargs:List I) (post:cK):Y v cargs os post →
   gl [] os os0→gP false (av ts (eK (iE [] os) os0)) [] os avs cargs→(∀ r os',post r os'→gE false [] os os0 r os') →
   (∀ r os',post r os'→bO P Y ab K (aB rest ((av ts (dE [] os'++os0)).aS dst (r.bn (bI [])))))→bO P Y ab K (.kN v avs dst rest (av ts os0))
theorem AS(os:List (Nat×ao)):eK [] os=os:=by simp[eK]
section
variable {P:Program} {ab:List FuncId} {K:ai→Prop} {Y:Value→List I→List (Nat×ao)→cK→Prop}
theorem bO.yA{p:Nat→Prop}{k:Nat→cO}(h:bO P Y ab K (.any p k)):∀ m,p m→bO P Y ab K (k m):=by cases h;assumption
theorem cX.put{L:dZ}{A B:ai}(h:cX L A)(ht:∀ k,B.t k=A.t k){dst:Option Nat}{v:I}(hv:∀ d,dst=some d→∀ ns,hZ L d=some ns→v.only (fun n=>ns.contains n)=true):cX L (B.aS dst v):=by
 intro s ns hs';cases dst with
 |none=>exact (ht s).symm▸h s ns hs'
 |some d =>
  simp only[ai.aS,ai.put];by_cases af:s=d
  ·rw[if_pos af];exact hv d rfl ns (af▸hs')
  ·rw[if_neg af,ht];exact h s ns hs'
theorem rR{L:dZ}{A:ai}(h:cX L A){x:aO}{ns:List Nat}(hx:ub (qO L x) ns=true):(ak A x).only (fun n=>ns.contains n)=true:=by
 cases x with
 |c x =>
  simp only[qO] at hx;split at hx
  ·rename_i hc;exact jS _ x hc
  ·cases hx
 |t s =>
  simp only[qO] at hx;cases aq:hZ L s with
  |none=>rw[aq] at hx;cases hx
  |some ms =>
   rw[aq] at hx;simp only[ub,zz6] at hx;exact iI (fun n hn=>hx n (by simpa using hn)) _ (h s ms aq)
theorem HG{op:BinOp}{x y v:I}(p:Nat→Bool)(h:cH op x y=some v):v.only p=true:=by
 unfold cH at h
 (repeat' split at h) <;>first | (cases h;done) | (simp only[v6] at h;subst h;rfl)
theorem w7{p:Nat→Bool} : ∀ {xs:List I} {i:Nat} {x:I},I.cv p xs=true→xs[i]?=some x→x.only p=true
 | [],_,_,_,h=>by simp at h
 |a::xs,0,x,h,e=>by
  simp only[I.cv,t8] at h;simp only[List.getElem?_cons_zero,v6] at e;exact e▸h.1
 |a::xs,i+1,x,h,e=>by
  simp only[I.cv,t8] at h;exact w7 (xs:=xs) h.2 (by simpa using e)
theorem CQ{L:dZ}{A:ai}{g:aH}(h:cX L A)(hg:h0 L g=true){v:I}(hv:bo A g.op=some v):∀ d,g.dst=some d→∀ ns,hZ L d=some ns→v.only (fun n=>ns.contains n)=true:=by
 intro d af ns hn;obtain ⟨dst,op,gd⟩:=g;simp only at af hv;subst af;simp only[h0,hn] at hg;cases op <;>simp only at hg <;>(try (cases hg;done)) <;>simp only[bo] at hv <;>(try (cases hv;done))
 case mv x=>simp only[v6] at hv;exact hv▸rR h hg
 case nilC x =>
  have:=rR h hg;generalize ak A x=u at hv this;cases u <;>simp only[lT] at hv <;>first | (cases hv;done) | (simp only[v6] at hv;exact hv▸this)
 case bin op x y=>exact HG _ hv
 case conv k x=>split at hv <;>first | (cases hv;done) | (simp only[v6] at hv;subst hv;rfl)
 case lenT x=>split at hv <;>first | (cases hv;done) | (simp only[v6] at hv;subst hv;rfl)
 case len x=>(repeat' split at hv) <;>first | (cases hv;done) | (simp only[v6] at hv;subst hv;rfl)
 case bs0 e=>simp only[v6] at hv;subst hv;rfl
 case bs e ps =>
  split at hv
  ·split at hv
   ·rename_i hc;simp only[v6] at hv;subst hv;simp only[I.only];exact mS _ _ hc.2
   ·cases hv
  ·cases hv
 case fa f off x =>
  have hx:=rR h hg;split at hv
  ·rename_i fs he;rw[he] at hx;simp only[I.only] at hx;split at hv
   ·rename_i u hu;split at hv
    ·simp only[v6] at hv;subst hv;simp only[I.only];exact w7 hx hu
    ·cases hv
   ·cases hv
  ·rename_i n q he;rw[he] at hx;simp only[I.only] at hx;split at hv
   ·split at hv
    ·simp only[v6] at hv;subst hv;simpa only[I.only] using hx
    ·cases hv
   ·cases hv
  ·cases hv
 case ia n esz x i =>
  have hx:=rR h hg;split at hv
  case h_2=>cases hv
  split at hv
  case isFalse=>cases hv
  split at hv
  ·rename_i fs he;rw[he] at hx;simp only[I.only] at hx;split at hv
   ·simp only[t7] at hv;obtain ⟨u,hu,rfl⟩:=hv;simp only[I.only];exact w7 hx hu
   ·cases hv
  ·rename_i m q he;rw[he] at hx;simp only[I.only] at hx;split at hv
   ·split at hv
    ·simp only[v6] at hv;subst hv;simpa only[I.only] using hx
    ·cases hv
   ·cases hv
  ·cases hv
def gp(A:ai)(dst:Option Nat)(s:I)(B:ai):Prop:=(∀ t,dst≠some t→B.t t=A.t t)∧(s.only (fun _=>false)=true→ep A B)
def nr(A:ai)(dst:Option Nat)(s:I)(R:(ai→cO)→cO):Prop :=
 (∀ k,R k=.fail)∨(∃ B,(∀ k,R k=k B)∧gp A dst s B)∨∃ (p:Nat→Prop) (bC:Nat→ai),(∀ k,R k=.any p fun m=>k (bC m))∧∀ m,gp A dst s (bC m)
theorem rq{A B:ai}{dst:Option Nat}{v:I}{t:Nat}(ht:∀ k,B.t k=A.t k)(h:dst≠some t):(B.aS dst v).t t=A.t t:=by
 cases dst with
 |none=>exact ht t
 |some d =>
  have:t≠d:=fun e=>h (by rw[e]);simp only[ai.aS,ai.put,if_neg this];exact ht t
theorem Ha(A:ai)(dst:Option Nat)(esz bytes:Nat)(z s:I)(es ys:List I):nr A dst s (fW A dst esz bytes z es ys):=by
 cases dst with
 |none=>exact .inl fun _=>rfl
 |some d =>
  cases ho:A.o d with
  |some y=>exact .inl fun k=>by simp only[fW,ho]
  |none =>
   by_cases hc:(es.length+ys.length)*bytes≤140737488355328∧es.length+ys.length≤maxLen
   ·refine .inr (.inr ⟨_,fun m=>(A.aT d (.box (.agg (es++(ys++List.replicate m z))))).aS (some d) (.view d [] esz 0 (es.length+ys.length)),fun k=>by simp only[fW,ho];rw[if_pos hc],fun m=>⟨fun t ht=>rq (A:=A) (B:=A.aT d _) (fun _=>rfl) ht,fun _ n y hy =>?_⟩⟩);have:n≠d:=fun e=>by rw[e,ho] at hy;cases hy
    rw[il];simp only[ai.aT,if_neg this];exact hy
   ·exact .inl fun k=>by simp only[fW,ho];rw[if_neg hc]
theorem Hf(A:ai)(dst:Option Nat)(esz bytes:Nat)(z s:I)(es ys:Option (List I)):nr A dst s (e6 A dst esz bytes z s es ys):=by
 cases es with
 |none=>exact .inl fun _=>rfl
 |some es =>
  cases ys with
  |none=>exact .inl fun _=>rfl
  |some ys =>
   by_cases aW:ys=[]
   ·exact .inr (.inl ⟨A.aS dst s,fun k=>by simp only[e6,if_pos aW],fun t ht=>rq (A:=A) (fun _=>rfl) ht,fun _ n y hy=>by rw[il];exact hy⟩)
   ·have gg:=fun s'=>Ha A dst esz bytes z s' es ys;cases s
    case nils=>simp only[nr,e6,if_neg aW];exact gg _
    case c0=>simp only[nr,e6,if_neg aW];exact gg _
    case view n p sz lo l =>
     cases ho:A.o n with
     |none=>exact .inl fun k=>by simp only[e6,if_neg aW,ho]
     |some y =>
      cases y with
      |box b =>
       cases hb:b.at p with
       |none=>exact .inl fun k=>by simp only[e6,if_neg aW,ho,hb]
       |some c =>
        cases c
        case agg fs =>
         by_cases J:lo+l+ys.length≤fs.length
         ·by_cases U:sz=esz∧I.c7 ys=I.c7 ((fs.drop (lo+l)).take ys.length)
          ·exact .inr (.inl ⟨(A.aT n (.box (jf b p (lo+l) fs ys))).aS dst (.view n p esz lo (l+ys.length)),fun k=>by simp only[e6,if_neg aW,ho,hb,if_pos J];rw[if_pos U],fun t ht=>rq (A:=A) (B:=A.aT n _) (fun _=>rfl) ht,fun h=>by simp[I.only] at h⟩)
          ·exact .inl fun k=>by simp only[e6,if_neg aW,ho,hb,if_pos J];rw[if_neg U]
         ·simp only[nr,e6,if_neg aW,ho,hb,if_neg J];exact gg _
        all_goals exact .inl fun k=>by simp only[e6,if_neg aW,ho,hb]
      |_=>exact .inl fun k=>by simp only[e6,if_neg aW,ho]
    all_goals exact .inl fun k=>by simp only[e6,if_neg aW]
theorem yE(A:ai)(dst:Option Nat)(e esz bytes:Nat)(z:I)(s x:aO)(rest:List aH):nr A dst (ak A s) (bl A dst (.dn e esz bytes z s x) rest):=by
 generalize ab:ak A s=xU;cases xU
 case own n l =>
  cases hx:ak A x
  case slice sz ys =>
   cases ho:A.o n with
   |none=>exact .inl fun k=>by simp only[bl,ab,hx,ho]
   |some y =>
    cases y with
    |bU T sz' es =>
     by_cases hc:wY e esz bytes l sz ys T sz' es
     ·exact .inr (.inl ⟨(A.aT n (.bU e esz (es++ys))).aS dst (.own n (es.length+ys.length)),fun k=>by simp only[bl,ab,hx,ho];rw[if_pos hc],fun t ht=>rq (A:=A) (B:=A.aT n _) (fun _=>rfl) ht,fun h=>by simp[I.only] at h⟩)
     ·exact .inl fun k=>by simp only[bl,ab,hx,ho];rw[if_neg hc]
    |dK T xs =>
     by_cases hc:wZ e esz bytes l ys T xs z
     ·exact .inr (.inl ⟨(A.aT n (.dK e (xs++qF ys))).aS dst (.own n (xs.length+ys.length)),fun k=>by simp only[bl,ab,hx,ho];rw[if_pos hc],fun t ht=>rq (A:=A) (B:=A.aT n _) (fun _=>rfl) ht,fun h=>by simp[I.only] at h⟩)
     ·exact .inl fun k=>by simp only[bl,ab,hx,ho];rw[if_neg hc]
    |_=>exact .inl fun k=>by simp only[bl,ab,hx,ho]
  all_goals exact .inl fun k=>by simp only[bl,ab,hx]
 all_goals (simp only[nr,bl,ab];exact Hf ..)
theorem xg{A:ai}{d:Nat}{v:I}{n:Nat}{y:ao}{dst:Option Nat}{u:I}(h:dst≠some d):((A.put d v).aT n y).aS dst u=((A.aT n y).aS dst u).put d v:=by
 cases dst with
 |none=>rfl
 |some e =>
  have:e≠d:=fun he=>h (by rw[he]);simp only[ai.aS,ai.put,ai.aT,ai.mk.injEq,and_true]
  funext k
  by_cases J:k=e <;>by_cases U:k=d <;>simp_all
theorem Yz{A:ai}{d:Nat}{v:I}{dst:Option Nat}{u:I}(h:dst≠some d):(A.put d v).aS dst u=(A.aS dst u).put d v:=by
 cases dst with
 |none=>rfl
 |some e =>
  have:e≠d:=fun he=>h (by rw[he]);simp only[ai.aS,ai.put,ai.mk.injEq,and_true]
  funext k
  by_cases J:k=e <;>by_cases U:k=d <;>simp_all
theorem Hb{A:ai}{d:Nat}{v:I}{dst:Option Nat}(h:dst≠some d)(esz bytes:Nat)(z:I)(es ys:List I)(k:ai→cO):fW (A.put d v) dst esz bytes z es ys k=fW A dst esz bytes z es ys fun B=>k (B.put d v):=by
 cases dst with
 |none=>rfl
 |some e =>
  simp only[fW];have:(A.put d v).o=A.o:=rfl;rw[this];cases A.o e with
  |some _=>rfl
  |none =>
   simp only;split
   ·simp only[xg h]
   ·rfl
theorem Hg{A:ai}{d:Nat}{v:I}{dst:Option Nat}(h:dst≠some d)(esz bytes:Nat)(z s:I)(es ys:Option (List I))(k:ai→cO):e6 (A.put d v) dst esz bytes z s es ys k=e6 A dst esz bytes z s es ys fun B=>k (B.put d v):=by
 have ho:(A.put d v).o=A.o:=rfl;cases es with
 |none=>rfl
 |some es =>
  cases ys with
  |none=>rfl
  |some ys =>
   simp only[e6];split
   ·rw[Yz h]
   ·cases s <;>simp only[Hb h,ho]
    rename_i n p sz lo l;cases A.o n with
    |none=>rfl
    |some y =>
     cases y with
     |box b =>
      simp only;cases b.at p with
      |none=>rfl
      |some c =>
       cases c <;>simp only[xg h]
     |_=>rfl
theorem Hk{A:ai}{d:Nat}{v:I}{dst:Option Nat}(h:dst≠some d){e esz bytes:Nat}{z:I}{s x:aO}(hag:ee A (A.put d v) (s.sl++x.sl))(rest rest':List aH)(k:ai→cO) :
  bl (A.put d v) dst (.dn e esz bytes z s x) rest k=bl A dst (.dn e esz bytes z s x) rest' fun B=>k (B.put d v):=by
 have ho:(A.put d v).o=A.o:=rfl;have hsrc:∀ y,eJ (A.put d v) esz y=eJ A esz y:=fun y=>by cases y <;>rfl
 simp only[bl,dc hag.l,dc hag.r,hsrc];cases ak A s <;>simp only[Hg h]
 rename_i n l;cases ak A x <;>simp only[ho]
 cases A.o n with
 |none=>rfl
 |some y=>cases y <;>simp only[xg h]
theorem bO.Ao{L:dZ}{f:FuncId}{avs:List I}{a1 a2:Option (List I)}{dst:Option Nat}{rest:List aH}{A:ai}(hi:cX L A)(af:∀ d,dst=some d→hZ L d=none)(h:bO P Y ab K (.call f avs a1 a2 dst rest A)) :
  aR P Y false (fun B=>bO P Y ab K (aB rest B)∧cX L B) (.call f avs a1 a2 dst [] A):=by
 have no:∀ {v:I},∀ d,dst=some d→∀ ns,hZ L d=some ns→v.only (fun n=>ns.contains n)=true:=fun d e ns hn=>by rw[af d e] at hn;cases hn
 cases h with
 |flat r hc hf hw=>exact .flat r hc hf (.done ⟨hw,hi.put (fun _=>rfl) no⟩)
 |lead r hc hw=>exact .lead r hc (.done ⟨hw,hi.put (fun _=>rfl) no⟩)
 |bP ρ cargs post hc hg ha hb hw=>exact .bP false ρ [] cargs post rfl hc hg (by simp only[iE,zx0,AS];exact ha) hb fun r os' hp=>.done ⟨hw r os' hp,hi.put (B:=av _ (dE ρ os'++_)) (fun _=>rfl) no⟩
 |wW aL ρ os cargs post _ hc hg ha hb hw=>exact .bP aL ρ os cargs post rfl hc hg ha hb fun r os' hp=>.done ⟨hw r os' hp,hi.put (B:=av _ (dE ρ os'++_)) (fun _=>rfl) no⟩
theorem bO.I9{L:dZ}{v:Value}{avs:List I}{dst:Option Nat}{rest:List aH}{A:ai}(hi:cX L A)(af:∀ d,dst=some d→hZ L d=none)(h:bO P Y ab K (.kN v avs dst rest A)) :
  aR P Y false (fun B=>bO P Y ab K (aB rest B)∧cX L B) (.kN v avs dst [] A):=by
 have no:∀ {v:I},∀ d,dst=some d→∀ ns,hZ L d=some ns→v.only (fun n=>ns.contains n)=true:=fun d e ns hn=>by rw[af d e] at hn;cases hn
 cases h with
 |FI os cargs post hc hg ha hb hw=>exact .uh os cargs post rfl hc hg ha hb fun r os' hp=>.done ⟨hw r os' hp,hi.put (B:=av _ (dE [] os'++_)) (fun _=>rfl) no⟩
theorem bO.one{L:dZ}{A:ai}{g:aH}{rest:List aH}(hi:cX L A)(ho:mQ g.op=true)(hL:h0 L g=true)(h:bO P Y ab K (bl A g.dst g.op rest (aB rest))):aR P Y false (fun B=>bO P Y ab K (aB rest B)∧cX L B) (bl A g.dst g.op [] (aB [])):=by
 have hval:=fun v (hv:bo A g.op=some v)=>CQ hi hL hv;obtain ⟨dst,op,gd⟩:=g;simp only at ho h hval ⊢;have pure:iQ op=true→aR P Y false (fun B=>bO P Y ab K (aB rest B)∧cX L B) (bl A dst op [] (aB [])):=by
  intro hsm;rw[wa hsm] at h ⊢;cases hv:bo A op with
  |none=>rw[hv] at h;cases h
  |some v=>rw[hv] at h;exact .done ⟨h,hi.put (fun _=>rfl) (hval v hv)⟩
 have unl:(∀ ns d,dst=some d→hZ L d=some ns→h0 L ⟨dst,op,gd⟩=false)→∀ d,dst=some d→hZ L d=none:=fun J d af=>by
  cases hn:hZ L d with
  |none=>rfl
  |some ns=>rw[J ns d af hn] at hL;cases hL
 cases op with
 |alloc z =>
  cases dst with
  |none=>simp only[bl] at h;cases h
  |some d =>
   simp only[bl] at h ⊢;split at h
   case h_2=>cases h
   refine .done ⟨h,hi.put (B:=A.aT d _) (dst:=some d) (fun _=>rfl) fun d' e ns hn =>?_⟩;simp only[v6] at e;subst e;simpa only[h0,hn,I.only] using hL
 |box x =>
  cases dst with
  |none=>simp only[bl] at h;cases h
  |some d =>
   simp only[bl] at h ⊢;split at h
   case h_2=>cases h
   split at h
   case isFalse=>cases h
   rename_i hv;rw[if_pos hv];refine .done ⟨h,hi.put (B:=A.aT d _) (dst:=some d) (fun _=>rfl) fun d' e ns hn =>?_⟩;simp only[v6] at e;subst e;simpa only[h0,hn,I.only] using hL
 |bd s x v =>
  cases dst with
  |some d=>simp only[bl] at h;cases h
  |none =>
   simp only[bl] at h ⊢;split at h
   case h_2=>cases h
   rename_i n p hx;split at h
   case h_2=>cases h
   rename_i b hb;split at h
   case h_2=>cases h
   rename_i old hold;split at h
   case isFalse=>cases h
   rename_i hok;simp only[if_pos hok];exact .done ⟨h,fun s ns hn=>hi s ns hn⟩
 |call f args=>exact bO.Ao hi (unl fun ns d e hn=>by subst e;simp only[h0,hn]) h
 |fH x args =>
  have hu:=unl fun ns d e hn=>by subst e;simp only[h0,hn]
  simp only[bl] at h ⊢;split at h
  ·exact bO.Ao hi hu h
  ·exact bO.I9 hi hu h
  ·cases h
 |dn e esz bytes z s x =>
  have hu:=unl fun ns d e hn=>by subst e;simp only[h0,hn]
  have sZ:∀ B,gp A dst (ak A s) B→cX L B:=fun B hB t ns hn=>by
   rw[hB.1 t fun e=>by rw[hu t e] at hn;cases hn];exact hi t ns hn
  have hf:=yE A dst e esz bytes z s x;rcases hf rest with J | ⟨B,J,U⟩ | ⟨p,bC,J,U⟩
  ·rw[J] at h;cases h
  ·rw[J] at h;have:bl A dst (.dn e esz bytes z s x) [] (aB [])=aB [] B:=(show bl A dst (.dn e esz bytes z s x) [] (aB [])=bl A dst (.dn e esz bytes z s x) rest (aB []) from rfl).trans (J _);rw[this];exact .done ⟨h,sZ B U⟩
  ·rw[J] at h;have:bl A dst (.dn e esz bytes z s x) [] (aB [])=.any p fun m=>aB [] (bC m):=(show bl A dst (.dn e esz bytes z s x) [] (aB [])=bl A dst (.dn e esz bytes z s x) rest (aB []) from rfl).trans (J _);rw[this];exact .any rfl fun m hm=>.done ⟨h.yA m hm,sZ _ (U m)⟩
 |_=>first | exact pure rfl | cases ho
def gq(g:aH)(A:ai)(v:I):Prop:=(gy A g∧v=.undef)∨(pass A g∧bo A g.op=some v)
theorem bO.xP{A:ai}{g:aH}{rest:List aH}(hs':iQ g.op=true)(h:bO P Y ab K (aB (g::rest) A)):∃ v,gq g A v∧bO P Y ab K (aB rest (A.aS g.dst v)):=by
 have step:pass A g→bO P Y ab K (bl A g.dst g.op rest (aB rest))→∃ v,gq g A v∧bO P Y ab K (aB rest (A.aS g.dst v)):=by
  intro hp h;rw[wa hs'] at h;cases hv:bo A g.op with
  |none=>rw[hv] at h;cases h
  |some v=>rw[hv] at h;exact ⟨v,.inr ⟨hp,hv⟩,h⟩
 simp only[aB] at h;split at h
 ·rename_i hg;exact step (by simp only[pass,hg]) h
 ·rename_i t b hg;split at h
  ·rename_i b' hb;split at h
   ·rename_i hbb;subst hbb;exact step (by simp only[pass,hg];exact hb) h
   ·rename_i hbb;exact ⟨_,.inl ⟨by simp only[gy,hg];exact .inl (by rw[hb,uQ hbb]),rfl⟩,h⟩
  ·rename_i hb;exact ⟨_,.inl ⟨by simp only[gy,hg];exact .inr hb,rfl⟩,h⟩
  ·cases h
theorem sk{A:ai}{g:aH}{rest:List aH}(hn:gy A g):aB (g::rest) A=aB rest (A.aS g.dst .undef):=by
 simp only[aB];cases hg:g.guard with
 |none=>simp only[gy,hg] at hn
 |some tb =>
  obtain ⟨t,b⟩:=tb;simp only[gy,hg] at hn;rcases hn with hn | hn
  ·simp only[hn];rw[if_neg (by cases b <;>simp)]
  ·simp only[hn]
theorem gq.to{A:ai}{g:aH}{rest:List aH}{v:I}(hs':iQ g.op=true)(h:gq g A v):aB (g::rest) A=aB rest (A.aS g.dst v):=by
 rcases h with ⟨hn,rfl⟩ | ⟨hp,hv⟩
 ·exact sk hn
 ·rw[ny hp,wa hs',hv];rfl
theorem L9{A A':ai}{p:Nat→Bool}(ho:∀ n,p n=true→A'.o n=A.o n){x:I}(hx:x.only p=true):cM A' x=cM A x:=by
 cases x <;>simp only[cM]
 rename_i n q;rw[ho n (by simpa[I.only] using hx)]
mutual
theorem M0{A A':ai}{p:Nat→Bool}(ho:∀ n,p n=true→A'.o n=A.o n):∀ {x:I},x.only p=true→bj false A' x=bj false A x
 | .own n k,h=>by simp only[bj];rw[ho n (by simpa[I.only] using h)]
 | .func f caps,h=>by simp only[bj];rw[sN ho (xs:=caps) (by simpa[I.only] using h)]
 | .agg fs,h=>by simp only[bj];rw[sN ho (xs:=fs) (by simpa[I.only] using h)]
 | .undef,_ | .dw,_ | .bool _,_ | .int _ _,_ | .bQ _,_ | .nilp,_ | .dB,_ | .dX,_ | .any,_ | .raw _,_ | .nils _,_ | .c0 _,_ | .slice _ _,_ | .tuple _,_ | .ref _,_ | .iface _ _,_ | .ptr _ _,_ | .view _ _ _ _ _,_ | .mref _,_ | .dq _,_ | .dj _ _,_=>by simp[bj]
theorem sN{A A':ai}{p:Nat→Bool}(ho:∀ n,p n=true→A'.o n=A.o n):∀ {xs:List I},I.cv p xs=true→b8 false A' xs=b8 false A xs
 | [],_=>rfl
 |x::xs,h=>by
  simp only[I.cv,t8] at h;simp only[b8,M0 ho h.1,sN ho h.2]
end
theorem CU{p:Nat→Bool}{f:aO→I} : ∀ {xs:List aO},(∀ x∈xs,(f x).only p=true)→I.cv p (xs.map f)=true
 | [],_=>rfl
 |x::xs,h=>by
  simp only[Z3,I.cv,t8];exact ⟨h x (by simp),CU fun y hy=>h y (by simp[hy])⟩
theorem WW{A A':ai}{p:Nat→Bool}(ho:∀ n,p n=true→A'.o n=A.o n){x:I}(hx:x.only p=true):fZ A' x=fZ A x:=by
 cases x with
 |mref n=>simp only[fZ];rw[ho n (by simpa[I.only] using hx)]
 |raw v=>cases v <;>first | rfl | (rename_i o;cases o <;>rfl)
 |_=>rfl
theorem Yp{A A':ai}{op:bS}{xs:List Nat}{p:Nat→Bool}(hm:mP op=some xs)(h:ee A A' op.da)(hx:∀ s∈xs,(A.t s).only p=true)(ho:∀ n,p n=true→A'.o n=A.o n):bo A' op=bo A op:=by
 have jL:op.gG=0→bo A' op=bo A op:=fun hc=>xe hc h;have dl:=fun {x:I} (hx:x.only p=true)=>L9 ho hx;unfold mP at hm;split at hm
 ·rename_i s x;simp only[v6] at hm;subst hm;have e:=h x (by simp[bS.da,aO.sl]);simp only[bo,ak,e,dl (hx x (by simp))]
 ·rename_i f off x;simp only[v6] at hm;subst hm;have e:=h x (by simp[bS.da,aO.sl]);have k:=hx x (by simp);simp only[bo,ak,e];generalize A.t x=u at k ⊢;cases u with
  |ptr n q=>simp only[dl (x:=.ptr n q) k]
  |ref c=>cases c <;>rfl
  |_=>rfl
 ·rename_i n esz x i;simp only[v6] at hm;subst hm;have e:=h x (by simp[bS.da,aO.sl]);have ei:=dc (x:=i) (fun m hm=>h m (by simp[bS.da,hm]));have k:=hx x (by simp);simp only[bo,ei];generalize ak A i=w;simp only[ak,e];generalize A.t x=u at k ⊢;cases u with
  |ptr n q=>simp only[dl (x:=.ptr n q) k]
  |ref c=>cases c <;>rfl
  |_=>rfl
 ·rename_i esz x i;simp only[v6] at hm;subst hm;have e:=h x (by simp[bS.da,aO.sl]);have ei:=dc (x:=i) (fun m hm=>h m (by simp[bS.da,hm]));have k:=hx x (by simp);simp only[bo,ei];generalize ak A i=w;simp only[ak,e];generalize A.t x=u at k ⊢;cases u with
  |own n l=>simp only[ho n (by simpa[I.only] using k)]
  |view n q=>simp only[dl (x:=.ptr n q) (by simpa[I.only] using k)]
  |_=>rfl
 ·rename_i x;simp only[v6] at hm;subst hm;have e:=h x (by simp[bS.da,aO.sl]);have k:=hx x (by simp);simp only[bo,ak,e];generalize A.t x=u at k ⊢;cases u with
  |own n l=>simp only[ho n (by simpa[I.only] using k)]
  |_=>rfl
 ·rename_i n esz x;simp only[v6] at hm;subst hm;have e:=h x (by simp[bS.da,aO.sl]);have k:=hx x (by simp);simp only[bo,ak,e];generalize A.t x=u at k ⊢;cases u with
  |ptr n q=>simp only[dl (x:=.ptr n q) k]
  |ref c=>cases c <;>rfl
  |_=>rfl
 ·rename_i esz x lo hi mx;simp only[v6] at hm;subst hm;have e:=h x (by simp[bS.da,aO.sl]);have e1:=oX (x:=lo) (fun m hm=>h m (by simp[bS.da,hm]));have e2:=oX (x:=hi) (fun m hm=>h m (by simp[bS.da,hm]));have e3:=oX (x:=mx) (fun m hm=>h m (by simp[bS.da,hm]));have k:=hx x (by simp);simp only[bo,e1,e2,e3];generalize lo.map (ak A)=w1;generalize hi.map (ak A)=w2;generalize mx.map (ak A)=w3;simp only[ak,e];generalize A.t x=u at k ⊢;cases u with
  |view n q=>simp only[dl (x:=.ptr n q) (by simpa[I.only] using k)]
  |_=>rfl
 ·rename_i x;simp only[v6] at hm;subst hm;have e:=h x (by simp[bS.da,aO.sl]);have k:=hx x (by simp);simp only[bo,ak,e];generalize A.t x=u at k ⊢;cases u with
  |view n q=>simp only[dl (x:=.ptr n q) (by simpa[I.only] using k)]
  |_=>rfl
 ·rename_i ty z ok x kk;simp only[v6] at hm;subst hm;have e:=h x (by simp[bS.da,aO.sl]);have ek:=dc (x:=kk) (fun m hm=>h m (by simp[bS.da,hm]));have k:=hx x (by simp);simp only[bo,ek];generalize ak A kk=w;simp only[ak,e,WW ho k]
 ·rename_i esz ps;split at hm
  case isFalse=>cases hm
  rename_i hall;simp only[v6] at hm;subst hm;have hev:ps.map (ak A')=ps.map (ak A):=lI h;have hon:I.cv p (ps.map (ak A))=true:=CU fun x hx'=>by
   have J:=zz6.1 hall x hx';cases x with
   |c _=>cases J
   |t s=>exact hx s (by simp only[jB,List.mem_flatMap];exact ⟨_,hx',by simp[aO.sl]⟩)
  simp only[bo,hev,sN ho hon]
 ·rfl
 ·split at hm
  ·rename_i hc;exact jL hc.1
  ·cases hm
theorem yC{L:dZ}{A:ai}{g:aH}{p:Nat→Bool}(hi:cX L A)(h:sn L g p=true):∃ xs,mP g.op=some xs∧∀ s∈xs,(A.t s).only p=true:=by
 unfold sn at h;split at h
 case h_2=>cases h
 rename_i xs hm;refine ⟨xs,hm,fun s hs' =>?_⟩;have J:=zz6.1 h s hs';split at J
 case h_2=>cases J
 rename_i ns hn;exact iI (fun n U=>zz6.1 J n (by simpa using U)) _ (hi s ns hn)
theorem gq.wD{A A':ai}{g:aH}{v:I}{xs:List Nat}{p:Nat→Bool}(h:gq g A v)(hm:mP g.op=some xs)(ha:ee A A' g.da)(hx:∀ s∈xs,(A.t s).only p=true)(ho:∀ n,p n=true→A'.o n=A.o n):gq g A' v:=by
 rcases h with ⟨h,rfl⟩ | ⟨h,k⟩
 ·exact .inl ⟨pB ha h,rfl⟩
 ·exact .inr ⟨mT ha h,by rw[Yp hm (aH.jT ha) hx ho];exact k⟩
theorem gq.sZ{L:dZ}{A:ai}{g:aH}{v:I}(hi:cX L A)(hg:h0 L g=true)(h:gq g A v):cX L (A.aS g.dst v):=by
 rcases h with ⟨_,rfl⟩ | ⟨_,k⟩
 ·exact hi.put (fun _=>rfl) fun _ _ _ _=>rfl
 ·exact hi.put (fun _=>rfl) (CQ hi hg k)
theorem gq.cT{A A':ai}{g:aH}{v:I}(h:gq g A v)(hu:ep A A')(ha:ee A A' g.da):gq g A' v:=by
 rcases h with ⟨h,rfl⟩ | ⟨h,k⟩
 ·exact .inl ⟨pB ha h,rfl⟩
 ·exact .inr ⟨mT ha h,Dg hu (aH.jT ha) k⟩
theorem B3{L:dZ}{g h:aH}(hi:mI ab L g h=true):iQ g.op=true∧n0 ab L g h=true∧(∀ d,g.dst=some d→d∉h.da)∧(∀ d,g.dst=some d→h.dst≠some d)∧(∀ d,h.dst=some d→d∉g.da):=by
 simp only[mI,t8] at hi;obtain ⟨J,U,ah,ar⟩:=hi;refine ⟨J,U,fun d af =>?_,fun d af =>?_,fun d af =>?_⟩
 ·rw[af] at ah;simp at ah;exact ah.1
 ·rw[af] at ah;simp at ah;exact ah.2
 ·rw[af] at ar;simpa using ar
theorem yF{aL:Bool}{A A':ai}{ρ:List (Nat×Nat)}{os:List (Nat×ao)}(hu:ep A A'):∀ {xs cs:List I},gP aL A ρ os xs cs→gP aL A' ρ os xs cs
 | [],[],_=>trivial
 |x::xs,c::cs,h=>⟨h.1.imp id fun h=>Bi hu h,yF hu h.2⟩
 | [],_::_,h=>h.elim
 |_::_,[],h=>h.elim
theorem W8{A:ai}{d:Option Nat}{v:I}{ts:List (Nat×I)}{os:List (Nat×ao)}(h:A.aS d v=av ts os):∃ ts2,A=av ts2 os∧∀ X:List (Nat×ao),(av ts2 X).aS d v=av ts X:=by
 cases d with
 |none=>exact ⟨ts,h,fun _=>rfl⟩
 |some d =>
  have ht:∀ k,(A.aS (some d) v).t k=bY ts k:=fun k=>by rw[h];rfl
  have ho:A.o=aj os:=by
   have:(A.aS (some d) v).o=aj os:=by rw[h];rfl
   rwa [il] at this
  refine ⟨(d,A.t d)::ts,?_,fun X =>?_⟩
  ·cases A with
   |mk t o =>
    simp only[av,ai.mk.injEq];refine ⟨funext fun k =>?_,ho⟩;have:=ht k;simp only[ai.aS,ai.put] at this;simp only[bY];by_cases hk:k=d
    ·subst hk;simp
    ·rw[if_neg hk] at this;have hk':¬ d=k:=fun e=>hk e.symm;simp only[hk,if_false];exact this
  ·simp only[ai.aS,ai.put,av,ai.mk.injEq,and_true]
   funext k
   have:=ht k;simp only[ai.aS,ai.put] at this;by_cases hk:k=d
   ·subst hk;simp at this ⊢;exact this
   ·have hk':¬ d=k:=fun e=>hk e.symm;simp only[bY,hk,if_false]
theorem Yo{ρ:List (Nat×Nat)}{os0 os':List (Nat×ao)}{r:I}(hb:gE false ρ [] os0 r os'){n:Nat}{x:ao}(hx:aj os0 n=some x):aj (dE ρ os'++os0) n=some x:=by
 rw[qT];cases hp:pre ρ os' n with
 |none=>exact hx
 |some m =>
  obtain ⟨J,U⟩:=kX hp;have:=(hb.py m J (by simp[aw,aj])).1;rw[U,hx] at this;cases this
theorem bO.I7{A B:ai}{j:aH}{v:I}{f:FuncId}{args:List aO}{dst:Option Nat}{rest:List aH}(hj:iQ j.op=true)(hv:gq j A v)(hB:B=A.aS j.dst v)(hf:ab.contains f=false)(hag:ee A B (jB args))(af:∀ d,j.dst=some d→dst≠some d)(hr:∀ d,dst=some d→d∉j.da)
  (h:bO P Y ab K (.call f (args.map (ak B)) (b8 true B (args.map (ak B))) (b8 false B (args.map (ak B))) dst rest B)):bO P Y ab K (.call f (args.map (ak A)) (b8 true A (args.map (ak A))) (b8 false A (args.map (ak A))) dst (j::rest) A):=by
 have eo:B.o=A.o:=by rw[hB,il]
 have cT:ep B A:=fun n x hx=>by rwa [←eo]
 have up':ep A B:=fun n x hx=>by rwa [eo]
 have eav:args.map (ak B)=args.map (ak A):=lI hag;rw[eav] at h;have cont:∀ r:I,bO P Y ab K (aB rest (B.aS dst r))→bO P Y ab K (aB (j::rest) (A.aS dst r)):=fun r hw=>by
  have J:gq j (A.aS dst r) v:=hv.cT (fun n x hx=>by rwa [il]) (lY hr);rw[J.to hj,pL (fun d hd'=>fun e=>af d e hd'),←hB];exact hw
 generalize e1:b8 true B (args.map (ak A))=a1 at h;generalize e2:b8 false B (args.map (ak A))=a2 at h;generalize hBm:B=B0 at h;cases h with
 |flat r hc hfl hw =>
  subst hBm;rw[kT cT e1];exact .flat r hc hfl (cont r hw)
 |lead r hc hw =>
  subst hBm;rw[kT cT e2];exact .lead r hc (cont r hw)
 |bP ρ cargs post hc hg ha hb hw =>
  rename_i ts os0;rw[hB] at hBm;obtain ⟨ts2,hA,hts⟩:=W8 hBm;have hA':=hA;clear cont;subst hA;refine .bP ρ cargs post hc hg (yF (A:=av ts os0) (A':=av ts2 os0) (fun n x hx=>hx) ha) hb fun r os' hp =>?_;have J:gq j ((av ts2 (dE ρ os'++os0)).aS dst (r.bn (bI ρ))) v:=hv.cT (fun n x hx=>by
   rw[il];exact Yo (hb r os' hp) hx) (fun k hk=>by
    have:=lY (A:=av ts2 (dE ρ os'++os0)) (v:=r.bn (bI ρ)) hr k hk;rw[this];rfl)
  rw[J.to hj,pL (fun d hd'=>fun e=>af d e hd'),hts];exact hw r os' hp
 |wW aL ρ os cargs post hfs =>
  rw[hf] at hfs;cases hfs
theorem bO.rT{L:dZ}{A:ai}{j g:aH}{rest:List aH}(hinv:cX L A)(hi:mI ab L j g=true)(hw:bO P Y ab K (aB (j::g::rest) A)):bO P Y ab K (aB (g::j::rest) A):=by
 obtain ⟨hj,aq,i1,i2,i3⟩:=B3 hi;obtain ⟨v,hv,hw⟩:=bO.xP hj hw;have ag:ee (A.aS j.dst v) A g.da:=(lY i1).symm;have ag':ee A (A.aS j.dst v) g.da:=lY i1;have cT:ep (A.aS j.dst v) A:=fun n x hx=>by rwa [il] at hx
 have up':∀ (d:Option Nat) (u:I),ep A (A.aS d u):=fun d u n x hx=>by rwa [il]
 by_cases hsg:iQ g.op=true
 ·obtain ⟨u,hu,hw⟩:=bO.xP hsg hw;rw[(hu.cT cT ag).to hsg,(hv.cT (up' _ _) (lY i3)).to hj,←pL i2];exact hw
 ·-- the guard
  have guard:(gy (A.aS j.dst v) g∧aB (g::rest) (A.aS j.dst v)=aB rest ((A.aS j.dst v).aS g.dst .undef))∨(pass (A.aS j.dst v) g∧aB (g::rest) (A.aS j.dst v)=bl (A.aS j.dst v) g.dst g.op rest (aB rest))∨aB (g::rest) (A.aS j.dst v)=.fail:=by
   cases hg:g.guard with
   |none=>exact .inr (.inl ⟨by simp only[pass,hg],by simp only[aB,hg]⟩)
   |some tb =>
    obtain ⟨t,b⟩:=tb;cases ht:(A.aS j.dst v).t t with
    |bool b' =>
     by_cases hbb:b'=b
     ·subst hbb;have hp:pass (A.aS j.dst v) g:=by simp only[pass,hg,ht]
      exact .inr (.inl ⟨hp,ny hp⟩)
     ·have hn:gy (A.aS j.dst v) g:=by simp only[gy,hg];exact .inl (by rw[ht,uQ hbb])
      exact .inl ⟨hn,sk hn⟩
    |undef =>
     have hn:gy (A.aS j.dst v) g:=by simp only[gy,hg];exact .inr ht
     exact .inl ⟨hn,sk hn⟩
    |_=>exact .inr (.inr (by simp only[aB,hg,ht]))
  rcases guard with ⟨hn,he⟩ | ⟨hp,he⟩ | he
  ·rw[he] at hw;rw[sk (pB ag hn),(hv.cT (up' _ _) (lY i3)).to hj,←pL i2];exact hw
  ·rw[he] at hw;rw[ny (mT ag hp)];obtain ⟨dst,op,gd⟩:=g;simp only at hw hsg i2 i3 ⊢;cases op with
   |alloc z =>
    cases dst with
    |none=>simp only[bl] at hw;cases hw
    |some d =>
    simp only[bl] at hw ⊢;split at hw
    case h_2=>cases hw
    rename_i ho;rw[il] at ho;simp only[ho];have J:gq j ((A.aT d (.box z)).put d (.ptr d [])) v:=hv.cT (fun n y hy=>by
     have:n≠d:=fun he=>by rw[he,ho] at hy;cases hy
     simp only[ai.put,ai.aT,this,if_false];exact hy) (fun k hk=>by
     have:k≠d:=fun he=>i3 d rfl (he▸hk);simp only[ai.put,ai.aT,this,if_false])
    rw[J.to hj];have e:((A.aS j.dst v).aT d (.box z)).put d (.ptr d [])=((A.aT d (.box z)).put d (.ptr d [])).aS j.dst v:=by
     cases hgd:j.dst with
     |none=>rfl
     |some e =>
      have hne:e≠d:=fun he=>i2 e hgd (by rw[he]);simp only[ai.aS,ai.put,ai.aT,ai.mk.injEq,and_true]
      funext k
      by_cases J:k=e <;>by_cases U:k=d <;>simp_all
    rw[←e];exact hw
   |box x =>
    have ex:ak (A.aS j.dst v) x=ak A x:=dc (aH.jT ag');cases dst with
    |none=>simp only[bl] at hw;cases hw
    |some d =>
    simp only[bl] at hw ⊢;split at hw
    case h_2=>cases hw
    rename_i ho;rw[il] at ho;simp only[ho];rw[ex] at hw;split at hw
    case isFalse=>cases hw
    rename_i hval;rw[if_pos hval];have J:gq j ((A.aT d (.box (ak A x))).put d (.ptr d [])) v:=hv.cT (fun n y hy=>by
     have:n≠d:=fun he=>by rw[he,ho] at hy;cases hy
     simp only[ai.put,ai.aT,this,if_false];exact hy) (fun k hk=>by
     have:k≠d:=fun he=>i3 d rfl (he▸hk);simp only[ai.put,ai.aT,this,if_false])
    rw[J.to hj];have e:((A.aS j.dst v).aT d (.box (ak A x))).put d (.ptr d [])=((A.aT d (.box (ak A x))).put d (.ptr d [])).aS j.dst v:=by
     cases hgd:j.dst with
     |none=>rfl
     |some e =>
      have hne:e≠d:=fun he=>i2 e hgd (by rw[he]);simp only[ai.aS,ai.put,ai.aT,ai.mk.injEq,and_true]
      funext k
      by_cases J:k=e <;>by_cases U:k=d <;>simp_all
    rw[←e];exact hw
   |call f args =>
    simp only[bl] at hw ⊢;refine bO.I7 hj hv rfl (by simpa[n0,pq] using aq) (aH.jT ag') i2 i3 hw
   |bd s y u =>
    cases dst with
    |some d=>simp only[bl] at hw;cases hw
    |none =>
    have ey:ak (A.aS j.dst v) y=ak A y:=dc (aH.jT ag').l;have eu:ak (A.aS j.dst v) u=ak A u:=dc (aH.jT ag').r;simp only[bl] at hw ⊢;rw[ey,eu,il] at hw;cases hx:ak A y <;>simp only[hx] at hw ⊢ <;>try (cases hw;done)
    rename_i n q;cases ho:A.o n with
    |none=>rw[ho] at hw;cases hw
    |some ob =>
    rw[ho] at hw;cases ob <;>simp only at hw ⊢ <;>try (cases hw;done)
    rename_i b;cases hb:b.at q with
    |none=>rw[hb] at hw;cases hw
    |some old =>
    rw[hb] at hw;simp only at hw ⊢;split at hw
    case isFalse=>cases hw
    rename_i hok;rw[if_pos hok];have J:gq j (A.aT n (.box (b.ev q (ak A u)))) v:=by
     have none0:mP j.op=some []→gq j (A.aT n (.box (b.ev q (ak A u)))) v:=fun hm=>hv.wD (p:=fun _=>false) hm (fun _ _=>rfl) (fun s hs'=>by cases hs') (fun m hm=>by cases hm);cases y with
     |c y =>
      simp only[n0,pq,iQ,Bool.false_or] at aq;split at aq
      ·rename_i hm;exact none0 hm
      ·cases aq
     |t y =>
      simp only[n0,pq,iQ,Bool.false_or] at aq;split at aq
      ·rename_i hm;exact none0 hm
      ·split at aq
       case h_2=>cases aq
       rename_i ms hms;obtain ⟨xs,hm,hx2⟩:=yC hinv aq;refine hv.wD hm (fun _ _=>rfl) hx2 fun m hm2 =>?_;have hn:=hinv y ms hms;simp only[ak] at hx;rw[hx] at hn;have:m≠n:=fun e=>by subst e;simp[I.only] at hn hm2;exact hm2 hn
       simp only[ai.aT,if_neg this]
    rw[J.to hj];have e:(A.aS j.dst v).aT n (.box (b.ev q (ak A u)))=(A.aT n (.box (b.ev q (ak A u)))).aS j.dst v:=by cases j.dst <;>rfl
    rw[←e];exact hw
   |dn e esz bytes z s x =>
    have hag:ee A (A.aS j.dst v) (s.sl++x.sl):=aH.jT ag';have he2:bl (A.aS j.dst v) dst (.dn e esz bytes z s x) rest (aB rest)=bl A dst (.dn e esz bytes z s x) (j::rest) fun B=>aB rest (B.aS j.dst v):=by
     cases hjd:j.dst with
     |none=>rfl
     |some d =>
      rw[hjd] at hag;exact Hk (fun e=>i2 d hjd e) hag rest (j::rest) (aB rest)
    rw[he2] at hw;have iz:∀ B,gp A dst (ak A s) B→aB (j::rest) B=aB rest (B.aS j.dst v):=fun B hB=>by
     have hagB:ee A B j.da:=fun k hk=>hB.1 k fun e=>i3 k e hk;have:gq j B v:=by
      simp only[n0,pq,iQ,Bool.false_or,Bool.or_eq_true] at aq;rcases aq with aq | aq
      ·obtain ⟨xs,hm,hx2⟩:=yC hinv aq;exact hv.wD hm hagB hx2 fun m hm2=>by cases hm2
      ·have:=rR hinv aq;exact hv.cT (hB.2 (by simpa using this)) hagB
     rw[this.to hj]
    rcases yE A dst e esz bytes z s x (j::rest) with J | ⟨B,J,U⟩ | ⟨p,bC,J,U⟩
    ·rw[J] at hw;cases hw
    ·rw[J] at hw ⊢;rw[iz B U];exact hw
    ·rw[J] at hw ⊢;exact .any fun m hm=>by rw[iz _ (U m)];exact hw.yA m hm
   |_=>first | exact absurd rfl hsg | (simp[n0,pq,iQ] at aq)
  ·rw[he] at hw;cases hw
theorem bO.nA{L:dZ}{g:aH} : ∀ {l:List aH} {r:List aH} {A:ai},cX L A→(∀ j∈l,mI ab L j g=true∧h0 L j=true)→bO P Y ab K (aB (l++g::r) A)→bO P Y ab K (aB (g::(l++r)) A)
 | [],r,A,_,_,h=>h
 |j::l,r,A,hinv,hi,h=>by
  have hj:=(B3 (hi j (by simp)).1).1;obtain ⟨v,hv,U⟩:=bO.xP (g:=j) (rest:=l++g::r) hj h;have ah:=bO.nA (l:=l) (r:=r) (hv.sZ hinv (hi j (by simp)).2) (fun k hk=>hi k (by simp[hk])) U;refine bO.rT hinv (hi j (by simp)).1 ?_;rw[hv.to hj];exact ah
end
def rh:List Nat→Bool
 | []=>true
 |a::l => !l.contains a&&rh l
def p7(ab:List FuncId)(L:dZ)(gs:List aH)(cl:List Nat):List Nat→List Nat→Bool
 |_,[]=>true
 |before,i::σ=>(before.all fun j=>(cl.getD i 0).testBit j||mI ab L (gs.getD j default) (gs.getD i default))&&p7 ab L gs cl (i::before) σ
def tA(ab:List FuncId)(L:dZ)(on:List (List Nat))(gs:List aH)(cl:List Nat)(σ:List Nat):Bool :=
 (Nat.beq σ.length gs.length&&(rh σ&&(σ.all (fun i=>decide (i<gs.length))&&((List.range gs.length).all (fun i=>σ.contains i)&&gs.all fun g=>mQ g.op&&h0 L g))))&&(p7 ab L gs cl [] σ&&(List.range gs.length).all fun i=>(on.getD i []).all (fun k=>decide (k<i))&&Nat.beq (cl.getD i 0) (lu cl (on.getD i [])))
theorem wS:∀ {l:List Nat},rh l=true→l.Nodup
 | [],_=>List.nodup_nil
 |a::l,h=>by
  simp only[rh,t8,Bool.not_eq_true',List.contains_eq_mem,decide_eq_false_iff_not] at h;exact List.nodup_cons.2 ⟨h.1,wS h.2⟩
theorem uH{ab:List FuncId}{L:dZ}{gs:List aH}{cl:List Nat} : ∀ {σ before:List Nat},p7 ab L gs cl before σ=true→∀ s1 i s2,σ=s1++i::s2→∀ j,j∈before∨j∈s1→(cl.getD i 0).testBit j=true∨mI ab L (gs.getD j default) (gs.getD i default)=true
 | [],_,_,s1,i,s2,e,_,_=>by cases s1 <;>cases e
 |a::σ,before,h,s1,i,s2,e,j,hj=>by
  simp only[p7,t8,zz6,Bool.or_eq_true] at h;cases s1 with
  |nil =>
   simp only[zy8,zw2] at e;obtain ⟨rfl,rfl⟩:=e;rcases hj with hj | hj
   ·exact h.1 j hj
   ·cases hj
  |cons b s1 =>
   simp only[Z5,zw2] at e;obtain ⟨rfl,rfl⟩:=e;refine uH h.2 s1 i s2 rfl j ?_;rcases hj with hj | hj
   ·exact .inl (List.mem_cons_of_mem _ hj)
   ·rcases zw5.1 hj with hj | hj
    ·exact .inl (by rw[hj];exact List.mem_cons_self)
    ·exact .inr hj
def dY(σ:List Nat)(listed:Array Bool):List Nat:=σ.filter fun i => !listed.getD i true
def gz(gs:List aH)(σ:List Nat)(listed:Array Bool):List aH:=(dY σ listed).map fun i=>gs.getD i default
theorem xn{σ:List Nat}{listed:Array Bool}{i:Nat}(hn:σ.Nodup)(hi:i∈σ)(aq:i<listed.size)(hu:listed.getD i true=false):∃ s1 s2,σ=s1++i::s2∧dY σ listed=(s1.filter fun j => !listed.getD j true)++i::(s2.filter fun j => !listed.getD j true) ∧
  dY σ (listed.setIfInBounds i true)=(s1.filter fun j => !listed.getD j true)++(s2.filter fun j => !listed.getD j true):=by
 obtain ⟨s1,s2,rfl⟩:=List.append_of_mem hi;have same:∀ j,j≠i→(listed.setIfInBounds i true).getD j true=listed.getD j true:=fun j hj=>getD_set_ne true (Ne.symm hj);have hit:(listed.setIfInBounds i true).getD i true=true:=by simp[aq]
 have hnd:=List.nodup_append.1 hn;have J:∀ j∈s1,j≠i:=fun j hj=>hnd.2.2 j hj i List.mem_cons_self;have U:∀ j∈s2,j≠i:=fun j hj e=>(List.nodup_cons.1 hnd.2.1).1 (e▸hj);refine ⟨s1,s2,rfl,?_,?_⟩
 ·simp only[dY,List.filter_append,zw4,hu,Bool.not_false,if_true]
 ·simp only[dY,List.filter_append,zw4,hit,Bool.not_true,Z2,if_false]
  congr 1
  ·exact List.filter_congr fun j hj=>by rw[same j (J j hj)]
  ·exact List.filter_congr fun j hj=>by rw[same j (U j hj)]
structure yp (ab:List FuncId) (L:dZ) (l:List Oper) (gs:List aH) (σ:List Nat):Prop where
 nW:σ.Nodup
 lt:∀ i∈σ,i<gs.length
 all:∀ i,i<gs.length→i∈σ
 ok:∀ g∈gs,mQ g.op=true∧h0 L g=true
 len:σ.length=gs.length
 iu:∀ i o,l[i]?=some o→∀ k∈cw o,k<i
 pg:∀ (S:Nat→Prop),(∀ i o,l[i]?=some o→S i→∀ k∈cw o,S k)→∀ s1 i s2 o,σ=s1++i::s2→l[i]?=some o→(∀ k∈cw o,S k)→∀ j∈s1,¬ S j→mI ab L (gs.getD j default) (gs.getD i default)=true
theorem Ye{ab:List FuncId}{L:dZ}{l:List Oper}{gs:List aH}{cl σ:List Nat}(hlen:gs.length=l.length)(h:tA ab L (l.map cw) gs cl σ=true):yp ab L l gs σ:=by
 simp only[tA,t8,zz6,decide_eq_true_eq,zy6,List.contains_eq_mem] at h;obtain ⟨⟨J,U,ah,ar,h5⟩,h6,h7⟩:=h;have fG:∀ i o,l[i]?=some o→(∀ k∈cw o,k<i)∧(∀ j,(cl.getD i 0).testBit j=true→j∈cw o∨∃ k∈cw o,(cl.getD k 0).testBit j=true):=by
  intro i o ho;have hi:i<l.length:=(Z6.1 ho).1;have h8:=h7 i (by omega);have hon:(l.map cw).getD i []=cw o:=by simp[Z0,ho]
  rw[hon] at h8;have hb:=Nat.eq_of_beq_eq_true h8.2;exact ⟨h8.1,fun j hj=>rX (by rw[←hb];exact hj)⟩
 refine ⟨wS U,ah,ar,h5,Nat.eq_of_beq_eq_true J,fun i o ho=>(fG i o ho).1,?_⟩;intro S hS s1 i s2 o e ho hon j hj hnj;have key:∀ n i o,i≤n→l[i]?=some o→(∀ k∈cw o,S k)→∀ j,(cl.getD i 0).testBit j=true→S j:=by
  intro n
  induction n with
  |zero =>
   intro i o hi ho hon j hj;obtain ⟨h8,h9⟩:=fG i o ho;rcases h9 j hj with h | ⟨k,hk,_⟩
   ·exact hon j h
   ·have:=h8 k hk;omega
  |succ n ih =>
   intro i o hi ho hon j hj;obtain ⟨h8,h9⟩:=fG i o ho;rcases h9 j hj with h | ⟨k,hk,hjk⟩
   ·exact hon j h
   ·have hki:=h8 k hk;have hkl:k<l.length:=Nat.lt_trans hki (Z6.1 ho).1;obtain ⟨ok,hok⟩:∃ ok,l[k]?=some ok:=⟨l[k],zz4 hkl⟩
    exact ih k ok (by omega) hok (hS k ok hok (hon k hk)) j hjk
 rcases uH h6 s1 i s2 e j (.inr hj) with h | h
 ·exact absurd (key i i o (Z4 _) ho hon j h) hnj
 ·exact h
section
variable {c:cV}
theorem sO{K:ai→Prop}{ab:List FuncId}{L:dZ}{aV:Array Oper}{Q:Exit→Act→World→Prop}{o:Oper}{g:aH}{rest:List aH}{A:ai}{a:Act}{w:World}{Kw:Act→World→Prop}(hg:lF c.P c.n aV o=some g)(hi:cX L A)(ho:mQ g.op=true∧h0 L g=true)(hwp:bO c.P c.Y ab K (aB (g::rest) A))(hs':b5 c A a w)
  (hK:∀ B a' w',bO c.P c.Y ab K (aB rest B)→cX L B→b5 c B a' w'→Kw a' w'):if Region.wanted o (yielded aV a.tmps) then o.wpIn c.bC 9 c.P a w Kw Q else (∀ f,o.about c.P w a.eval=some f→c.bC.fn f)∧Kw (a.put o.dst undef) w:=by
 obtain ⟨J,U,ah,ar⟩:=nB hg;have step:bO c.P c.Y ab K (bl A g.dst g.op rest (aB rest))→o.wpIn c.bC 9 c.P a w Kw Q:=fun h =>
  sP J U.symm (by rw[U];exact ah) (bO.one (Y:=c.Y) hi ho.1 ho.2 h) hs' (fun B a' w' hw hs2=>by
   cases hw with
   |done hk=>exact hK B a' w' hk.1 hk.2 hs2)
 simp only[aB] at hwp;rcases ar with ⟨h5,h6⟩ | ⟨j,b,t,h5,h6,h7⟩
 ·rw[h6] at hwp;have hw:Region.wanted o (yielded aV a.tmps)=true:=by simp[Region.wanted,h5]
  rw[hw,if_pos rfl];exact step hwp
 ·rw[h7] at hwp;simp only at hwp;split at hwp
  ·rename_i b' hb';rw[sV hs' h5 h6 hb'];split at hwp
   ·rename_i hbb;subst hbb;simp only[BEq.rfl,if_true];exact step hwp
   ·rename_i hbb;have:(b'==b)=false:=by simpa using hbb
    rw[this];simp only[Z2,if_false];exact ⟨fun f _=>lN c f,hK _ _ _ hwp (hi.put (fun _=>rfl) fun _ _ _ _=>rfl) (by rw[U];exact hs'.mY ah)⟩
  ·rename_i hb';rw[sW hs' h5 h6 hb'];simp only[Z2,if_false];exact ⟨fun f _=>lN c f,hK _ _ _ hwp (hi.put (fun _=>rfl) fun _ _ _ _=>rfl) (by rw[U];exact hs'.mY ah)⟩
  ·cases hwp
theorem G7{K:ai→Prop}{fs:List FuncId}{L:dZ}{aV:Array Oper}{gs:List aH}{σ:List Nat}{Q:Exit→Act→World→Prop}(hQ:∀ B a w,K B→b5 c B a w→Q .normal a w)(hgs:fO c.P c.n aV aV.toList=some gs)(af:yp fs L aV.toList gs σ) :
  ∀ (fuel:Nat) (listed:Array Bool) (A:ai) (a:Act) (w:World),listed.size=aV.size→(∀ i o,aV.toList[i]?=some o→listed.getD i false=true→∀ k∈cw o,listed.getD k false=true)→(dY σ listed).length≤fuel →
   cX L A→bO c.P c.Y fs K (aB (gz gs σ listed) A)→b5 c A a w→wpAnyIn c.bC 9 c.P .any aV Q fuel listed a w:=by
 obtain ⟨hlen,hat⟩:=iv hgs;have onOf_mem:∀ (o:Oper) (e:Edge),e∈o.after→Region.binds .any e=true→e.on∈cw o:=fun o e he hb=>by
  simp only[cw,zy1,zx5];exact ⟨e,⟨by simpa using he,hb⟩,rfl⟩
 have of_onOf:∀ (o:Oper) (k:Nat),k∈cw o→∃ e∈o.after,Region.binds .any e=true∧e.on=k:=fun o k hk=>by
  simp only[cw,zy1,zx5] at hk;obtain ⟨e,⟨J,U⟩,ah⟩:=hk;exact ⟨e,by simpa using J,U,ah⟩
 have hgl:gs.length=aV.size:=by rw[hlen,zy2]
 have last:∀ (listed:Array Bool) (A:ai) (a:Act) (w:World),listed.size=aV.size→Region.ready .any aV listed=[]→bO c.P c.Y fs K (aB (gz gs σ listed) A)→b5 c A a w→Q .normal a w:=by
  intro listed A a w hsz hr hwp ab;have hnone:dY σ listed=[]:=by
   have all:∀ n,∀ i,i<n→i<aV.size→listed.getD i true=true:=by
    intro n
    induction n with
    |zero=>intro i hi;omega
    |succ n ih =>
     intro i hi his;cases hb:listed.getD i true with
     |true=>rfl
     |false =>
      exfalso
      have ho:aV[i]?=some aV[i]:=zw0 his;have:i∈Region.ready .any aV listed:=mem_ready.2 ⟨hb,aV[i],ho,fun e he hbd=>by
       have hlt:=af.iu i aV[i] (by simp) e.on (onOf_mem _ e he hbd);have J:=ih e.on (by omega) (by omega);have U:e.on<listed.size:=by omega
       simpa[Array.getD_eq_getD_getElem?,U] using J⟩
      rw[hr] at this;cases this
   simp only[dY];refine List.filter_eq_nil_iff.2 fun i hi =>?_;have:=all (i+1) i (by omega) (by rw[←hgl];exact af.lt i hi);simp only[this,Bool.not_true,Z2,not_false_eq_true]
  simp only[gz,hnone,zx0,aB] at hwp;cases hwp with
  |done hk=>exact hQ A a w hk ab
 intro fuel
 induction fuel with
 |zero =>
  intro listed A a w hsz hcl hcnt hinv hwp ab;have hnone:dY σ listed=[]:=List.length_eq_zero_iff.1 (by omega);have hr:Region.ready .any aV listed=[]:=by
   refine List.eq_nil_iff_forall_not_mem.2 fun i hi =>?_;obtain ⟨J,o,ho,_⟩:=mem_ready.1 hi;have:i∈dY σ listed:=by
    simp only[dY,zx5,J,Bool.not_false,and_true];exact af.all i (by rw[hgl];exact (zz2.1 ho).1)
   rw[hnone] at this;cases this
  exact ⟨hr,last listed A a w hsz hr hwp ab⟩
 |succ fuel ih =>
  intro listed A a w hsz hcl hcnt hinv hwp ab;refine ⟨fun hr=>last listed A a w hsz hr hwp ab,fun i hi =>?_⟩;obtain ⟨hun,o,ho,hall⟩:=mem_ready.1 hi;have hin:i<aV.size:=(zz2.1 ho).1;obtain ⟨s1,s2,hσ,e1,e2⟩:=xn af.nW (af.all i (by omega)) (by omega) hun;have hol:aV.toList[i]?=some o:=by simpa using ho
  obtain ⟨g,hgi,hcg⟩:=hat i o hol;have hon:∀ k∈cw o,listed.getD k false=true:=fun k hk=>by
   obtain ⟨e,J,U,ah⟩:=of_onOf o k hk;exact ah▸hall e J U
  have hgd:gs.getD i default=g:=by simp[Z0,hgi]
  have hwp':bO c.P c.Y fs K (aB (g::gz gs σ (listed.setIfInBounds i true)) A):=by
   simp only[gz,e1,zz3,Z3,hgd] at hwp;simp only[gz,e2,zz3];refine bO.nA hinv (fun j hj =>?_) hwp;obtain ⟨k,hk,rfl⟩:=zy1.1 hj;obtain ⟨hk1,hk2⟩:=zx5.1 hk;have:=af.pg (fun k=>listed.getD k false=true) hcl s1 i s2 o hσ hol hon k hk1 (by
    have hks:k<listed.size:=by
     have:=af.lt k (by rw[hσ];exact List.mem_append_left _ hk1);omega
    simp[Array.getD_eq_getD_getElem?,hks] at hk2 ⊢;exact hk2)
   rw[hgd] at this;refine ⟨this,(af.ok _ ?_).2⟩;have hkl:=af.lt k (by rw[hσ];exact List.mem_append_left _ hk1);rw[Z0,zz4 hkl];exact zx8 _
  unfold wpOpIn;rw[ho];refine sO hcg hinv (af.ok g (List.mem_of_getElem? hgi)) hwp' ab fun B a' w' hw hiB hs'=>ih _ B a' w' (by simpa using hsz) ?_ ?_ hiB hw hs'
  ·intro m om hom hm k hk;by_cases hmi:m=i
   ·subst hmi;rw[hol,v6] at hom;subst hom;exact getD_set_true (hon k hk)
   ·rw[getD_set_ne false (Ne.symm hmi)] at hm;exact getD_set_true (hcl m om hom hm k hk)
  ·have:(dY σ listed).length=(dY σ (listed.setIfInBounds i true)).length+1:=by
    rw[e1,e2];simp;omega
   omega
def ff(σ:List Nat)(gs:List aH):List aH:=σ.map fun i=>gs.getD i default
theorem ae.YL{Q:Exit→ai→Prop}{A:ai}{on:List (List Nat)}{gs:List aH}(ab:List FuncId)(L:dZ)(cl σ:List Nat)(af:tA ab L on gs cl σ=true)(hi:cX L A)(h:∀ K:ai→Prop,(∀ B,Q .normal B→K B)→bO c.P c.Y ab K (aB (ff σ gs) A)):ae c (.cu (some on) gs) Q A:=by
 intro code hc a w hs';cases code <;>simp only[eA] at hc <;>try (first | (cases hc;done) | ((repeat' split at hc) <;>cases hc;done))
 rename_i id aV draw;split at hc
 ·rename_i gs' hgs;split at hc
  case isFalse=>cases hc
  rename_i hok;simp only[v6,bu.cu.injEq] at hc;obtain ⟨he,rfl⟩:=hc;cases draw with
  |false=>cases he
  |true =>
   simp only[cond_true,v6] at he;subst he;simp only[Bool.not_true,Bool.false_or] at hok;have hp:=Ye (iv hgs).1 af;refine wpIn_region_any hok (G7 (K:=Q .normal) (fun B a w hk ab=>⟨B,hk,ab⟩) hgs hp aV.size (Array.replicate aV.size false) A a _ (by simp) ?_ ?_ hi ?_ ?_)
   ·intro i o _ h
    exfalso
    simp only[Array.getD_eq_getD_getElem?,Array.getElem?_replicate] at h;split at h <;>simp at h
   ·refine zw3 (List.length_filter_le _ _) ?_;rw[hp.len,(iv hgs).1,zy2];exact Z4 _
   ·have hall:dY σ (Array.replicate aV.size false)=σ:=by
     simp only[dY];refine List.filter_eq_self.2 fun i hi =>?_;have J:=hp.lt i hi;rw[(iv hgs).1,zy2] at J;simp[J]
    simp only[gz,hall];exact h _ fun _ hb=>hb
   ·obtain ⟨D,E,hs'⟩:=hs';exact ⟨D,E,hs'.grow (w' := { w with drawn:=w.drawn+1 }) ⟨rfl,rfl,rfl,Z4 _,fun _ _=>rfl⟩ (fun _ _ h=>h) (fun _ _ h _=>h) (fun b o h=>hs'.aQ b o h)⟩
 ·cases hc
def fw(ts:List (Nat×I)):dZ→Prop
 | []=>True
 |(s,ns)::L=>(bY ts s).only (fun n=>ns.contains n)=true∧fw ts L
theorem cX.of{ts:List (Nat×I)}{os:List (Nat×ao)}{L:dZ}(h:fw ts L):cX L (av ts os):=by
 intro s ns hn;simp only[av]
 induction L with
 |nil=>cases hn
 |cons q L ih =>
  obtain ⟨s',ns'⟩:=q;simp only[fw] at h;simp only[hZ,List.find?_cons] at hn;split at hn
  ·rename_i e;simp only[zz0,v6] at hn;simp only[beq_iff_eq] at e;subst e hn;exact h.1
  ·exact ih h.2 hn
end
end Go.Abs
namespace Go.Abs
open Go Go.RowKit
open Enc (enc)
section
variable {α:Type} [Enc α] {P:Program} {Y:Value→List I→List (Nat×ao)→cK→Prop} {K:ai→Prop} {A:ai} {rest:List aH} {esz bytes:Nat}
theorem tT{n lo k:Nat}{xs:List α}(ho:A.o n=some (.box (.agg (xs.map enc))))(h:lo+k≤xs.length):eJ A esz (.view n [] esz lo k)=some (((xs.drop lo).take k).map enc):=by
 have J:cM A (.ptr n [])=some (.agg (xs.map enc)):=by simp only[cM,ho];rfl
 simp only[eJ,J,Z8];rw[if_pos ⟨h,trivial⟩,List.map_take,List.map_drop]
theorem Zi{xs ys:List α}(h:xs.length=ys.length):I.c7 (xs.map enc)=I.c7 (ys.map enc):=by
 rw[xM,xM,h]
theorem yD{d:Option Nat}{e:Nat}(z:I)(ab:Enc.sz α=esz){n l:Nat}{xs ys:List α}(hy:ys≠[])(ho:A.o n=some (.box (.agg (xs.map enc))))(hr:l+ys.length≤xs.length) :
  fN A d e esz bytes z (enc ys) rest (.view n [] esz 0 l)=aB rest ((A.aT n (.box (.agg ((xs.take l++(ys++xs.drop (l+ys.length))).map enc)))).aS d (.view n [] esz 0 (l+ys.length))):=by
 have J:=tT (A:=A) (esz:=esz) (lo:=0) (k:=l) ho (by omega);have U:(I.agg (xs.map (enc (α:=α)))).at []=some (.agg (xs.map enc)):=rfl;have ah:I.c7 (ys.map (enc (α:=α)))=I.c7 (((xs.map (enc (α:=α))).drop l).take ys.length):=by
  rw[←List.map_drop,←List.map_take];exact Zi (by rw[zy9,List.length_drop];omega)
 simp only[fN,J,nk A esz ys ab,e6];rw[if_neg (by simpa using hy)];simp only[ho,U,Z8,Z1];rw[if_pos hr,if_pos ⟨rfl,by rw[Z8,Z1];exact ah⟩];simp only[jf,ot,Z8,zz3,List.map_take,List.map_drop]
theorem aR.Hc{d e:Nat}(z:α)(ab:Enc.sz α=esz){n l:Nat}{xs ys:List α}(hy:ys≠[])(ho:A.o n=some (.box (.agg (xs.map enc))))(aq:l≤xs.length)(hr:xs.length<l+ys.length)(hf:A.o d=none)(hb:(l+ys.length)*bytes≤140737488355328)(hml:l+ys.length≤maxLen)
  (h:∀ q,aR P Y false K (aB rest ((A.aT d (.box (.agg ((xs.take l++(ys++List.replicate q z)).map enc)))).aS (some d) (.view d [] esz 0 (l+ys.length))))):aR P Y false K (fN A (some d) e esz bytes (enc z) (enc ys) rest (.view n [] esz 0 l)):=by
 have J:=tT (A:=A) (esz:=esz) (lo:=0) (k:=l) ho (by omega);have U:(I.agg (xs.map (enc (α:=α)))).at []=some (.agg (xs.map enc)):=rfl;have ar:(xs.take l).length=l:=by rw[zy9];omega
 simp only[fN,J,List.drop_zero,nk A esz ys ab,e6];rw[if_neg (by simpa using hy)];simp only[ho,U,Z8,Z1];rw[if_neg (by omega)];simp only[fW,hf,Z8,ar];rw[if_pos ⟨hb,hml⟩];refine .any rfl fun q _ =>?_;have:=h q;simp only[zz3,List.map_replicate] at this;exact this
theorem aR.He{d e q0:Nat}(z:α){l:List α}(ab:Enc.sz α=esz)(aq:l≠[])(hf:A.o d=none)(hb:l.length*bytes≤140737488355328)(hml:l.length≤maxLen)
  (h:∀ m,aR P Y false K (aB rest ((A.aT d (.box (.agg ((l++List.replicate m z).map enc)))).aS (some d) (.view d [] esz 0 l.length)))):aR P Y false K (fN A (some d) e esz bytes (enc z) (enc l) rest (.nils q0)):=by
 have hne:l.map (enc (α:=α))≠[]:=by simpa using aq
 have J:eJ A esz (.nils q0)=some []:=rfl;simp only[fN,J,nk A esz l ab,e6,if_neg hne,fW,hf,List.length_nil,Z1,Z8,if_pos (y6 hb hml),zy8];refine .any rfl fun m _ =>?_;have:=h m;simp only[zz3,List.map_replicate] at this;exact this
end
theorem qU(k:Nat):bY [] k=.dw:=rfl
def gY(L:List Nat):List (Nat×I)→List (Nat×I)
 | []=>[]
 |(s,v)::ts=>if L.contains s=true then (s,v)::gY L ts else gY L ts
theorem Wx(L:List Nat):gY L []=[]:=rfl
theorem Ww(L:List Nat)(s:Nat)(v:I)(ts:List (Nat×I)):gY L ((s,v)::ts)=if L.contains s=true then (s,v)::gY L ts else gY L ts:=rfl
theorem Cs(L:List Nat)(t:Nat):∀ ts,bY (gY L ts) t=.dw∨bY (gY L ts) t=bY ts t
 | []=>.inl rfl
 |(s,v)::ts=>by
  simp only[gY];have ih:=Cs L t ts;by_cases ab:L.contains s=true
  ·rw[if_pos ab];simp only[bY];split
   ·exact .inr rfl
   ·exact ih
  ·rw[if_neg ab];simp only[bY];split
   ·rename_i e;subst e
    left
    have:∀ ts,bY (gY L ts) t=.dw:=by
     intro ts
     induction ts with
     |nil=>rfl
     |cons q ts ih2 =>
      obtain ⟨s',v'⟩:=q;simp only[gY];split
      ·rename_i h';simp only[bY];have:t≠s':=fun e=>ab (e▸h');rw[if_neg this];exact ih2
      ·exact ih2
    exact this ts
   ·exact ih
theorem ae.qK(L:List Nat){c:cV}{x:bu}{Q:Exit→ai→Prop}{ts:List (Nat×I)}{os:List (Nat×ao)}(h:ae c x Q (av (gY L ts) os)):ae c x Q (av ts os):=by
 refine ae.sub ?_ h;rintro cc a w ⟨D,E,ab⟩;refine ⟨D,E,ab.sz,ab.eB,fun t =>?_,ab.dO,ab.c9,ab.aQ,ab.bP,ab.cQ,ab.dS,ab.eP,ab.cT,ab.eW,ab.fC⟩;simp only[av];rcases Cs L t ts with e | e
 ·rw[e];simp[aZ]
 ·rw[e];exact ab.dR t
theorem gJ:(∀ L,gY L []=[])∧(∀ L s v ts,gY L ((s,v)::ts)=if L.contains s=true then (s,v)::gY L ts else gY L ts)∧(∀ (a:Nat) l b,(a::l).contains b=(b==a||l.contains b))∧(∀ b:Nat,([]:List Nat).contains b=false)∧(∀ b,(false||b)=b)∧(∀ b,(true||b)=true)∧(∀ b,(b||true)=true)∧(∀ b,(b||false)=b)∧((false=true)=False) :=
 ⟨Wx,Ww,fun _ _ _=>List.contains_cons,fun _=>rfl,fun _=>rfl,fun _=>rfl,fun b=>by cases b <;>rfl,fun b=>by cases b <;>rfl,by simp⟩
end Go.Abs
namespace Go.Abs
open Go Go.RowKit
open Enc (enc)
def wE:Option ao→Option (List I×List I)
 |some (.bz ks vs)=>some (ks,vs)
 |_=>none
noncomputable def qX(A:ai)(n:Nat)(rest:List aH):Option (List I×List I)→cO
 |some (ks,vs)=>aB rest (A.aT n (.bz ks vs))
 |none=>.fail
noncomputable def wN(A:ai)(n:Nat)(ty:cJ)(k v:I)(rest:List aH):Option ao→cO
 |some (.bz ks vs)=>qX A n rest (fy ty k v ks vs)
 |_=>.fail
noncomputable def wM(A:ai)(ty:cJ)(k v:I)(rest:List aH):I→cO
 | .mref n=>wN A n ty k v rest (A.o n)
 |_=>.fail
noncomputable def wI(A:ai)(n:Nat)(ty:cJ)(k:I)(rest:List aH):Option ao→cO
 |some (.bz ks vs)=>qX A n rest (lS ty k ks vs)
 |_=>.fail
noncomputable def wH(A:ai)(ty:cJ)(k:I)(rest:List aH):I→cO
 | .mref n=>wI A n ty k rest (A.o n)
 |_=>.fail
noncomputable def wL(A:ai)(d:Nat)(rest:List aH):Option ao→cO
 |none=>aB rest ((A.aT d (.bz [] [])).put d (.mref d))
 |some _=>.fail
open Classical in
noncomputable def CG(A:ai)(d bytes:Nat)(z:I)(rest:List aH):I→cO
 | .int _ n=>if 0≤n∧n.toNat*bytes≤281474976710656∧n.toNat≤maxLen then aB rest ((A.aT d (.box (.agg (List.replicate n.toNat z)))).put d (.view d [] 1 0 n.toNat)) else .fail
 |_=>.fail
noncomputable def tl(A:ai)(d bytes:Nat)(z n:I)(rest:List aH):Option ao→cO
 |none=>CG A d bytes z rest n
 |some _=>.fail
noncomputable def tP(A:ai)(d:Nat)(rest:List aH):I→cO
 | .dj ks vs=>aB rest ((A.aT d (.it ks vs (List.range ks.length) none)).put d (.dq d))
 |_=>.fail
noncomputable def tO(A:ai)(d:Nat)(x:I)(rest:List aH):Option ao→cO
 |none=>tP A d rest x
 |some _=>.fail
def vr:Option ao→Option I
 |some (.it ks vs _ cur)=>mF ks vs cur
 |_=>none
def vq(A:ai):I→Option I
 | .dq n=>vr (A.o n)
 |_=>none
open Classical in
noncomputable def pC(A:ai)(d:Option Nat)(n:Nat)(rest:List aH):Option ao→cO
 |some (.it ks vs left _)=>if left=[] then aB rest (A.aS d (.tuple [.bool false])) else
   .any (fun i=>i∈left) fun i=>match ks[i]?,vs[i]? with
    |some kk,some x=>aB rest ((A.aT n (.it ks vs (left.filter (· != i)) (some i))).aS d (.tuple [.bool true,kk,x]))
    |_,_=>.fail
 |_=>.fail
noncomputable def wV(A:ai)(d:Option Nat)(rest:List aH):I→cO
 | .dq n=>pC A d n rest (A.o n)
 |_=>.fail
section
variable (d:Option Nat) (rest:List aH) (A:ai)
theorem XP(x:aO):bK A d (.nilC x) rest=cS (lT (ak A x)) (dh d rest A):=rfl
theorem XT(neg:Bool)(x y:aO):bK A d (.ptrE neg x y) rest=cS (mX neg (iB (ak A x)) (iB (ak A y))) (dh d rest A):=rfl
theorem XI(ty:cJ)(z:I)(ok:Bool)(m k:aO):bK A d (.lk ty z ok m k) rest=cS (qQ ty z ok (ak A k) (fZ A (ak A m))) (dh d rest A):=rfl
theorem WY(n:Nat):fZ A (.mref n)=wE (A.o n):=by
 simp only[fZ];cases A.o n with
 |none=>rfl
 |some y=>cases y <;>rfl
theorem XN(ty:cJ)(m k v:aO):bK A none (.eT ty m k v) rest=wM A ty (ak A k) (ak A v) rest (ak A m):=by
 simp only[bK,bl];cases ak A m <;>rfl
theorem XJ(ty:cJ)(m k:aO):bK A none (.iC ty m k) rest=wH A ty (ak A k) rest (ak A m):=by
 simp only[bK,bl];cases ak A m <;>rfl
theorem XL(d:Nat):bK A (some d) .iD rest=wL A d rest (A.o d):=by
 simp only[bK,bl];cases A.o d <;>rfl
theorem XM(d e bytes:Nat)(z:I)(n:aO):bK A (some d) (.kj e bytes z n) rest=tl A d bytes z (ak A n) rest (A.o d):=by
 simp only[bK,bl];cases A.o d with
 |some _=>rfl
 |none=>simp only[tl];cases ak A n <;>rfl
theorem XU(d:Nat)(x:aO):bK A (some d) (.jz x) rest=tO A d (ak A x) rest (A.o d):=by
 simp only[bK,bl];cases A.o d with
 |some _=>rfl
 |none=>simp only[tO];cases ak A x <;>rfl
theorem Xx(x:aO):bK A d (.ent x) rest=cS (vq A (ak A x)) (dh d rest A):=by
 simp only[bK,bl,bo];cases ak A x <;>rfl
theorem XR(x:aO):bK A d (.ic x) rest=wV A d rest (ak A x):=by
 simp only[bK,bl];cases ak A x <;>rfl
end
theorem Cy:(∀ rest A ty m k,bK A none (.iC ty m k) rest=wH A ty (ak A k) rest (ak A m))∧(∀ A ty k rest n,wH A ty k rest (.mref n)=wI A n ty k rest (A.o n))∧(∀ A n ty k rest ks vs,wI A n ty k rest (some (.bz ks vs))=qX A n rest (lS ty k ks vs)) ∧
  (∀ d rest A x y,bK A d (.max2 x y) rest=cS (qY (ak A x) (ak A y)) (dh d rest A))∧(∀ a b,qY (.int .i64 a) (.int .i64 b)=some (.int .i64 (if b>a then b else a)))∧((I.any).bA=true) :=
 ⟨fun rest A=>XJ rest A,fun _ _ _ _ _=>rfl,fun _ _ _ _ _ _ _=>rfl,fun _ _ _ _ _=>rfl,fun _ _=>rfl,rfl⟩
theorem mO :
  (∀ d rest A x,bK A d (.nilC x) rest=cS (lT (ak A x)) (dh d rest A))∧(∀ n p,lT (.ptr n p)=some (.ptr n p))∧(∀ x,lT (.ref x)=some (.ref x)) ∧
  (∀ d rest A neg x y,bK A d (.ptrE neg x y) rest=cS (mX neg (iB (ak A x)) (iB (ak A y))) (dh d rest A))∧(iB .nilp=some true)∧(∀ n p,iB (.ptr n p)=some false)∧(∀ x,iB (.ref x)=some false) ∧
  (mX false (some true) (some true)=some (.bool true))∧(mX false (some false) (some true)=some (.bool false))∧(mX true (some true) (some true)=some (.bool false))∧(mX true (some false) (some true)=some (.bool true)) ∧
  (∀ d rest A ty z ok m k,bK A d (.lk ty z ok m k) rest=cS (qQ ty z ok (ak A k) (fZ A (ak A m))) (dh d rest A))∧(∀ A n,fZ A (.mref n)=wE (A.o n))∧(∀ A ks vs,fZ A (.dj ks vs)=some (ks,vs))∧(∀ ks vs,wE (some (.bz ks vs))=some (ks,vs)) ∧
  (∀ ty z ok k ks vs,qQ ty z ok k (some (ks,vs))=qR ok (fk ty z k ks vs))∧(∀ v b,qR false (some (v,b))=some v)∧(∀ v b,qR true (some (v,b))=some (.tuple [v,.bool b])) ∧
  (∀ rest A ty m k v,bK A none (.eT ty m k v) rest=wM A ty (ak A k) (ak A v) rest (ak A m))∧(∀ A ty k v rest n,wM A ty k v rest (.mref n)=wN A n ty k v rest (A.o n))∧(∀ A n ty k v rest ks vs,wN A n ty k v rest (some (.bz ks vs))=qX A n rest (fy ty k v ks vs)) ∧
  (∀ A n rest ks vs,qX A n rest (some (ks,vs))=aB rest (A.aT n (.bz ks vs))) ∧
  (∀ rest A d,bK A (some d) .iD rest=wL A d rest (A.o d))∧(∀ A d rest,wL A d rest none=aB rest ((A.aT d (.bz [] [])).put d (.mref d))) ∧
  (∀ rest A d e bytes z n,bK A (some d) (.kj e bytes z n) rest=tl A d bytes z (ak A n) rest (A.o d))∧(∀ A d bytes z n rest,tl A d bytes z n rest none=CG A d bytes z rest n) ∧
  (∀ rest A d x,bK A (some d) (.jz x) rest=tO A d (ak A x) rest (A.o d))∧(∀ A d x rest,tO A d x rest none=tP A d rest x)∧(∀ A d rest ks vs,tP A d rest (.dj ks vs)=aB rest ((A.aT d (.it ks vs (List.range ks.length) none)).put d (.dq d))) ∧
  (∀ d rest A x,bK A d (.ent x) rest=cS (vq A (ak A x)) (dh d rest A))∧(∀ A n,vq A (.dq n)=vr (A.o n))∧(∀ ks vs l cur,vr (some (.it ks vs l cur))=mF ks vs cur) ∧
  (∀ d rest A x,bK A d (.ic x) rest=wV A d rest (ak A x))∧(∀ A d rest n,wV A d rest (.dq n)=pC A d n rest (A.o n)) :=
 ⟨XP,fun _ _=>rfl,fun _=>rfl,XT,rfl,fun _ _=>rfl,fun _=>rfl,rfl,rfl,rfl,rfl,XI,WY,fun _ _ _=>rfl,fun _ _=>rfl,fun _ _ _ _ _ _=>rfl,fun _ _=>rfl,fun _ _=>rfl,
  fun rest A ty m k v=>XN rest A ty m k v,fun _ _ _ _ _ _=>rfl,fun _ _ _ _ _ _ _ _=>rfl,fun _ _ _ _ _=>rfl,fun rest A d=>XL rest A d,fun _ _ _=>rfl,fun rest A d e bytes z n=>XM rest A d e bytes z n,fun _ _ _ _ _ _=>rfl,
  fun rest A d x=>XU rest A d x,fun _ _ _ _=>rfl,fun _ _ _ _ _=>rfl,Xx,fun _ _=>rfl,fun _ _ _ _=>rfl,XR,fun _ _ _ _=>rfl⟩
theorem bw:(∀ n p z lo k,cg none (.view n p z lo k)=true)∧(∀ n,cg none (.mref n)=true)∧(∀ n p,cg none (.ptr n p)=true)∧(∀ x,cg none (.ref x)=true)∧cg none .nilp=true∧cg none .dB=true∧cg none (.raw (.map none))=true∧(∀ ks vs,cg none (.dj ks vs)=true)∧(∀ {α:Type} [Enc α] (l:List α),cg none (enc l)=true) :=
 ⟨fun _ _ _ _ _=>rfl,fun _=>rfl,fun _ _=>rfl,fun _=>rfl,rfl,rfl,rfl,fun _ _=>rfl,fun l=>by simp[kc,kb]⟩
section
variable {α:Type} [Enc α] [DecidableEq α] {ty:cJ}
theorem sM(aA:∀ x y:α,ca ty (enc x) (enc y)=some (decide (x=y)))(k:α):∀ (ks:List α) (i:Nat),eD ty (enc k) (ks.map enc) i=some ((ks.findIdx? fun x=>decide (k=x)).map (· + i))
 | [],i=>rfl
 |x::ks,i=>by
  simp only[Z3,eD,aA,List.findIdx?_cons];by_cases h:k=x
  ·simp[h]
  ·simp only[h,decide_false,Z2,if_false];rw[sM aA k ks (i+1)];cases ks.findIdx? fun x=>decide (k=x) with
   |none=>rfl
   |some j=>simp;omega
theorem td(aA:∀ x y:α,ca ty (enc x) (enc y)=some (decide (x=y)))(z:I)(k:α)(ks:List α)(vs:List I) :
  fk ty z (enc k) (ks.map enc) vs=match ks.findIdx? fun x=>decide (k=x) with
   |some i=>(vs[i]?).map fun v=>(v,true)
   |none=>some (z,false):=by
 simp only[fk,aA,Option.isSome_some,if_true,sM aA];cases ks.findIdx? fun x=>decide (k=x) <;>rfl
theorem wO(aA:∀ x y:α,ca ty (enc x) (enc y)=some (decide (x=y)))(k:α)(v:I)(hv:v.bT=true)(ks:List α)(vs:List I) :
  fy ty (enc k) v (ks.map enc) vs=match ks.findIdx? fun x=>decide (k=x) with
   |some i=>some (ks.map enc,vs.set i v)
   |none=>some ((ks++[k]).map enc,vs++[v]):=by
 simp only[fy,aA,Option.isSome_some,hv,B7 (ka k),and_self,if_true,sM aA];cases ks.findIdx? fun x=>decide (k=x) with
 |none=>simp
 |some i=>rfl
omit [Enc α] in
theorem qp{k:α}{ks:List α} : (ks.findIdx? fun x=>decide (k=x)).isSome=decide (k∈ks):=by
 induction ks with
 |nil=>rfl
 |cons x ks ih =>
  simp only[List.findIdx?_cons,zw5];by_cases h:k=x
  ·simp[h]
  ·simp only[h,decide_false,Z2,if_false,Option.isSome_map,ih,false_or]
theorem gn(aA:∀ x y:α,ca ty (enc x) (enc y)=some (decide (x=y)))(k:α)(ks:List α):fk ty (.bool false) (enc k) (ks.map enc) (List.replicate ks.length (.bool true))=some (.bool (decide (k∈ks)),decide (k∈ks)):=by
 rw[td aA,←qp];cases h:ks.findIdx? fun x=>decide (k=x) with
 |none=>rfl
 |some i =>
  have:=(List.findIdx?_eq_some_iff_getElem.1 h).1;simp[this]
def gO{α:Type}[DecidableEq α](ks:List α)(k:α):List α:=if k∈ks then ks else ks++[k]
theorem wP(aA:∀ x y:α,ca ty (enc x) (enc y)=some (decide (x=y)))(k:α)(ks:List α):fy ty (enc k) (.bool true) (ks.map enc) (List.replicate ks.length (.bool true))=some ((gO ks k).map enc,List.replicate (gO ks k).length (.bool true)):=by
 rw[wO aA k _ rfl];have hm:=qp (k:=k) (ks:=ks);cases h:ks.findIdx? fun x=>decide (k=x) with
 |none =>
  rw[h] at hm;have:k∉ks:=by simpa using hm.symm
  simp only[gO,if_neg this]
  congr 2
  rw[Z7,zw1,List.replicate_succ']
 |some i =>
  rw[h] at hm;have:k∈ks:=by simpa using hm.symm
  simp only[gO,if_pos this]
  congr 2
  have:=(List.findIdx?_eq_some_iff_getElem.1 h).1;exact List.ext_getElem (by simp) fun j J U=>by
   simp only[List.getElem_set,List.getElem_replicate];split <;>rfl
end
theorem Wu{m sz lo l i:Nat}{fs:List I}(h:i<l):mK m [] sz lo l sz (i:Int) (some fs)=some (.ptr m [lo+i]):=by rw[Wt h];rfl
theorem AH:(∀ {α:Type} [Enc α] (x:α),(enc x).bA=true)∧(∀ n p z lo k,(I.view n p z lo k).bA=false)∧(∀ n,(I.mref n).bA=false)∧(∀ n p,(I.ptr n p).bA=false)∧(∀ n k,(I.own n k).bA=false) :=
 ⟨@ka,fun _ _ _ _ _=>rfl,fun _=>rfl,fun _ _=>rfl,fun _ _=>rfl⟩
end Go.Abs
namespace Go.Abs
open Go Go.RowKit
open Enc (enc)
theorem bm.G1{A:ai}{d n T z:Nat}(af:A.t d=.nils z)(hn:A.o n=none)(hlt:n<1000000):bm A ((A.aT n (.dK T [])).put d (.own n 0)):=by
 rintro c a w ⟨D,E,h⟩;have aA:E n=none:=by have:=h.bP n;rw[hn] at this;exact this
 have aq:dW w D E w D (fun m=>if m=n then some (.rw none 0) else E m):=by
  have eM:∀ {m:Nat} {e:bM},E m=some e→(if m=n then some (.rw none 0) else E m)=some e:=fun {m e} he=>by
   have:m≠n:=fun e=>by rw[e,aA] at he;cases he
   rw[if_neg this];exact he
  refine ⟨fun _ _ h=>h,fun _ _ _ _ h=>h,fun m b aX he=>eM he,fun m aJ l he =>?_,fun m b he=>eM he,fun m b he=>eM he,fun _ _ _ _ h=>h⟩
  ·have:m≠n:=fun e=>by rw[e,aA] at he;cases he
   exact ⟨aJ,l,by simp only[if_neg this];exact he,Z4 _,fun _=>rfl⟩
 refine ⟨D,fun m=>if m=n then some (.rw none 0) else E m,h.sz,h.eB,fun t =>?_,h.dO,h.c9,h.aQ,fun m =>?_,fun m m' e e' b J U ah ar =>?_,fun m e hm =>?_,h.eP,h.cT,h.eW,h.fC⟩
 ·simp only[ai.put,ai.aT];by_cases ht:t=d
  ·subst ht;simp only[if_true];have hv:=h.dR t;rw[af] at hv;obtain ⟨cs,q1,q2⟩:=hv;simp only[al] at q2;subst q2;refine ⟨[.slice none 0 0],by simpa[bD,I.isAgg] using q1,?_⟩;simp only[al,if_true];exact ⟨none,0,rfl,Z4 _,⟨_,_,_,rfl⟩,fun _=>trivial⟩
  ·simp only[if_neg ht];exact aZ.later aq (h.dR t)
 ·simp only[ai.put,ai.aT];by_cases hm:m=n
  ·subst hm;simp only[if_true,c6];exact ⟨none,by simp,by simp,trivial⟩
  ·simp only[if_neg hm];exact (h.bP m).later aq (by simp only[if_neg hm]) fun _ _ _ _=>⟨rfl,fun _ ho=>ho⟩
 ·by_cases hm:m=n <;>by_cases hm':m'=n
  ·rw[hm,hm']
  ·simp only[if_pos hm,v6] at J;subst J;simp[bM.aJ] at ah
  ·simp only[if_pos hm',v6] at U;subst U;simp[bM.aJ] at ar
  ·simp only[if_neg hm] at J;simp only[if_neg hm'] at U;exact h.cQ m m' e e' b J U ah ar
 ·have hmn:m≠n:=fun e=>by rw[e,h.kg (.inr hlt)] at hm;cases hm
  simp only[if_neg hmn];exact h.dS m e hm
theorem bm.G2{ts:List (Nat×I)}{os:List (Nat×ao)}(d n T z:Nat)(af:bY ts d=.nils z)(hn:aj os n=none){B:ai}(h:bm (av ((d,.own n 0)::ts) ((n,.dK T [])::os)) B)(hlt:n<1000000:=by decide):bm (av ts os) B :=
 ((bm.G1 (A:=av ts os) (T:=T) af hn hlt).trans (by rw[qW,th];exact bm.refl _)).trans h
theorem Hd{A:ai}{d:Option Nat}{e bytes n l:Nat}{xs:List Int}{y:Int}{rest:List aH}(aq:l=xs.length)(J:xs.length+1≤maxLen)(U:(xs.length+1)*bytes≤140737488355328) :
  oL A d e 1 bytes (.int .i64 0) n l e xs rest (enc [y])=aB rest ((A.aT n (.dK e (xs++[y]))).aS d (.own n (xs.length+1))):=by
 show oL A d e 1 bytes (.int .i64 0) n l e xs rest (.slice 1 [.int .i64 y])=_
 simp only[oL];rw[if_pos ⟨aq,rfl,rfl,rfl,rfl,by simp,J,U⟩];rfl
def iU(n k:Nat):I→I
 | .own n' k'=>if n'=n∧k'=k then .view n [] 1 0 k else .own n' k'
 |v=>v
def iT(n:Nat):I→I
 | .own n' k'=>if n'=n∧k'=0 then .nils 1 else .own n' k'
 |v=>v
def jC(f:I→I):ao→ao
 | .box v=>.box (f v)
 |y=>y
def rj(n k:Nat)(v:I):Prop:=v=.own n k∨v.only (fun j=>j != n)=true
def X2(n k:Nat)(y:ao):Prop:=y=.box (.own n k)∨y.only (fun j=>j != n)=true
theorem ud{n k:Nat}{v:I}(h:v.only (fun j=>j != n)=true):iU n k v=v:=by
 cases v <;>try rfl
 rename_i n' k';simp only[I.only,bne_iff_ne,ne_eq] at h;simp only[iU,h,false_and,if_false]
theorem Fw{n:Nat}{v:I}(h:v.only (fun j=>j != n)=true):iT n v=v:=by
 cases v <;>try rfl
 rename_i n' k';simp only[I.only,bne_iff_ne,ne_eq] at h;simp only[iT,h,false_and,if_false]
theorem px(f:I→I)(hf:f .dw=.dw)(ts:List (Nat×I))(t:Nat):bY (ts.map fun q=>(q.1,f q.2)) t=f (bY ts t):=by
 induction ts with
 |nil=>exact hf.symm
 |cons q ts ih =>
  obtain ⟨k,v⟩:=q;simp only[Z3,bY];split
  ·rfl
  ·exact ih
theorem te(f:ao→ao)(os:List (Nat×ao))(t:Nat):aj (os.map fun q=>(q.1,f q.2)) t=(aj os t).map f:=by
 induction os with
 |nil=>rfl
 |cons q os ih =>
  obtain ⟨k,v⟩:=q;simp only[Z3,aj];split
  ·rfl
  ·exact ih
theorem c6.db{M:Nat→Prop}{w:World}{D:aP}{E E':aY}{p:Nat→Bool}(hp:∀ n,p n=true→E' n=E n){m:Nat}(aA:E' m=E m){y:ao}(hon:y.only p=true)(ho:c6 M w D E m (some y)):c6 M w D E' m (some y):=by
 cases y with
 |box x =>
  obtain ⟨b,cs,T,k1,k2,k3,k4,k5⟩:=ho;exact ⟨b,cs,T,aA.trans k1,k2,k3,al.db hp _ _ (by simpa[ao.only] using hon) k4,k5⟩
 |bU T sz es =>
  obtain ⟨aJ,k1,k2,k3⟩:=ho;refine ⟨aJ,aA.trans k1,k2,?_⟩;cases aJ with
  |none=>exact k3
  |some bc =>
   obtain ⟨b,cap⟩:=bc;obtain ⟨cs,pre,rest,q1,q2,q3,q4,q5⟩:=k3;exact ⟨cs,pre,rest,q1,q2,q3,aN.db hp _ _ (by simpa[ao.only] using hon) q4,q5⟩
 |dK T xs =>
  obtain ⟨aJ,k1,k2,k3⟩:=ho;exact ⟨aJ,aA.trans k1,k2,k3⟩
 |dJ x =>
  obtain ⟨b,k1,k2⟩:=ho;exact ⟨b,aA.trans k1,k2⟩
 |bz ks vs =>
  obtain ⟨b,es,ck,k1,k2,k3,k4,k5,k6,k7⟩:=ho;simp only[ao.only,t8] at hon;exact ⟨b,es,ck,aA.trans k1,k2,k3,k4,aI.db hp _ _ hon.1 k5,aI.db hp _ _ hon.2 k6,k7⟩
 |it ks vs left cur =>
  obtain ⟨r,b,es,ck,si,se,la,k1,k2,k3,k4,k5,k6,k7⟩:=ho;simp only[ao.only,t8] at hon;exact ⟨r,b,es,ck,si,se,la,aA.trans k1,k2,k3,k4,aI.db hp _ _ hon.1 k5,aI.db hp _ _ hon.2 k6,k7⟩
theorem rN(xs:List Int):(I.agg (xs.map enc)).aX=.eI (List.replicate xs.length .one):=by
 show cR.eI (I.c7 _)=_
 congr 1
 induction xs with
 |nil=>rfl
 |cons x xs ih=>simp only[Z3,I.c7,ih,zx7,List.replicate_succ];rfl
theorem rv{w:World}{D:aP}{E:aY} : ∀ {xs:List Int},(∀ x∈xs,IntKind.i64.min≤x∧x≤IntKind.i64.max)→aN w D E (xs.map enc) (xs.map (Value.int .i64))
 | [],_=>rfl
 |x::xs,h=>⟨[.int .i64 x],xs.map (Value.int .i64),rfl,⟨rfl,h x (by simp)⟩,rv fun y hy=>h y (by simp[hy])⟩
theorem bm.ZK{ts:List (Nat×I)}{os:List (Nat×ao)}{n T:Nat}{B:ai}(hn:aj os n=some (.dK T []))
  (h:bm (av (ts.map fun q=>(q.1,iT n q.2)) (os.map fun q=>(q.1,jC (iT n) q.2))) B):bm (av ts os) B:=by
 refine bm.trans ?_ h;rintro c a w ⟨D,E,ab⟩;obtain ⟨aJ,aA,-,hblk⟩:=ab.rV (n:=n) (T:=T) (xs:=[]) hn;have hnone:aJ=none:=by
  cases aJ with
  |none=>rfl
  |some bc=>obtain ⟨b,cap⟩:=bc;obtain ⟨_,_,_,_,_,h,_⟩:=hblk;exact absurd rfl h
 subst hnone;have conv:∀ (v:I) (cs:List Value),al w D E v cs→al w D E (iT n v) cs:=fun v cs hr=>by
  cases v <;>try exact hr
  rename_i n' k';simp only[iT];split
  ·rename_i bH;obtain ⟨rfl,rfl⟩:=bH;obtain ⟨blk',l,q3,q4,q5,q6⟩:=hr;rw[aA] at q3;simp only[v6,bM.rw.injEq,List.length_nil] at q3;obtain ⟨rfl,rfl⟩:=q3;exact q6 rfl
  ·exact hr
 refine ⟨D,E,ab.sz,ab.eB,fun t =>?_,ab.dO,ab.c9,ab.aQ,fun m =>?_,ab.cQ,ab.dS,ab.eP,ab.cT,ab.eW,ab.fC⟩
 ·show aZ w D E (bY _ t) _
  rw[px _ rfl];have:=ab.dR t;simp only[av] at this;revert this;generalize bY ts t=v;intro hv;cases v <;>try exact hv
  rename_i n' k';obtain ⟨cs,q1,q2⟩:=hv;have:=conv _ _ q2
  revert this;simp only[iT];split
  ·intro this;exact ⟨cs,q1,this⟩
  ·intro this;exact ⟨cs,q1,this⟩
 ·show c6 _ w D E m (aj _ m)
  rw[te];have:=ab.bP m;simp only[av] at this;revert this;cases aj os m with
  |none=>exact id
  |some y =>
   cases y <;>try exact id
   rename_i x;rintro ⟨b,cs,T,k1,k2,k3,k4,k5⟩;refine ⟨b,cs,T,?_,k2,k3,conv _ _ k4,k5⟩;rw[k1];have:(iT n x).aX=x.aX:=by
    cases x <;>try rfl
    simp only[iT];split <;>rfl
   rw[this]
theorem ae.ZJ{c:cV}{x:bu}{Q:Exit→ai→Prop}{ts:List (Nat×I)}{os:List (Nat×ao)}{n T:Nat}{xs:List Int}(hn:aj os n=some (.dK T xs))(hne:xs≠[])(hlt:n<1000000)
  (ht:∀ t,rj n xs.length (bY ts t)) (ho:∀ m y,aj os m=some y→m≠n→X2 n xs.length y)
  (h:∀ q:Nat,ae c x Q (av (ts.map fun p=>(p.1,iU n xs.length p.2)) ((n,.box (.agg ((xs++List.replicate q 0).map enc)))::os.map fun p=>(p.1,jC (iU n xs.length) p.2)))):ae c x Q (av ts os):=by
 rintro code hc a w ⟨D,E,ab⟩;obtain ⟨aJ,aA,hr,hblk⟩:=ab.rV (n:=n) hn;cases aJ with
 |none=>exact absurd hblk hne
 |some bc =>
 obtain ⟨b,cap⟩:=bc;obtain ⟨cs,q,hM,hb,hcs,-,hcap,hmax,hD⟩:=hblk;have hp:∀ j,(fun j=>j != n) j=true→(fun j=>if j=n then some (bM.aL b (.eI (List.replicate (xs.length+q) .one))) else E j) j=E j:=fun j hj=>by
  have:j≠n:=by simpa using hj
  simp only[if_neg this]
 have conv:∀ cs0,al w D E (.own n xs.length) cs0→al w D (fun j=>if j=n then some (bM.aL b (.eI (List.replicate (xs.length+q) .one))) else E j) (.view n [] 1 0 xs.length) cs0:=fun cs0 hr=>by
  obtain ⟨blk',l,q3,q4,q5,q6⟩:=hr;rw[aA] at q3;simp only[v6,bM.rw.injEq] at q3;obtain ⟨rfl,rfl⟩:=q3;have:=q6 rfl;refine ⟨b,_,0,List.replicate (xs.length+q) .one,if_pos rfl,rfl,rfl,?_,by rw[List.length_replicate];omega,by rw[List.length_replicate];omega,fun s ab =>?_⟩
  ·rw[this,List.length_replicate];simp only[Nat.zero_mul,Nat.add_zero,Nat.sub_zero,hcap]
  ·rw[List.eq_of_mem_replicate ab];rfl
 refine h q code hc a w ⟨D,fun j=>if j=n then some (.aL b (.eI (List.replicate (xs.length+q) .one))) else E j,ab.sz,ab.eB,fun t =>?_,ab.dO,ab.c9,ab.aQ,fun m =>?_,fun m m' e e' b1 J U ah ar =>?_,fun m e hm =>?_,ab.eP,ab.cT,ab.eW,ab.fC⟩
 ·show aZ w D _ (bY _ t) _
  rw[px _ rfl];have hv:=ab.dR t;simp only[av] at hv;rcases ht t with J | J
  ·rw[J] at hv ⊢;simp only[iU,and_self,if_true];obtain ⟨cs0,q1,q2⟩:=hv;exact ⟨cs0,q1,conv _ q2⟩
  ·rw[ud J];exact aZ.db hp J hv
 ·show c6 _ w D _ m (aj _ m)
  simp only[aj];by_cases hm:m=n
  ·subst hm;simp only[if_true];refine ⟨b,cs,T,?_,hM,hb,?_,hD⟩
   ·simp only[if_true];rw[rN,Z7,List.length_replicate]
   ·show aN w D _ _ _
    rw[hcs];refine rv fun y hy =>?_;rcases zy7.1 hy with hy | hy
    ·exact hr y hy
    ·rw[List.eq_of_mem_replicate hy];decide
  ·simp only[if_neg hm];rw[te];have hob:=ab.bP m;simp only[av] at hob;cases hy:aj os m with
   |none=>rw[hy] at hob;simp only[c6,Option.map_none] at hob ⊢;rw[if_neg hm];exact hob
   |some y =>
    rw[hy] at hob;rcases ho m y hy hm with rfl | J
    ·obtain ⟨b1,cs1,sd,k1,k2,k3,k4,k5⟩:=hob;refine ⟨b1,cs1,sd,?_,k2,k3,?_,k5⟩
     ·simp only[if_neg hm];rw[k1];simp only[iU,and_self,if_true];rfl
     ·simp only[iU,and_self,if_true];exact conv _ k4
    ·have e:jC (iU n xs.length) y=y:=by
      cases y <;>try rfl
      simp only[ao.only] at J;simp only[jC,ud J]
     simp only[zz0,e];exact hob.db hp (if_neg hm) J
 ·have cut:∀ m e,(if m=n then some (bM.aL b (.eI (List.replicate (xs.length+q) .one))) else E m)=some e→∃ e2,E m=some e2∧e2.aJ=e.aJ:=fun m e he=>by
   by_cases hm:m=n
   ·subst hm;rw[if_pos rfl] at he;cases he;exact ⟨_,aA,rfl⟩
   ·rw[if_neg hm] at he;exact ⟨e,he,rfl⟩
  obtain ⟨e2,k1,k2⟩:=cut m e J;obtain ⟨e3,k3,k4⟩:=cut m' e' U;exact ab.cQ m m' e2 e3 b1 k1 k3 (k2.trans ah) (k4.trans ar)
 ·have hmn:m≠n:=fun e=>by rw[e,ab.kg (.inr hlt)] at hm;cases hm
  simp only[if_neg hmn];exact ab.dS m e hm
end Go.Abs
namespace Go.Abs
open Go Go.RowKit
def s8(n:Nat)(cl:List Nat)(i:Nat):Bool:=(List.range n).all fun j=>j==i||(cl.getD i 0).testBit j
def pK(ab:List FuncId)(L:dZ)(on:List (List Nat))(gs:List aH)(cl:List Nat)(σ:List Nat):Bool :=
 (Nat.beq σ.length gs.length&&(rh σ&&(σ.all (fun i=>decide (i<gs.length))&&((List.range gs.length).all (fun i=>σ.contains i)&&(List.range gs.length).all fun i=>mQ (gs.getD i default).op&&(h0 L (gs.getD i default)||(s8 gs.length cl i&&σ.getLast?==some i))))))&&(p7 ab L gs cl [] σ&&(List.range gs.length).all fun i=>(on.getD i []).all (fun k=>decide (k<i))&&Nat.beq (cl.getD i 0) (lu cl (on.getD i [])))
structure uA (ab:List FuncId) (L:dZ) (l:List Oper) (gs:List aH) (σ:List Nat):Prop where
 nW:σ.Nodup
 lt:∀ i∈σ,i<gs.length
 all:∀ i,i<gs.length→i∈σ
 ok:∀ i,i<gs.length→mQ (gs.getD i default).op=true
 qN:∀ i o,l[i]?=some o→h0 L (gs.getD i default)=true∨(σ.getLast?=some i∧∀ (S:Nat→Prop),(∀ i o,l[i]?=some o→S i→∀ k∈cw o,S k)→(∀ k∈cw o,S k)→∀ j,j<gs.length→j≠i→S j)
 len:σ.length=gs.length
 iu:∀ i o,l[i]?=some o→∀ k∈cw o,k<i
 pg:∀ (S:Nat→Prop),(∀ i o,l[i]?=some o→S i→∀ k∈cw o,S k)→∀ s1 i s2 o,σ=s1++i::s2→l[i]?=some o→(∀ k∈cw o,S k)→∀ j∈s1,¬ S j→mI ab L (gs.getD j default) (gs.getD i default)=true
theorem C9{ab:List FuncId}{L:dZ}{l:List Oper}{gs:List aH}{cl σ:List Nat}(hlen:gs.length=l.length)(h:pK ab L (l.map cw) gs cl σ=true):uA ab L l gs σ:=by
 simp only[pK,t8,zz6,decide_eq_true_eq,zy6,List.contains_eq_mem] at h;obtain ⟨⟨J,U,ah,ar,h5⟩,h6,h7⟩:=h;have fG:∀ i o,l[i]?=some o→(∀ k∈cw o,k<i)∧(∀ j,(cl.getD i 0).testBit j=true→j∈cw o∨∃ k∈cw o,(cl.getD k 0).testBit j=true):=by
  intro i o ho;have hi:i<l.length:=(Z6.1 ho).1;have h8:=h7 i (by omega);have hon:(l.map cw).getD i []=cw o:=by simp[Z0,ho]
  rw[hon] at h8;have hb:=Nat.eq_of_beq_eq_true h8.2;exact ⟨h8.1,fun j hj=>rX (by rw[←hb];exact hj)⟩
 have keyS:∀ (S:Nat→Prop),(∀ i o,l[i]?=some o→S i→∀ k∈cw o,S k)→∀ n i o,i≤n→l[i]?=some o→(∀ k∈cw o,S k)→∀ j,(cl.getD i 0).testBit j=true→S j:=by
  intro S hS n
  induction n with
  |zero =>
   intro i o hi ho hon j hj;obtain ⟨h8,h9⟩:=fG i o ho;rcases h9 j hj with h | ⟨k,hk,_⟩
   ·exact hon j h
   ·have:=h8 k hk;omega
  |succ n ih =>
   intro i o hi ho hon j hj;obtain ⟨h8,h9⟩:=fG i o ho;rcases h9 j hj with h | ⟨k,hk,hjk⟩
   ·exact hon j h
   ·have hki:=h8 k hk;have hkl:k<l.length:=Nat.lt_trans hki (Z6.1 ho).1;obtain ⟨ok,hok⟩:∃ ok,l[k]?=some ok:=⟨l[k],zz4 hkl⟩
    exact ih k ok (by omega) hok (hS k ok hok (hon k hk)) j hjk
 refine ⟨wS U,ah,ar,fun i hi=>(h5 i hi).1,fun i o ho =>?_,Nat.eq_of_beq_eq_true J,fun i o ho=>(fG i o ho).1,?_⟩
 ·have hi:i<gs.length:=by rw[hlen];exact (Z6.1 ho).1
  have h5o:=(h5 i hi).2;rw[Bool.or_eq_true] at h5o;rcases h5o with h | h
  ·exact .inl h
  ·rw[t8] at h;obtain ⟨h,hla⟩:=h;refine .inr ⟨by simpa using hla,fun S hS hon j hj hji =>?_⟩;simp only[s8,zz6,zy6,Bool.or_eq_true,beq_iff_eq] at h;rcases h j hj with e | e
   ·exact absurd e hji
   ·exact keyS S hS i i o (Z4 _) ho hon j e
 intro S hS s1 i s2 o e ho hon j hj hnj;have key:=keyS S hS;rcases uH h6 s1 i s2 e j (.inr hj) with h | h
 ·exact absurd (key i i o (Z4 _) ho hon j h) hnj
 ·exact h
section
variable {c:cV}
theorem G8{K:ai→Prop}{fs:List FuncId}{L:dZ}{aV:Array Oper}{gs:List aH}{σ:List Nat}{Q:Exit→Act→World→Prop}(hQ:∀ B a w,K B→b5 c B a w→Q .normal a w)(hgs:fO c.P c.n aV aV.toList=some gs)(af:uA fs L aV.toList gs σ) :
  ∀ (fuel:Nat) (listed:Array Bool) (A:ai) (a:Act) (w:World),listed.size=aV.size→(∀ i o,aV.toList[i]?=some o→listed.getD i false=true→∀ k∈cw o,listed.getD k false=true)→(dY σ listed).length≤fuel →
   (dY σ listed=[]∨cX L A)→bO c.P c.Y fs K (aB (gz gs σ listed) A)→b5 c A a w→wpAnyIn c.bC 9 c.P .any aV Q fuel listed a w:=by
 obtain ⟨hlen,hat⟩:=iv hgs;have onOf_mem:∀ (o:Oper) (e:Edge),e∈o.after→Region.binds .any e=true→e.on∈cw o:=fun o e he hb=>by
  simp only[cw,zy1,zx5];exact ⟨e,⟨by simpa using he,hb⟩,rfl⟩
 have of_onOf:∀ (o:Oper) (k:Nat),k∈cw o→∃ e∈o.after,Region.binds .any e=true∧e.on=k:=fun o k hk=>by
  simp only[cw,zy1,zx5] at hk;obtain ⟨e,⟨J,U⟩,ah⟩:=hk;exact ⟨e,by simpa using J,U,ah⟩
 have hgl:gs.length=aV.size:=by rw[hlen,zy2]
 have last:∀ (listed:Array Bool) (A:ai) (a:Act) (w:World),listed.size=aV.size→Region.ready .any aV listed=[]→bO c.P c.Y fs K (aB (gz gs σ listed) A)→b5 c A a w→Q .normal a w:=by
  intro listed A a w hsz hr hwp ab;have hnone:dY σ listed=[]:=by
   have all:∀ n,∀ i,i<n→i<aV.size→listed.getD i true=true:=by
    intro n
    induction n with
    |zero=>intro i hi;omega
    |succ n ih =>
     intro i hi his;cases hb:listed.getD i true with
     |true=>rfl
     |false =>
      exfalso
      have ho:aV[i]?=some aV[i]:=zw0 his;have:i∈Region.ready .any aV listed:=mem_ready.2 ⟨hb,aV[i],ho,fun e he hbd=>by
       have hlt:=af.iu i aV[i] (by simp) e.on (onOf_mem _ e he hbd);have J:=ih e.on (by omega) (by omega);have U:e.on<listed.size:=by omega
       simpa[Array.getD_eq_getD_getElem?,U] using J⟩
      rw[hr] at this;cases this
   simp only[dY];refine List.filter_eq_nil_iff.2 fun i hi =>?_;have:=all (i+1) i (by omega) (by rw[←hgl];exact af.lt i hi);simp only[this,Bool.not_true,Z2,not_false_eq_true]
  simp only[gz,hnone,zx0,aB] at hwp;cases hwp with
  |done hk=>exact hQ A a w hk ab
 intro fuel
 induction fuel with
 |zero =>
  intro listed A a w hsz hcl hcnt hinv hwp ab;have hnone:dY σ listed=[]:=List.length_eq_zero_iff.1 (by omega);have hr:Region.ready .any aV listed=[]:=by
   refine List.eq_nil_iff_forall_not_mem.2 fun i hi =>?_;obtain ⟨J,o,ho,_⟩:=mem_ready.1 hi;have:i∈dY σ listed:=by
    simp only[dY,zx5,J,Bool.not_false,and_true];exact af.all i (by rw[hgl];exact (zz2.1 ho).1)
   rw[hnone] at this;cases this
  exact ⟨hr,last listed A a w hsz hr hwp ab⟩
 |succ fuel ih =>
  intro listed A a w hsz hcl hcnt hinv hwp ab;refine ⟨fun hr=>last listed A a w hsz hr hwp ab,fun i hi =>?_⟩;obtain ⟨hun,o,ho,hall⟩:=mem_ready.1 hi;have hin:i<aV.size:=(zz2.1 ho).1;obtain ⟨s1,s2,hσ,e1,e2⟩:=xn af.nW (af.all i (by omega)) (by omega) hun;have hinv:cX L A:=by
   rcases hinv with h | h
   ·rw[e1] at h;simp at h
   ·exact h
  have hol:aV.toList[i]?=some o:=by simpa using ho
  obtain ⟨g,hgi,hcg⟩:=hat i o hol;have hon:∀ k∈cw o,listed.getD k false=true:=fun k hk=>by
   obtain ⟨e,J,U,ah⟩:=of_onOf o k hk;exact ah▸hall e J U
  have hgd:gs.getD i default=g:=by simp[Z0,hgi]
  have hwp':bO c.P c.Y fs K (aB (g::gz gs σ (listed.setIfInBounds i true)) A):=by
   simp only[gz,e1,zz3,Z3,hgd] at hwp;simp only[gz,e2,zz3];refine bO.nA hinv (fun j hj =>?_) hwp;obtain ⟨k,hk,rfl⟩:=zy1.1 hj;obtain ⟨hk1,hk2⟩:=zx5.1 hk;have:=af.pg (fun k=>listed.getD k false=true) hcl s1 i s2 o hσ hol hon k hk1 (by
    have hks:k<listed.size:=by
     have:=af.lt k (by rw[hσ];exact List.mem_append_left _ hk1);omega
    simp[Array.getD_eq_getD_getElem?,hks] at hk2 ⊢;exact hk2)
   rw[hgd] at this;have hkl:=af.lt k (by rw[hσ];exact List.mem_append_left _ hk1);have hks:k<aV.size:=by omega
   refine ⟨this,?_⟩;rcases af.qN k aV[k] (by simp) with h | h
   ·exact h
   ·exfalso
    have h9:=h.1;rw[hσ,List.getLast?_append] at h9;have hne:(i::s2).getLast?=some k:=by
     cases h10:(i::s2).getLast? with
     |none=>simp at h10
     |some q=>rw[h10] at h9;simpa using h9
    have hk2:k∈i::s2:=List.mem_of_getLast? hne;have hnd:=af.nW;rw[hσ] at hnd;exact (List.nodup_append.1 hnd).2.2 k hk1 k hk2 rfl
  unfold wpOpIn;rw[ho];have hgm:g∈gs:=List.mem_of_getElem? hgi;have hokg:mQ g.op=true:=by
   have:=af.ok i (by omega)
   rwa [hgd] at this
  have hcl':∀ m om,aV.toList[m]?=some om→(listed.setIfInBounds i true).getD m false=true→∀ k∈cw om,(listed.setIfInBounds i true).getD k false=true:=by
   intro m om hom hm k hk;by_cases hmi:m=i
   ·subst hmi;rw[hol,v6] at hom;subst hom;exact getD_set_true (hon k hk)
   ·rw[getD_set_ne false (Ne.symm hmi)] at hm;exact getD_set_true (hcl m om hom hm k hk)
  have hfu:(dY σ (listed.setIfInBounds i true)).length≤fuel:=by
   have:(dY σ listed).length=(dY σ (listed.setIfInBounds i true)).length+1:=by
    rw[e1,e2];simp;omega
   omega
  rcases af.qN i o hol with hlb | ⟨hla,hlb⟩
  ·rw[hgd] at hlb;exact sO hcg hinv ⟨hokg,hlb⟩ hwp' ab fun B a' w' hw hiB hs'=>ih _ B a' w' (by simpa using hsz) hcl' hfu (.inr hiB) hw hs'
  ·have hnil:dY σ (listed.setIfInBounds i true)=[]:=by
    simp only[dY];refine List.filter_eq_nil_iff.2 fun j hj =>?_;have hjl:=af.lt j hj;by_cases hji:j=i
    ·subst hji;have:j<listed.size:=by omega
     simp[this]
    ·have h5:=hlb (fun k=>listed.getD k false=true) hcl hon j hjl hji;have hjs:j<listed.size:=by omega
     have h6:(listed.setIfInBounds i true).getD j true=listed.getD j true:=getD_set_ne true (Ne.symm hji);rw[h6];simp[Array.getD_eq_getD_getElem?,hjs] at h5 ⊢;exact h5
   have hin0:cX [] A:=fun s ns h=>by cases h
   exact sO (L:=[]) hcg hin0 ⟨hokg,by simp[h0,hZ];cases g.dst <;>rfl⟩ hwp' ab fun B a' w' hw hiB hs'=>ih _ B a' w' (by simpa using hsz) hcl' hfu (.inl hnil) hw hs'
theorem ae.YM{Q:Exit→ai→Prop}{A:ai}{on:List (List Nat)}{gs:List aH}(ab:List FuncId)(L:dZ)(cl σ:List Nat)(af:pK ab L on gs cl σ=true)(hi:cX L A)(h:∀ K:ai→Prop,(∀ B,Q .normal B→K B)→bO c.P c.Y ab K (aB (ff σ gs) A)):ae c (.cu (some on) gs) Q A:=by
 intro code hc a w hs';cases code <;>simp only[eA] at hc <;>try (first | (cases hc;done) | ((repeat' split at hc) <;>cases hc;done))
 rename_i id aV draw;split at hc
 ·rename_i gs' hgs;split at hc
  case isFalse=>cases hc
  rename_i hok;simp only[v6,bu.cu.injEq] at hc;obtain ⟨he,rfl⟩:=hc;cases draw with
  |false=>cases he
  |true =>
   simp only[cond_true,v6] at he;subst he;simp only[Bool.not_true,Bool.false_or] at hok;have hp:=C9 (iv hgs).1 af;refine wpIn_region_any hok (G8 (K:=Q .normal) (fun B a w hk ab=>⟨B,hk,ab⟩) hgs hp aV.size (Array.replicate aV.size false) A a _ (by simp) ?_ ?_ (.inr hi) ?_ ?_)
   ·intro i o _ h
    exfalso
    simp only[Array.getD_eq_getD_getElem?,Array.getElem?_replicate] at h;split at h <;>simp at h
   ·refine zw3 (List.length_filter_le _ _) ?_;rw[hp.len,(iv hgs).1,zy2];exact Z4 _
   ·have hall:dY σ (Array.replicate aV.size false)=σ:=by
     simp only[dY];refine List.filter_eq_self.2 fun i hi =>?_;have J:=hp.lt i hi;rw[(iv hgs).1,zy2] at J;simp[J]
    simp only[gz,hall];exact h _ fun _ hb=>hb
   ·obtain ⟨D,E,hs'⟩:=hs';exact ⟨D,E,hs'.grow (w' := { w with drawn:=w.drawn+1 }) ⟨rfl,rfl,rfl,Z4 _,fun _ _=>rfl⟩ (fun _ _ h=>h) (fun _ _ h _=>h) (fun b o h=>hs'.aQ b o h)⟩
 ·cases hc
end
def j7(on:List (List Nat)):List Nat:=on.foldl (fun acc ks=>acc++[lu acc ks]) []
def vk(d:Option (List (List Nat)))(gs:List aH):Bool:=match d with
 |none=>true
 |some on=>sF on gs (j7 on)
section
variable {c:cV} {Q:Exit→ai→Prop} {A:ai} {d:Option (List (List Nat))} {on:List (List Nat)} {gs:List aH}
theorem ae.kn(af:vk d gs=true)(h:∀ K:ai→Prop,(∀ B,Q .normal B→K B)→aR c.P c.Y d.isSome K (aB gs A)):ae c (.cu d gs) Q A:=by
 cases d with
 |none=>exact ae.cu (cl:=[]) rfl h
 |some on=>exact ae.cu (cl:=j7 on) af h
theorem ae.gA{y:bu}(af:vk d gs=true)(h:∀ K:ai→Prop,(∀ B,ae c y Q B→K B)→aR c.P c.Y d.isSome K (aB gs A)):ae c (.seq (.cu d gs) y) Q A :=
 ae.seq (ae.kn af h)
theorem ae.rA(ab:List FuncId)(L:dZ)(σ:List Nat)(af:tA ab L on gs (j7 on) σ=true)(hi:cX L A)(h:∀ K:ai→Prop,(∀ B,Q .normal B→K B)→bO c.P c.Y ab K (aB (ff σ gs) A)):ae c (.cu (some on) gs) Q A :=
 ae.YL ab L (j7 on) σ af hi h
theorem ae.rB(ab:List FuncId)(L:dZ)(σ:List Nat)(af:pK ab L on gs (j7 on) σ=true)(hi:cX L A)(h:∀ K:ai→Prop,(∀ B,Q .normal B→K B)→bO c.P c.Y ab K (aB (ff σ gs) A)):ae c (.cu (some on) gs) Q A :=
 ae.YM ab L (j7 on) σ af hi h
def gF(c:cV):bu→(Exit→ai→Prop)→ai→Prop
 | .seq x y,Q,A=>gF c x (ez (fun B=>ae c y Q B) Q) A
 | .block id x,Q,A=>gF c x (jI id Q) A
 | .skip,Q,A=>Q .normal A
 | .exit id,Q,A=>Q (.exit id) A
 | .ret,Q,A=>Q .ret A
 | .cond b x y,Q,A=>az (ak A b) (ae c x Q A) (ae c y Q A)
 |x,Q,A=>ae c x Q A
def Ws:bu→Bool
 | .seq _ _ | .block _ _ | .skip | .exit _ | .ret | .cond _ _ _=>true
 |_=>false
theorem gF.uM:∀ (x:bu) {Q:Exit→ai→Prop} {A:ai},gF c x Q A→ae c x Q A
 | .seq x y,_,_,h=>ae.seq (gF.uM x h)
 | .block id x,_,_,h=>ae.block (gF.uM x h)
 | .skip,_,_,h=>ae.skip h
 | .exit _,_,_,h=>ae.exit h
 | .ret,_,_,h=>ae.ret h
 | .cond _ _ _,_,_,h=>ae.jN h
 | .cu _ _,_,_,h | .loop _,_,_,h | .scope _,_,_,h | .label,_,_,h | .uN,_,_,h | .mc _ _ _ _,_,_,h=>h
theorem ae.of{x:bu}(_:Ws x=true)(h:gF c x Q A):ae c x Q A:=gF.uM x h
theorem aG :
  (∀ c x y Q A,gF c (.seq x y) Q A=gF c x (ez (fun B=>ae c y Q B) Q) A)∧(∀ c id x Q A,gF c (.block id x) Q A=gF c x (jI id Q) A)∧(∀ c Q A,gF c .skip Q A=Q .normal A)∧(∀ c id Q A,gF c (.exit id) Q A=Q (.exit id) A)∧(∀ c Q A,gF c .ret Q A=Q .ret A) ∧
  (∀ c b x y Q A,gF c (.cond b x y) Q A=az (ak A b) (ae c x Q A) (ae c y Q A))∧(∀ c d gs Q A,gF c (.cu d gs) Q A=ae c (.cu d gs) Q A)∧(∀ c x Q A,gF c (.loop x) Q A=ae c (.loop x) Q A)∧(∀ c f ps x y Q A,gF c (.mc f ps x y) Q A=ae c (.mc f ps x y) Q A) ∧
  (∀ k Q A,ez k Q .normal A=k A)∧(∀ k Q A,ez k Q .ret A=Q .ret A)∧(∀ k Q A i,ez k Q (.exit i) A=Q (.exit i) A)∧(∀ i Q A,jI i Q .normal A=Q .normal A)∧(∀ i Q A,jI i Q .ret A=Q .ret A)∧(∀ i Q A j,jI i Q (.exit j) A=if j=i then Q .normal A else Q (.exit j) A) ∧
  (∀ p q,az (.bool true) p q=p)∧(∀ p q,az (.bool false) p q=q)∧(type_of% @gJ) :=
 ⟨fun _ _ _ _ _=>rfl,fun _ _ _ _ _=>rfl,fun _ _ _=>rfl,fun _ _ _ _=>rfl,fun _ _ _=>rfl,fun _ _ _ _ _ _=>rfl,fun _ _ _ _ _=>rfl,fun _ _ _ _=>rfl,fun _ _ _ _ _ _ _=>rfl,fun _ _ _=>rfl,fun _ _ _=>rfl,fun _ _ _ _=>rfl,fun _ _ _=>rfl,fun _ _ _=>rfl,fun _ _ _ _=>rfl,
  fun p q=>by simp[az],fun p q=>by simp[az],gJ⟩
theorem az.aE{t:Bool}{p q:Prop}(J:t=true→p)(U:t=false→q):az (.bool t) p q:=⟨J,U⟩
theorem ae.aF{g:aH}{r:List aH}(af:vk d gs=true)(e:gs=g::r)(h:∀ K:ai→Prop,(∀ B,Q .normal B→K B)→aR c.P c.Y d.isSome K (aB (g::r) A)):ae c (.cu d gs) Q A :=
 ae.kn af (e▸h)
theorem aR.ay(L:List Nat){P:Program}{Y:Value→List I→List (Nat×ao)→cK→Prop}{dr:Bool}{x:bu}{K:ai→Prop}{ts:List (Nat×I)}{os:List (Nat×ao)}(hK:∀ B,ae c x Q B→K B)(h:ae c x Q (av (gY L ts) os)):aR P Y dr K (.done (av ts os)) :=
 .done (hK _ (ae.qK L h))
theorem bO.ay(L:List Nat){P:Program}{Y:Value→List I→List (Nat×ao)→cK→Prop}{ab:List FuncId}{x:bu}{K:ai→Prop}{ts:List (Nat×I)}{os:List (Nat×ao)}(hK:∀ B,ae c x Q B→K B)(h:ae c x Q (av (gY L ts) os)):bO P Y ab K (.done (av ts os)) :=
 .done (hK _ (ae.qK L h))
end
section
variable {c:cV} {A:ai} {o:Oper}
theorem zY{P:Program}{m:Nat}{aV:Array Oper}{l:List Oper}{gs:List aH}(h:fO P m aV (o::l)=some gs):∃ g gs',gs=g::gs'∧lF P m aV o=some g∧fO P m aV l=some gs':=by
 simp only[fO] at h;split at h
 ·rename_i g gs' J U;simp only[v6] at h;exact ⟨g,gs',h.symm,J,U⟩
 ·cases h
end
def tR(P:Program)(f:FuncId)(ch:List PanicEntry)(vs:Array Value)(w:World)(R:Ending→World→Prop):Prop :=
 Calls P f vs w fun e w'=>e=.panicked ch∧R (.returned (.tuple #[])) w'
theorem tR.mono{P:Program}{f:FuncId}{ch:List PanicEntry}{vs:Array Value}{w:World}{R R':Ending→World→Prop}(h:tR P f ch vs w R)(hr:∀ e w',R e w'→R' e w'):tR P f ch vs w R' :=
 Calls.mono h fun _ _ q=>⟨q.1,hr _ _ q.2⟩
def pJ(post:List (Nat×ao)→Prop):cK:=fun r os'=>r=.tuple []∧post os'
def fi(P:Program)(f:FuncId)(ch:List PanicEntry)(args:List I)(os:List (Nat×ao))(post:List (Nat×ao)→Prop):Prop :=
 e8 P f=true∧nt (tR P f ch) (fun w _ E=>gM P w (cL E)) args os (pJ post)
def xa(ch:List PanicEntry)(post:List (Nat×ao)→Prop):Exit→ai→Prop
 | .panic ch',A=>ch'=ch∧iX [] (pJ post) A
 |_,_=>False
theorem Cg{P:Program}{n:Nat}{w:World}{D:aP}{E:aY}{Y:Value→List I→List (Nat×ao)→cK→Prop}{post:List (Nat×ao)→Prop}{fn:Func}{A:ai}{D':aP}{E':aY}{ch:List PanicEntry}(h:iX [] (pJ post) A){R:World→Prop}(hR:∀ v w',lA w D E (pJ post) v w'→R w') :
  ∀ (ds:List Deferred) (a:Act) (w':World),a.defers=ds→aU ⟨P,w,D,n,cL E,E,Y,none,none⟩ A a w' D' E'→LeavesInM Fence.wide 9 P fn a.tmps (fun e w'=>e=.panicked ch∧R w') ds (.panicking ch) w'
 | [],a,w',_,ab=>by
  obtain ⟨v,J,U⟩:=ab.ta (fn := { fn with results := #[] }) (rs:=[]) rfl h;exact ⟨rfl,hR v w' U⟩
 |d::ds,a,w',af,ab=>by
  obtain ⟨Bs,J,_⟩:=ab.eB;rw[af] at J;cases Bs with
  |nil=>cases J
  |cons B Bs =>
   simp only[Z3,zw2] at J;obtain ⟨rfl,rfl⟩:=J;obtain ⟨k1,k2⟩:=ab.AI rfl af;exact ⟨by simp,.inl ⟨B,_,rfl,run_takeDeferred k1,Cg h hR _ { a with defers:=Bs.map _ } _ rfl k2⟩⟩
theorem Cj{w:World}{D:aP}{E:aY}{post:List (Nat×ao)→Prop}{v:Value}{w':World}(h:lA w D E (pJ post) v w'):∃ v' D' E' r os',Ending.returned (.tuple #[])=.returned v'∧pJ post r os'∧aZ w' D' E' r v'∧jF (fun b=>w.heap.size≤b∨cL E b) w' D' E' (aj os') ∧
   eY (fun b=>w.heap.size≤b∨cL E b) w w'∧(∀ b o,D b o→D' b o)∧(∀ b o,D' b o→b<w'.heap.size)∧(∀ b o,D' b o→b<w.heap.size→¬ cL E b→D b o) ∧
   (∀ n e,E n=some e→aw os' n=true→∃ e',E' n=some e'∧e.le e')∧gN w D w':=by
 obtain ⟨D',E',r,os',J,U,ah⟩:=h;refine ⟨_,D',E',r,os',rfl,J,?_,ah⟩;obtain ⟨rfl,_⟩:=J;simp only[aZ];exact ⟨[],by simp,by simp[aI]⟩
theorem fi.mk{P:Program}{f:FuncId}{fn:Func}{x:bu}{ch:List PanicEntry}{args:List I}{os:List (Nat×ao)}{post:List (Nat×ao)→Prop}(hf:P.funcs[f]?=some fn)(hcall:e8 P f=true)(hc:(fn.body.bind (eA P fn.ntmps))=some x)
  (hn:args.length≤fn.ntmps) (hn2:fn.ntmps≤1000000) (hos:∀ m,aw os m=true→1000000≤m) (h:I.gi args→∀ (w:World) (D:aP) (E:aY),ae ⟨P,w,D,fn.ntmps,cL E,E,dx,none,none⟩ x (xa ch post) (av (bJ 0 args) os)):fi P f ch args os post:=by
 obtain ⟨body,hb,hc'⟩:=zx9.1 hc;refine ⟨hcall,fun w D E vs aq hD ho hv =>?_⟩;have hlen:=rL hv;have hsim:=xT (P:=P) (n:=fn.ntmps) (Y:=dx) hD ho hv (by omega) (fun m hm=>⟨zw3 hn2 (hos m hm),hos m hm⟩) (pX aq);refine (callsIn_wide (n:=9)).1 (callsIn_of_wp_marks hf hb trivial ?_);refine wpIn_mono (((h (pR _ _ hv) w D E).sub (ua args os)) body hc' _ w ⟨D,E,hsim⟩) ?_;rintro e a w' ⟨A,hq,D',E',ab⟩;cases e <;>simp only[xa] at hq
 obtain ⟨rfl,hq⟩:=hq;exact Cg hq (fun v w' h=>Cj h) a.defers a w' rfl ab
theorem fi.Yi{P:Program}{f:FuncId}{ch:List PanicEntry}{args:List I}(hcall:e8 P f=true)(h:∀ (w:World) (D:aP) (vs:List Value),aI w D dk args vs→Calls P f vs.toArray w fun e w'=>e=.panicked ch∧w'=w)(hfl:I.nH args=true):fi P f ch args [] (fun os'=>os'=[]):=by
 refine ⟨hcall,fun w D E vs _ hD ho hv =>?_⟩;refine Calls.mono (h w D vs (aI.flat _ _ hfl hv)) ?_;rintro e w' ⟨rfl,rfl⟩;refine ⟨rfl,Cj (v:=.tuple #[]) ⟨D,E,.tuple [],[],⟨rfl,rfl⟩,by simp only[aZ];exact ⟨[],by simp,by simp[aI]⟩,?_,eY.refl _ _,fun _ _ h=>h,hD,fun _ _ h _ _=>h,fun n e h hn=>by simp[aw,aj] at hn,.refl _ _⟩⟩;exact ⟨fun n=>ho.bP n,fun n m e e' b J U ah ar=>ho.cQ n m e e' b J U ah ar⟩
section
variable {c:cV} {A:ai} {Q:Exit→ai→Prop}
theorem sT{dr:Bool}{K:ai→Prop}{aV:Array Oper}{Q:Exit→Act→World→Prop}{l2:List Oper}(hQ:∀ B a w,K B→b5 c B a w→wpListIn c.bC 9 c.P aV Q l2 a w):∀ (l:List Oper) (gs:List aH) (A:ai) (a:Act) (w:World),fO c.P c.n aV l=some gs→aR c.P c.Y dr K (aB gs A) →
  b5 c A a w→wpListIn c.bC 9 c.P aV Q (l++l2) a w
 | [],gs,A,a,w,hc,hwp,ab=>by
  simp only[fO,v6] at hc;subst hc;simp only[aB] at hwp;cases hwp with
  |done hk=>exact hQ A a w hk ab
 |o::l,gs,A,a,w,hc,hwp,ab=>by
  simp only[fO] at hc;split at hc
  case h_2=>cases hc
  rename_i g gs' hg hgs;simp only[v6] at hc;subst hc;obtain ⟨J,U,ah,ar⟩:=nB hg;have step:aR c.P c.Y dr K (bl A g.dst g.op gs' (aB gs'))→o.wpIn c.bC 9 c.P a w (wpListIn c.bC 9 c.P aV Q (l++l2)) Q:=fun h =>
   sP J U.symm (by rw[U];exact ah) h ab (fun B a' w' hw hs'=>sT hQ l gs' B a' w' hgs hw hs')
  simp only[Z5,wpListIn];simp only[aB] at hwp;rcases ar with ⟨h5,h6⟩ | ⟨j,b,t,h5,h6,h7⟩
  ·rw[h6] at hwp;have hw:Region.wanted o (yielded aV a.tmps)=true:=by simp[Region.wanted,h5]
   rw[hw,if_pos rfl];exact step hwp
  ·rw[h7] at hwp;simp only at hwp;split at hwp
   ·rename_i b' hb';rw[sV ab h5 h6 hb'];split at hwp
    ·rename_i hbb;subst hbb;simp only[BEq.rfl,if_true];exact step hwp
    ·rename_i hbb;have:(b'==b)=false:=by simpa using hbb
     rw[this];simp only[Z2,if_false];exact ⟨fun f _=>lN c f,sT hQ l gs' _ _ w hgs hwp (by rw[U];exact ab.mY ah)⟩
   ·rename_i hb';rw[sW ab h5 h6 hb'];simp only[Z2,if_false];exact ⟨fun f _=>lN c f,sT hQ l gs' _ _ w hgs hwp (by rw[U];exact ab.mY ah)⟩
   ·cases hwp
theorem zX{P:Program}{m:Nat}{aV:Array Oper}{g:aH}{gs2:List aH} : ∀ {l:List Oper} {gs1:List aH},fO P m aV l=some (gs1++g::gs2)→∃ l1 o l2,l=l1++o::l2∧fO P m aV l1=some gs1∧lF P m aV o=some g
 | [],gs1,h=>by simp[fO] at h
 |o::l,[],h=>by
  obtain ⟨g',gs',e,J,U⟩:=zY h;simp only[zy8,zw2] at e;obtain ⟨rfl,rfl⟩:=e;exact ⟨[],o,l,rfl,rfl,J⟩
 |o::l,k::gs1,h=>by
  obtain ⟨g',gs',e,J,U⟩:=zY h;simp only[Z5,zw2] at e;obtain ⟨rfl,rfl⟩:=e;obtain ⟨l1,o',l2,rfl,q1,q2⟩:=zX U;exact ⟨o::l1,o',l2,rfl,by simp only[fO,J,q1],q2⟩
inductive nv (P:Program) (Q:Exit→ai→Prop) (f:FuncId) (avs:List I):ai→Prop where
 |mk {ts:List (Nat×I)} {os0:List (Nat×ao)} (aL:Bool) (ρ:List (Nat×Nat)) (os:List (Nat×ao)) (cargs:List I) (ch:List PanicEntry) (post:List (Nat×ao)→Prop):fi P f ch cargs os post→gl ρ os os0→gP aL (av ts (eK (iE ρ os) os0)) ρ os avs cargs →
  (∀ os',post os'→gE aL ρ os os0 (.tuple []) os')→(∀ os',post os'→Q (.panic ch) (av ts (dE ρ os'++os0)))→nv P Q f avs (av ts os0)
inductive my (P:Program) (Q:Exit→ai→Prop):bS→ai→Prop where
 |call {f:FuncId} {args:List aO} {A:ai} : nv P Q f (args.map (ak A)) A→my P Q (.call f args) A
 |fH {x:aO} {args:List aO} {f:Nat} {caps:List I} {A:ai} : ak A x=.func f caps→nv P Q (kS f) (h4 f (args.map (ak A)) caps) A→my P Q (.fH x args) A
theorem xc{o:Oper}{g:bS}{f:FuncId}{avs:List I}{vs:List Value}{a:Act}{w:World}{D:aP}{E:aY}{Kw:Act→World→Prop}(hop0:df c.P o=some g)(h:nv c.P Q f avs A)(ab:aU c A a w D E)(hall:fE (aZ w D E) avs vs)
  (hrun:e8 c.P f=true→(execOp a.eval o).run c.P w=.ok (.enter f vs.toArray) w):o.wpIn c.bC 9 c.P a w Kw (tc c Q):=by
 cases h with
 |mk aL ρ os cargs ch post hspec hgv ha hb hrest =>
  have hu:=hspec.2.use ab aL (fun h=>h.mono) ⟨fun _ _=>ab.pn,fun _=>ab.pn⟩ hgv ha (fun r os' hp=>by obtain ⟨rfl,hp⟩:=hp;exact hb os' hp) hall;refine ⟨kJ,?_⟩;rw[lj hop0,hrun hspec.1,Oper.uponIn_enter];refine ⟨vi c,Aq (Calls.mono hu ?_)⟩;rintro e w' ⟨rfl,v,r,os',D2,E2,he,⟨rfl,hp⟩,hs',hv,_⟩;exact ⟨_,hrest os' hp,D2,E2,hs'⟩
theorem C6{o:Oper}{g:bS}{a:Act}{w:World}{Kw:Act→World→Prop}(hop:df c.P o=some g)(h:my c.P Q g A)(hsim:b5 c A a w):o.wpIn c.bC 9 c.P a w Kw (tc c Q):=by
 have hop0:=hop;obtain ⟨D,E,ab⟩:=hsim;cases h with
 |call h =>
  unfold df at hop;split at hop <;>try (first | (simp at hop;done) | ((repeat' split at hop) <;>simp at hop;done))
  rename_i f' xs ts ho;split at hop
  case isFalse=>simp at hop
  simp only[t7,bS.call.injEq] at hop;obtain ⟨ys,hys,rfl,rfl⟩:=hop;have e:xs.map a.eval=(xs.toList.map a.eval).toArray:=by apply Array.ext';simp
  refine xc (vs:=xs.toList.map a.eval) hop0 h ab (kL ab xs.toList ts.toList ys hys) fun hc =>?_;simp only[execOp,ho,resolve,Act.eval,Deferred.ofValue,Sem.run_bind,Sem.run_pure,Result.andThen_ok,invoke,Array.append_empty,Array.empty_append,nd hc];rw[←e]
 |fH hx h =>
  rename_i x args f caps;unfold df at hop;split at hop <;>try (first | (simp at hop;done) | ((repeat' split at hop) <;>simp at hop;done))
  rename_i y xs ts _ ho;split at hop
  case h_2=>cases hop
  rename_i y' ys J U;simp only[v6,bS.fH.injEq] at hop;obtain ⟨rfl,rfl⟩:=hop;have hv:=bX ab J;rw[hx] at hv;obtain ⟨cs,q1,q2⟩:=hv;simp only[al] at q2;obtain ⟨vs,q3,q4⟩:=q2;have hval:a.eval y=jr f vs:=by simpa[bD,I.isAgg,q3] using q1.symm
  have e:xs.map a.eval=(xs.toList.map a.eval).toArray:=by apply Array.ext';simp
  have hargs:=kL ab xs.toList ts.toList ys U;rcases Nat.lt_or_ge f 1000000 with hf | hf
  ·rw[vD hf,vC hf] at h;rw[mG hf] at hval;refine xc (vs:=xs.toList.map a.eval++vs) hop0 h ab (hargs.append (rK q4)) fun hc =>?_;simp only[execOp,ho,resolve,hval,Deferred.ofValue,Sem.run_bind,Sem.run_pure,Result.andThen_ok,invoke,Array.empty_append,nd hc];rw[e];simp
  ·obtain ⟨g,rfl⟩:∃ g:Nat,f=g+1000000:=⟨Nat.sub f 1000000,(Nat.sub_add_cancel hf).symm⟩
   rw[sI,vB] at h;rw[qv] at hval;refine xc (vs:=vs++xs.toList.map a.eval) hop0 h ab ((rK q4).append hargs) fun hc =>?_;simp only[execOp,ho,resolve,hval,Deferred.ofValue,Sem.run_bind,Sem.run_pure,Result.andThen_ok,invoke,Array.append_empty,nd hc];rw[e];simp
theorem ae.YK{gs:List aH}(k:Nat){g:bS}{dst:Option Nat}(hk:gs=gs.take k++⟨dst,g,none⟩::gs.drop (k+1))(h:∀ K:ai→Prop,(∀ B,my c.P Q g B→K B)→aR c.P c.Y false K (aB (gs.take k) A)):ae c (.cu none gs) Q A:=by
 intro code hc a w ab;cases code <;>simp only[eA] at hc <;>try (first | (cases hc;done) | ((repeat' split at hc) <;>cases hc;done))
 rename_i id aV draw;split at hc
 case h_2=>cases hc
 rename_i gs' hgs;split at hc
 case isFalse=>cases hc
 simp only[v6,bu.cu.injEq] at hc;obtain ⟨hdr,rfl⟩:=hc;cases draw with
 |true=>simp at hdr
 |false =>
  refine wpIn_region_list ?_;rw[hk] at hgs;obtain ⟨l1,o,l2,aq,J,U⟩:=zX hgs;rw[aq];refine sT (K:=my c.P Q g) (fun B a' w' hp hs' =>?_) l1 _ A a w J (h _ fun _ hb=>hb) ab;obtain ⟨q1,q2,q3,q4⟩:=nB U;have wn:Region.wanted o (yielded aV a'.tmps)=true:=by
   rcases q4 with ⟨a5,_⟩ | ⟨_,_,_,_,_,a5⟩
   ·simp[Region.wanted,a5]
   ·simp at a5
  simp only[wpListIn,wn,if_true];exact C6 q1 hp hs'
theorem ae.od{gs gs1 gs2:List aH}{g:bS}{dst:Option Nat}(e:gs=gs1++⟨dst,g,none⟩::gs2)(h:∀ K:ai→Prop,(∀ B,my c.P Q g B→K B)→aR c.P c.Y false K (aB gs1 A)):ae c (.cu none gs) Q A:=by
 subst e;refine ae.YK gs1.length (g:=g) (dst:=dst) ?_ fun K hK =>?_
 ·simp
 ·simpa using h K hK
end
theorem Zg{w:World}{b:Nat}{cs:Array Value}{T:TypeId}{fr:Nat×Nat}{v:Value}(h:w.heap[b]?=some (.cells cs T fr)):w.setCell ⟨b,0,none⟩ v=w.setRow b (cs.setIfInBounds 0 v):=by
 unfold World.setCell World.setRow
 congr 1
 apply Array.ext
 ·simp
 ·intro i J U;simp only[Array.getElem_modify];split
  ·rename_i e;subst e;obtain ⟨_,hv⟩:=zz2.1 h;simp[hv]
  ·rfl
def r8(P:Program)(f:FuncId):Prop:=e8 P f=true∧∀ (b:Nat) (T:TypeId) (w:World) (x:Bool),w.heap[b]?=some (.cells #[.bool x] T (0,0))→CallsDIn Fence.wide 8 P f #[.pointer (some ⟨b,0,none⟩)] .returning w fun e u' w'=>(∃ v,e=.returned v)∧u'=.returning∧w'=w
def r4(P:Program)(f:FuncId)(ch:List PanicEntry):Prop:=e8 P f=true∧∀ (b:Nat) (T:TypeId) (w:World) (x:Bool),w.heap[b]?=some (.cells #[.bool x] T (0,0)) →
 CallsDIn Fence.wide 8 P f #[.pointer (some ⟨b,0,none⟩)] (.panicking ch) w fun e u' w'=>(∃ v,e=.returned v)∧settle u'=.returning∧∃ w2,Below w.heap.size w w2∧w'=w2.setCell ⟨b,0,none⟩ (.bool false)
def j9(f:FuncId)(v:Value):Deferred := { target:=.fn (.func f) #[v],args := #[] }
def rz(rs:List bN)(post:cK)(ch:List PanicEntry)(N:Nat):Exit→ai→Prop
 | .ret,A=>(∃ x,A.o N=some (.box (.bool x)))∧iX rs post A
 | .panic ch',A=>ch'=ch∧(∃ x,A.o N=some (.box (.bool x)))∧iX rs post (A.aT N (.box (.bool false)))
 |_,_=>False
section
variable {P:Program} {n:Nat} {w:World} {D:aP} {E:aY} {rs:List bN} {post:cK} {fn:Func} {ch:List PanicEntry} {f:FuncId} {N b:Nat}
theorem Ch(hrs:gQ P fn.results.toList=some rs)(hEN:E N=some (.aL b .one)){A:ai}{D':aP}{E':aY}{u:FrameMode}(hx:∃ x,A.o N=some (.box (.bool x)))
  (hcase:(u=.returning∧iX rs post A∧r8 P f)∨(u=.panicking ch∧iX rs post (A.aT N (.box (.bool false)))∧r4 P f ch)) :
  ∀ (ds:List Deferred) (a:Act) (w':World),a.defers=ds→aU ⟨P,w,D,n,cL E,E,dx,none,some [j9 f (.pointer (some ⟨b,0,none⟩))]⟩ A a w' D' E'→LeavesInM Fence.wide 9 P fn a.tmps (fun e w'=>∃ v,e=.returned v∧lA w D E post v w') ds u w'
 | [],a,w',af,ab=>by
  have J:a.defers=[j9 f (.pointer (some ⟨b,0,none⟩))]:=ab.eB;rw[af] at J;cases J
 |d::ds,a,w',af,ab=>by
  have J:a.defers=[j9 f (.pointer (some ⟨b,0,none⟩))]:=ab.eB;rw[af] at J;simp only[zw2] at J;obtain ⟨rfl,rfl⟩:=J
  ·skip
   obtain ⟨x,hx⟩:=hx;obtain ⟨b',cs,T,e1,e2,e3,e4,e5⟩:c6 _ w' D' E' N (some (.box (.bool x))):=hx▸ab.bP N;have hfx:E' N=none∨E' N=some (.aL b .one):=ab.vP (n:=N) (e:=.aL b .one) hEN rfl;have hE':E' N=some (.aL b .one):=by
    rcases hfx with h | h
    ·rw[h] at e1;cases e1
    ·exact h
   rw[hE'] at e1;simp only[v6,bM.aL.injEq] at e1;obtain ⟨rfl,_⟩:=e1;have hcs:cs = #[.bool x]:=by
    simp only[al] at e4;apply Array.ext';simpa using e4
   subst hcs;refine ⟨by rcases hcase with ⟨rfl,_⟩ | ⟨rfl,_⟩ <;>simp,.inr ⟨fun _=>by decide,.func f,#[.pointer (some ⟨b,0,none⟩)],f,#[.pointer (some ⟨b,0,none⟩)],rfl,?_,fun _ _=>trivial,?_⟩⟩
   ·have hcb:e8 P f=true:=by rcases hcase with ⟨_,_,h⟩ | ⟨_,_,h⟩ <;>exact h.1
    simp only[j9,invoke,nd hcb,Array.empty_append]
   ·rcases hcase with ⟨rfl,hr,hi⟩ | ⟨rfl,hr,hc⟩
    ·refine (hi.2 b T w' x e3).mono ?_;rintro e u' w'' ⟨⟨v,rfl⟩,rfl,rfl⟩;obtain ⟨v,J,U⟩:=ab.ta hrs hr;exact ⟨v,J,v,rfl,U⟩
    ·refine (hc.2 b T w' x e3).mono ?_;rintro e u' w'' ⟨⟨v,rfl⟩,hu,w2,hb2,rfl⟩;have hs1:=ab.grow (D':=D') hb2 (fun _ _ h=>h) (fun _ _ h _=>h) (fun b o af=>Nat.lt_of_lt_of_le (ab.aQ b o af) hb2.size);have e3':w2.heap[b]?=some (.cells #[.bool x] T (0,0)):=(hb2.block b (fJ e3)).trans e3;have hs2:=hs1.xI (y:=.bool false) (cs' := #[.bool false]) hx hE' rfl (by simp[al]);have hw:w2.setCell ⟨b,0,none⟩ (.bool false)=w2.setRow b #[.bool false]:=by
      rw[Zg e3'];rfl
     rw[←hw] at hs2;obtain ⟨v,J,U⟩:=hs2.ta hrs hr;simp only[hu];exact ⟨v,J,v,rfl,U⟩
theorem po{bC:Fence}{m:Nat}{tmps:Array Value}{R R':Ending→World→Prop}(hr:∀ e w,R e w→R' e w):∀ (ds:List Deferred) (u:FrameMode) (w:World),LeavesInM bC m P fn tmps R ds u w→LeavesInM bC m P fn tmps R' ds u w
 | [],u,w,h=>by
  cases u with
  |run=>exact h
  |returning=>obtain ⟨v,J,U⟩:=h;exact ⟨v,J,hr _ _ U⟩
  |panicking c=>exact hr _ _ h
 |d::ds,u,w,h=>by
  obtain ⟨J,U⟩:=h;refine ⟨J,?_⟩;rcases U with ⟨r,w',k1,k2,k3⟩ | ⟨k1,fv,cap,g,args,k2,k3,k4,k5⟩
  ·exact .inl ⟨r,w',k1,k2,po hr ds u w' k3⟩
  ·refine .inr ⟨k1,fv,cap,g,args,k2,k3,k4,k5.mono fun e u' w' h =>?_⟩;cases e with
   |returned v=>exact po hr ds _ w' h
   |panicked c=>exact po hr ds _ w' h
   |outgrown=>exact hr _ _ h
def rJ(P:Program)(fn:Func)(rest:Code)(slots:List Nat)(a:Act)(vs:Array Value)(w:World)(R:Ending→World→Prop):Prop :=
 vs.toList=slots.map (fun t=>a.tmps.getD t undef)→rest.wpIn Fence.wide 9 P (bodyPostM Fence.wide 9 P fn R) a w
theorem rJ.mono{rest:Code}{slots:List Nat}{a:Act}{vs:Array Value}{w:World}{R R':Ending→World→Prop}(h:rJ P fn rest slots a vs w R)(hr:∀ e w,R e w→R' e w):rJ P fn rest slots a vs w R':=fun hv=>by
 refine wpIn_mono (h hv) fun e a' w' q =>?_;cases e <;>simp only[bodyPostM] at q ⊢ <;>first
  |exact po hr _ _ _ q
  |exact hr _ _ q
  |exact q
theorem FB{w:World}{D:aP}{E:aY}(g:Nat→Value):∀ (slots:List Nat) (args:List I),aI w D E args (slots.map g)→∀ t,aZ w D E (bY (slots.zip args) t) (g t)
 | [],args,h,t=>by simp[bY,aZ]
 |s::slots,[],h,t=>by simp[bY,aZ]
 |s::slots,x::args,h,t=>by
  simp only[aI,Z3] at h;obtain ⟨v,rest,cs,e,J,U,ah⟩:=h;simp only[zw2] at e;obtain ⟨rfl,rfl⟩:=e;simp only[List.zip_cons_cons,bY];split
  ·rename_i hk;subst hk;exact ju J U
  ·exact FB g slots args ah t
theorem YW{rest:Code}{x:bu}{slots:List Nat}{a:Act}{args:List I}{os:List (Nat×ao)}{ts:Nat}(hrs:gQ P fn.results.toList=some rs)(hx:eA P n rest=some x)(hsz:a.tmps.size=n)(af:a.defers=[j9 f (a.tmps.getD ts undef)])(hos:∀ m,aw os m=true→n≤m∧1000000≤m)
  (hts:bY (slots.zip args) ts=.ptr N []) {y:Bool} (hN:aj os N=some (.box (.bool y))) (hi:r8 P f) (hc:r4 P f ch)
  (hAW:∀ (w:World) (D:aP) (E:aY) (d:Deferred),ae ⟨P,w,D,n,cL E,E,dx,none,some [d]⟩ x (rz rs post ch N) (av (slots.zip args) os)):nt (rJ P fn rest slots a) (fun w _ E=>gM P w (cL E)) args os post:=by
 intro w D E vs aq hD ho hv hvs;have hvs':vs=slots.map (fun t=>a.tmps.getD t undef):=by simpa using hvs
 subst hvs';have htm:=FB (fun t=>a.tmps.getD t undef) slots args hv;have hp:=htm ts;rw[hts] at hp;obtain ⟨b,aX,off,p1,p2,p3⟩:=lg hp;have hob:c6 _ w D E N (some (.box (.bool y))):=hN▸ho.bP N;obtain ⟨b',cs,T,e1,_⟩:=hob;have hsh:aX=.one:=by
  rw[p1] at e1;simp only[v6,bM.aL.injEq] at e1;rw[e1.2];rfl
 subst hsh;have hoff:off=0:=by simpa[cR.off] using p2.symm
 subst hoff;simp only[p3] at af;have hsim:aU ⟨P,w,D,n,cL E,E,dx,none,some [j9 f (.pointer (some ⟨b,0,none⟩))]⟩ (av (slots.zip args) os) a w D E:=by
  refine ⟨hsz,af,htm,eY.refl _ _,fun _ _ h _=>h,hD,fun m =>?_,ho.cQ,fun m e h=>.inr ⟨e,h,.refl e⟩,fun m hm =>?_,fun _ _ h=>h,pX aq,.refl _ _⟩
  ·have h:=ho.bP m;simp only[av];cases hx:aj os m with
   |none=>rw[hx] at h;exact h
   |some x=>rw[hx] at h;exact c6.ib h fun e b he hb=>.inr ⟨m,e,he,hb⟩
  ·refine hos m ?_;cases hx:aj os m with
   |none=>have h:=ho.bP m;rw[hx] at h;exact absurd h hm
   |some x=>simp[aw,hx]
 refine wpIn_mono ((hAW w D E _) rest hx a w ⟨D,E,hsim⟩) ?_;rintro e a' w' ⟨A,hq,D',E',ab⟩;have bj:∀ e w',(∃ v,e=Ending.returned v∧lA w D E post v w')→∃ v D' E' r os',e=.returned v∧post r os'∧aZ w' D' E' r v∧jF (fun b=>w.heap.size≤b∨cL E b) w' D' E' (aj os') ∧
   eY (fun b=>w.heap.size≤b∨cL E b) w w'∧(∀ b o,D b o→D' b o)∧(∀ b o,D' b o→b<w'.heap.size)∧(∀ b o,D' b o→b<w.heap.size→¬ cL E b→D b o) ∧
   (∀ n e,E n=some e→aw os' n=true→∃ e',E' n=some e'∧e.le e')∧gN w D w':=fun e w' ⟨v,J,D',E',r,os',U⟩=>⟨v,D',E',r,os',J,U⟩
 cases e <;>simp only[rz] at hq
 ·obtain ⟨J,U⟩:=hq;exact po bj _ _ _ (Ch (ch:=ch) hrs p1 J (.inl ⟨rfl,U,hi⟩) a'.defers a' w' rfl ab)
 ·obtain ⟨rfl,J,U⟩:=hq;exact po bj _ _ _ (Ch hrs p1 J (.inr ⟨rfl,U,hc⟩) a'.defers a' w' rfl ab)
end
def vh(P:Program)(n:Nat):Code→Option (bu×FuncId×Nat×Nat×bu)
 | .seq kY (.seq (.region _ aV false) rest)=>match aV.toList with
  | [o1,o2]=>match lF P n aV o1,o2.op with
   |some ⟨some t5,.mk g [.t ts],none⟩,.defer { callee:=.value (.tmp t),args,.. } =>if t=t5∧args = #[]∧o2.guard=none∧o2.dst=none then (match eA P n kY,eA P n rest with
     |some x0,some x=>some (x0,g,ts,t5,x)
     |_,_=>none)
    else none
   |_,_=>none
  |_=>none
 |_=>none
structure GP (P:Program) (n:Nat) (x:bu) (rs:List bN) (post:cK) (ch:List PanicEntry) (g:FuncId) (ts t5:Nat) (tsl:List (Nat×I)) (os0:List (Nat×ao)) (ρ:List (Nat×Nat)) (os1:List (Nat×ao)) (slots:List Nat) (cargs:List I) (N:Nat) (y:Bool) (post1:cK):Prop where
 fG:bY tsl ts=.ptr (bI ρ N) []
 BW:gl ρ os1 os0
 arg:gP false (av ((t5,.func g [.ptr (bI ρ N) []])::tsl) (eK (iE ρ os1) os0)) ρ os1 (slots.map (bY ((t5,.func g [.ptr (bI ρ N) []])::tsl))) cargs
 yJ:∀ r os',post1 r os'→gE false ρ os1 os0 r os'
 Fk:bY (slots.zip cargs) ts=.ptr N []
 box:aj os1 N=some (.box (.bool y))
 lO:∀ m,aw os1 m=true→n≤m∧1000000≤m
 rest:∀ (w:World) (D:aP) (E:aY) (d:Deferred),ae ⟨P,w,D,n,cL E,E,dx,none,some [d]⟩ x (rz rs post1 ch N) (av (slots.zip cargs) os1)
 iu:∀ r os',post1 r os'→∃ osF,r.flat=true∧r.bn (bI ρ)=r∧(∀ m z,aj osF m=some z→aj (dE ρ os'++os0) m=some z∧z.only (aw osF)=true∧z.eg=true)∧post r osF
abbrev sD(P:Program)(w:World)(D:aP)(n:Nat)(E:aY)(b:Option (List Deferred)):cV:=⟨P,w,D,n,cL E,E,dx,none,b⟩
theorem aU.WK{P:Program}{n:Nat}{w:World}{D:aP}{E:aY}{fq:Option (List Deferred)}{post:cK}{A:ai}{a:Act}{w':World}{D':aP}{E':aY}{r:I}{v:Value}{os:List (Nat×ao)}
  (ab:aU (sD P w D n E fq) A a w' D' E') (J:∀ m z,aj os m=some z→A.o m=some z∧z.only (aw os)=true∧z.eg=true) (hf:r.flat=true) (hv:aZ w' D' E' r v) (hp:post r os):lA w D E post v w':=by
 obtain ⟨D2,E2,hw,e2,e2n,q1,q2,q3,q4,q5,q6⟩:=ab.wz J;exact ⟨D2,E2,r,os,hp,aZ.flat hf hv,q1,q2,q3,q4,q5,q6⟩
theorem cU.X0{P:Program}{f:FuncId}{fn:Func}{x0 x:bu}{g:FuncId}{ts t5:Nat}{rs:List bN}{args:List I}{os:List (Nat×ao)}{post:cK}{ch:List PanicEntry}(hf:P.funcs[f]?=some fn)(hcall:e8 P f=true)(hc:(fn.body.bind (vh P fn.ntmps))=some (x0,g,ts,t5,x))
  (hrs:gQ P fn.results.toList=some rs) (hn:args.length≤fn.ntmps) (hn2:fn.ntmps≤1000000) (hos:∀ m,aw os m=true→1000000≤m) (hi:r8 P g) (hca:r4 P g ch) (hts:ts≠t5)
  (h:I.gi args→∀ (w:World) (D:aP) (E:aY),ae ⟨P,w,D,fn.ntmps,cL E,E,dx,none,some []⟩ x0 (ez (fun B=>∃ tsl os0 ρ os1 slots cargs N y post1,B=av tsl os0∧GP P fn.ntmps x rs post ch g ts t5 tsl os0 ρ os1 slots cargs N y post1) (fun _ _=>False)) (av (bJ 0 args) os)):cU P f args os post:=by
 obtain ⟨body,hb,hc⟩:=zx9.1 hc;refine ⟨hcall,fun w D E vs aq hD ho hv =>?_⟩;have hlen:=rL hv;have s0:=xT (P:=P) (n:=fn.ntmps) (Y:=dx) hD ho hv (by omega) (fun m hm=>⟨zw3 hn2 (hos m hm),hos m hm⟩) (pX aq);have hsim:aU (sD P w D fn.ntmps E (some [])) (oC args os) { tmps:=vs.toArray++Array.replicate (fn.ntmps-vs.toArray.size) undef,defers:=[] } w D E :=
  ⟨s0.sz,rfl,s0.dR,s0.dO,s0.c9,s0.aQ,s0.bP,s0.cQ,s0.dS,s0.eP,s0.cT,pX aq,s0.fC⟩
 obtain ⟨RR,hRR⟩:∃ RR:Ending→World→Prop,RR=fun e w'=>∃ v,e=.returned v∧lA w D E post v w':=⟨_,rfl⟩
 refine Calls.mono (R:=RR) ?_ (fun e w' q=>by rw[hRR] at q;obtain ⟨v,he,D',E',r,os',k⟩:=q;exact ⟨v,D',E',r,os',he,k⟩);refine (callsIn_wide (n:=9)).1 (callsIn_of_wp_marks hf hb trivial ?_);unfold vh at hc;split at hc
 case h_2=>cases hc
 rename_i kY id aV rest;split at hc
 case h_2=>cases hc
 rename_i o1 o2 hops;split at hc
 case h_2=>cases hc
 rename_i t5' g' ts' t dargs _ hg1 ho2;split at hc
 case isFalse=>cases hc
 rename_i hok;obtain ⟨rfl,rfl,hgd,hdst⟩:=hok;split at hc
 case h_2=>cases hc
 rename_i y0 y hx0 hx;simp only[v6,Prod.mk.injEq] at hc;obtain ⟨rfl,rfl,rfl,rfl,rfl⟩:=hc;refine wpIn_seq ?_;have hw0:=((h (pR _ _ hv) w D E).sub (ua args os)) kY hx0 _ w ⟨D,E,hsim⟩;refine wpIn_mono hw0 ?_;rintro e a1 w1 ⟨B,hq,D1,E1,hs1⟩;cases e <;>simp only[ez] at hq
 obtain ⟨tsl,os0,ρ,os1,slots,cargs,N,yb,post1,rfl,R⟩:=hq;simp only[Exit.then];refine wpIn_seq (wpIn_region_list ?_);rw[hops];obtain ⟨q1,q2,q3,q4⟩:=nB hg1;simp only at q1 q2;have wn1:∀ a:Act,Region.wanted o1 (yielded aV a.tmps)=true:=fun a=>by
  rcases q4 with ⟨a5,_⟩ | ⟨_,_,_,_,_,a5⟩
  ·simp[Region.wanted,a5]
  ·simp at a5
 have wn2:∀ a:Act,Region.wanted o2 (yielded aV a.tmps)=true:=fun a=>by simp[Region.wanted,hgd]
 simp only[wpListIn,wn1,if_true];have hmk:bo (av tsl os0) (.mk g' [.t ts'])=some (.func g' [.ptr (bI ρ N) []]):=by
  simp[bo,ak,av,R.fG,I.bT]
 have d1:=(Di (c:=sD P w D fn.ntmps E (some [])) q1 hmk).does q3;rw[←q2] at d1;refine d1.wp q1 ⟨D1,E1,hs1⟩ fun a2 w2 hs2 =>?_;obtain ⟨D2,E2,hs2⟩:=hs2;simp only[wn2,if_true];rw[CD] at hs2
 -- the deferred call
 have hglt:=Ap hi.1;have hfv:=hs2.dR t;simp only[av,bY,if_true] at hfv;obtain ⟨fc,f1,f2⟩:=hfv;simp only[al] at f2;obtain ⟨fvs,f3,f4⟩:=f2;have hval:a2.tmps.getD t undef=.func (.func g') #[] fvs.toArray:=by
  rw[←mG hglt];simpa[bD,I.isAgg,f3] using f1.symm
 simp only[aI] at f4;obtain ⟨pv,prest,pcs,rfl,p1,p2,rfl⟩:=f4;have hpv:=hs2.dR ts';simp only[av,bY,if_neg hts,R.fG] at hpv;obtain ⟨pb,psh,poff,b1,b2,b3⟩:=lg hpv;obtain ⟨pb',psh',poff',b1',b2',b3'⟩:=lg (ju p1 p2);have hpeq:pv=a2.tmps.getD ts' undef:=by
  rw[b1] at b1';simp only[v6,bM.aL.injEq] at b1';obtain ⟨rfl,rfl⟩:=b1';rw[b2] at b2';simp only[v6] at b2';subst b2';rw[b3,b3']
 have hdf:a2.defers=[]:=hs2.eB;obtain ⟨a3,ha3⟩:∃ a3:Act,a3 = { a2 with defers:=[j9 g' (a2.tmps.getD ts' undef)] } :=⟨_,rfl⟩
 have hrun:(o2.semAt Fence.wide.round a2.eval).run P w2=.ok (.defer (j9 g' (a2.tmps.getD ts' undef))) w2:=by
  show (execOp a2.eval o2).run P w2=_
  have he:a2.eval (.tmp t)=.func (.func g') #[] #[pv]:=hval;simp[execOp,ho2,resolve,he,Deferred.ofValue,j9,hpeq]
 refine ⟨fun _ _=>trivial,?_⟩;rw[hrun,Oper.uponIn_defer,hdf,hdst];simp only[Exit.then];have hput:({ tmps:=a2.tmps,defers:=[j9 g' (a2.tmps.getD ts' undef)] } : Act).put none undef=a3:=by rw[ha3];rfl
 rw[hput]
 -- the rest
 have hand:=YW (P:=P) (n:=fn.ntmps) (fn:=fn) (f:=g') (N:=N) (ch:=ch) (slots:=slots) (a:=a3) (args:=cargs) (os:=os1) (ts:=ts') hrs hx (by rw[ha3];exact hs2.sz) (by rw[ha3]) R.lO R.Fk R.box hi hca R.rest;have hs3:aU (sD P w D fn.ntmps E (some [j9 g' (a2.tmps.getD ts' undef)])) (av ((t,.func g' [.ptr (bI ρ N) []])::tsl) os0) a3 w2 D2 E2:=by
  rw[ha3];exact ⟨hs2.sz,rfl,hs2.dR,hs2.dO,hs2.c9,hs2.aQ,hs2.bP,hs2.cQ,hs2.dS,hs2.eP,hs2.cT,pX aq,hs2.fC⟩
 have hall:∀ l:List Nat,fE (aZ w2 D2 E2) (l.map (bY ((t,.func g' [.ptr (bI ρ N) []])::tsl))) (l.map fun k=>a3.tmps.getD k undef):=fun l=>by
  induction l with
  |nil=>exact .nil
  |cons k l ih=>exact .cons (hs3.dR k) ih
 have hus:=hand.use hs3 false (fun h hr=>h.mono hr) ⟨(fun h=>by cases h),fun _=>hs3.pn⟩ R.BW R.arg R.yJ (hall slots);refine rJ.mono hus ?_ (by simp);rintro e w' ⟨v,r,os',D4,E4,rfl,hp,hs4,hv4,_⟩;rw[hRR];obtain ⟨osF,g1,g2,g3,g4⟩:=R.iu r os' hp;rw[g2] at hv4;exact ⟨v,rfl,hs4.WK g3 g1 hv4 g4⟩
def gx:aH:=⟨none,.mv (.c (.bool true)),none⟩
theorem HQ{l:List Oper}{cl:List Nat}(h7:∀ i,i<l.length→(((l.map cw).getD i []).all (fun k=>decide (k<i))&&Nat.beq (cl.getD i 0) (lu cl ((l.map cw).getD i [])))=true)
  {S:Nat→Prop} (hS:∀ i o,l[i]?=some o→S i→∀ k∈cw o,S k):∀ n i o,i≤n→l[i]?=some o→(∀ k∈cw o,S k)→∀ j,(cl.getD i 0).testBit j=true→S j:=by
 have fG:∀ i o,l[i]?=some o→(∀ k∈cw o,k<i)∧(∀ j,(cl.getD i 0).testBit j=true→j∈cw o∨∃ k∈cw o,(cl.getD k 0).testBit j=true):=by
  intro i o ho;have hi:i<l.length:=(Z6.1 ho).1;have h8:=h7 i hi;have hon:(l.map cw).getD i []=cw o:=by simp[Z0,ho]
  rw[hon] at h8;simp only[t8,zz6,decide_eq_true_eq] at h8;have hb:=Nat.eq_of_beq_eq_true h8.2;exact ⟨h8.1,fun j hj=>rX (by rw[←hb];exact hj)⟩
 intro n
 induction n with
 |zero =>
  intro i o hi ho hon j hj;obtain ⟨h8,h9⟩:=fG i o ho;rcases h9 j hj with h | ⟨k,hk,_⟩
  ·exact hon j h
  ·have:=h8 k hk;omega
 |succ n ih =>
  intro i o hi ho hon j hj;obtain ⟨h8,h9⟩:=fG i o ho;rcases h9 j hj with h | ⟨k,hk,hjk⟩
  ·exact hon j h
  ·have hki:=h8 k hk;have hkl:k<l.length:=Nat.lt_trans hki (Z6.1 ho).1;obtain ⟨ok,hok⟩:∃ ok,l[k]?=some ok:=⟨l[k],zz4 hkl⟩
   exact ih k ok (by omega) hok (hS k ok hok (hon k hk)) j hjk
def C5(ab:List FuncId)(L:dZ)(on:List (List Nat))(gs:List aH)(σ:List Nat)(m:Nat):Bool :=
 pK ab L on (gs.take m++[gx]) (j7 on) (σ++[m])&&(s8 (m+1) (j7 on) m&&Nat.beq gs.length (m+1))
section
variable {c:cV}
theorem G5{K:ai→Prop}{fs:List FuncId}{L:dZ}{aV:Array Oper}{gs0 gs:List aH}{σ:List Nat}{Q:Exit→Act→World→Prop}{m:Nat}(hm:m<aV.size)(hQ:∀ (B:ai) (a:Act) (w:World) (Kw:Act→World→Prop),K B→b5 c B a w→wpOpIn c.bC 9 c.P aV Q m Kw a w)
  (hgs:fO c.P c.n aV aV.toList=some gs0) (hsame:∀ i,i≠m→gs[i]?=gs0[i]?) (hgm:gs[m]?=some gx) (hgl:gs.length=aV.size) (af:uA fs L aV.toList gs σ)
  (hlast:∀ (S:Nat→Prop),(∀ i o,aV.toList[i]?=some o→S i→∀ k∈cw o,S k)→∀ o,aV.toList[m]?=some o→(∀ k∈cw o,S k)→∀ j,j<gs.length→j≠m→S j) :
  ∀ (fuel:Nat) (listed:Array Bool) (A:ai) (a:Act) (w:World),listed.size=aV.size→(∀ i o,aV.toList[i]?=some o→listed.getD i false=true→∀ k∈cw o,listed.getD k false=true)→(dY σ listed).length≤fuel →
   cX L A→listed.getD m true=false→bO c.P c.Y fs K (aB (gz gs σ listed) A)→b5 c A a w→wpAnyIn c.bC 9 c.P .any aV Q fuel listed a w:=by
 obtain ⟨hlen,hat⟩:=iv hgs;have onOf_mem:∀ (o:Oper) (e:Edge),e∈o.after→Region.binds .any e=true→e.on∈cw o:=fun o e he hb=>by
  simp only[cw,zy1,zx5];exact ⟨e,⟨by simpa using he,hb⟩,rfl⟩
 have of_onOf:∀ (o:Oper) (k:Nat),k∈cw o→∃ e∈o.after,Region.binds .any e=true∧e.on=k:=fun o k hk=>by
  simp only[cw,zy1,zx5] at hk;obtain ⟨e,⟨J,U⟩,ah⟩:=hk;exact ⟨e,by simpa using J,U,ah⟩
 have last:∀ (listed:Array Bool),listed.size=aV.size→Region.ready .any aV listed=[]→listed.getD m true=false→False:=by
  intro listed hsz hr hml;have all:∀ n,∀ i,i<n→i<aV.size→listed.getD i true=true:=by
   intro n
   induction n with
   |zero=>intro i hi;omega
   |succ n ih =>
    intro i hi his;cases hb:listed.getD i true with
    |true=>rfl
    |false =>
     exfalso
     have ho:aV[i]?=some aV[i]:=zw0 his;have:i∈Region.ready .any aV listed:=mem_ready.2 ⟨hb,aV[i],ho,fun e he hbd=>by
      have hlt:=af.iu i aV[i] (by simp) e.on (onOf_mem _ e he hbd);have J:=ih e.on (by omega) (by omega);have U:e.on<listed.size:=by omega
      simpa[Array.getD_eq_getD_getElem?,U] using J⟩
     rw[hr] at this;cases this
  have:=all (m+1) m (by omega) hm;rw[hml] at this;cases this
 intro fuel
 induction fuel with
 |zero =>
  intro listed A a w hsz hcl hcnt hinv hml hwp ab;have hnone:dY σ listed=[]:=List.length_eq_zero_iff.1 (by omega);have:m∈dY σ listed:=by
   simp only[dY,zx5,hml,Bool.not_false,and_true];exact af.all m (by omega)
  rw[hnone] at this;cases this
 |succ fuel ih =>
  intro listed A a w hsz hcl hcnt hinv hml hwp ab;refine ⟨fun hr=>(last listed hsz hr hml).elim,fun i hi =>?_⟩;obtain ⟨hun,o,ho,hall⟩:=mem_ready.1 hi;have hin:i<aV.size:=(zz2.1 ho).1;obtain ⟨s1,s2,hσ,e1,e2⟩:=xn af.nW (af.all i (by omega)) (by omega) hun;have hol:aV.toList[i]?=some o:=by simpa using ho
  obtain ⟨g,hgi0,hcg⟩:=hat i o hol;have hon:∀ k∈cw o,listed.getD k false=true:=fun k hk=>by
   obtain ⟨e,J,U,ah⟩:=of_onOf o k hk;exact ah▸hall e J U
  by_cases him:i=m
  ·subst him;have hnil:dY σ listed=[i]:=by
    have hz:∀ j∈s1++s2,(!listed.getD j true)=false:=fun j hj=>by
     have hjσ:j∈σ:=by rw[hσ];rcases zy7.1 hj with h | h <;>simp[h]
     have hjl:=af.lt j hjσ;have hji:j≠i:=fun e=>by
      subst e;have hnd:=af.nW;rw[hσ] at hnd;rcases zy7.1 hj with h | h
      ·exact (List.nodup_append.1 hnd).2.2 j h j (by simp) rfl
      ·exact (List.nodup_cons.1 (List.nodup_append.1 hnd).2.1).1 h
     have h5:=hlast (fun k=>listed.getD k false=true) hcl o hol hon j hjl hji;have hjs:j<listed.size:=by omega
     simp[Array.getD_eq_getD_getElem?,hjs] at h5 ⊢;exact h5
    rw[e1];have f1:(s1.filter fun j => !listed.getD j true)=[]:=List.filter_eq_nil_iff.2 fun j hj=>by rw[hz j (List.mem_append_left _ hj)];simp
    have f2:(s2.filter fun j => !listed.getD j true)=[]:=List.filter_eq_nil_iff.2 fun j hj=>by rw[hz j (List.mem_append_right _ hj)];simp
    rw[f1,f2];rfl
   have hgd:gs.getD i default=gx:=by simp[Z0,hgm]
   simp only[gz,hnil,Z3,zx0,hgd] at hwp;have e:aB [gx] A=.done A:=rfl;rw[e] at hwp;cases hwp with
   |done hk=>exact hQ A a w _ hk ab
  have hgi:gs[i]?=some g:=by rw[hsame i him];exact hgi0
  have hgd:gs.getD i default=g:=by simp[Z0,hgi]
  have hwp':bO c.P c.Y fs K (aB (g::gz gs σ (listed.setIfInBounds i true)) A):=by
   simp only[gz,e1,zz3,Z3,hgd] at hwp;simp only[gz,e2,zz3];refine bO.nA hinv (fun j hj =>?_) hwp;obtain ⟨k,hk,rfl⟩:=zy1.1 hj;obtain ⟨hk1,hk2⟩:=zx5.1 hk;have:=af.pg (fun k=>listed.getD k false=true) hcl s1 i s2 o hσ hol hon k hk1 (by
    have hks:k<listed.size:=by
     have:=af.lt k (by rw[hσ];exact List.mem_append_left _ hk1);omega
    simp[Array.getD_eq_getD_getElem?,hks] at hk2 ⊢;exact hk2)
   rw[hgd] at this;have hkl:=af.lt k (by rw[hσ];exact List.mem_append_left _ hk1);have hks:k<aV.size:=by omega
   refine ⟨this,?_⟩;rcases af.qN k aV[k] (by simp) with h | h
   ·exact h
   ·exfalso
    have h9:=h.1;rw[hσ,List.getLast?_append] at h9;have hne:(i::s2).getLast?=some k:=by
     cases h10:(i::s2).getLast? with
     |none=>simp at h10
     |some q=>rw[h10] at h9;simpa using h9
    have hk2:k∈i::s2:=List.mem_of_getLast? hne;have hnd:=af.nW;rw[hσ] at hnd;exact (List.nodup_append.1 hnd).2.2 k hk1 k hk2 rfl
  unfold wpOpIn;rw[ho];have hokg:mQ g.op=true:=by
   have:=af.ok i (by omega)
   rwa [hgd] at this
  have hcl':∀ m om,aV.toList[m]?=some om→(listed.setIfInBounds i true).getD m false=true→∀ k∈cw om,(listed.setIfInBounds i true).getD k false=true:=by
   intro m om hom hm k hk;by_cases hmi:m=i
   ·subst hmi;rw[hol,v6] at hom;subst hom;exact getD_set_true (hon k hk)
   ·rw[getD_set_ne false (Ne.symm hmi)] at hm;exact getD_set_true (hcl m om hom hm k hk)
  have hfu:(dY σ (listed.setIfInBounds i true)).length≤fuel:=by
   have:(dY σ listed).length=(dY σ (listed.setIfInBounds i true)).length+1:=by
    rw[e1,e2];simp;omega
   omega
  have hml':(listed.setIfInBounds i true).getD m true=false:=by rw[getD_set_ne true him];exact hml
  rcases af.qN i o hol with hlb | ⟨hla,hlb⟩
  ·rw[hgd] at hlb;exact sO hcg hinv ⟨hokg,hlb⟩ hwp' ab fun B a' w' hw hiB hs'=>ih _ B a' w' (by simpa using hsz) hcl' hfu hiB hml' hw hs'
  ·exfalso
   have h5:=hlb (fun k=>listed.getD k false=true) hcl hon m (by omega) (Ne.symm him);have hms:m<listed.size:=by omega
   simp[Array.getD_eq_getD_getElem?,hms] at h5 hml;rw[hml] at h5;cases h5
theorem ae.jw{Q:Exit→ai→Prop}{A:ai}{on:List (List Nat)}{gs:List aH}(m:Nat)(ab:List FuncId)(L:dZ)(σ:List Nat){g:bS}{dst:Option Nat}(af:C5 ab L on gs σ m=true)(hk:gs[m]?=some ⟨dst,g,none⟩)(hi:cX L A)
  (h:∀ K:ai→Prop,(∀ B,my c.P Q g B→K B)→bO c.P c.Y ab K (aB (ff (σ++[m]) (gs.take m++[gx])) A)):ae c (.cu (some on) gs) Q A:=by
 intro code hc a w hs';cases code <;>simp only[eA] at hc <;>try (first | (cases hc;done) | ((repeat' split at hc) <;>cases hc;done))
 rename_i id aV draw;split at hc
 case h_2=>cases hc
 rename_i gs' hgs;split at hc
 case isFalse=>cases hc
 rename_i hok;simp only[v6,bu.cu.injEq] at hc;obtain ⟨he,rfl⟩:=hc;cases draw with
 |false=>cases he
 |true =>
  simp only[cond_true,v6] at he;subst he;simp only[Bool.not_true,Bool.false_or] at hok;simp only[C5,t8] at af;obtain ⟨hd1,hd2,hd3⟩:=af;have hglen:=Nat.eq_of_beq_eq_true hd3;have hops:gs'.length=aV.size:=by rw[(iv hgs).1,zy2]
  have hXl:(gs'.take m++[gx]).length=aV.size:=by simp;omega
  have hp:=C9 (l:=aV.toList) (by rw[hXl,zy2]) hd1;have h7:∀ i,i<aV.toList.length→(((aV.toList.map cw).getD i []).all (fun k=>decide (k<i))&&Nat.beq ((j7 (aV.toList.map cw)).getD i 0) (lu (j7 (aV.toList.map cw)) ((aV.toList.map cw).getD i [])))=true:=by
   simp only[pK,t8,zz6,zy6] at hd1;intro i hi;have:=hd1.2.2 i (by rw[hXl];simpa using hi);simpa only[t8,zz6] using this
  have hmlt:m<aV.size:=by omega
  refine wpIn_region_any hok (G5 (K:=my c.P Q g) (m:=m) hmlt (fun B a' w' Kw hpn hs2 =>?_) hgs (gs:=gs'.take m++[gx]) (fun i him =>?_) ?_ hXl hp (fun S hS o ho hon j hj hjm =>?_) aV.size (Array.replicate aV.size false) A a _ (by simp) ?_ ?_ hi (by simp[Array.getD_eq_getD_getElem?,hmlt]) ?_ ?_)
  ·obtain ⟨g1,hg1,hg2⟩:=(iv hgs).2 m aV[m] (by simp[hmlt]);rw[hk,v6] at hg1;subst hg1;obtain ⟨q1,q2,q3,q4⟩:=nB hg2;have wn:Region.wanted aV[m] (yielded aV a'.tmps)=true:=by
    rcases q4 with ⟨a5,_⟩ | ⟨_,_,_,_,_,a5⟩
    ·simp[Region.wanted,a5]
    ·simp at a5
   unfold wpOpIn;rw[zw0 hmlt];simp only[wn,if_true];exact C6 q1 hpn hs2
  ·rcases Nat.lt_or_ge i m with aq | aq
   ·rw[zz5 (by simp;omega),List.getElem?_take,if_pos aq]
   ·rw[zx2 (by rw[hXl];omega),zx2 (by omega)]
  ·rw[zx6 (by simp;omega)];simp[show min m gs'.length=m by omega]
  ·have hb:(j7 (aV.toList.map cw)).getD m 0 |>.testBit j:=by
    simp only[s8,zz6,zy6,Bool.or_eq_true,beq_iff_eq] at hd2;rcases hd2 j (by omega) with e | e
    ·exact absurd e hjm
    ·exact e
   exact HQ h7 hS m m o (Z4 _) ho hon j hb
  ·intro i o _ h
   exfalso
   simp only[Array.getD_eq_getD_getElem?,Array.getElem?_replicate] at h;split at h <;>simp at h
  ·refine zw3 (List.length_filter_le _ _) ?_;rw[hp.len,hXl];exact Z4 _
  ·have hall:dY (σ++[m]) (Array.replicate aV.size false)=σ++[m]:=by
    simp only[dY];refine List.filter_eq_self.2 fun i hi =>?_;have J:=hp.lt i hi;rw[hXl] at J;simp[J]
   simp only[gz,hall];exact h _ fun _ hb=>hb
  ·obtain ⟨D,E,hs'⟩:=hs';exact ⟨D,E,hs'.grow (w' := { w with drawn:=w.drawn+1 }) ⟨rfl,rfl,rfl,Z4 _,fun _ _=>rfl⟩ (fun _ _ h=>h) (fun _ _ h _=>h) (fun b o h=>hs'.aQ b o h)⟩
end
end Go.Abs
