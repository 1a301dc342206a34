/-
  A part of the proof that the law MarchSteps returns true for every input; three tables of Go's library start as the text lays them (the card ties them); conditions: none beyond the statement's own. (part 3 of 6)
-/
import Derived.Test.YthbdbocionnfgaaGreatDoorChecked
import Derived.KernelRfl
import Derived.RangeFuncIn
import Derived.Laws.Externs
import Derived.RecoverIn
import Derived.Test.YthbdbocionnfgaaGreatDoorNbb
set_option linter.unusedSimpArgs false
set_option linter.unusedVariables false
set_option maxHeartbeats 16000000
set_option maxRecDepth 100000
namespace Go.Proofs.YthbdbocionnfgaaGreatDoor
open Go Go.Abs Go.Abs.C
def SM:=[b 3 0,b 4 1,b 5 2,o 6 (.mv bC)]
def SN:=[L 30 3 3,f 31 0 0 5,l 32 31,o 33 (.call 27 [.t 30,.t 32]),m 29 33,o 34 (.ext (.t 29) 0),o 35 (.ext (.t 29) 1),o 7 (.alloc (.agg [.int .i64 0,.nils 4,.int .i64 0])),p (.aP (some 3) (.t 7) (.t 34)),m 8 35]
def SQ:=[L 37 3 3,f 38 0 0 5,l 39 38,o 40 (.call 28 [.t 37,.t 39]),m 36 40,o 41 (.ext (.t 36) 0),o 42 (.ext (.t 36) 1),o 9 (.alloc (.agg [.int .i64 0,.nils 4,.int .i64 0])),p (.aP (some 3) (.t 9) (.t 41)),m 10 42]
def SR:=[L 44 3 3,f 45 0 0 5,l 46 45,o 47 (.call 29 [.t 44,.t 46]),m 43 47,o 48 (.ext (.t 43) 0),o 49 (.ext (.t 43) 1),o 11 (.alloc (.agg [.int .i64 0,.nils 4,.int .i64 0])),p (.aP (some 3) (.t 11) (.t 48)),m 12 49]
def SS:=[L 51 3 3,f 52 0 0 5,l 53 52,o 54 (.call 30 [.t 51,.t 53]),m 50 54,o 55 (.ext (.t 50) 0),o 56 (.ext (.t 50) 1),o 13 (.alloc (.agg [.int .i64 0,.nils 4,.int .i64 0])),p (.aP (some 3) (.t 13) (.t 55)),m 14 56]
def SU:=[L 58 3 3,f 59 0 0 5,l 60 59,f 61 1 1 5,l 62 61,o 63 (.call 31 [.t 58,.t 60,.t 62]),m 57 63,o 64 (.ext (.t 57) 0),o 65 (.ext (.t 57) 1),o 66 (.ext (.t 57) 2),o 15 (.alloc (.agg [.int .i64 0,.nils 4,.int .i64 0])),o 16 (.alloc (.agg [.int .i64 0,.int .i64 0,.int .i64 0,.bool false])),p (.aP (some 3) (.t 15) (.t 64)),p (.aP (some 4) (.t 16) (.t 65)),m 17 66]
def SV:=[L 68 3 3,f 69 0 0 5,l 70 69,f 71 1 1 5,l 72 71,o 73 (.call 32 [.t 68,.t 70,.t 72]),m 67 73,o 74 (.ext (.t 67) 0),o 75 (.ext (.t 67) 1),o 76 (.ext (.t 67) 2),o 18 (.alloc (.agg [.int .i64 0,.nils 4,.int .i64 0])),o 19 (.alloc (.agg [.int .i64 0,.int .i64 0,.int .i64 0,.bool false])),p (.aP (some 3) (.t 18) (.t 74)),p (.aP (some 4) (.t 19) (.t 75)),m 20 76]
def SW:=[L 78 3 3,f 79 2 2 5,l 80 79,o 81 (.call 33 [.t 78,.t 80]),m 77 81,o 82 (.ext (.t 77) 0),o 83 (.ext (.t 77) 1),o 21 (.alloc (.agg [.int .i64 0,.nils 4,.int .i64 0])),p (.aP (some 3) (.t 21) (.t 82)),m 22 83]
def SX:=[L 85 3 3,f 86 2 2 5,l 87 86,o 88 (.call 34 [.t 85,.t 87]),m 84 88,o 89 (.ext (.t 84) 0),o 90 (.ext (.t 84) 1),o 23 (.alloc (.agg [.int .i64 0,.nils 4,.int .i64 0])),p (.aP (some 3) (.t 23) (.t 89)),m 24 90]
def SY:=[L 92 3 3,L 93 5 4,o 94 (.call 35 [.t 92,.t 93]),m 91 94,o 95 (.ext (.t 91) 0),o 96 (.ext (.t 91) 1),o 25 (.alloc (.agg [.int .i64 0,.nils 4,.int .i64 0])),p (.aP (some 3) (.t 25) (.t 95)),m 26 96]
def SO:=[L 98 3 3,L 99 5 4,o 100 (.call 36 [.t 98,.t 99]),m 97 100,o 101 (.ext (.t 97) 0),o 102 (.ext (.t 97) 1),o 27 (.alloc (.agg [.int .i64 0,.nils 4,.int .i64 0])),p (.aP (some 3) (.t 27) (.t 101)),m 28 102]
def SP:=[L 103 3 7,L 104 3 9,o 105 (.call 16 [.t 103,.t 104]),m 106 105,cM 107 8 106,cM 108 10 106,bE 109 (.bin .eql (.t 107) (.t 108)) 106,and 110 106 109,m 111 110,bE 112 (.ld (some 3) (.t 11)) 111,bE 113 (.ld (some 3) (.t 13)) 111,bE 114 (.call 16 [.t 112,.t 113]) 111,and 115 111 114,m 116 115,cM 117 12 116,cM 118 14 116,bE 119 (.bin .eql (.t 117) (.t 118)) 116,and 120 116 119,m 121 120,bE 122 (.ld (some 3) (.t 15)) 121,bE 123 (.ld (some 3) (.t 18)) 121,bE 124 (.call 16 [.t 122,.t 123]) 121,and 125 121 124,m 126 125,bE 127 (.ld (some 4) (.t 16)) 126,bE 128 (.ld (some 4) (.t 19)) 126,bE 129 (.eqv (.aP [(.i .i64),(.i .i64),(.i .i64),.b]) false (.t 127) (.t 128)) 126,and 130 126 129,m 131 130,cM 132 17 131,cM 133 20 131,bE 134 (.bin .eql (.t 132) (.t 133)) 131,and 135 131 134,m 136 135,bE 137 (.ld (some 3) (.t 21)) 136,bE 138 (.ld (some 3) (.t 23)) 136,bE 139 (.call 16 [.t 137,.t 138]) 136,and 140 136 139,m 141 140,cM 142 22 141,cM 143 24 141,bE 144 (.bin .eql (.t 142) (.t 143)) 141,and 145 141 144,m 146 145,bE 147 (.ld (some 3) (.t 25)) 146,bE 148 (.ld (some 3) (.t 27)) 146,bE 149 (.call 16 [.t 147,.t 148]) 146,and 150 146 149,m 151 150,cM 152 26 151,cM 153 28 151,bE 154 (.bin .eql (.t 152) (.t 153)) 151,and 155 151 154,m 156 155,bE 157 (.call 18 []) 156,and 158 156 157,m 6 158]
def sr:bo:=(s (r SM) (s (r SN) (s (r SQ) (s (r SR) (s (r SS) (s (r SU) (s (r SV) (s (r SW) (s (r SX) (s (r SY) (s (r SO) (s (r SP) .ret))))))))))))
def DY:List bL:=[.tmp 6]
theorem JI:ct Tryz.prog Tryz.f5 sr:=e (by kernel_rfl)
theorem K3:cj Tryz.prog Tryz.f5 DY:=e (by kernel_rfl)
theorem IB:cd Tryz.prog 5:=e (by kernel_rfl)
def N1:=[b 1 0,o 2 (.alloc (.agg [.int .i64 0,.nils 4,.int .i64 0])),bN 3 0]
def N2:=[L 5 3 1,o 6 (.call 23 [.t 5]),m 4 6]
def N3:=[m 7 4,o 8 (.bin .neq (.t 7) (aZ 0))]
def N4:=[o 9 (.bld [.int .i64 0,.nils 4,.int .i64 0] []),m 10 4,p (.aP (some 3) (.t 2) (.t 9)),m 3 10]
def N5:=[L 11 3 1,o 12 (.call 57 [.t 11]),p (.aP (some 3) (.t 1) (.t 12))]
def N6:=[f 13 1 1 1,l 14 13,o 15 (.len (.t 14)),f 16 2 2 1,p (.aP none (.t 16) (.t 15))]
def N7:=[L 17 3 1,p (.aP (some 3) (.t 2) (.t 17)),bN 3 0]
def yD:bo:=(s (r N1) (s (s (r N2) (s (r N3) (.cond (.t 8) (s (r N4) .ret) .skip))) (s (r N5) (s (r N6) (s (r N7) .ret)))))
def De:List bL:=[.cell 2 (some 3),.tmp 3]
theorem Jb:ct Tryz.prog Tryz.f10 yD:=e (by kernel_rfl)
theorem Km:cj Tryz.prog Tryz.f10 De:=e (by kernel_rfl)
theorem H2:cd Tryz.prog 10:=e (by kernel_rfl)
def OK:=[b 2 0,o 4 (.mv (.c (.nils 5))),bN 5 0]
def OL:=[L 11 3 2,o 12 (.call 23 [.t 11]),m 6 12]
def OP:=[m 13 6,o 14 (.bin .neq (.t 13) (aZ 0))]
def OQ:=[m 15 6,o 4 (.mv (.c (.nils 5))),m 5 15]
def OR:=[m 16 1,o 17 (.call 61 [.t 16]),no 18 17,m 19 18,kq 20 1 19,fn 21 0 0 2 19,eh 22 21 19,on 23 (.bin .eql (.t 20) (.t 22)) 19,or 24 19 23]
def OS:=[o 4 (.mv (.c (.nils 5))),bN 5 90]
def OT:=[f 26 0 0 2,l 27 26,f 28 1 1 2,l 29 28,f 30 2 2 2,l 31 30,f 32 2 2 2,l 33 32,o 34 (.sl 4 (.t 29) none (some (.t 31)) (some (.t 33))),o 35 (.call 62 [.t 27,.t 34]),m 25 35,o 36 (.ext (.t 25) 0),o 37 (.ext (.t 25) 1),m 7 36,m 8 37]
def LU:=some [[],[0],[],[2],[],[4],[],[6],[3,5,7],[1,8],[9],[10],[10],[11,9,0,1,2,3,4,5,6,7,8,9,10,11],[12,13,0,1,2,3,4,5,6,7,8,9,10,11,12,13]]
def OU:=[o 9 (.alloc (.nils 5))]
def OV:=[m 38 7,m 39 1,o 40 (.call 63 [.t 38,.t 39])]
def OW:=[o 10 (.alloc (.agg [.int .i64 0,.int .i64 0,.int .i64 0,.int .i64 0,.int .i64 0])),p (.aP (some 5) (.t 10) (.t 41))]
def OM:=[l 42 9,o 43 (.len (.t 42)),o 44 (.bin .eql (.t 43) (aZ 0)),m 45 44,eh 46 9 45,eh 47 9 45,on 48 (.len (.t 47)) 45,on 49 (.bin .sub (.t 48) (aZ 1)) 45,on 50 (.is 5 (.t 46) (.t 49)) 45,on 51 (.ld (some 5) (.t 50)) 45,on 52 (.ld (some 5) (.t 10)) 45,on 53 (.eqv (.aP [(.i .i64),(.i .i64),(.i .i64),(.i .i64),(.i .i64)]) true (.t 51) (.t 52)) 45,or 54 45 53]
def LS:=some [[],[0],[1],[2],[3],[3],[5,3],[6,3],[4,7,3],[8,3],[3],[9,10,3],[3,11]]
def ON:=[l 55 9,L 56 5 10,o 57 (.bs 39 5 [.t 56]),o 58 (.di 39 5 40 (.agg [.int .i64 0,.int .i64 0,.int .i64 0,.int .i64 0,.int .i64 0]) (.t 55) (.t 57)),p (.aP none (.t 9) (.t 58))]
def OO:=[l 59 9,m 4 59,bN 5 0]
def yN:bo:=(s (r OK) (s (s (r OL) (s (r OP) (.cond (.t 14) (s (r OQ) .ret) .skip))) (s (s (r OR) (.cond (.t 24) (s (r OS) .ret) .skip)) (s (.b9 LU OT) (s (r OU) (s (s (r OV) (.block 0 (.mb (.t 40) [41] (r OW) (.block 1 (s (.b9 LS OM) (.cond (.t 54) (r ON) .skip)))))) (s (r OO) .ret)))))))
def Dz:List bL:=[.tmp 4,.tmp 5]
theorem Jl:ct Tryz.prog Tryz.f14 yN:=e (by kernel_rfl)
theorem KF:cj Tryz.prog Tryz.f14 Dz:=e (by kernel_rfl)
theorem Ib:cd Tryz.prog 14:=e (by kernel_rfl)
def O3:=[b 2 0,b 3 1,o 4 (.mv bC)]
def O4:=[f 5 0 0 2,l 6 5,f 7 0 0 3,l 8 7,o 9 (.bin .eql (.t 6) (.t 8)),m 10 9,dU 11 2 2 2 10,dN 12 11 10,dU 13 2 2 3 10,dN 14 13 10,bE 15 (.bin .eql (.t 12) (.t 14)) 10,and 16 10 15,m 17 16,dU 18 1 1 2 17,dN 19 18 17,dU 20 1 1 3 17,dN 21 20 17,bE 22 (.call 52 [.t 19,.t 21]) 17,and 23 17 22,m 4 23]
def yP:bo:=(s (r O3) (s (r O4) .ret))
def DC:List bL:=[.tmp 4]
theorem Jn:ct Tryz.prog Tryz.f16 yP:=e (by kernel_rfl)
theorem KI:cj Tryz.prog Tryz.f16 DC:=e (by kernel_rfl)
theorem Ie:cd Tryz.prog 16:=e (by kernel_rfl)
def O5:=[o 4 (.mv bC)]
def O6:=[m 6 0,o 7 (.len (.t 6)),m 8 1,o 9 (.len (.t 8)),o 10 (.bin .neq (.t 7) (.t 9))]
def O7:=[o 4 (.mv bC)]
def O8:=[m 11 0,o 12 (.len (.t 11)),bN 13 0]
def O9:=[lt 14 13 12]
def Pa:=[m 15 13,m 5 15]
def Pb:=[m 16 0,m 17 5,o 18 (.is 5 (.t 16) (.t 17)),L 19 5 18,m 20 1,m 21 5,o 22 (.is 5 (.t 20) (.t 21)),L 23 5 22,o 24 (.eqv (.aP [(.i .i64),(.i .i64),(.i .i64),(.i .i64),(.i .i64)]) true (.t 19) (.t 23))]
def LZ:=some [[],[],[0,1],[2],[],[],[4,5],[6],[3,7]]
def Pc:=[o 4 (.mv bC)]
def Pd:=[ad 25 13 1,m 13 25]
def Pe:=[o 4 (.mv T)]
def yQ:bo:=(s (r O5) (s (s (r O6) (.cond (.t 10) (s (r O7) .ret) .skip)) (s (s (r O8) (.block 0 (.loop (s (r O9) (s (.cond (.t 14) .skip (.exit 0)) (s (.block 1 (s (r Pa) (s (.b9 LZ Pb) (.cond (.t 24) (s (r Pc) .ret) .skip)))) (r Pd))))))) (s (r Pe) .ret))))
def DE:List bL:=[.tmp 4]
theorem Jo:ct Tryz.prog Tryz.f17 yQ:=e (by kernel_rfl)
theorem KJ:cj Tryz.prog Tryz.f17 DE:=e (by kernel_rfl)
theorem If:cd Tryz.prog 17:=e (by kernel_rfl)
def Pf:=[o 0 (.mv bC)]
def Pg:=[o 28 (.call 19 [(aZ 0)]),m 27 28,o 29 (.ext (.t 27) 0),o 30 (.ext (.t 27) 1),o 1 (.alloc (.agg [.int .i64 0,.nils 4,.int .i64 0])),p (.aP (some 3) (.t 1) (.t 29)),m 2 30]
def Pr:=[o 32 (.call 19 [(aZ 1)]),m 31 32,o 33 (.ext (.t 31) 0),o 34 (.ext (.t 31) 1),o 3 (.alloc (.agg [.int .i64 0,.nils 4,.int .i64 0])),p (.aP (some 3) (.t 3) (.t 33)),m 4 34]
def Ps:=[L 36 3 1,o 37 (.call 27 [.t 36,(aZ 7)]),m 35 37,o 38 (.ext (.t 35) 0),o 39 (.ext (.t 35) 1),p (.aP (some 3) (.t 1) (.t 38)),m 5 39]
def Pt:=[L 41 3 1,o 42 (.call 10 [.t 41]),m 40 42,o 43 (.ext (.t 40) 0),o 44 (.ext (.t 40) 1),p (.aP (some 3) (.t 1) (.t 43)),m 6 44]
def Pu:=[L 46 3 1,o 47 (.call 31 [.t 46,(aZ 7),(aZ 1)]),m 45 47,o 48 (.ext (.t 45) 0),o 49 (.ext (.t 45) 1),o 50 (.ext (.t 45) 2),o 7 (.alloc (.agg [.int .i64 0,.int .i64 0,.int .i64 0,.bool false])),p (.aP (some 3) (.t 1) (.t 48)),p (.aP (some 4) (.t 7) (.t 49)),m 8 50]
def Pv:=[L 52 3 1,o 53 (.call 14 [.t 52,(aZ 1)]),m 51 53,o 54 (.ext (.t 51) 0),o 55 (.ext (.t 51) 1),m 9 54,m 10 55]
def Pw:=[L 57 3 1,o 58 (.call 53 [.t 57]),m 56 58,o 59 (.ext (.t 56) 0),o 60 (.ext (.t 56) 1),m 11 59,m 12 60]
def Px:=[L 62 3 1,o 63 (.call 10 [.t 62]),m 61 63,o 64 (.ext (.t 61) 0),o 65 (.ext (.t 61) 1),p (.aP (some 3) (.t 1) (.t 64)),m 13 65]
def Py:=[L 67 3 1,o 68 (.call 14 [.t 67,(aZ 1)]),m 66 68,o 69 (.ext (.t 66) 0),o 70 (.ext (.t 66) 1),m 14 69,m 15 70]
def Ph:=[o 71 (.bld [.int .i64 0,.int .i64 0,.int .i64 0,.int .i64 0,.int .i64 0] [(0,(aZ 1)),(2,(aZ 1)),(3,(aZ 7)),(4,(aZ 1))]),o 16 (.alloc (.agg [.int .i64 0,.int .i64 0,.int .i64 0,.int .i64 0,.int .i64 0])),p (.aP (some 5) (.t 16) (.t 71))]
def Pj:=[L 73 3 3,L 74 5 16,o 75 (.call 35 [.t 73,.t 74]),m 72 75,o 76 (.ext (.t 72) 0),o 77 (.ext (.t 72) 1),p (.aP (some 3) (.t 3) (.t 76)),m 17 77]
def Pk:=[L 79 3 1,L 80 3 3,o 81 (.bs 24 3 [.t 79,.t 80]),o 82 (.call 37 [.t 81,(aZ 7)]),m 78 82,o 83 (.ext (.t 78) 0),o 84 (.ext (.t 78) 1),m 18 83,m 19 84]
def Pl:=[L 86 3 3,o 87 (.call 10 [.t 86]),m 85 87,o 88 (.ext (.t 85) 0),o 89 (.ext (.t 85) 1),p (.aP (some 3) (.t 3) (.t 88)),m 20 89]
def Pm:=[L 91 3 3,o 92 (.call 14 [.t 91,(aZ 0)]),m 90 92,o 93 (.ext (.t 90) 0),o 94 (.ext (.t 90) 1),m 21 93,m 22 94]
def Pn:=[L 96 3 1,o 97 (.bld [.int .i64 0,.int .i64 0,.int .i64 0,.int .i64 0,.int .i64 0] [(0,(aZ 2)),(1,(aZ 1)),(3,(aZ 7)),(4,(aZ 1))]),o 98 (.call 35 [.t 96,.t 97]),m 95 98,o 99 (.ext (.t 95) 0),o 100 (.ext (.t 95) 1),p (.aP (some 3) (.t 1) (.t 99)),m 23 100]
def Po:=[L 102 3 1,o 103 (.call 46 [.t 102]),m 101 103,o 104 (.ext (.t 101) 0),o 105 (.ext (.t 101) 1),m 24 104,m 25 105]
def Pp:=[m 106 2,o 107 (.bin .eql (.t 106) (aZ 0)),m 108 107,cM 109 4 108,bE 110 (.bin .eql (.t 109) (aZ 0)) 108,and 111 108 110,m 112 111,cM 113 5 112,bE 114 (.bin .eql (.t 113) (aZ 0)) 112,and 115 112 114,m 116 115,cM 117 6 116,bE 118 (.bin .eql (.t 117) (aZ 0)) 116,and 119 116 118,m 120 119,cM 121 8 120,bE 122 (.bin .eql (.t 121) (aZ 0)) 120,and 123 120 122,m 124 123,cM 125 10 124,bE 126 (.bin .eql (.t 125) (aZ 0)) 124,and 127 124 126,m 128 127,cM 129 12 128,bE 130 (.bin .eql (.t 129) (aZ 0)) 128,and 131 128 130,m 132 131,cM 133 13 132,bE 134 (.bin .eql (.t 133) (aZ 0)) 132,and 135 132 134,m 136 135,cM 137 15 136,bE 138 (.bin .eql (.t 137) (aZ 0)) 136,and 139 136 138,m 140 139,cM 141 17 140,bE 142 (.bin .eql (.t 141) (aZ 0)) 140,and 143 140 142,m 144 143,cM 145 19 144,bE 146 (.bin .eql (.t 145) (aZ 0)) 144,and 147 144 146,m 148 147,cM 149 20 148,bE 150 (.bin .eql (.t 149) (aZ 0)) 148,and 151 148 150,m 152 151,cM 153 22 152,bE 154 (.bin .eql (.t 153) (aZ 0)) 152,and 155 152 154,m 156 155,cM 157 23 156,bE 158 (.bin .eql (.t 157) (aZ 0)) 156,and 159 156 158,m 160 159,cM 161 25 160,bE 162 (.bin .eql (.t 161) (aZ 0)) 160,and 163 160 162,m 26 163]
def Pq:=[m 164 26,m 165 164,bE 166 (.ld (some 4) (.t 7)) 165,bE 167 (.bld [.int .i64 0,.int .i64 0,.int .i64 0,.bool false] [(0,(aZ 1)),(1,(aZ 1)),(2,(aZ 7))]) 165,bE 168 (.eqv (.aP [(.i .i64),(.i .i64),(.i .i64),.b]) false (.t 166) (.t 167)) 165,and 169 165 168,m 170 169,cM 171 9 170,bE 172 (.len (.t 171)) 170,bE 173 (.bin .eql (.t 172) (aZ 0)) 170,and 174 170 173,m 175 174,cM 176 11 175,bE 177 (.bin .eql (.t 176) (.c (.bR ⟨#[112,111,117,110,100,32,48,32,49,10,112,111,117,110,100,32,55,10,115,101,110,100,32,55,32,49,32,49,10]⟩))) 175,and 178 175 177,m 179 178,cM 180 14 179,bE 181 (.ld (some 5) (.t 16)) 179,bE 182 (.bs 39 5 [.t 181]) 179,bE 183 (.call 17 [.t 180,.t 182]) 179,and 184 179 183,m 185 184,cM 186 18 185,bE 187 (.bs 3 1 [(aZ 1)]) 185,bE 188 (.call 41 [.t 186,.t 187]) 185,and 189 185 188,m 190 189,cM 191 21 190,bE 192 (.bld [.int .i64 0,.int .i64 0,.int .i64 0,.int .i64 0,.int .i64 0] [(0,(aZ 2)),(1,(aZ 1)),(3,(aZ 7)),(4,(aZ 1))]) 190,bE 193 (.bs 39 5 [.t 192]) 190,bE 194 (.call 17 [.t 191,.t 193]) 190,and 195 190 194,m 196 195,cM 197 24 196,bE 198 (.len (.t 197)) 196,bE 199 (.bin .eql (.t 198) (aZ 0)) 196,and 200 196 199,m 0 200]
def yR:bo:=(s (r Pf) (s (r Pg) (s (r Pr) (s (r Ps) (s (r Pt) (s (r Pu) (s (r Pv) (s (r Pw) (s (r Px) (s (r Py) (s (r Ph) (s (r Pj) (s (r Pk) (s (r Pl) (s (r Pm) (s (r Pn) (s (r Po) (s (r Pp) (s (r Pq) .ret)))))))))))))))))))
def DF:List bL:=[.tmp 0]
theorem Jp:ct Tryz.prog Tryz.f18 yR:=e (by kernel_rfl)
theorem KK:cj Tryz.prog Tryz.f18 DF:=e (by kernel_rfl)
theorem Ig:cd Tryz.prog 18:=e (by kernel_rfl)
def Pz:=[o 2 (.alloc (.agg [.int .i64 0,.nils 4,.int .i64 0])),bN 3 0]
def PA:=[m 4 0,o 5 (.call 61 [.t 4]),no 6 5]
def PB:=[o 7 (.bld [.int .i64 0,.nils 4,.int .i64 0] []),p (.aP (some 3) (.t 2) (.t 7)),bN 3 90]
def PC:=[m 8 0,o 9 (.bld [.int .i64 0,.nils 4,.int .i64 0] [(0,(.t 8))]),p (.aP (some 3) (.t 2) (.t 9)),bN 3 0]
def yS:bo:=(s (r Pz) (s (s (r PA) (.cond (.t 6) (s (r PB) .ret) .skip)) (s (r PC) .ret)))
def DG:List bL:=[.cell 2 (some 3),.tmp 3]
theorem Jq:ct Tryz.prog Tryz.f19 yS:=e (by kernel_rfl)
theorem KL:cj Tryz.prog Tryz.f19 DG:=e (by kernel_rfl)
theorem Ih:cd Tryz.prog 19:=e (by kernel_rfl)
def PD:=[b 1 0,bN 2 0]
def PE:=[f 3 0 0 1,l 4 3]
def PK:=[o 6 (.bin .eql (.t 4) (aZ 1)),m 5 6]
def PL:=[o 7 (.bin .eql (.t 4) (aZ 2)),m 5 7]
def PM:=[f 8 1 1 1,l 9 8,o 10 (.call 67 [.t 9]),m 11 10,dU 12 2 2 1 11,dN 13 12 11,bE 14 (.bin .eql (.t 13) (aZ 0)) 11,and 15 11 14,m 16 15,dU 17 3 3 1 16,dN 18 17 16,bE 19 (.bin .eql (.t 18) (aZ 0)) 16,and 20 16 19]
def PN:=[bN 2 0]
def PO:=[o 22 (.bin .eql (.t 4) (aZ 3)),m 21 22]
def PQ:=[o 23 (.bin .eql (.t 4) (aZ 4)),m 21 23]
def PR:=[o 24 (.bin .eql (.t 4) (aZ 5)),m 21 24]
def PS:=[o 25 (.bin .eql (.t 4) (aZ 6)),m 21 25]
def PF:=[o 26 (.bin .eql (.t 4) (aZ 7)),m 21 26]
def PG:=[o 27 (.bin .eql (.t 4) (aZ 8)),m 21 27]
def PH:=[f 28 1 1 1,l 29 28,o 30 (.call 67 [.t 29]),m 31 30,dU 32 2 2 1 31,dN 33 32 31,bE 34 (.call 64 [.t 33]) 31,and 35 31 34,m 36 35,dU 37 3 3 1 36,dN 38 37 36,bE 39 (.call 68 [.t 38,(aZ 1),(aZ 200)]) 36,and 40 36 39]
def PI:=[bN 2 0]
def PJ:=[bN 2 1]
def yT:bo:=(s (r PD) (s (s (r PE) (.block 0 (s (s (r PK) (.cond (.t 5) .skip (r PL))) (.cond (.t 5) (s (r PM) (.cond (.t 20) (s (r PN) .ret) .skip)) (s (s (r PO) (.cond (.t 21) .skip (s (r PQ) (.cond (.t 21) .skip (s (r PR) (.cond (.t 21) .skip (s (r PS) (.cond (.t 21) .skip (s (r PF) (.cond (.t 21) .skip (r PG))))))))))) (.cond (.t 21) (s (r PH) (.cond (.t 40) (s (r PI) .ret) .skip)) .skip)))))) (s (r PJ) .ret)))
def DH:List bL:=[.tmp 2]
theorem Jr:ct Tryz.prog Tryz.f22 yT:=e (by kernel_rfl)
theorem KM:cj Tryz.prog Tryz.f22 DH:=e (by kernel_rfl)
theorem Ii:cd Tryz.prog 22:=e (by kernel_rfl)
def PT:=[b 1 0,bN 2 0]
def PU:=[L 6 3 1,o 7 (.call 69 [.t 6]),m 5 7,o 8 (.ext (.t 5) 0),o 9 (.ext (.t 5) 1),m 3 8,m 4 9]
def PV:=[m 10 4,m 2 10]
def yU:bo:=(s (r PT) (s (r PU) (s (r PV) .ret)))
def DI:List bL:=[.tmp 2]
theorem Js:ct Tryz.prog Tryz.f23 yU:=e (by kernel_rfl)
theorem KN:cj Tryz.prog Tryz.f23 DI:=e (by kernel_rfl)
theorem Ij:cd Tryz.prog 23:=e (by kernel_rfl)
def PW:=[b 1 0,bN 2 0]
def PX:=[f 5 0 0 1,l 6 5,o 7 (.call 64 [.t 6]),no 8 7,m 9 8,fn 10 1 1 1 9,eh 11 10 9,on 12 (.len (.t 11)) 9,on 13 (.bin .gtr (.t 12) (aZ 200)) 9,or 14 9 13,m 15 14,fn 16 2 2 1 15,eh 17 16 15,fn 18 1 1 1 15,eh 19 18 15,on 20 (.len (.t 19)) 15,on 21 (.call 68 [.t 17,(aZ 0),.t 20]) 15,on 22 (.un .not (.t 21)) 15,or 23 15 22]
def PY:=[bN 2 91]
def PZ:=[L 25 3 1,f 26 1 1 1,l 27 26,o 28 (.len (.t 27)),o 29 (.call 65 [.t 25,.t 28]),m 24 29,o 30 (.ext (.t 24) 0),o 31 (.ext (.t 24) 1),o 3 (.alloc (.agg [.int .i64 0,.nils 1,.int .i64 0,.nils 4,.nils 4])),p (.aP (some 5) (.t 3) (.t 30)),m 4 31]
def P0:=[m 32 4,no 33 32]
def P1:=[bN 2 91]
def P2:=[bN 2 0]
def yV:bo:=(s (r PW) (s (s (r PX) (.cond (.t 23) (s (r PY) .ret) .skip)) (s (s (r PZ) (s (r P0) (.cond (.t 33) (s (r P1) .ret) .skip))) (s (r P2) .ret))))
def DJ:List bL:=[.tmp 2]
theorem Jt:ct Tryz.prog Tryz.f24 yV:=e (by kernel_rfl)
theorem KO:cj Tryz.prog Tryz.f24 DJ:=e (by kernel_rfl)
theorem Ik:cd Tryz.prog 24:=e (by kernel_rfl)
def P3:=[b 1 0,bN 2 0]
def P4:=[f 3 1 1 1,l 4 3,o 5 (.call 64 [.t 4]),no 6 5,m 7 6,fn 8 2 2 1 7,eh 9 8 7,on 10 (.call 64 [.t 9]) 7,on 11 (.un .not (.t 10)) 7,or 12 7 11,m 13 12,fn 14 1 1 1 13,eh 15 14 13,fn 16 2 2 1 13,eh 17 16 13,on 18 (.bin .eql (.t 15) (.t 17)) 13,or 19 13 18,m 20 19,fn 21 3 3 1 20,eh 22 21 20,on 23 (.call 67 [.t 22]) 20,on 24 (.un .not (.t 23)) 20,or 25 20 24,m 26 25,fn 27 4 4 1 26,eh 28 27 26,on 29 (.call 68 [.t 28,(aZ 1),(aZ 200)]) 26,on 30 (.un .not (.t 29)) 26,or 31 26 30,m 32 31,fn 33 0 0 1 32,eh 34 33 32,on 35 (.call 68 [.t 34,(aZ 1),(aZ 4)]) 32,on 36 (.un .not (.t 35)) 32,or 37 32 36]
def P5:=[bN 2 95]
def P6:=[bN 2 0]
def yW:bo:=(s (r P3) (s (s (r P4) (.cond (.t 37) (s (r P5) .ret) .skip)) (s (r P6) .ret)))
def DK:List bL:=[.tmp 2]
theorem Ju:ct Tryz.prog Tryz.f26 yW:=e (by kernel_rfl)
theorem KP:cj Tryz.prog Tryz.f26 DK:=e (by kernel_rfl)
theorem Il:cd Tryz.prog 26:=e (by kernel_rfl)
def P7:=[b 2 0,o 4 (.alloc (.agg [.int .i64 0,.nils 4,.int .i64 0])),bN 5 0]
def P8:=[L 9 3 2,o 10 (.call 69 [.t 9]),m 8 10,o 11 (.ext (.t 8) 0),o 12 (.ext (.t 8) 1),m 6 11,m 7 12]
def P9:=[m 14 7,o 15 (.bin .neq (.t 14) (aZ 0)),m 13 15]
def Qa:=[o 16 (.bld [.int .i64 0,.nils 4,.int .i64 0] []),m 17 7,p (.aP (some 3) (.t 4) (.t 16)),m 5 17]
def Qb:=[m 19 1,o 20 (.call 71 [.t 19]),no 21 20,m 18 21]
def Qc:=[o 22 (.bld [.int .i64 0,.nils 4,.int .i64 0] []),p (.aP (some 3) (.t 4) (.t 22)),bN 5 1]
def Qd:=[m 24 6,o 25 (.nilC (.t 24)),f 26 1 1 25,l 27 26,m 28 1,o 29 (.lk (.i .i64) (.bool false) false (.t 27) (.t 28)),m 30 29,kq 31 6 30,kq 32 1 30,on 33 (.call 72 [.t 31,.t 32]) 30,or 34 30 33,m 23 34]
def Qe:=[o 35 (.bld [.int .i64 0,.nils 4,.int .i64 0] []),p (.aP (some 3) (.t 4) (.t 35)),bN 5 92]
def Qf:=[L 36 3 2,m 37 1,o 38 (.bld [.int .i64 0,.int .i64 0,.int .i64 0,.int .i64 0] [(0,(aZ 1)),(1,(.t 37))]),o 39 (.call 73 [.t 36,.t 38]),o 40 (.ext (.t 39) 0),o 41 (.ext (.t 39) 1),p (.aP (some 3) (.t 4) (.t 40)),m 5 41]
def yX:bo:=(s (r P7) (s (r P8) (s (.block 0 (s (r P9) (.cond (.t 13) (s (r Qa) .ret) (s (r Qb) (.cond (.t 18) (s (r Qc) .ret) (s (r Qd) (.cond (.t 23) (s (r Qe) .ret) .skip))))))) (s (r Qf) .ret))))
def DL:List bL:=[.cell 4 (some 3),.tmp 5]
theorem Jv:ct Tryz.prog Tryz.f27 yX:=e (by kernel_rfl)
theorem KQ:cj Tryz.prog Tryz.f27 DL:=e (by kernel_rfl)
theorem Im:cd Tryz.prog 27:=e (by kernel_rfl)
def Qg:=[b 2 0,o 4 (.alloc (.agg [.int .i64 0,.nils 4,.int .i64 0])),bN 5 0]
def Qh:=[L 10 3 2,m 11 1,o 12 (.call 74 [.t 10,.t 11]),m 6 12]
def Qi:=[m 13 6,o 14 (.bin .neq (.t 13) (aZ 0))]
def Qj:=[o 15 (.bld [.int .i64 0,.nils 4,.int .i64 0] []),m 16 6,p (.aP (some 3) (.t 4) (.t 15)),m 5 16]
def Qk:=[m 17 1,o 18 (.bld [.int .i64 0,.int .i64 0,.int .i64 0,.int .i64 0] [(0,(aZ 1)),(1,(.t 17))]),o 7 (.alloc (.agg [.int .i64 0,.int .i64 0,.int .i64 0,.int .i64 0])),p (.aP (some 4) (.t 7) (.t 18))]
def Ql:=[L 20 3 2,o 21 (.call 75 [.t 20]),L 22 4 7,o 23 (.call 76 [.t 21,.t 22]),m 19 23,o 24 (.ext (.t 19) 0),o 25 (.ext (.t 19) 1),o 8 (.alloc (.agg [.int .i64 0,.nils 1,.int .i64 0,.nils 4,.nils 4])),p (.aP (some 5) (.t 8) (.t 24)),m 9 25]
def L0:=some [[],[0],[],[1,2,1],[3],[4],[4],[],[7,5,3,0,1,2,3,4,5,7],[6,8,0,1,2,3,4,5,6,7,8]]
def Qm:=[m 26 9,no 27 26]
def Qn:=[o 28 (.bld [.int .i64 0,.nils 4,.int .i64 0] []),p (.aP (some 3) (.t 4) (.t 28)),bN 5 92]
def Qo:=[L 29 3 2,L 30 4 7,o 31 (.call 77 [.t 29,.t 30]),o 32 (.ext (.t 31) 0),o 33 (.ext (.t 31) 1),p (.aP (some 3) (.t 4) (.t 32)),m 5 33]
def yY:bo:=(s (r Qg) (s (s (r Qh) (s (r Qi) (.cond (.t 14) (s (r Qj) .ret) .skip))) (s (r Qk) (s (s (.b9 L0 Ql) (s (r Qm) (.cond (.t 27) (s (r Qn) .ret) .skip))) (s (r Qo) .ret)))))
def DM:List bL:=[.cell 4 (some 3),.tmp 5]
theorem Jw:ct Tryz.prog Tryz.f28 yY:=e (by kernel_rfl)
theorem KR:cj Tryz.prog Tryz.f28 DM:=e (by kernel_rfl)
theorem Io:cd Tryz.prog 28:=e (by kernel_rfl)
def Qp:=[b 2 0,o 4 (.alloc (.agg [.int .i64 0,.nils 4,.int .i64 0])),bN 5 0]
def Qq:=[L 9 3 2,o 10 (.call 69 [.t 9]),m 8 10,o 11 (.ext (.t 8) 0),o 12 (.ext (.t 8) 1),m 6 11,m 7 12]
def Qr:=[m 14 7,o 15 (.bin .neq (.t 14) (aZ 0)),m 13 15]
def Qs:=[o 16 (.bld [.int .i64 0,.nils 4,.int .i64 0] []),m 17 7,p (.aP (some 3) (.t 4) (.t 16)),m 5 17]
def Qt:=[m 19 1,o 20 (.call 71 [.t 19]),no 21 20,m 18 21]
def Qu:=[o 22 (.bld [.int .i64 0,.nils 4,.int .i64 0] []),p (.aP (some 3) (.t 4) (.t 22)),bN 5 1]
def Qv:=[m 24 6,o 25 (.nilC (.t 24)),f 26 1 1 25,l 27 26,m 28 1,o 29 (.lk (.i .i64) (.bool false) false (.t 27) (.t 28)),no 30 29,m 23 30]
def Qw:=[o 31 (.bld [.int .i64 0,.nils 4,.int .i64 0] []),p (.aP (some 3) (.t 4) (.t 31)),bN 5 93]
def Qx:=[L 32 3 2,m 33 1,o 34 (.bld [.int .i64 0,.int .i64 0,.int .i64 0,.int .i64 0] [(0,(aZ 2)),(1,(.t 33))]),o 35 (.call 73 [.t 32,.t 34]),o 36 (.ext (.t 35) 0),o 37 (.ext (.t 35) 1),p (.aP (some 3) (.t 4) (.t 36)),m 5 37]
def yZ:bo:=(s (r Qp) (s (r Qq) (s (.block 0 (s (r Qr) (.cond (.t 13) (s (r Qs) .ret) (s (r Qt) (.cond (.t 18) (s (r Qu) .ret) (s (r Qv) (.cond (.t 23) (s (r Qw) .ret) .skip))))))) (s (r Qx) .ret))))
def DN:List bL:=[.cell 4 (some 3),.tmp 5]
theorem Jx:ct Tryz.prog Tryz.f29 yZ:=e (by kernel_rfl)
theorem KS:cj Tryz.prog Tryz.f29 DN:=e (by kernel_rfl)
theorem Ip:cd Tryz.prog 29:=e (by kernel_rfl)
def Qy:=[b 2 0,o 4 (.alloc (.agg [.int .i64 0,.nils 4,.int .i64 0])),bN 5 0]
def Qz:=[L 10 3 2,m 11 1,o 12 (.call 74 [.t 10,.t 11]),m 6 12]
def QA:=[m 13 6,o 14 (.bin .neq (.t 13) (aZ 0))]
def QB:=[o 15 (.bld [.int .i64 0,.nils 4,.int .i64 0] []),m 16 6,p (.aP (some 3) (.t 4) (.t 15)),m 5 16]
def QC:=[m 17 1,o 18 (.bld [.int .i64 0,.int .i64 0,.int .i64 0,.int .i64 0] [(0,(aZ 2)),(1,(.t 17))]),o 7 (.alloc (.agg [.int .i64 0,.int .i64 0,.int .i64 0,.int .i64 0])),p (.aP (some 4) (.t 7) (.t 18))]
def QD:=[L 20 3 2,o 21 (.call 75 [.t 20]),L 22 4 7,o 23 (.call 76 [.t 21,.t 22]),m 19 23,o 24 (.ext (.t 19) 0),o 25 (.ext (.t 19) 1),o 8 (.alloc (.agg [.int .i64 0,.nils 1,.int .i64 0,.nils 4,.nils 4])),p (.aP (some 5) (.t 8) (.t 24)),m 9 25]
def L1:=some [[],[0],[],[1,2,1],[3],[4],[4],[],[7,5,3,0,1,2,3,4,5,7],[6,8,0,1,2,3,4,5,6,7,8]]
def QE:=[m 26 9,no 27 26]
def QF:=[o 28 (.bld [.int .i64 0,.nils 4,.int .i64 0] []),p (.aP (some 3) (.t 4) (.t 28)),bN 5 93]
def QG:=[L 29 3 2,L 30 4 7,o 31 (.call 77 [.t 29,.t 30]),o 32 (.ext (.t 31) 0),o 33 (.ext (.t 31) 1),p (.aP (some 3) (.t 4) (.t 32)),m 5 33]
def y5:bo:=(s (r Qy) (s (s (r Qz) (s (r QA) (.cond (.t 14) (s (r QB) .ret) .skip))) (s (r QC) (s (s (.b9 L1 QD) (s (r QE) (.cond (.t 27) (s (r QF) .ret) .skip))) (s (r QG) .ret)))))
def DO:List bL:=[.cell 4 (some 3),.tmp 5]
theorem Jy:ct Tryz.prog Tryz.f30 y5:=e (by kernel_rfl)
theorem KT:cj Tryz.prog Tryz.f30 DO:=e (by kernel_rfl)
theorem Iq:cd Tryz.prog 30:=e (by kernel_rfl)
def QH:=[b 3 0,o 6 (.alloc (.agg [.int .i64 0,.nils 4,.int .i64 0])),o 7 (.alloc (.agg [.int .i64 0,.int .i64 0,.int .i64 0,.bool false])),bN 8 0]
def QI:=[L 13 3 3,o 14 (.call 69 [.t 13]),m 12 14,o 15 (.ext (.t 12) 0),o 16 (.ext (.t 12) 1),m 9 15,m 10 16]
def QN:=[m 18 10,o 19 (.bin .neq (.t 18) (aZ 0)),m 17 19]
def QO:=[o 20 (.bld [.int .i64 0,.nils 4,.int .i64 0] []),o 21 (.bld [.int .i64 0,.int .i64 0,.int .i64 0,.bool false] []),m 22 10,p (.aP (some 3) (.t 6) (.t 20)),p (.aP (some 4) (.t 7) (.t 21)),m 8 22]
def QP:=[m 24 1,o 25 (.call 71 [.t 24]),no 26 25,m 23 26]
def QR:=[o 27 (.bld [.int .i64 0,.nils 4,.int .i64 0] []),o 28 (.bld [.int .i64 0,.int .i64 0,.int .i64 0,.bool false] []),p (.aP (some 3) (.t 6) (.t 27)),p (.aP (some 4) (.t 7) (.t 28)),bN 8 1]
def QS:=[m 30 2,o 31 (.call 61 [.t 30]),no 32 31,m 33 32,kq 34 2 33,fn 35 0 0 3 33,eh 36 35 33,on 37 (.bin .eql (.t 34) (.t 36)) 33,or 38 33 37,m 29 38]
def QT:=[o 39 (.bld [.int .i64 0,.nils 4,.int .i64 0] []),o 40 (.bld [.int .i64 0,.int .i64 0,.int .i64 0,.bool false] []),p (.aP (some 3) (.t 6) (.t 39)),p (.aP (some 4) (.t 7) (.t 40)),bN 8 90]
def QU:=[m 42 9,o 43 (.nilC (.t 42)),f 44 1 1 43,l 45 44,m 46 1,o 47 (.lk (.i .i64) (.bool false) false (.t 45) (.t 46)),no 48 47,m 41 48]
def QV:=[o 49 (.bld [.int .i64 0,.nils 4,.int .i64 0] []),o 50 (.bld [.int .i64 0,.int .i64 0,.int .i64 0,.bool false] []),p (.aP (some 3) (.t 6) (.t 49)),p (.aP (some 4) (.t 7) (.t 50)),bN 8 93]
def QJ:=[m 51 9,o 52 (.nilC (.t 51)),f 53 3 3 52,l 54 53,ad 55 54 1,m 56 2,m 57 1,o 58 (.bld [.int .i64 0,.int .i64 0,.int .i64 0,.bool false] [(0,(.t 55)),(1,(.t 56)),(2,(.t 57))]),o 11 (.alloc (.agg [.int .i64 0,.int .i64 0,.int .i64 0,.bool false])),p (.aP (some 4) (.t 11) (.t 58))]
def QK:=[L 60 3 3,m 61 1,m 62 2,f 63 0 0 11,l 64 63,o 65 (.bld [.int .i64 0,.int .i64 0,.int .i64 0,.int .i64 0] [(0,(aZ 3)),(1,(.t 61)),(2,(.t 62)),(3,(.t 64))]),o 66 (.call 73 [.t 60,.t 65]),m 59 66,o 67 (.ext (.t 59) 0),o 68 (.ext (.t 59) 1),p (.aP (some 3) (.t 3) (.t 67)),m 10 68]
def QL:=[m 69 10,o 70 (.bin .neq (.t 69) (aZ 0))]
def QM:=[o 71 (.bld [.int .i64 0,.nils 4,.int .i64 0] []),o 72 (.bld [.int .i64 0,.int .i64 0,.int .i64 0,.bool false] []),m 73 10,p (.aP (some 3) (.t 6) (.t 71)),p (.aP (some 4) (.t 7) (.t 72)),m 8 73]
def vL:=[L 74 3 3,L 75 4 11,p (.aP (some 3) (.t 6) (.t 74)),p (.aP (some 4) (.t 7) (.t 75)),bN 8 0]
def L2:=some [[],[],[0,0],[1,2,0,1,2],[3,0,1,2,3]] -- DRAW BAD
def y7:bo:=(s (r QH) (s (r QI) (s (.block 0 (s (r QN) (.cond (.t 17) (s (r QO) .ret) (s (r QP) (.cond (.t 23) (s (r QR) .ret) (s (r QS) (.cond (.t 29) (s (r QT) .ret) (s (r QU) (.cond (.t 41) (s (r QV) .ret) .skip))))))))) (s (r QJ) (s (r QK) (s (s (r QL) (.cond (.t 70) (s (r QM) .ret) .skip)) (s (.b9 L2 vL) .ret)))))))
def DP:List bL:=[.cell 6 (some 3),.cell 7 (some 4),.tmp 8]
theorem Jz:ct Tryz.prog Tryz.f31 y7:=e (by kernel_rfl)
theorem KU:cj Tryz.prog Tryz.f31 DP:=e (by kernel_rfl)
theorem Ir:cd Tryz.prog 31:=e (by kernel_rfl)
def QW:=[b 3 0,o 6 (.alloc (.agg [.int .i64 0,.nils 4,.int .i64 0])),o 7 (.alloc (.agg [.int .i64 0,.int .i64 0,.int .i64 0,.bool false])),bN 8 0]
def QX:=[L 13 3 3,m 14 1,o 15 (.call 74 [.t 13,.t 14]),m 9 15]
def Q0:=[m 16 9,o 17 (.bin .eql (.t 16) (aZ 0)),m 18 17,cM 19 2 18,bE 20 (.call 64 [.t 19]) 18,bE 21 (.un .not (.t 20)) 18,cM 22 21 18,kq 23 2 22,fn 24 0 0 3 22,eh 25 24 22,on 26 (.bin .eql (.t 23) (.t 25)) 22,bE 27 (.pick (.t 22) T (.t 26)) 18,and 28 18 27]
def Q1:=[bN 9 90]
def Q2:=[m 29 9,o 30 (.bin .eql (.t 29) (aZ 0)),m 31 30,bE 32 (.ld (some 3) (.t 3)) 31,bE 33 (.call 75 [.t 32]) 31,bE 34 (.fl 1 1 none (.t 33)) 31,cM 35 1 31,bE 36 (.call 78 [.t 34,.t 35]) 31,bE 37 (.un .not (.t 36)) 31,and 38 31 37]
def Q3:=[bN 9 93]
def Q4:=[m 39 9,o 40 (.bin .neq (.t 39) (aZ 0))]
def Q5:=[o 41 (.bld [.int .i64 0,.nils 4,.int .i64 0] []),o 42 (.bld [.int .i64 0,.int .i64 0,.int .i64 0,.bool false] []),m 43 9,p (.aP (some 3) (.t 6) (.t 41)),p (.aP (some 4) (.t 7) (.t 42)),m 8 43]
def Q6:=[L 44 3 3,o 45 (.call 75 [.t 44]),o 46 (.fl 2 2 none (.t 45)),ad 47 46 1,m 48 2,m 49 1,o 50 (.bld [.int .i64 0,.int .i64 0,.int .i64 0,.bool false] [(0,(.t 47)),(1,(.t 48)),(2,(.t 49))]),o 10 (.alloc (.agg [.int .i64 0,.int .i64 0,.int .i64 0,.bool false])),p (.aP (some 4) (.t 10) (.t 50))]
def Q7:=[L 52 3 3,m 53 1,m 54 2,f 55 0 0 10,l 56 55,o 57 (.bld [.int .i64 0,.int .i64 0,.int .i64 0,.int .i64 0] [(0,(aZ 3)),(1,(.t 53)),(2,(.t 54)),(3,(.t 56))]),o 58 (.call 77 [.t 52,.t 57]),m 51 58,o 59 (.ext (.t 51) 0),o 60 (.ext (.t 51) 1),o 11 (.alloc (.agg [.int .i64 0,.nils 4,.int .i64 0])),p (.aP (some 3) (.t 11) (.t 59)),m 12 60]
def QY:=[m 61 12,o 62 (.bin .neq (.t 61) (aZ 0))]
def QZ:=[o 63 (.bld [.int .i64 0,.nils 4,.int .i64 0] []),o 64 (.bld [.int .i64 0,.int .i64 0,.int .i64 0,.bool false] []),m 65 12,p (.aP (some 3) (.t 6) (.t 63)),p (.aP (some 4) (.t 7) (.t 64)),m 8 65]
def vM:=[L 66 3 11,L 67 4 10,p (.aP (some 3) (.t 6) (.t 66)),p (.aP (some 4) (.t 7) (.t 67)),bN 8 0]
def L3:=some [[],[],[0,0],[1,2,0,1,2],[3,0,1,2,3]] -- DRAW BAD
def y8:bo:=(s (r QW) (s (r QX) (s (s (r Q0) (.cond (.t 28) (r Q1) .skip)) (s (s (r Q2) (.cond (.t 38) (r Q3) .skip)) (s (s (r Q4) (.cond (.t 40) (s (r Q5) .ret) .skip)) (s (r Q6) (s (r Q7) (s (s (r QY) (.cond (.t 62) (s (r QZ) .ret) .skip)) (s (.b9 L3 vM) .ret)))))))))
def DQ:List bL:=[.cell 6 (some 3),.cell 7 (some 4),.tmp 8]
theorem JA:ct Tryz.prog Tryz.f32 y8:=e (by kernel_rfl)
theorem KV:cj Tryz.prog Tryz.f32 DQ:=e (by kernel_rfl)
theorem Is:cd Tryz.prog 32:=e (by kernel_rfl)
def Q8:=[b 2 0,o 4 (.alloc (.agg [.int .i64 0,.nils 4,.int .i64 0])),bN 5 0]
def Q9:=[L 11 3 2,o 12 (.call 69 [.t 11]),m 10 12,o 13 (.ext (.t 10) 0),o 14 (.ext (.t 10) 1),m 6 13,m 7 14]
def Ra:=[m 15 7,o 16 (.bin .neq (.t 15) (aZ 0))]
def Rb:=[o 17 (.bld [.int .i64 0,.nils 4,.int .i64 0] []),m 18 7,p (.aP (some 3) (.t 4) (.t 17)),m 5 18]
def Rc:=[m 20 6,o 21 (.nilC (.t 20)),f 22 2 2 21,l 23 22,m 24 1,o 25 (.lk (.i .i64) (.nilp) true (.t 23) (.t 24)),m 19 25,o 26 (.ext (.t 19) 0),o 27 (.ext (.t 19) 1),m 8 26,m 9 27]
def Re:=[m 28 9,no 29 28,m 30 29,kq 31 8 30,on 32 (.nilC (.t 31)) 30,fn 33 3 3 32 30,eh 34 33 30,or 35 30 34]
def Rf:=[o 36 (.bld [.int .i64 0,.nils 4,.int .i64 0] []),p (.aP (some 3) (.t 4) (.t 36)),bN 5 94]
def Rg:=[L 37 3 2,m 38 8,o 39 (.nilC (.t 38)),f 40 2 2 39,l 41 40,m 42 8,o 43 (.nilC (.t 42)),f 44 1 1 43,l 45 44,m 46 1,o 47 (.bld [.int .i64 0,.int .i64 0,.int .i64 0,.int .i64 0] [(0,(aZ 4)),(1,(.t 41)),(2,(.t 45)),(3,(.t 46))]),o 48 (.call 73 [.t 37,.t 47]),o 49 (.ext (.t 48) 0),o 50 (.ext (.t 48) 1),p (.aP (some 3) (.t 4) (.t 49)),m 5 50]
def L4:=some [[],[],[1],[2],[3],[],[5],[6],[7],[],[4,8,9],[0,10],[11],[11],[12,11,0,1,2,3,4,5,6,7,8,9,10,11,12,13],[13,14,0,1,2,3,4,5,6,7,8,9,10,11,12,13,14]]
def y9:bo:=(s (r Q8) (s (r Q9) (s (s (r Ra) (.cond (.t 16) (s (r Rb) .ret) .skip)) (s (r Rc) (s (s (r Re) (.cond (.t 35) (s (r Rf) .ret) .skip)) (s (.b9 L4 Rg) .ret))))))
def DR:List bL:=[.cell 4 (some 3),.tmp 5]
theorem JB:ct Tryz.prog Tryz.f33 y9:=e (by kernel_rfl)
theorem KW:cj Tryz.prog Tryz.f33 DR:=e (by kernel_rfl)
theorem It:cd Tryz.prog 33:=e (by kernel_rfl)
def Rh:=[b 2 0,o 4 (.alloc (.agg [.int .i64 0,.nils 4,.int .i64 0])),bN 5 0]
def Ri:=[L 9 3 2,o 10 (.call 24 [.t 9]),m 6 10]
def Rj:=[m 11 6,o 12 (.bin .neq (.t 11) (aZ 0))]
def Rk:=[o 13 (.bld [.int .i64 0,.nils 4,.int .i64 0] []),m 14 6,p (.aP (some 3) (.t 4) (.t 13)),m 5 14]
def Rl:=[L 15 3 2,o 16 (.call 75 [.t 15]),o 7 (.alloc (.agg [.int .i64 0,.nils 1,.int .i64 0,.nils 4,.nils 4])),p (.aP (some 5) (.t 7) (.t 16))]
def Rm:=[L 17 5 7,m 18 1,o 19 (.call 79 [.t 17,.t 18]),m 8 19]
def Rn:=[m 20 8,o 21 (.bin .lss (.t 20) (aZ 0)),m 22 21,fn 23 3 3 7 22,eh 24 23 22,kq 25 8 22,on 26 (.is 4 (.t 24) (.t 25)) 22,fn 27 3 3 26 22,eh 28 27 22,or 29 22 28]
def Ro:=[o 30 (.bld [.int .i64 0,.nils 4,.int .i64 0] []),p (.aP (some 3) (.t 4) (.t 30)),bN 5 94]
def Rp:=[L 31 3 2,f 32 3 3 7,l 33 32,m 34 8,o 35 (.is 4 (.t 33) (.t 34)),f 36 2 2 35,l 37 36,f 38 3 3 7,l 39 38,m 40 8,o 41 (.is 4 (.t 39) (.t 40)),f 42 1 1 41,l 43 42,m 44 1,o 45 (.bld [.int .i64 0,.int .i64 0,.int .i64 0,.int .i64 0] [(0,(aZ 4)),(1,(.t 37)),(2,(.t 43)),(3,(.t 44))]),o 46 (.call 77 [.t 31,.t 45]),o 47 (.ext (.t 46) 0),o 48 (.ext (.t 46) 1),p (.aP (some 3) (.t 4) (.t 47)),m 5 48]
def L5:=some [[],[],[1],[],[2,3],[4],[5],[],[7],[],[8,9],[10],[11],[],[6,12,13],[0,14],[15],[15],[16,15,0,1,2,3,4,5,6,7,8,9,10,11,12,13,14,15,16,17],[17,18,0,1,2,3,4,5,6,7,8,9,10,11,12,13,14,15,16,17,18]]
def za:bo:=(s (r Rh) (s (s (r Ri) (s (r Rj) (.cond (.t 12) (s (r Rk) .ret) .skip))) (s (r Rl) (s (r Rm) (s (s (r Rn) (.cond (.t 29) (s (r Ro) .ret) .skip)) (s (.b9 L5 Rp) .ret))))))
def DS:List bL:=[.cell 4 (some 3),.tmp 5]
theorem JC:ct Tryz.prog Tryz.f34 za:=e (by kernel_rfl)
theorem KX:cj Tryz.prog Tryz.f34 DS:=e (by kernel_rfl)
theorem Iu:cd Tryz.prog 34:=e (by kernel_rfl)
def Rq:=[b 2 0,b 3 1,o 4 (.alloc (.agg [.int .i64 0,.nils 4,.int .i64 0])),bN 5 0]
def Rr:=[L 10 3 2,o 11 (.call 69 [.t 10]),m 9 11,o 12 (.ext (.t 9) 0),o 13 (.ext (.t 9) 1),m 6 12,m 7 13]
def Rs:=[m 15 7,o 16 (.bin .neq (.t 15) (aZ 0)),m 14 16]
def Rt:=[o 17 (.bld [.int .i64 0,.nils 4,.int .i64 0] []),m 18 7,p (.aP (some 3) (.t 4) (.t 17)),m 5 18]
def Ru:=[L 20 5 3,o 21 (.call 70 [.t 20]),no 22 21,m 23 22,fn 24 2 2 3 23,eh 25 24 23,fn 26 0 0 2 23,eh 27 26 23,on 28 (.bin .neq (.t 25) (.t 27)) 23,or 29 23 28,m 19 29]
def Rv:=[o 30 (.bld [.int .i64 0,.nils 4,.int .i64 0] []),p (.aP (some 3) (.t 4) (.t 30)),bN 5 95]
def Rw:=[f 31 0 0 3,l 32 31,o 33 (.call 80 [.t 32]),f 34 3 3 3,l 35 34,f 36 1 1 3,l 37 36,f 38 4 4 3,l 39 38,o 40 (.bld [.int .i64 0,.int .i64 0,.int .i64 0,.int .i64 0] [(0,(.t 33)),(1,(.t 35)),(2,(.t 37)),(3,(.t 39))]),o 8 (.alloc (.agg [.int .i64 0,.int .i64 0,.int .i64 0,.int .i64 0])),p (.aP (some 4) (.t 8) (.t 40))]
def L6:=some [[],[0],[1],[],[3],[],[5],[],[7],[2,4,6,8],[],[10,9,2,0,1,2,3,4,5,6,7,8,9,10]]
def Rx:=[m 41 6,L 42 4 8,o 43 (.call 81 [.t 41,.t 42]),no 44 43]
def Ry:=[L 45 3 2,o 46 (.call 57 [.t 45]),p (.aP (some 3) (.t 4) (.t 46)),bN 5 0]
def Rz:=[L 47 3 2,L 48 4 8,o 49 (.call 73 [.t 47,.t 48]),o 50 (.ext (.t 49) 0),o 51 (.ext (.t 49) 1),p (.aP (some 3) (.t 4) (.t 50)),m 5 51]
def zb:bo:=(s (r Rq) (s (r Rr) (s (.block 0 (s (r Rs) (.cond (.t 14) (s (r Rt) .ret) (s (r Ru) (.cond (.t 19) (s (r Rv) .ret) .skip))))) (s (.b9 L6 Rw) (s (s (r Rx) (.cond (.t 44) (s (r Ry) .ret) .skip)) (s (r Rz) .ret))))))
def DT:List bL:=[.cell 4 (some 3),.tmp 5]
theorem JD:ct Tryz.prog Tryz.f35 zb:=e (by kernel_rfl)
theorem KY:cj Tryz.prog Tryz.f35 DT:=e (by kernel_rfl)
theorem Iv:cd Tryz.prog 35:=e (by kernel_rfl)
def RA:=[b 2 0,b 3 1,o 4 (.alloc (.agg [.int .i64 0,.nils 4,.int .i64 0])),bN 5 0]
def RB:=[L 10 3 2,o 11 (.call 24 [.t 10]),m 6 11]
def RD:=[m 12 6,o 13 (.bin .neq (.t 12) (aZ 0))]
def RE:=[o 14 (.bld [.int .i64 0,.nils 4,.int .i64 0] []),m 15 6,p (.aP (some 3) (.t 4) (.t 14)),m 5 15]
def RF:=[L 16 5 3,o 17 (.call 26 [.t 16]),o 18 (.bin .neq (.t 17) (aZ 0)),m 19 18,fn 20 2 2 3 19,eh 21 20 19,fn 22 0 0 2 19,eh 23 22 19,on 24 (.bin .neq (.t 21) (.t 23)) 19,or 25 19 24]
def RG:=[o 26 (.bld [.int .i64 0,.nils 4,.int .i64 0] []),p (.aP (some 3) (.t 4) (.t 26)),bN 5 95]
def RH:=[L 27 5 3,o 28 (.call 82 [.t 27]),f 29 3 3 3,l 30 29,f 31 1 1 3,l 32 31,f 33 4 4 3,l 34 33,o 35 (.bld [.int .i64 0,.int .i64 0,.int .i64 0,.int .i64 0] [(0,(.t 28)),(1,(.t 30)),(2,(.t 32)),(3,(.t 34))]),o 7 (.alloc (.agg [.int .i64 0,.int .i64 0,.int .i64 0,.int .i64 0])),p (.aP (some 4) (.t 7) (.t 35))]
def L7:=some [[],[0],[],[2],[],[4],[],[6],[1,3,5,7],[],[9,8,1,0,1,2,3,4,5,6,7,8,9]]
def RI:=[L 37 3 2,o 38 (.call 75 [.t 37]),L 39 4 7,o 40 (.call 76 [.t 38,.t 39]),m 36 40,o 41 (.ext (.t 36) 0),o 42 (.ext (.t 36) 1),o 8 (.alloc (.agg [.int .i64 0,.nils 1,.int .i64 0,.nils 4,.nils 4])),p (.aP (some 5) (.t 8) (.t 41)),m 9 42]
def L8:=some [[],[0],[],[1,2,1],[3],[4],[4],[],[7,5,3,0,1,2,3,4,5,7],[6,8,0,1,2,3,4,5,6,7,8]]
def RJ:=[m 43 9,no 44 43]
def RK:=[L 45 3 2,o 46 (.call 58 [.t 45]),p (.aP (some 3) (.t 4) (.t 46)),bN 5 0]
def RC:=[L 47 3 2,L 48 4 7,o 49 (.call 77 [.t 47,.t 48]),o 50 (.ext (.t 49) 0),o 51 (.ext (.t 49) 1),p (.aP (some 3) (.t 4) (.t 50)),m 5 51]
def zc:bo:=(s (r RA) (s (s (r RB) (s (r RD) (.cond (.t 13) (s (r RE) .ret) .skip))) (s (s (r RF) (.cond (.t 25) (s (r RG) .ret) .skip)) (s (.b9 L7 RH) (s (s (.b9 L8 RI) (s (r RJ) (.cond (.t 44) (s (r RK) .ret) .skip))) (s (r RC) .ret))))))
def DU:List bL:=[.cell 4 (some 3),.tmp 5]
theorem JE:ct Tryz.prog Tryz.f36 zc:=e (by kernel_rfl)
theorem KZ:cj Tryz.prog Tryz.f36 DU:=e (by kernel_rfl)
theorem Iw:cd Tryz.prog 36:=e (by kernel_rfl)
def RL:=[o 4 (.mv (.c (.nils 1))),bN 5 0]
def RM:=[m 12 0,m 13 1,o 14 (.call 83 [.t 12,.t 13]),m 11 14,o 15 (.ext (.t 11) 0),o 16 (.ext (.t 11) 1),m 6 15,m 7 16]
def RN:=[o 8 (.mv (.c (.nils 1)))]
def RO:=[m 17 6,o 18 (.len (.t 17)),bN 19 0]
def RP:=[lt 20 19 18]
def RQ:=[o 21 (.is 1 (.t 17) (.t 19)),l 22 21,m 10 22]
def RS:=[m 23 10,o 24 (.nilC (.t 23)),f 25 1 1 24,l 26 25,m 27 1,o 28 (.lk (.i .i64) (.bool false) false (.t 26) (.t 27))]
def RT:=[m 29 8,m 30 10,o 31 (.nilC (.t 30)),f 32 0 0 31,l 33 32,o 34 (.bs 3 1 [.t 33]),o 35 (.di 3 1 8 (.int .i64 0) (.t 29) (.t 34)),m 8 35]
def RU:=[ad 36 19 1,m 19 36]
def RV:=[m 37 8,m 38 7,m 4 37,m 5 38]
def zd:bo:=(s (r RL) (s (r RM) (s (r RN) (s (s (r RO) (.block 0 (.loop (s (r RP) (s (.cond (.t 20) .skip (.exit 0)) (s (.block 1 (s (r RQ) (s (r RS) (.cond (.t 28) (r RT) .skip)))) (r RU))))))) (s (r RV) .ret)))))
def DV:List bL:=[.tmp 4,.tmp 5]
theorem JF:ct Tryz.prog Tryz.f37 zd:=e (by kernel_rfl)
theorem K0:cj Tryz.prog Tryz.f37 DV:=e (by kernel_rfl)
theorem Iy:cd Tryz.prog 37:=e (by kernel_rfl)
def RW:=[o 4 (.mv bC)]
def RX:=[m 6 0,o 7 (.len (.t 6)),m 8 1,o 9 (.len (.t 8)),o 10 (.bin .neq (.t 7) (.t 9))]
def RY:=[o 4 (.mv bC)]
def RZ:=[m 11 0,o 12 (.len (.t 11)),bN 13 0]
def R0:=[lt 14 13 12]
def R1:=[m 15 13,m 5 15]
def R2:=[m 16 0,m 17 5,o 18 (.is 1 (.t 16) (.t 17)),l 19 18,m 20 1,m 21 5,o 22 (.is 1 (.t 20) (.t 21)),l 23 22,o 24 (.bin .neq (.t 19) (.t 23))]
def L9:=some [[],[],[0,1],[2],[],[],[4,5],[6],[3,7]]
def R3:=[o 4 (.mv bC)]
def R4:=[ad 25 13 1,m 13 25]
def R5:=[o 4 (.mv T)]
def ze:bo:=(s (r RW) (s (s (r RX) (.cond (.t 10) (s (r RY) .ret) .skip)) (s (s (r RZ) (.block 0 (.loop (s (r R0) (s (.cond (.t 14) .skip (.exit 0)) (s (.block 1 (s (r R1) (s (.b9 L9 R2) (.cond (.t 24) (s (r R3) .ret) .skip)))) (r R4))))))) (s (r R5) .ret))))
def DW:List bL:=[.tmp 4]
theorem JG:ct Tryz.prog Tryz.f41 ze:=e (by kernel_rfl)
theorem K1:cj Tryz.prog Tryz.f41 DW:=e (by kernel_rfl)
theorem Iz:cd Tryz.prog 41:=e (by kernel_rfl)
def R6:=[b 1 0,o 2 (.mv (.c (.nils 4))),bN 3 0]
def R7:=[L 10 3 1,o 11 (.call 69 [.t 10]),m 9 11,o 12 (.ext (.t 9) 0),o 13 (.ext (.t 9) 1),m 4 12,m 5 13]
def R9:=[m 14 5,o 15 (.bin .neq (.t 14) (aZ 0))]
def Sa:=[m 16 5,o 2 (.mv (.c (.nils 4))),m 3 16]
def Sb:=[o 6 (.mv (.c (.nils 4)))]
def Sc:=[m 17 4,o 18 (.call 85 [.t 17]),o 19 (.len (.t 18)),bN 20 0]
def Sd:=[lt 21 20 19]
def Se:=[o 22 (.is 1 (.t 18) (.t 20)),l 23 22,m 8 23]
def Sf:=[m 24 6,m 25 4,o 26 (.nilC (.t 25)),f 27 2 2 26,l 28 27,m 29 8,o 30 (.lk (.i .i64) (.nilp) false (.t 28) (.t 29)),o 31 (.nilC (.t 30)),L 32 4 31,o 33 (.bs 48 4 [.t 32]),o 34 (.di 48 4 32 (.agg [.int .i64 0,.int .i64 0,.int .i64 0,.bool false]) (.t 24) (.t 33)),m 6 34]
def Sg:=[ad 35 20 1,m 20 35]
def R8:=[m 36 6,m 2 36,bN 3 0]
def zf:bo:=(s (r R6) (s (r R7) (s (s (r R9) (.cond (.t 15) (s (r Sa) .ret) .skip)) (s (r Sb) (s (s (r Sc) (.block 0 (.loop (s (r Sd) (s (.cond (.t 21) .skip (.exit 0)) (s (.block 1 (s (r Se) (r Sf))) (r Sg))))))) (s (r R8) .ret))))))
def DX:List bL:=[.tmp 2,.tmp 3]
theorem JH:ct Tryz.prog Tryz.f46 zf:=e (by kernel_rfl)
theorem K2:cj Tryz.prog Tryz.f46 DX:=e (by kernel_rfl)
theorem IA:cd Tryz.prog 46:=e (by kernel_rfl)
def Sh:=[o 4 (.mv bC)]
def Si:=[m 6 0,o 7 (.len (.t 6)),m 8 1,o 9 (.len (.t 8)),o 10 (.bin .neq (.t 7) (.t 9))]
def Sj:=[o 4 (.mv bC)]
def Sk:=[m 11 0,o 12 (.len (.t 11)),bN 13 0]
def Sl:=[lt 14 13 12]
def Sm:=[m 15 13,m 5 15]
def Sn:=[m 16 0,m 17 5,o 18 (.is 4 (.t 16) (.t 17)),L 19 4 18,m 20 1,m 21 5,o 22 (.is 4 (.t 20) (.t 21)),L 23 4 22,o 24 (.eqv (.aP [(.i .i64),(.i .i64),(.i .i64),(.i .i64)]) true (.t 19) (.t 23))]
def Ma:=some [[],[],[0,1],[2],[],[],[4,5],[6],[3,7]]
def Sp:=[o 4 (.mv bC)]
def Sq:=[ad 25 13 1,m 13 25]
def Sr:=[o 4 (.mv T)]
def zg:bo:=(s (r Sh) (s (s (r Si) (.cond (.t 10) (s (r Sj) .ret) .skip)) (s (s (r Sk) (.block 0 (.loop (s (r Sl) (s (.cond (.t 14) .skip (.exit 0)) (s (.block 1 (s (r Sm) (s (.b9 Ma Sn) (.cond (.t 24) (s (r Sp) .ret) .skip)))) (r Sq))))))) (s (r Sr) .ret))))
def DZ:List bL:=[.tmp 4]
theorem JJ:ct Tryz.prog Tryz.f52 zg:=e (by kernel_rfl)
theorem K4:cj Tryz.prog Tryz.f52 DZ:=e (by kernel_rfl)
theorem IC:cd Tryz.prog 52:=e (by kernel_rfl)
def St:=[b 1 0,o 2 (.mv (.c (.bR ⟨#[]⟩))),bN 3 0]
def Su:=[L 8 3 1,o 9 (.call 23 [.t 8]),m 4 9]
def Sy:=[m 10 4,o 11 (.bin .neq (.t 10) (aZ 0))]
def Sz:=[m 12 4,o 2 (.mv (.c (.bR ⟨#[]⟩))),m 3 12]
def SA:=[f 13 0 0 1,l 14 13,f 15 2 2 1,l 16 15,o 17 (.bs 3 1 [.t 14,.t 16]),o 18 (.call 93 [(.c (.bR ⟨#[112,111,117,110,100]⟩)),.t 17]),m 5 18]
def SB:=[f 19 1 1 1,l 20 19,o 21 (.len (.t 20)),bN 22 0]
def SC:=[lt 23 22 21]
def SD:=[o 24 (.is 4 (.t 20) (.t 22)),L 25 4 24,o 7 (.alloc (.agg [.int .i64 0,.int .i64 0,.int .i64 0,.int .i64 0])),p (.aP (some 4) (.t 7) (.t 25))]
def SE:=[f 26 0 0 7,l 27 26,o 28 (.bin .leq (.t 27) (aZ 2))]
def SF:=[m 29 5,o 30 (.call 94 []),f 31 0 0 7,l 32 31,o 33 (.is 1 (.t 30) (.t 32)),l 34 33,f 35 1 1 7,l 36 35,o 37 (.bs 3 1 [.t 36]),o 38 (.call 93 [.t 34,.t 37]),o 39 (.bin .add (.t 29) (.t 38)),m 5 39]
def Mc:=some [[],[],[],[2],[1,3],[4],[],[6],[7],[5,8,1],[0,9],[10,9,0,1,2,3,4,5,6,7,8,9,10]]
def Sv:=[m 40 5,o 41 (.call 94 []),f 42 0 0 7,l 43 42,o 44 (.is 1 (.t 41) (.t 43)),l 45 44,f 46 1 1 7,l 47 46,f 48 2 2 7,l 49 48,f 50 3 3 7,l 51 50,o 52 (.bs 3 1 [.t 47,.t 49,.t 51]),o 53 (.call 93 [.t 45,.t 52]),o 54 (.bin .add (.t 40) (.t 53)),m 5 54]
def Mb:=some [[],[],[],[2],[1,3],[4],[],[6],[],[8],[],[10],[7,9,11],[5,12,1],[0,13],[14,13,0,1,2,3,4,5,6,7,8,9,10,11,12,13,14]]
def Sw:=[ad 55 22 1,m 22 55]
def Sx:=[m 56 5,m 2 56,bN 3 0]
def zh:bo:=(s (r St) (s (s (r Su) (s (r Sy) (.cond (.t 11) (s (r Sz) .ret) .skip))) (s (r SA) (s (s (r SB) (.block 0 (.loop (s (r SC) (s (.cond (.t 23) .skip (.exit 0)) (s (.block 1 (s (r SD) (s (r SE) (.cond (.t 28) (.b9 Mc SF) (.b9 Mb Sv))))) (r Sw))))))) (s (r Sx) .ret)))))
def D0:List bL:=[.tmp 2,.tmp 3]
theorem JK:ct Tryz.prog Tryz.f53 zh:=e (by kernel_rfl)
theorem K5:cj Tryz.prog Tryz.f53 D0:=e (by kernel_rfl)
theorem ID:cd Tryz.prog 53:=e (by kernel_rfl)
def SG:=[b 1 0,o 2 (.alloc (.agg [.int .i64 0,.nils 4,.int .i64 0]))]
def SH:=[f 3 1 1 1,l 4 3,o 5 (.call 59 [.t 4]),f 6 1 1 1,p (.aP none (.t 6) (.t 5))]
def SI:=[L 7 3 1,p (.aP (some 3) (.t 2) (.t 7))]
def uS:bo:=(s (r SG) (s (r SH) (s (r SI) .ret)))
def w6:List bL:=[.cell 2 (some 3)]
theorem An:ct Tryz.prog Tryz.f57 uS:=e (by kernel_rfl)
theorem Aw:cj Tryz.prog Tryz.f57 w6:=e (by kernel_rfl)
theorem zY:cd Tryz.prog 57:=e (by kernel_rfl)
def SJ:=[b 1 0,o 2 (.alloc (.agg [.int .i64 0,.nils 4,.int .i64 0]))]
def SK:=[o 3 (.bs0 4),f 4 1 1 1,l 5 4,o 6 (.di 37 4 32 (.agg [.int .i64 0,.int .i64 0,.int .i64 0,.int .i64 0]) (.t 3) (.t 5)),f 7 1 1 1,p (.aP none (.t 7) (.t 6))]
def SL:=[L 8 3 1,p (.aP (some 3) (.t 2) (.t 8))]
def zi:bo:=(s (r SJ) (s (r SK) (s (r SL) .ret)))
def D5:List bL:=[.cell 2 (some 3)]
theorem JL:ct Tryz.prog Tryz.f58 zi:=e (by kernel_rfl)
theorem K6:cj Tryz.prog Tryz.f58 D5:=e (by kernel_rfl)
theorem IE:cd Tryz.prog 58:=e (by kernel_rfl)
def vN:=[o 2 (.mv (.c (.nils 4)))]
def qw:=[m 3 0,o 4 (.nilS false (.t 3))]
def vO:=[o 2 (.mv (.c (.nils 4)))]
def qx:=[o 5 (.bs0 4),m 6 0,o 7 (.di 37 4 32 (.agg [.int .i64 0,.int .i64 0,.int .i64 0,.int .i64 0]) (.t 5) (.t 6)),m 2 7]
def uT:bo:=(s (r vN) (s (s (r qw) (.cond (.t 4) (s (r vO) .ret) .skip)) (s (r qx) .ret)))
def w7:List bL:=[.tmp 2]
theorem Ao:ct Tryz.prog Tryz.f59 uT:=e (by kernel_rfl)
theorem Ax:cj Tryz.prog Tryz.f59 w7:=e (by kernel_rfl)
theorem zZ:cd Tryz.prog 59:=e (by kernel_rfl)
def SZ:=[o 2 (.mv bC)]
def S0:=[m 3 0,o 4 (.call 105 [.t 3,(aZ 0),(aZ 5)]),m 2 4]
def zj:bo:=(s (r SZ) (s (r S0) .ret))
def D6:List bL:=[.tmp 2]
theorem JM:ct Tryz.prog Tryz.f61 zj:=e (by kernel_rfl)
theorem K7:cj Tryz.prog Tryz.f61 D6:=e (by kernel_rfl)
theorem IF:cd Tryz.prog 61:=e (by kernel_rfl)
def S1:=[o 4 (.mv (.c (.nilp))),o 5 (.mv bC)]
def S2:=[m 9 0,o 10 (.call 106 [.t 9]),m 6 10]
def S3:=[m 11 1,o 12 (.len (.t 11)),bN 13 0]
def S4:=[lt 14 13 12]
def S5:=[o 15 (.is 4 (.t 11) (.t 13)),L 16 4 15,o 8 (.alloc (.agg [.int .i64 0,.int .i64 0,.int .i64 0,.int .i64 0])),p (.aP (some 4) (.t 8) (.t 16))]
def S6:=[m 17 6,L 18 4 8,o 19 (.call 81 [.t 17,.t 18]),no 20 19]
def S7:=[o 4 (.mv (.c (.nilp))),o 5 (.mv bC)]
def S8:=[ad 21 13 1,m 13 21]
def S9:=[m 22 6,m 4 22,o 5 (.mv T)]
def uU:bo:=(s (r S1) (s (r S2) (s (s (r S3) (.block 0 (.loop (s (r S4) (s (.cond (.t 14) .skip (.exit 0)) (s (.block 1 (s (r S5) (s (r S6) (.cond (.t 20) (s (r S7) .ret) .skip)))) (r S8))))))) (s (r S9) .ret))))
def w8:List bL:=[.tmp 4,.tmp 5]
theorem Ap:ct Tryz.prog Tryz.f62 uU:=e (by kernel_rfl)
theorem Ay:cj Tryz.prog Tryz.f62 w8:=e (by kernel_rfl)
theorem z7:cd Tryz.prog 62:=e (by kernel_rfl)
def Ta:=[b 2 0,b 3 1,o 4 (.mv (.c (.dx)))]
def Tb:=[o 5 (.mk 107 [.t 2,.t 3]),m 4 5]
def zk:bo:=(s (r Ta) (s (r Tb) .ret))
def D7:List bL:=[.tmp 4]
theorem JN:ct Tryz.prog Tryz.f63 zk:=e (by kernel_rfl)
theorem K8:cj Tryz.prog Tryz.f63 D7:=e (by kernel_rfl)
theorem IG:cd Tryz.prog 63:=e (by kernel_rfl)
def Tc:=[o 2 (.mv bC)]
def Td:=[m 3 0,o 4 (.call 68 [.t 3,(aZ 0),(aZ 5)]),m 2 4]
def zl:bo:=(s (r Tc) (s (r Td) .ret))
def D8:List bL:=[.tmp 2]
theorem JO:ct Tryz.prog Tryz.f64 zl:=e (by kernel_rfl)
theorem K9:cj Tryz.prog Tryz.f64 D8:=e (by kernel_rfl)
theorem IH:cd Tryz.prog 64:=e (by kernel_rfl)
def Te:=[b 2 0,o 4 (.alloc (.agg [.int .i64 0,.nils 1,.int .i64 0,.nils 4,.nils 4])),o 5 (.mv bC)]
def Tf:=[f 10 0 0 2,l 11 10,o 12 (.bld [.int .i64 0,.nils 1,.int .i64 0,.nils 4,.nils 4] [(0,(.t 11))]),o 6 (.alloc (.agg [.int .i64 0,.nils 1,.int .i64 0,.nils 4,.nils 4])),p (.aP (some 5) (.t 6) (.t 12))]
def Ti:=[bN 7 0]
def Tj:=[m 13 7,m 14 1,lt 15 13 14]
def Tk:=[f 18 1 1 2,l 19 18,m 20 7,o 21 (.is 4 (.t 19) (.t 20)),L 22 4 21,o 23 (.call 22 [.t 22]),o 24 (.bin .neq (.t 23) (aZ 0))]
def Tl:=[L 25 5 6,p (.aP (some 5) (.t 4) (.t 25)),o 5 (.mv bC)]
def Tm:=[L 27 5 6,f 28 1 1 2,l 29 28,m 30 7,o 31 (.is 4 (.t 29) (.t 30)),L 32 4 31,o 33 (.call 76 [.t 27,.t 32]),m 26 33,o 34 (.ext (.t 26) 0),o 35 (.ext (.t 26) 1),o 8 (.alloc (.agg [.int .i64 0,.nils 1,.int .i64 0,.nils 4,.nils 4])),p (.aP (some 5) (.t 8) (.t 34)),m 9 35]
def Md:=some [[],[],[1],[],[2,3],[4],[0,5],[6],[7],[7],[],[10,8,6,0,1,2,3,4,5,6,7,8,10],[9,11,0,1,2,3,4,5,6,7,8,9,10,11]]
def Tn:=[m 36 9,no 37 36]
def Tp:=[L 38 5 6,p (.aP (some 5) (.t 4) (.t 38)),o 5 (.mv bC)]
def Tq:=[L 39 5 8,p (.aP (some 5) (.t 6) (.t 39))]
def Tg:=[m 16 7,ad 17 16 1,m 7 17]
def Th:=[L 40 5 6,p (.aP (some 5) (.t 4) (.t 40)),o 5 (.mv T)]
def zm:bo:=(s (r Te) (s (r Tf) (s (s (r Ti) (.block 0 (.loop (s (s (r Tj) (.cond (.t 15) .skip (.exit 0))) (s (.block 1 (s (s (r Tk) (.cond (.t 24) (s (r Tl) .ret) .skip)) (s (.b9 Md Tm) (s (s (r Tn) (.cond (.t 37) (s (r Tp) .ret) .skip)) (r Tq))))) (r Tg)))))) (s (r Th) .ret))))
def D9:List bL:=[.cell 4 (some 5),.tmp 5]
theorem JP:ct Tryz.prog Tryz.f65 zm:=e (by kernel_rfl)
theorem La:cj Tryz.prog Tryz.f65 D9:=e (by kernel_rfl)
theorem II:cd Tryz.prog 65:=e (by kernel_rfl)
def Tr:=[b 1 0,o 2 (.mv bC)]
def Ts:=[f 3 0 0 1,l 4 3]
def Tw:=[o 6 (.bin .eql (.t 4) (aZ 1)),m 5 6]
def Tx:=[o 7 (.bin .eql (.t 4) (aZ 2)),m 5 7]
def Ty:=[f 8 1 1 1,l 9 8,o 10 (.call 71 [.t 9]),m 11 10,dU 12 2 2 1 11,dN 13 12 11,bE 14 (.bin .eql (.t 13) (aZ 0)) 11,and 15 11 14,m 16 15,dU 17 3 3 1 16,dN 18 17 16,bE 19 (.bin .eql (.t 18) (aZ 0)) 16,and 20 16 19,m 2 20]
def Tz:=[o 22 (.bin .eql (.t 4) (aZ 3)),m 21 22]
def TA:=[o 23 (.bin .eql (.t 4) (aZ 4)),m 21 23]
def TB:=[o 24 (.bin .eql (.t 4) (aZ 5)),m 21 24]
def TC:=[o 25 (.bin .eql (.t 4) (aZ 6)),m 21 25]
def TD:=[o 26 (.bin .eql (.t 4) (aZ 7)),m 21 26]
def Tt:=[o 27 (.bin .eql (.t 4) (aZ 8)),m 21 27]
def Tu:=[f 28 1 1 1,l 29 28,o 30 (.call 71 [.t 29]),m 31 30,dU 32 2 2 1 31,dN 33 32 31,bE 34 (.call 61 [.t 33]) 31,and 35 31 34,m 36 35,dU 37 3 3 1 36,dN 38 37 36,bE 39 (.call 90 [.t 38]) 36,and 40 36 39,m 2 40]
def Tv:=[o 2 (.mv bC)]
def zn:bo:=(s (r Tr) (s (s (r Ts) (.block 0 (s (s (r Tw) (.cond (.t 5) .skip (r Tx))) (.cond (.t 5) (s (r Ty) .ret) (s (s (r Tz) (.cond (.t 21) .skip (s (r TA) (.cond (.t 21) .skip (s (r TB) (.cond (.t 21) .skip (s (r TC) (.cond (.t 21) .skip (s (r TD) (.cond (.t 21) .skip (r Tt))))))))))) (.cond (.t 21) (s (r Tu) .ret) .skip)))))) (s (r Tv) .ret)))
def Ea:List bL:=[.tmp 2]
theorem JQ:ct Tryz.prog Tryz.f66 zn:=e (by kernel_rfl)
theorem Lb:cj Tryz.prog Tryz.f66 Ea:=e (by kernel_rfl)
theorem IJ:cd Tryz.prog 66:=e (by kernel_rfl)
def TE:=[o 2 (.mv bC)]
def TF:=[m 3 0,o 4 (.call 68 [.t 3,(aZ 1),(aZ 9999)]),m 2 4]
def zo:bo:=(s (r TE) (s (r TF) .ret))
def Eb:List bL:=[.tmp 2]
theorem JR:ct Tryz.prog Tryz.f67 zo:=e (by kernel_rfl)
theorem Lc:cj Tryz.prog Tryz.f67 Eb:=e (by kernel_rfl)
theorem IK:cd Tryz.prog 67:=e (by kernel_rfl)
def TG:=[o 6 (.mv bC)]
def TH:=[m 7 1,m 8 0,o 9 (.bin .leq (.t 7) (.t 8)),m 10 9,cM 11 0 10,cM 12 2 10,bE 13 (.bin .leq (.t 11) (.t 12)) 10,and 14 10 13,m 6 14]
def zp:bo:=(s (r TG) (s (r TH) .ret))
def Ec:List bL:=[.tmp 6]
theorem JS:ct Tryz.prog Tryz.f68 zp:=e (by kernel_rfl)
theorem Ld:cj Tryz.prog Tryz.f68 Ec:=e (by kernel_rfl)
theorem IL:cd Tryz.prog 68:=e (by kernel_rfl)
def TI:=[b 1 0,o 2 (.mv (.c (.nilp))),bN 3 0]
def TJ:=[f 6 0 0 1,l 7 6,o 8 (.call 61 [.t 7]),no 9 8,m 10 9,fn 11 1 1 1 10,eh 12 11 10,on 13 (.len (.t 12)) 10,on 14 (.bin .gtr (.t 13) (aZ 200)) 10,or 15 10 14,m 16 15,fn 17 2 2 1 16,eh 18 17 16,fn 19 1 1 1 16,eh 20 19 16,on 21 (.len (.t 20)) 16,on 22 (.call 105 [.t 18,(aZ 0),.t 21]) 16,on 23 (.un .not (.t 22)) 16,or 24 16 23]
def TK:=[o 2 (.mv (.c (.nilp))),bN 3 91]
def TL:=[f 26 0 0 1,l 27 26,f 28 1 1 1,l 29 28,o 30 (.call 62 [.t 27,.t 29]),m 25 30,o 31 (.ext (.t 25) 0),o 32 (.ext (.t 25) 1),m 4 31,m 5 32]
def TM:=[m 33 5,no 34 33]
def TN:=[o 2 (.mv (.c (.nilp))),bN 3 91]
def TO:=[m 35 4,m 2 35,bN 3 0]
def uV:bo:=(s (r TI) (s (s (r TJ) (.cond (.t 24) (s (r TK) .ret) .skip)) (s (r TL) (s (s (r TM) (.cond (.t 34) (s (r TN) .ret) .skip)) (s (r TO) .ret)))))
def w9:List bL:=[.tmp 2,.tmp 3]
theorem Aq:ct Tryz.prog Tryz.f69 uV:=e (by kernel_rfl)
theorem Az:cj Tryz.prog Tryz.f69 w9:=e (by kernel_rfl)
theorem z8:cd Tryz.prog 69:=e (by kernel_rfl)
def TP:=[b 1 0,o 2 (.mv bC)]
def TQ:=[f 3 0 0 1,l 4 3,o 5 (.call 105 [.t 4,(aZ 1),(aZ 4)]),m 6 5,dU 7 1 1 1 6,dN 8 7 6,bE 9 (.call 61 [.t 8]) 6,and 10 6 9,m 11 10,dU 12 2 2 1 11,dN 13 12 11,bE 14 (.call 61 [.t 13]) 11,and 15 11 14,m 16 15,dU 17 1 1 1 16,dN 18 17 16,dU 19 2 2 1 16,dN 20 19 16,bE 21 (.bin .neq (.t 18) (.t 20)) 16,and 22 16 21,m 23 22,dU 24 3 3 1 23,dN 25 24 23,bE 26 (.call 71 [.t 25]) 23,and 27 23 26,m 28 27,dU 29 4 4 1 28,dN 30 29 28,bE 31 (.call 90 [.t 30]) 28,and 32 28 31,m 2 32]
def zq:bo:=(s (r TP) (s (r TQ) .ret))
def Ed:List bL:=[.tmp 2]
theorem JT:ct Tryz.prog Tryz.f70 zq:=e (by kernel_rfl)
theorem Le:cj Tryz.prog Tryz.f70 Ed:=e (by kernel_rfl)
theorem IM:cd Tryz.prog 70:=e (by kernel_rfl)
def TR:=[o 2 (.mv bC)]
def TS:=[m 3 0,o 4 (.call 105 [.t 3,(aZ 1),(aZ 9999)]),m 2 4]
def zr:bo:=(s (r TR) (s (r TS) .ret))
def Ee:List bL:=[.tmp 2]
theorem JU:ct Tryz.prog Tryz.f71 zr:=e (by kernel_rfl)
theorem Lf:cj Tryz.prog Tryz.f71 Ee:=e (by kernel_rfl)
theorem IN:cd Tryz.prog 71:=e (by kernel_rfl)
def Bi:=[o 4 (.mv bC)]
def Bj:=[m 7 0,o 8 (.nilC (.t 7)),f 9 2 2 8,l 10 9,o 11 (.jI (.t 10))]
def vP:=[o 12 (.ib (.t 11)),o 13 (.ext (.t 12) 0)]
def TT:=[o 14 (.ent (.t 11)),o 15 (.ext (.t 14) 1),m 6 15]
def TU:=[m 16 6,o 17 (.nilC (.t 16)),f 18 2 2 17,l 19 18,m 20 1,o 21 (.bin .eql (.t 19) (.t 20))]
def TV:=[o 4 (.mv T)]
def TW:=[o 4 (.mv bC)]
def zt:bo:=(s (r Bi) (s (s (r Bj) (.block 0 (.loop (s (r vP) (s (.cond (.t 13) .skip (.exit 0)) (.block 1 (s (r TT) (s (r TU) (.cond (.t 21) (s (r TV) .ret) .skip))))))))) (s (r TW) .ret)))
def Ef:List bL:=[.tmp 4]
theorem JV:ct Tryz.prog Tryz.f72 zt:=e (by kernel_rfl)
theorem Lg:cj Tryz.prog Tryz.f72 Ef:=e (by kernel_rfl)
theorem IP:cd Tryz.prog 72:=e (by kernel_rfl)
def TX:=[b 2 0,b 3 1,o 4 (.alloc (.agg [.int .i64 0,.nils 4,.int .i64 0])),bN 5 0]
def TY:=[f 6 1 1 2,l 7 6,o 8 (.len (.t 7)),o 9 (.bin .eql (.t 8) (aZ 200))]
def TZ:=[o 10 (.bld [.int .i64 0,.nils 4,.int .i64 0] []),p (.aP (some 3) (.t 4) (.t 10)),bN 5 2]
def T0:=[L 11 3 2,o 12 (.call 57 [.t 11]),p (.aP (some 3) (.t 2) (.t 12))]
def T1:=[f 13 1 1 2,l 14 13,L 15 4 3,o 16 (.bs 37 4 [.t 15]),o 17 (.di 37 4 32 (.agg [.int .i64 0,.int .i64 0,.int .i64 0,.int .i64 0]) (.t 14) (.t 16)),f 18 1 1 2,p (.aP none (.t 18) (.t 17))]
def T2:=[L 19 3 2,p (.aP (some 3) (.t 4) (.t 19)),bN 5 0]
def zu:bo:=(s (r TX) (s (s (r TY) (.cond (.t 9) (s (r TZ) .ret) .skip)) (s (r T0) (s (r T1) (s (r T2) .ret)))))
def Eg:List bL:=[.cell 4 (some 3),.tmp 5]
theorem JW:ct Tryz.prog Tryz.f73 zu:=e (by kernel_rfl)
theorem Lh:cj Tryz.prog Tryz.f73 Eg:=e (by kernel_rfl)
theorem IQ:cd Tryz.prog 73:=e (by kernel_rfl)
def T3:=[b 2 0,bN 4 0]
def T4:=[L 6 3 2,o 7 (.call 24 [.t 6]),m 5 7]
def T5:=[m 8 5,o 9 (.bin .neq (.t 8) (aZ 0))]
def T6:=[m 10 5,m 4 10]
def T7:=[m 11 1,o 12 (.call 67 [.t 11]),no 13 12]
def T8:=[bN 4 1]
def T9:=[bN 4 0]
def zw:bo:=(s (r T3) (s (s (r T4) (s (r T5) (.cond (.t 9) (s (r T6) .ret) .skip))) (s (s (r T7) (.cond (.t 13) (s (r T8) .ret) .skip)) (s (r T9) .ret))))
def Ei:List bL:=[.tmp 4]
theorem JX:ct Tryz.prog Tryz.f74 zw:=e (by kernel_rfl)
theorem Li:cj Tryz.prog Tryz.f74 Ei:=e (by kernel_rfl)
theorem IS:cd Tryz.prog 74:=e (by kernel_rfl)
def Ua:=[b 1 0,o 2 (.alloc (.agg [.int .i64 0,.nils 1,.int .i64 0,.nils 4,.nils 4]))]
def Ub:=[L 6 3 1,f 7 1 1 1,l 8 7,o 9 (.len (.t 8)),o 10 (.call 65 [.t 6,.t 9]),m 5 10,o 11 (.ext (.t 5) 0),o 12 (.ext (.t 5) 1),o 3 (.alloc (.agg [.int .i64 0,.nils 1,.int .i64 0,.nils 4,.nils 4])),p (.aP (some 5) (.t 3) (.t 11)),m 4 12]
def Uc:=[L 13 5 3,p (.aP (some 5) (.t 2) (.t 13))]
def zx:bo:=(s (r Ua) (s (r Ub) (s (r Uc) .ret)))
def Ej:List bL:=[.cell 2 (some 5)]
theorem JY:ct Tryz.prog Tryz.f75 zx:=e (by kernel_rfl)
theorem Lj:cj Tryz.prog Tryz.f75 Ej:=e (by kernel_rfl)
theorem IT:cd Tryz.prog 75:=e (by kernel_rfl)
def Bk:=[b 2 0,b 3 1,o 4 (.alloc (.agg [.int .i64 0,.nils 1,.int .i64 0,.nils 4,.nils 4])),o 5 (.mv bC)]
def Bl:=[f 9 1 1 2,l 10 9,f 11 1 1 3,l 12 11,o 13 (.call 78 [.t 10,.t 12]),m 6 13]
def Bm:=[L 14 5 2,f 15 3 3 3,l 16 15,o 17 (.call 79 [.t 14,.t 16]),m 7 17]
def Bn:=[m 18 7,o 19 (.bin .geq (.t 18) (aZ 0)),m 20 19,dU 21 3 3 2 20,dN 22 21 20,cM 23 7 20,bE 24 (.max2 (.t 23) (aZ 0)) 20,bE 25 (.is 4 (.t 22) (.t 24)) 20,dU 26 1 1 25 20,dN 27 26 20,dU 28 2 2 3 20,dN 29 28 20,bE 30 (.bin .eql (.t 27) (.t 29)) 20,and 31 20 30,m 32 31,dU 33 3 3 2 32,dN 34 33 32,cM 35 7 32,bE 36 (.max2 (.t 35) (aZ 0)) 32,bE 37 (.is 4 (.t 34) (.t 36)) 32,dU 38 2 2 37 32,dN 39 38 32,dU 40 1 1 3 32,dN 41 40 32,bE 42 (.bin .eql (.t 39) (.t 41)) 32,and 43 32 42,m 8 43]
def AA:=some [[],[0],[1],[2],[3,2],[2],[5,2],[4,6,2],[7,2],[8,2],[2],[10,2],[9,11,2],[2,12],[13,2],[14],[15,14],[14],[17,14],[16,18,14],[19,14],[20,14],[14],[22,14],[21,23,14],[14,24],[25,14,0,1,2,3,4,5,6,7,8,9,10,11,12,13,14,15,16,17,18,19,20,21,22,23,24,25]]
def UG:=[f 44 0 0 3,l 45 44]
def UK:=[o 47 (.bin .eql (.t 45) (aZ 1)),m 46 47]
def UL:=[m 48 6,m 49 48,on 50 (.ld (some 5) (.t 2)) 49,fn 51 1 1 3 49,eh 52 51 49,on 53 (.call 108 [.t 50,.t 52]) 49,or 54 49 53]
def UM:=[L 55 5 2,p (.aP (some 5) (.t 4) (.t 55)),o 5 (.mv bC)]
def UN:=[f 56 1 1 2,l 57 56,f 58 1 1 3,l 59 58,o 60 (.call 109 [.t 57,.t 59]),f 61 1 1 2,p (.aP none (.t 61) (.t 60))]
def UO:=[L 62 5 2,p (.aP (some 5) (.t 4) (.t 62)),o 5 (.mv T)]
def Ud:=[o 64 (.bin .eql (.t 45) (aZ 2)),m 63 64]
def Ue:=[f 65 1 1 2,l 66 65,f 67 1 1 3,l 68 67,o 69 (.call 110 [.t 66,.t 68]),f 70 1 1 2,p (.aP none (.t 70) (.t 69))]
def Uf:=[L 71 5 2,m 72 6,p (.aP (some 5) (.t 4) (.t 71)),m 5 72]
def Ug:=[o 74 (.bin .eql (.t 45) (aZ 3)),m 73 74]
def Uh:=[m 75 6,no 76 75,m 77 76,fn 78 2 2 3 77,eh 79 78 77,fn 80 0 0 2 77,eh 81 80 77,on 82 (.bin .eql (.t 79) (.t 81)) 77,or 83 77 82,m 84 83,fn 85 3 3 3 84,eh 86 85 84,fn 87 2 2 2 84,eh 88 87 84,on 89 (.bin .add (.t 88) (aZ 1)) 84,on 90 (.bin .neq (.t 86) (.t 89)) 84,or 91 84 90]
def Ui:=[L 92 5 2,p (.aP (some 5) (.t 4) (.t 92)),o 5 (.mv bC)]
def Uj:=[f 93 1 1 2,l 94 93,f 95 1 1 3,l 96 95,o 97 (.call 110 [.t 94,.t 96]),f 98 1 1 2,p (.aP none (.t 98) (.t 97))]
def Uk:=[f 99 3 3 3,l 100 99,f 101 2 2 2,p (.aP none (.t 101) (.t 100))]
def vQ:=[o 102 (.bs0 4),f 103 3 3 2,l 104 103,o 105 (.di 48 4 32 (.agg [.int .i64 0,.int .i64 0,.int .i64 0,.bool false]) (.t 102) (.t 104)),f 106 3 3 3,l 107 106,f 108 2 2 3,l 109 108,f 110 1 1 3,l 111 110,o 112 (.bld [.int .i64 0,.int .i64 0,.int .i64 0,.bool false] [(0,(.t 107)),(1,(.t 109)),(2,(.t 111))]),o 113 (.bs 48 4 [.t 112]),o 114 (.di 48 4 32 (.agg [.int .i64 0,.int .i64 0,.int .i64 0,.bool false]) (.t 105) (.t 113)),f 115 3 3 2,p (.aP none (.t 115) (.t 114))]
def Me:=some [[],[],[1],[0,2],[],[4],[],[6],[],[8],[5,7,9],[10],[3,11,3],[0,1,2,3,4,5,6,7,8,9,10,11,12],[13,12,12,0,1,2,3,4,5,6,7,8,9,10,11,12]] -- DRAW BAD
def Ul:=[L 116 5 2,p (.aP (some 5) (.t 4) (.t 116)),o 5 (.mv T)]
def Um:=[o 118 (.bin .eql (.t 45) (aZ 4)),m 117 118]
def Un:=[m 119 8,no 120 119,m 121 120,fn 122 3 3 2 121,eh 123 122 121,kq 124 7 121,on 125 (.is 4 (.t 123) (.t 124)) 121,fn 126 3 3 125 121,eh 127 126 121,or 128 121 127]
def Uo:=[L 129 5 2,p (.aP (some 5) (.t 4) (.t 129)),o 5 (.mv bC)]
def Up:=[o 130 (.bs0 4),f 131 3 3 2,l 132 131,o 133 (.di 48 4 32 (.agg [.int .i64 0,.int .i64 0,.int .i64 0,.bool false]) (.t 130) (.t 132)),f 134 3 3 2,p (.aP none (.t 134) (.t 133))]
def Uq:=[f 135 3 3 2,l 136 135,m 137 7,o 138 (.is 4 (.t 136) (.t 137)),f 139 3 3 138,p (.aP none (.t 139) T)]
def Ur:=[L 140 5 2,p (.aP (some 5) (.t 4) (.t 140)),o 5 (.mv T)]
def Us:=[o 142 (.bin .eql (.t 45) (aZ 5)),m 141 142]
def Ut:=[m 143 8,no 144 143]
def Uu:=[L 145 5 2,p (.aP (some 5) (.t 4) (.t 145)),o 5 (.mv bC)]
def Uv:=[L 146 5 2,m 147 7,o 148 (.call 111 [.t 146,.t 147]),p (.aP (some 5) (.t 4) (.t 148)),o 5 (.mv T)]
def Uw:=[o 150 (.bin .eql (.t 45) (aZ 6)),m 149 150]
def Ux:=[m 151 8,no 152 151,m 153 152,fn 154 3 3 2 153,eh 155 154 153,kq 156 7 153,on 157 (.is 4 (.t 155) (.t 156)) 153,fn 158 3 3 157 153,eh 159 158 153,on 160 (.un .not (.t 159)) 153,or 161 153 160]
def Uy:=[L 162 5 2,p (.aP (some 5) (.t 4) (.t 162)),o 5 (.mv bC)]
def Uz:=[L 163 5 2,m 164 7,o 165 (.call 111 [.t 163,.t 164]),p (.aP (some 5) (.t 2) (.t 165))]
def UA:=[f 166 1 1 2,l 167 166,f 168 1 1 3,l 169 168,o 170 (.call 109 [.t 167,.t 169]),f 171 1 1 2,p (.aP none (.t 171) (.t 170))]
def UB:=[L 172 5 2,p (.aP (some 5) (.t 4) (.t 172)),o 5 (.mv T)]
def UC:=[f 173 2 2 3,l 174 173,f 175 0 0 2,l 176 175,o 177 (.bin .eql (.t 174) (.t 176)),m 178 177,on 179 (.ld (some 5) (.t 2)) 178,fn 180 2 2 3 178,eh 181 180 178,fn 182 3 3 3 178,eh 183 182 178,on 184 (.call 88 [.t 179,.t 181,.t 183]) 178,on 185 (.bin .neq (.t 184) (aZ 0)) 178,or 186 178 185]
def UD:=[L 187 5 2,p (.aP (some 5) (.t 4) (.t 187)),o 5 (.mv bC)]
def UE:=[f 188 0 0 3,l 189 188,o 190 (.bin .eql (.t 189) (aZ 7))]
def UF:=[m 191 6,m 192 191,on 193 (.ld (some 5) (.t 2)) 192,fn 194 1 1 3 192,eh 195 194 192,on 196 (.call 108 [.t 193,.t 195]) 192,or 197 192 196]
def UH:=[L 198 5 2,p (.aP (some 5) (.t 4) (.t 198)),o 5 (.mv bC)]
def UI:=[f 199 1 1 2,l 200 199,f 201 1 1 3,l 202 201,o 203 (.call 109 [.t 200,.t 202]),f 204 1 1 2,p (.aP none (.t 204) (.t 203))]
def UJ:=[L 205 5 2,L 206 4 3,o 207 (.call 112 [.t 205,.t 206]),p (.aP (some 5) (.t 4) (.t 207)),o 5 (.mv T)]
def lG:bo:=(s (r Bk) (s (r Bl) (s (r Bm) (s (.b9 AA Bn) (s (s (r UG) (.block 0 (s (r UK) (.cond (.t 46) (s (s (r UL) (.cond (.t 54) (s (r UM) .ret) .skip)) (s (r UN) (s (r UO) .ret))) (s (r Ud) (.cond (.t 63) (s (r Ue) (s (r Uf) .ret)) (s (r Ug) (.cond (.t 73) (s (s (r Uh) (.cond (.t 91) (s (r Ui) .ret) .skip)) (s (r Uj) (s (r Uk) (s (.b9 Me vQ) (s (r Ul) .ret))))) (s (r Um) (.cond (.t 117) (s (s (r Un) (.cond (.t 128) (s (r Uo) .ret) .skip)) (s (r Up) (s (r Uq) (s (r Ur) .ret)))) (s (r Us) (.cond (.t 141) (s (s (r Ut) (.cond (.t 144) (s (r Uu) .ret) .skip)) (s (r Uv) .ret)) (s (r Uw) (.cond (.t 149) (s (s (r Ux) (.cond (.t 161) (s (r Uy) .ret) .skip)) (s (r Uz) (s (r UA) (s (r UB) .ret)))) .skip)))))))))))))) (s (s (r UC) (.cond (.t 186) (s (r UD) .ret) .skip)) (s (s (r UE) (.cond (.t 190) (s (s (r UF) (.cond (.t 197) (s (r UH) .ret) .skip)) (r UI)) .skip)) (s (r UJ) .ret))))))))
def l4:List bL:=[.cell 4 (some 5),.tmp 5]
theorem my:ct Tryz.prog Tryz.f76 lG:=e (by kernel_rfl)
theorem mz:cj Tryz.prog Tryz.f76 l4:=e (by kernel_rfl)
theorem mw:cd Tryz.prog 76:=e (by kernel_rfl)
def UP:=[b 2 0,b 3 1,o 4 (.alloc (.agg [.int .i64 0,.nils 4,.int .i64 0])),bN 5 0]
def UQ:=[f 6 1 1 2,l 7 6,o 8 (.len (.t 7)),o 9 (.bin .eql (.t 8) (aZ 200))]
def UR:=[o 10 (.bld [.int .i64 0,.nils 4,.int .i64 0] []),p (.aP (some 3) (.t 4) (.t 10)),bN 5 2]
def vR:=[o 11 (.bs0 4),f 12 1 1 2,l 13 12,o 14 (.di 37 4 32 (.agg [.int .i64 0,.int .i64 0,.int .i64 0,.int .i64 0]) (.t 11) (.t 13)),L 15 4 3,o 16 (.bs 37 4 [.t 15]),o 17 (.di 37 4 32 (.agg [.int .i64 0,.int .i64 0,.int .i64 0,.int .i64 0]) (.t 14) (.t 16)),f 18 1 1 2,p (.aP none (.t 18) (.t 17))]
def Mf:=some [[],[],[1],[0,2],[],[4],[3,5,3],[0,1,2,3,4,5,6],[7,6,6,0,1,2,3,4,5,6]] -- DRAW BAD
def US:=[L 19 3 2,p (.aP (some 3) (.t 4) (.t 19)),bN 5 0]
def zy:bo:=(s (r UP) (s (s (r UQ) (.cond (.t 9) (s (r UR) .ret) .skip)) (s (.b9 Mf vR) (s (r US) .ret))))
def Ek:List bL:=[.cell 4 (some 3),.tmp 5]
theorem JZ:ct Tryz.prog Tryz.f77 zy:=e (by kernel_rfl)
theorem Lk:cj Tryz.prog Tryz.f77 Ek:=e (by kernel_rfl)
theorem IU:cd Tryz.prog 77:=e (by kernel_rfl)
def UT:=[o 4 (.mv bC)]
def UU:=[m 7 0,o 8 (.len (.t 7)),bN 9 0]
def UW:=[lt 10 9 8]
def UX:=[o 11 (.is 1 (.t 7) (.t 9)),l 12 11,m 6 12]
def UY:=[m 13 6,m 14 1,o 15 (.bin .eql (.t 13) (.t 14))]
def UZ:=[o 4 (.mv T)]
def U0:=[ad 16 9 1,m 9 16]
def U1:=[o 4 (.mv bC)]
def zA:bo:=(s (r UT) (s (s (r UU) (.block 0 (.loop (s (r UW) (s (.cond (.t 10) .skip (.exit 0)) (s (.block 1 (s (r UX) (s (r UY) (.cond (.t 15) (s (r UZ) .ret) .skip)))) (r U0))))))) (s (r U1) .ret)))
def El:List bL:=[.tmp 4]
theorem J0:ct Tryz.prog Tryz.f78 zA:=e (by kernel_rfl)
theorem Ll:cj Tryz.prog Tryz.f78 El:=e (by kernel_rfl)
theorem IV:cd Tryz.prog 78:=e (by kernel_rfl)
def U2:=[b 2 0,bN 4 0]
def U3:=[f 7 3 3 2,l 8 7,o 9 (.len (.t 8)),bN 10 0]
def U4:=[lt 11 10 9]
def U5:=[m 12 10,o 13 (.is 4 (.t 8) (.t 10)),L 14 4 13,o 6 (.alloc (.agg [.int .i64 0,.int .i64 0,.int .i64 0,.bool false])),m 5 12,p (.aP (some 4) (.t 6) (.t 14))]
def U6:=[f 15 0 0 6,l 16 15,m 17 1,o 18 (.bin .eql (.t 16) (.t 17))]
def U7:=[m 19 5,m 4 19]
def U8:=[ad 20 10 1,m 10 20]
def U9:=[bN 4 (-1)]
def zB:bo:=(s (r U2) (s (s (r U3) (.block 0 (.loop (s (r U4) (s (.cond (.t 11) .skip (.exit 0)) (s (.block 1 (s (r U5) (s (r U6) (.cond (.t 18) (s (r U7) .ret) .skip)))) (r U8))))))) (s (r U9) .ret)))
def Em:List bL:=[.tmp 4]
theorem J1:ct Tryz.prog Tryz.f79 zB:=e (by kernel_rfl)
theorem Lm:cj Tryz.prog Tryz.f79 Em:=e (by kernel_rfl)
theorem IW:cd Tryz.prog 79:=e (by kernel_rfl)
def Va:=[bN 2 0]
def Vb:=[o 3 (.iJ),p (.eT (.i .i64) (.t 3) (aZ 1) (aZ 7)),p (.eT (.i .i64) (.t 3) (aZ 2) (aZ 5)),p (.eT (.i .i64) (.t 3) (aZ 3) (aZ 8)),p (.eT (.i .i64) (.t 3) (aZ 4) (aZ 6)),m 4 3,m 5 0,o 6 (.lk (.i .i64) (.int .i64 0) false (.t 4) (.t 5)),m 2 6]
def zC:bo:=(s (r Va) (s (r Vb) .ret))
def En:List bL:=[.tmp 2]
theorem J2:ct Tryz.prog Tryz.f80 zC:=e (by kernel_rfl)
theorem Ln:cj Tryz.prog Tryz.f80 En:=e (by kernel_rfl)
theorem IX:cd Tryz.prog 80:=e (by kernel_rfl)
def Bo:=[b 3 1,o 4 (.alloc (.bool false))]
def Bp:=[L 6 4 3,o 7 (.call 66 [.t 6]),o 8 (.call 114 [.t 7])]
def qy:=[m 9 0,o 10 (.nilC (.t 9)),f 11 5 5 10,l 12 11,f 13 0 0 3,l 14 13,o 15 (.lk (.i .i64) (.dx) false (.t 12) (.t 14)),L 16 4 3,o 17 (.fK (.t 15) [.t 16])]
def Mg:=some [[],[0],[1],[2],[],[4],[3,5],[],[6,7]]
def Vc:=[p (.aP none (.t 4) T)]
def Y4:List bL:=[.cell 4 none]
theorem Lo:cj Tryz.prog Tryz.f81 Y4:=e (by kernel_rfl)
theorem IY:cd Tryz.prog 81:=e (by kernel_rfl)
def Vd:=[b 1 0,bN 2 0]
def Ve:=[f 3 0 0 1,l 4 3]
def Vf:=[o 6 (.bin .eql (.t 4) (aZ 1)),m 5 6]
def Vg:=[bN 2 7]
def Vh:=[o 8 (.bin .eql (.t 4) (aZ 2)),m 7 8]
def Vi:=[bN 2 5]
def Vj:=[o 10 (.bin .eql (.t 4) (aZ 3)),m 9 10]
def Vk:=[bN 2 8]
def Vl:=[bN 2 6]
def zD:bo:=(s (r Vd) (s (s (r Ve) (.block 0 (s (r Vf) (.cond (.t 5) (s (r Vg) .ret) (s (r Vh) (.cond (.t 7) (s (r Vi) .ret) (s (r Vj) (.cond (.t 9) (s (r Vk) .ret) .skip)))))))) (s (r Vl) .ret)))
def Eo:List bL:=[.tmp 2]
theorem J3:ct Tryz.prog Tryz.f82 zD:=e (by kernel_rfl)
theorem Lp:cj Tryz.prog Tryz.f82 Eo:=e (by kernel_rfl)
theorem IZ:cd Tryz.prog 82:=e (by kernel_rfl)
def Vm:=[o 4 (.mv (.c (.nils 1))),bN 5 0]
def Vn:=[o 6 (.mv (.c (.nils 1)))]
def Vr:=[m 11 0,o 12 (.len (.t 11)),bN 13 0]
def Vs:=[lt 14 13 12]
def Vt:=[m 15 13,o 16 (.is 3 (.t 11) (.t 13)),L 17 3 16,o 8 (.alloc (.agg [.int .i64 0,.nils 4,.int .i64 0])),m 7 15,p (.aP (some 3) (.t 8) (.t 17))]
def Vu:=[L 19 3 8,o 20 (.call 69 [.t 19]),m 18 20,o 21 (.ext (.t 18) 0),o 22 (.ext (.t 18) 1),m 9 21,m 10 22]
def Vv:=[m 23 10,o 24 (.bin .neq (.t 23) (aZ 0)),m 25 24,kq 26 7 25,on 27 (.bin .gtr (.t 26) (aZ 0)) 25,kq 28 27 25,cM 29 0 28,cM 30 7 28,bE 31 (.bin .sub (.t 30) (aZ 1)) 28,bE 32 (.is 3 (.t 29) (.t 31)) 28,dU 33 0 0 32 28,dN 34 33 28,dU 35 0 0 8 28,dN 36 35 28,bE 37 (.bin .geq (.t 34) (.t 36)) 28,on 38 (.pick (.t 28) (.t 37) bC) 25,or 39 25 38]
def Mh:=some [[],[0],[1],[2],[3,2],[4,2,2],[5],[5],[7,5],[6,8,5],[9,5],[10,5],[5],[12,5],[11,13,5],[5,14,2],[2,15]]
def Vw:=[o 4 (.mv (.c (.nils 1))),bN 5 96]
def Vx:=[m 40 6,m 41 9,o 42 (.bs 80 1 [.t 41]),o 43 (.di 80 1 8 (.nilp) (.t 40) (.t 42)),m 6 43]
def Vy:=[ad 44 13 1,m 13 44]
def Vo:=[m 45 1,o 46 (.call 71 [.t 45]),no 47 46]
def Vp:=[o 4 (.mv (.c (.nils 1))),bN 5 1]
def Vq:=[m 48 6,m 4 48,bN 5 0]
def zE:bo:=(s (r Vm) (s (r Vn) (s (s (r Vr) (.block 0 (.loop (s (r Vs) (s (.cond (.t 14) .skip (.exit 0)) (s (.block 1 (s (r Vt) (s (r Vu) (s (s (.b9 Mh Vv) (.cond (.t 39) (s (r Vw) .ret) .skip)) (r Vx))))) (r Vy))))))) (s (s (r Vo) (.cond (.t 47) (s (r Vp) .ret) .skip)) (s (r Vq) .ret)))))
def Ep:List bL:=[.tmp 4,.tmp 5]
theorem J4:ct Tryz.prog Tryz.f83 zE:=e (by kernel_rfl)
theorem Lq:cj Tryz.prog Tryz.f83 Ep:=e (by kernel_rfl)
theorem I0:cd Tryz.prog 83:=e (by kernel_rfl)
def Bq:=[o 2 (.mv (.c (.nils 1)))]
def Br:=[o 3 (.mv (.c (.nils 1)))]
def Bt:=[m 5 0,o 6 (.nilC (.t 5)),f 7 2 2 6,l 8 7,o 9 (.jI (.t 8))]
def vS:=[o 10 (.ib (.t 9)),o 11 (.ext (.t 10) 0)]
def Vz:=[o 12 (.ent (.t 9)),o 13 (.ext (.t 12) 0),m 4 13]
def VA:=[m 14 3,m 15 4,o 16 (.bs 3 1 [.t 15]),o 17 (.di 3 1 8 (.int .i64 0) (.t 14) (.t 16)),m 3 17]
def VB:=[m 18 3,o 19 (.call 89 [.t 18])]
def VC:=[m 20 3,m 2 20]
def zF:bo:=(s (r Bq) (s (r Br) (s (s (r Bt) (.block 0 (.loop (s (r vS) (s (.cond (.t 11) .skip (.exit 0)) (.block 1 (s (r Vz) (r VA)))))))) (s (r VB) (s (r VC) .ret)))))
def Er:List bL:=[.tmp 2]
theorem J5:ct Tryz.prog Tryz.f85 zF:=e (by kernel_rfl)
theorem Lr:cj Tryz.prog Tryz.f85 Er:=e (by kernel_rfl)
theorem I1:cd Tryz.prog 85:=e (by kernel_rfl)
def VD:=[b 3 0,bN 6 0]
def VE:=[f 9 4 4 3,l 10 9,o 11 (.len (.t 10)),bN 12 0]
def VF:=[lt 13 12 11]
def VG:=[o 14 (.is 4 (.t 10) (.t 12)),L 15 4 14,o 8 (.alloc (.agg [.int .i64 0,.int .i64 0,.int .i64 0,.int .i64 0])),p (.aP (some 4) (.t 8) (.t 15))]
def VH:=[f 16 1 1 8,l 17 16,m 18 1,o 19 (.bin .eql (.t 17) (.t 18)),m 20 19,dU 21 2 2 8 20,dN 22 21 20,cM 23 2 20,bE 24 (.bin .eql (.t 22) (.t 23)) 20,and 25 20 24]
def VI:=[f 26 0 0 8,l 27 26,m 6 27]
def VJ:=[ad 28 12 1,m 12 28]
def VK:=[bN 6 0]
def zG:bo:=(s (r VD) (s (s (r VE) (.block 0 (.loop (s (r VF) (s (.cond (.t 13) .skip (.exit 0)) (s (.block 1 (s (r VG) (s (r VH) (.cond (.t 25) (s (r VI) .ret) .skip)))) (r VJ))))))) (s (r VK) .ret)))
def Es:List bL:=[.tmp 6]
theorem J6:ct Tryz.prog Tryz.f88 zG:=e (by kernel_rfl)
theorem Ls:cj Tryz.prog Tryz.f88 Es:=e (by kernel_rfl)
theorem I2:cd Tryz.prog 88:=e (by kernel_rfl)
theorem Aa:cd Tryz.prog 89:=e (by kernel_rfl)
def VL:=[o 2 (.mv bC)]
def VM:=[m 3 0,o 4 (.call 105 [.t 3,(aZ 1),(aZ 200)]),m 2 4]
def zH:bo:=(s (r VL) (s (r VM) .ret))
def Et:List bL:=[.tmp 2]
theorem J7:ct Tryz.prog Tryz.f90 zH:=e (by kernel_rfl)
theorem Lt:cj Tryz.prog Tryz.f90 Et:=e (by kernel_rfl)
theorem I3:cd Tryz.prog 90:=e (by kernel_rfl)
def Bu:=[o 4 (.mv (.c (.bR ⟨#[]⟩)))]
def Bv:=[m 7 1,o 8 (.len (.t 7)),bN 9 0]
def Bw:=[lt 10 9 8]
def Bx:=[o 11 (.is 1 (.t 7) (.t 9)),l 12 11,m 6 12]
def By:=[m 13 0,m 14 6,o 15 (.call 119 [.t 14]),o 16 (.bin .add (.c (.bR ⟨#[32]⟩)) (.t 15)),o 17 (.bin .add (.t 13) (.t 16)),m 0 17]
def Bz:=[ad 18 9 1,m 9 18]
def BA:=[m 19 0,o 20 (.bin .add (.t 19) (.c (.bR ⟨#[10]⟩))),m 4 20]
def zI:bo:=(s (r Bu) (s (s (r Bv) (.block 0 (.loop (s (r Bw) (s (.cond (.t 10) .skip (.exit 0)) (s (.block 1 (s (r Bx) (r By))) (r Bz))))))) (s (r BA) .ret)))
def Eu:List bL:=[.tmp 4]
theorem J8:ct Tryz.prog Tryz.f93 zI:=e (by kernel_rfl)
theorem Lu:cj Tryz.prog Tryz.f93 Eu:=e (by kernel_rfl)
theorem I4:cd Tryz.prog 93:=e (by kernel_rfl)
def VN:=[o 0 (.mv (.c (.nils 1)))]
def VO:=[o 1 (.bs 9 1 [(.c (.bR ⟨#[]⟩)),(.c (.bR ⟨#[112,111,117,110,100]⟩)),(.c (.bR ⟨#[114,101,108,101,97,115,101]⟩)),(.c (.bR ⟨#[115,101,110,100]⟩)),(.c (.bR ⟨#[99,97,108,108]⟩)),(.c (.bR ⟨#[100,111,110,101]⟩)),(.c (.bR ⟨#[98,97,99,107]⟩)),(.c (.bR ⟨#[116,97,107,101]⟩)),(.c (.bR ⟨#[114,101,102,117,115,101]⟩))]),m 0 1]
def zJ:bo:=(s (r VN) (s (r VO) .ret))
def Ev:List bL:=[.tmp 0]
theorem J9:ct Tryz.prog Tryz.f94 zJ:=e (by kernel_rfl)
theorem Lv:cj Tryz.prog Tryz.f94 Ev:=e (by kernel_rfl)
theorem I5:cd Tryz.prog 94:=e (by kernel_rfl)
def Nq:=[o 6 (.mv bC)]
def Nr:=[m 7 0,m 8 1,o 9 (.bin .geq (.t 7) (.t 8)),m 10 9,cM 11 0 10,cM 12 2 10,bE 13 (.bin .leq (.t 11) (.t 12)) 10,and 14 10 13,m 6 14]
def yE:bo:=(s (r Nq) (s (r Nr) .ret))
def Df:List bL:=[.tmp 6]
theorem Jc:ct Tryz.prog Tryz.f105 yE:=e (by kernel_rfl)
theorem Kn:cj Tryz.prog Tryz.f105 Df:=e (by kernel_rfl)
theorem H3:cd Tryz.prog 105:=e (by kernel_rfl)
def Ns:=[o 2 (.mv (.c (.nilp)))]
def Nt:=[m 4 0,o 5 (.iJ),o 6 (.iJ),o 7 (.iJ),o 8 (.bld [.int .i64 0,.raw (.map none),.raw (.map none),.int .i64 0,.raw (.map none),.raw (.map none)] [(0,(.t 4)),(1,(.t 5)),(2,(.t 6)),(4,(.t 7))]),b 9 8,m 3 9]
def Nu:=[m 10 3,o 11 (.iJ),m 12 3,o 13 (.mk 1000125 [.t 12]),p (.eT (.i .i64) (.t 11) (aZ 1) (.t 13)),m 14 3,o 15 (.mk 1000126 [.t 14]),p (.eT (.i .i64) (.t 11) (aZ 2) (.t 15)),m 16 3,o 17 (.mk 1000127 [.t 16]),p (.eT (.i .i64) (.t 11) (aZ 3) (.t 17)),m 18 3,o 19 (.mk 1000128 [.t 18]),p (.eT (.i .i64) (.t 11) (aZ 4) (.t 19)),m 20 3,o 21 (.mk 1000129 [.t 20]),p (.eT (.i .i64) (.t 11) (aZ 5) (.t 21)),m 22 3,o 23 (.mk 1000130 [.t 22]),p (.eT (.i .i64) (.t 11) (aZ 6) (.t 23)),m 24 3,o 25 (.mk 1000131 [.t 24]),p (.eT (.i .i64) (.t 11) (aZ 7) (.t 25)),m 26 3,o 27 (.mk 1000132 [.t 26]),p (.eT (.i .i64) (.t 11) (aZ 8) (.t 27)),m 28 11,o 29 (.nilC (.t 10)),f 30 5 5 29,p (.aP none (.t 30) (.t 28))]
def Nv:=[m 31 3,m 2 31]
def yF:bo:=(s (r Ns) (s (r Nt) (s (r Nu) (s (r Nv) .ret))))
def Dg:List bL:=[.tmp 2]
theorem Jd:ct Tryz.prog Tryz.f106 yF:=e (by kernel_rfl)
theorem Ko:cj Tryz.prog Tryz.f106 Dg:=e (by kernel_rfl)
theorem H4:cd Tryz.prog 106:=e (by kernel_rfl)
def Nw:=[l 12 1,o 13 (.call 85 [.t 12]),o 14 (.len (.t 13)),bN 15 0]
def Nx:=[lt 16 15 14]
def NG:=[o 17 (.is 1 (.t 13) (.t 15)),l 18 17,m 5 18]
def NH:=[l 19 1,o 20 (.nilC (.t 19)),f 21 2 2 20,l 22 21,m 23 5,o 24 (.lk (.i .i64) (.nilp) false (.t 22) (.t 23)),m 6 24]
def NI:=[l 25 1,o 26 (.nilC (.t 25)),f 27 0 0 26,l 28 27,l 29 2,m 30 6,o 31 (.nilC (.t 30)),f 32 2 2 31,l 33 32,m 34 5,o 35 (.bld [.int .i64 0,.int .i64 0,.int .i64 0,.int .i64 0,.int .i64 0] [(0,(aZ 1)),(1,(.t 28)),(2,(.t 29)),(3,(.t 33)),(4,(.t 34))]),o 7 (.alloc (.agg [.int .i64 0,.int .i64 0,.int .i64 0,.int .i64 0,.int .i64 0])),p (.aP (some 5) (.t 7) (.t 35))]
def Ly:=some [[],[0],[1],[2],[],[],[5],[6],[7],[],[3,4,8,9],[],[11,10,0,1,2,3,4,5,6,7,8,9,10,11]]
def NJ:=[m 36 6,o 37 (.nilC (.t 36)),f 38 3 3 37,l 39 38]
def NK:=[f 40 0 0 7,p (.aP none (.t 40) (aZ 3))]
def nE:=[m 41 6,o 42 (.nilC (.t 41)),f 43 1 1 42,l 44 43,l 45 2,o 46 (.bin .eql (.t 44) (.t 45)),m 47 46,cM 48 0 47,bE 49 (.ld (some 5) (.t 7)) 47,bE 50 (.fK (.t 48) [.t 49]) 47,bE 51 (.un .not (.t 50)) 47,and 52 47 51]
def Lz:=some [[],[0],[1],[2],[],[3,4],[5],[6],[6],[7,8,6,6],[9,6],[6,10]]
def NL:=[ad 53 15 1,m 15 53]
def NM:=[bN 8 1]
def Ny:=[m 54 8,o 55 (.bin .leq (.t 54) (aZ 200))]
def Nz:=[l 59 1,o 60 (.nilC (.t 59)),f 61 4 4 60,l 62 61,l 63 2,m 64 8,o 65 (.bld [.int .i64 0,.int .i64 0] [(0,(.t 63)),(1,(.t 64))]),o 66 (.lk (.aP [(.i .i64),(.i .i64)]) (.agg [.int .i64 0,.int .i64 0,.int .i64 0,.int .i64 0]) true (.t 62) (.t 65)),m 58 66,o 67 (.ext (.t 58) 0),o 68 (.ext (.t 58) 1),o 9 (.alloc (.agg [.int .i64 0,.int .i64 0,.int .i64 0,.int .i64 0])),p (.aP (some 4) (.t 9) (.t 67)),m 10 68]
def Lw:=some [[],[0],[1],[2],[],[],[4,5],[3,6],[7],[8],[8],[],[11,9,0,1,2,3,4,5,6,7,8,9,11],[10,12,0,1,2,3,4,5,6,7,8,9,10,11,12]]
def NA:=[l 69 1,o 70 (.nilC (.t 69)),f 71 0 0 70,l 72 71,l 73 2,f 74 1 1 9,l 75 74,m 76 8,o 77 (.bld [.int .i64 0,.int .i64 0,.int .i64 0,.int .i64 0,.int .i64 0] [(0,(aZ 2)),(1,(.t 72)),(2,(.t 73)),(3,(.t 75)),(4,(.t 76))]),o 11 (.alloc (.agg [.int .i64 0,.int .i64 0,.int .i64 0,.int .i64 0,.int .i64 0])),p (.aP (some 5) (.t 11) (.t 77))]
def Lx:=some [[],[0],[1],[2],[],[],[5],[],[3,4,6,7],[],[9,8,0,1,2,3,4,5,6,7,8,9]]
def NB:=[f 78 0 0 9,l 79 78,o 80 (.bin .eql (.t 79) (aZ 8))]
def NC:=[f 81 0 0 11,p (.aP none (.t 81) (aZ 4))]
def ND:=[m 82 10,m 83 82,cM 84 0 83,bE 85 (.ld (some 5) (.t 11)) 83,bE 86 (.fK (.t 84) [.t 85]) 83,bE 87 (.un .not (.t 86)) 83,and 88 83 87]
def NF:=[m 56 8,ad 57 56 1,m 8 57]
def yG:bo:=(s (s (r Nw) (.block 0 (.loop (s (r Nx) (s (.cond (.t 16) .skip (.exit 0)) (s (.block 1 (s (r NG) (s (r NH) (s (.b9 Ly NI) (s (s (r NJ) (.cond (.t 39) (r NK) .skip)) (s (.b9 Lz nE) (.cond (.t 52) .ret .skip))))))) (r NL))))))) (s (r NM) (.block 2 (.loop (s (s (r Ny) (.cond (.t 55) .skip (.exit 2))) (s (.block 3 (s (.b9 Lw Nz) (s (.b9 Lx NA) (s (s (r NB) (.cond (.t 80) (r NC) .skip)) (s (r ND) (.cond (.t 88) .ret .skip)))))) (r NF)))))))
def Di:List bL:=[]
theorem Je:ct Tryz.prog Tryz.f107 yG:=e (by kernel_rfl)
theorem Kp:cj Tryz.prog Tryz.f107 Di:=e (by kernel_rfl)
theorem zM:cd Tryz.prog 107:=e (by kernel_rfl)
def NN:=[b 2 0,o 4 (.mv bC)]
def NO:=[f 7 3 3 2,l 8 7,o 9 (.len (.t 8)),bN 10 0]
def NP:=[lt 11 10 9]
def NQ:=[o 12 (.is 4 (.t 8) (.t 10)),L 13 4 12,o 6 (.alloc (.agg [.int .i64 0,.int .i64 0,.int .i64 0,.bool false])),p (.aP (some 4) (.t 6) (.t 13))]
def NR:=[f 14 2 2 6,l 15 14,m 16 1,o 17 (.bin .eql (.t 15) (.t 16))]
def NS:=[o 4 (.mv T)]
def NT:=[ad 18 10 1,m 10 18]
def NU:=[o 4 (.mv bC)]
def yH:bo:=(s (r NN) (s (s (r NO) (.block 0 (.loop (s (r NP) (s (.cond (.t 11) .skip (.exit 0)) (s (.block 1 (s (r NQ) (s (r NR) (.cond (.t 17) (s (r NS) .ret) .skip)))) (r NT))))))) (s (r NU) .ret)))
def Dj:List bL:=[.tmp 4]
theorem Jf:ct Tryz.prog Tryz.f108 yH:=e (by kernel_rfl)
theorem Kq:cj Tryz.prog Tryz.f108 Dj:=e (by kernel_rfl)
theorem H5:cd Tryz.prog 108:=e (by kernel_rfl)
def NV:=[o 4 (.mv (.c (.nils 1)))]
def NW:=[bN 5 0]
def NX:=[m 6 5,m 7 0,o 8 (.len (.t 7)),lt 9 6 8,m 10 9,cM 11 0 10,cM 12 5 10,bE 13 (.is 1 (.t 11) (.t 12)) 10,dN 14 13 10,cM 15 1 10,bE 16 (.bin .lss (.t 14) (.t 15)) 10,and 17 10 16]
def NY:=[m 18 5,ad 19 18 1,m 5 19]
def NZ:=[m 20 5,m 21 0,o 22 (.len (.t 21)),lt 23 20 22,m 24 23,cM 25 0 24,cM 26 5 24,bE 27 (.is 1 (.t 25) (.t 26)) 24,dN 28 27 24,cM 29 1 24,bE 30 (.bin .eql (.t 28) (.t 29)) 24,and 31 24 30]
def N0:=[m 32 0,m 4 32]
def qu:=[o 33 (.bs0 1),m 34 0,m 35 5,o 36 (.sl 1 (.t 34) none (some (.t 35)) none),o 37 (.di 3 1 8 (.int .i64 0) (.t 33) (.t 36)),m 38 1,o 39 (.bs 3 1 [.t 38]),o 40 (.di 3 1 8 (.int .i64 0) (.t 37) (.t 39)),m 41 0,m 42 5,o 43 (.sl 1 (.t 41) (some (.t 42)) none none),o 44 (.di 3 1 8 (.int .i64 0) (.t 40) (.t 43)),m 4 44]
def LA:=some [[],[],[],[1,2],[0,3],[],[5],[4,6,4],[],[],[8,9],[7,10,7],[11,11,0,1,2,3,4,5,6,7,8,9,10,11]] -- DRAW BAD
def yI:bo:=(s (r NV) (s (r NW) (s (.block 0 (.loop (s (s (r NX) (.cond (.t 17) .skip (.exit 0))) (.block 1 (r NY))))) (s (s (r NZ) (.cond (.t 31) (s (r N0) .ret) .skip)) (s (.b9 LA qu) .ret)))))
def Dk:List bL:=[.tmp 4]
theorem Jg:ct Tryz.prog Tryz.f109 yI:=e (by kernel_rfl)
theorem Kr:cj Tryz.prog Tryz.f109 Dk:=e (by kernel_rfl)
theorem H6:cd Tryz.prog 109:=e (by kernel_rfl)
def N8:=[o 4 (.mv (.c (.nils 1)))]
def N9:=[o 5 (.mv (.c (.nils 1)))]
def Oa:=[m 8 0,o 9 (.len (.t 8)),bN 10 0]
def Ob:=[lt 11 10 9]
def Oc:=[o 12 (.is 1 (.t 8) (.t 10)),l 13 12,m 7 13]
def Od:=[m 14 7,m 15 1,o 16 (.bin .neq (.t 14) (.t 15))]
def Oe:=[m 17 5,m 18 7,o 19 (.bs 3 1 [.t 18]),o 20 (.di 3 1 8 (.int .i64 0) (.t 17) (.t 19)),m 5 20]
def Of:=[ad 21 10 1,m 10 21]
def Og:=[m 22 5,m 4 22]
def yJ:bo:=(s (r N8) (s (r N9) (s (s (r Oa) (.block 0 (.loop (s (r Ob) (s (.cond (.t 11) .skip (.exit 0)) (s (.block 1 (s (r Oc) (s (r Od) (.cond (.t 16) (r Oe) .skip)))) (r Of))))))) (s (r Og) .ret))))
def Dl:List bL:=[.tmp 4]
theorem Jh:ct Tryz.prog Tryz.f110 yJ:=e (by kernel_rfl)
theorem Ks:cj Tryz.prog Tryz.f110 Dl:=e (by kernel_rfl)
theorem H7:cd Tryz.prog 110:=e (by kernel_rfl)
def Oh:=[b 2 0,o 4 (.alloc (.agg [.int .i64 0,.nils 1,.int .i64 0,.nils 4,.nils 4]))]
def vH:=[o 5 (.bs0 4),f 6 3 3 2,l 7 6,m 8 1,o 9 (.sl 4 (.t 7) none (some (.t 8)) none),o 10 (.di 48 4 32 (.agg [.int .i64 0,.int .i64 0,.int .i64 0,.bool false]) (.t 5) (.t 9)),f 11 3 3 2,l 12 11,m 13 1,ad 14 13 1,o 15 (.sl 4 (.t 12) (some (.t 14)) none none),o 16 (.di 48 4 32 (.agg [.int .i64 0,.int .i64 0,.int .i64 0,.bool false]) (.t 10) (.t 15)),f 17 3 3 2,p (.aP none (.t 17) (.t 16))]
def LB:=some [[],[],[1],[],[2,3],[0,4],[],[6],[],[8],[7,9],[5,10,5],[0,1,2,3,4,5,6,7,8,9,10,11],[12,11,11,0,1,2,3,4,5,6,7,8,9,10,11]] -- DRAW BAD
def Oi:=[L 18 5 2,p (.aP (some 5) (.t 4) (.t 18))]
def yK:bo:=(s (r Oh) (s (.b9 LB vH) (s (r Oi) .ret)))
def Dm:List bL:=[.cell 4 (some 5)]
theorem Ji:ct Tryz.prog Tryz.f111 yK:=e (by kernel_rfl)
theorem Kt:cj Tryz.prog Tryz.f111 Dm:=e (by kernel_rfl)
theorem H8:cd Tryz.prog 111:=e (by kernel_rfl)
def Oj:=[b 2 0,b 3 1,o 4 (.alloc (.agg [.int .i64 0,.nils 1,.int .i64 0,.nils 4,.nils 4]))]
def vI:=[o 5 (.bs0 4),f 6 4 4 2,l 7 6,o 8 (.di 91 4 32 (.agg [.int .i64 0,.int .i64 0,.int .i64 0,.int .i64 0]) (.t 5) (.t 7)),f 9 0 0 3,l 10 9,f 11 2 2 3,l 12 11,f 13 3 3 3,l 14 13,f 15 1 1 3,l 16 15,o 17 (.bld [.int .i64 0,.int .i64 0,.int .i64 0,.int .i64 0] [(0,(.t 10)),(1,(.t 12)),(2,(.t 14)),(3,(.t 16))]),o 18 (.bs 91 4 [.t 17]),o 19 (.di 91 4 32 (.agg [.int .i64 0,.int .i64 0,.int .i64 0,.int .i64 0]) (.t 8) (.t 18)),f 20 4 4 2,p (.aP none (.t 20) (.t 19))]
def LC:=some [[],[],[1],[0,2],[],[4],[],[6],[],[8],[],[10],[5,7,9,11],[12],[3,13,3],[0,1,2,3,4,5,6,7,8,9,10,11,12,13,14],[15,14,14,0,1,2,3,4,5,6,7,8,9,10,11,12,13,14]] -- DRAW BAD
def Ol:=[L 21 5 2,p (.aP (some 5) (.t 4) (.t 21))]
def yL:bo:=(s (r Oj) (s (.b9 LC vI) (s (r Ol) .ret)))
def Dn:List bL:=[.cell 4 (some 5)]
theorem Jj:ct Tryz.prog Tryz.f112 yL:=e (by kernel_rfl)
theorem Ku:cj Tryz.prog Tryz.f112 Dn:=e (by kernel_rfl)
theorem H9:cd Tryz.prog 112:=e (by kernel_rfl)
theorem zN:cd Tryz.prog 113:=e (by kernel_rfl)
def Om:=[m 2 0,no 3 2]
def yM:bo:=(s (r Om) (.cond (.t 3) .uF .skip))
def Dp:List bL:=[]
theorem Jk:ct Tryz.prog Tryz.f114 yM:=e (by kernel_rfl)
theorem Kv:cj Tryz.prog Tryz.f114 Dp:=e (by kernel_rfl)
theorem zO:cd Tryz.prog 114:=e (by kernel_rfl)
theorem Ia:cd Tryz.prog 119:=e (by kernel_rfl)
def On:=[b 3 1]
def qv:=[m 4 0,o 5 (.nilC (.t 4)),f 6 1 1 5,l 7 6,f 8 1 1 3,l 9 8,o 10 (.lk (.i .i64) (.bool false) false (.t 7) (.t 9)),no 11 10,m 12 11,cM 13 0 12,dU 14 1 1 3 12,dN 15 14 12,bE 16 (.call 72 [.t 13,.t 15]) 12,bE 17 (.un .not (.t 16)) 12,and 18 12 17,o 19 (.call 114 [.t 18])]
def LD:=some [[],[0],[1],[2],[],[4],[3,5],[6],[7],[8],[8],[10,8],[9,11,8,8],[12,8],[8,13],[14,12]]
def Oo:=[m 20 0,o 21 (.nilC (.t 20)),f 22 1 1 21,l 23 22,f 24 1 1 3,l 25 24,p (.eT (.i .i64) (.t 23) (.t 25) T)]
def LF:=some [[],[0],[1],[2],[],[4],[3,5,0,1,2,3,4,5]]
def uJ:bo:=(s (r On) (s (.b9 LD qv) (.b9 LF Oo)))
def Dq:List bL:=[]
theorem Ae:ct Tryz.prog Tryz.f125 uJ:=e (by kernel_rfl)
theorem Kx:cj Tryz.prog Tryz.f125 Dq:=e (by kernel_rfl)
theorem zP:cd Tryz.prog 125:=e (by kernel_rfl)
def Oq:=[b 3 1]
def vJ:=[m 4 0,o 5 (.nilC (.t 4)),f 6 1 1 5,l 7 6,f 8 1 1 3,l 9 8,o 10 (.lk (.i .i64) (.bool false) false (.t 7) (.t 9)),o 11 (.call 114 [.t 10])]
def LG:=some [[],[0],[1],[2],[],[4],[3,5],[6]]
def Ot:=[m 12 0,o 13 (.nilC (.t 12)),f 14 1 1 13,l 15 14,f 16 1 1 3,l 17 16,p (.iI (.i .i64) (.t 15) (.t 17))]
def LH:=some [[],[0],[1],[2],[],[4],[3,5]]
def uK:bo:=(s (r Oq) (s (.b9 LG vJ) (.b9 LH Ot)))
def Dr:List bL:=[]
theorem Af:ct Tryz.prog Tryz.f126 uK:=e (by kernel_rfl)
theorem Ky:cj Tryz.prog Tryz.f126 Dr:=e (by kernel_rfl)
theorem zQ:cd Tryz.prog 126:=e (by kernel_rfl)
def Ou:=[b 3 1]
def nF:=[m 4 0,o 5 (.nilC (.t 4)),f 6 1 1 5,l 7 6,f 8 1 1 3,l 9 8,o 10 (.lk (.i .i64) (.bool false) false (.t 7) (.t 9)),m 11 10,dU 12 2 2 3 11,dN 13 12 11,cM 14 0 11,bE 15 (.nilC (.t 14)) 11,dU 16 0 0 15 11,dN 17 16 11,bE 18 (.bin .neq (.t 13) (.t 17)) 11,and 19 11 18,m 20 19,dU 21 3 3 3 20,dN 22 21 20,cM 23 0 20,bE 24 (.nilC (.t 23)) 20,dU 25 3 3 24 20,dN 26 25 20,bE 27 (.bin .add (.t 26) (aZ 1)) 20,bE 28 (.bin .eql (.t 22) (.t 27)) 20,and 29 20 28,o 30 (.call 114 [.t 29])]
def LI:=some [[],[0],[1],[2],[],[4],[3,5],[6],[7],[8,7],[7],[10,7],[11,7],[12,7],[9,13,7],[7,14],[15,7],[16],[17,16],[16],[19,16],[20,16],[21,16],[22,16],[18,23,16],[16,24],[25,16]]
def Ov:=[m 31 0,o 32 (.nilC (.t 31)),f 33 1 1 32,l 34 33,f 35 1 1 3,l 36 35,p (.iI (.i .i64) (.t 34) (.t 36))]
def LJ:=some [[],[0],[1],[2],[],[4],[3,5]]
def Ow:=[m 37 0,o 38 (.nilC (.t 37)),f 39 3 3 38,l 40 39,ad 41 40 1,o 42 (.nilC (.t 37)),f 43 3 3 42,p (.aP none (.t 43) (.t 41))]
def Ox:=[m 44 0,o 45 (.nilC (.t 44)),f 46 2 2 45,l 47 46,f 48 3 3 3,l 49 48,f 50 3 3 3,l 51 50,f 52 2 2 3,l 53 52,f 54 1 1 3,l 55 54,o 56 (.bld [.int .i64 0,.int .i64 0,.int .i64 0,.bool false] [(0,(.t 51)),(1,(.t 53)),(2,(.t 55))]),b 57 56,p (.eT (.i .i64) (.t 47) (.t 49) (.t 57))]
def LK:=some [[],[0],[1],[2],[],[4],[],[6],[],[8],[],[10],[7,9,11],[12],[3,5,13,0,1,2,3,4,5,6,7,8,9,10,11,12,13]]
def uL:bo:=(s (r Ou) (s (.b9 LI nF) (s (.b9 LJ Ov) (s (r Ow) (.b9 LK Ox)))))
def Ds:List bL:=[]
theorem Ag:ct Tryz.prog Tryz.f127 uL:=e (by kernel_rfl)
theorem Kz:cj Tryz.prog Tryz.f127 Ds:=e (by kernel_rfl)
theorem zR:cd Tryz.prog 127:=e (by kernel_rfl)
def Oy:=[b 3 1]
def Be:=[m 5 0,L 6 4 3,o 7 (.call 151 [.t 5,.t 6]),m 4 7]
def Bf:=[m 8 4,o 9 (.nilC (.t 8)),f 10 3 3 9,l 11 10,no 12 11,o 13 (.call 114 [.t 12])]
def Oz:=[m 14 4,o 15 (.nilC (.t 14)),f 16 3 3 15,p (.aP none (.t 16) T)]
def uM:bo:=(s (r Oy) (s (r Be) (s (r Bf) (r Oz))))
def Dt:List bL:=[]
theorem Ah:ct Tryz.prog Tryz.f128 uM:=e (by kernel_rfl)
theorem KA:cj Tryz.prog Tryz.f128 Dt:=e (by kernel_rfl)
theorem zS:cd Tryz.prog 128:=e (by kernel_rfl)
def OA:=[b 3 1]
def Bg:=[m 4 0,L 5 4 3,o 6 (.call 151 [.t 4,.t 5])]
def OB:=[m 7 0,o 8 (.nilC (.t 7)),f 9 2 2 8,l 10 9,f 11 3 3 3,l 12 11,p (.iI (.i .i64) (.t 10) (.t 12))]
def LL:=some [[],[0],[1],[2],[],[4],[3,5]]
def uN:bo:=(s (r OA) (s (r Bg) (.b9 LL OB)))
def Du:List bL:=[]
theorem Ai:ct Tryz.prog Tryz.f129 uN:=e (by kernel_rfl)
theorem KB:cj Tryz.prog Tryz.f129 Du:=e (by kernel_rfl)
theorem zT:cd Tryz.prog 129:=e (by kernel_rfl)
def OC:=[b 3 1]
def vK:=[m 4 0,L 5 4 3,o 6 (.call 151 [.t 4,.t 5]),o 7 (.nilC (.t 6)),f 8 3 3 7,l 9 8,o 10 (.call 114 [.t 9])]
def OD:=[m 11 0,o 12 (.nilC (.t 11)),f 13 2 2 12,l 14 13,f 15 3 3 3,l 16 15,p (.iI (.i .i64) (.t 14) (.t 16))]
def LM:=some [[],[0],[1],[2],[],[4],[3,5]]
def OE:=[m 17 0,o 18 (.nilC (.t 17)),f 19 1 1 18,l 20 19,f 21 1 1 3,l 22 21,p (.eT (.i .i64) (.t 20) (.t 22) T)]
def LN:=some [[],[0],[1],[2],[],[4],[3,5,0,1,2,3,4,5]]
def uO:bo:=(s (r OC) (s (r vK) (s (.b9 LM OD) (.b9 LN OE))))
def Dv:List bL:=[]
theorem Aj:ct Tryz.prog Tryz.f130 uO:=e (by kernel_rfl)
theorem KC:cj Tryz.prog Tryz.f130 Dv:=e (by kernel_rfl)
theorem zU:cd Tryz.prog 130:=e (by kernel_rfl)
def OF:=[b 3 1]
def nG:=[m 4 0,L 5 4 3,o 6 (.call 152 [.t 4,.t 5]),m 7 6,cM 8 0 7,bE 9 (.nilC (.t 8)) 7,dU 10 1 1 9 7,dN 11 10 7,dU 12 1 1 3 7,dN 13 12 7,bE 14 (.lk (.i .i64) (.bool false) false (.t 11) (.t 13)) 7,bE 15 (.un .not (.t 14)) 7,and 16 7 15,m 17 16,cM 18 0 17,dU 19 1 1 3 17,dN 20 19 17,bE 21 (.call 72 [.t 18,.t 20]) 17,bE 22 (.un .not (.t 21)) 17,and 23 17 22,o 24 (.call 114 [.t 23])]
def LO:=some [[],[],[0,1],[2,2],[3],[4,3],[5,3],[6,3],[3],[8,3],[7,9,3],[10,3],[3,11],[12,3],[13],[13],[15,13],[14,16,13,13],[17,13],[13,18],[19,17]]
def OG:=[m 25 0,o 26 (.nilC (.t 25)),f 27 4 4 26,l 28 27,f 29 2 2 3,l 30 29,f 31 3 3 3,l 32 31,o 33 (.bld [.int .i64 0,.int .i64 0] [(0,(.t 30)),(1,(.t 32))]),L 34 4 3,p (.eT (.aP [(.i .i64),(.i .i64)]) (.t 28) (.t 33) (.t 34))]
def LP:=some [[],[0],[1],[2],[],[4],[],[6],[5,7],[],[3,8,9,0,1,2,3,4,5,6,7,8,9]]
def OH:=[m 35 0,o 36 (.nilC (.t 35)),f 37 1 1 36,l 38 37,f 39 1 1 3,l 40 39,p (.eT (.i .i64) (.t 38) (.t 40) T)]
def LQ:=some [[],[0],[1],[2],[],[4],[3,5,0,1,2,3,4,5]]
def uP:bo:=(s (r OF) (s (.b9 LO nG) (s (.b9 LP OG) (.b9 LQ OH))))
def Dw:List bL:=[]
theorem Ak:ct Tryz.prog Tryz.f131 uP:=e (by kernel_rfl)
theorem KD:cj Tryz.prog Tryz.f131 Dw:=e (by kernel_rfl)
theorem zV:cd Tryz.prog 131:=e (by kernel_rfl)
def OI:=[b 3 1]
def Bh:=[m 4 0,L 5 4 3,o 6 (.call 152 [.t 4,.t 5]),o 7 (.call 114 [.t 6])]
def OJ:=[m 8 0,o 9 (.nilC (.t 8)),f 10 4 4 9,l 11 10,f 12 2 2 3,l 13 12,f 14 3 3 3,l 15 14,o 16 (.bld [.int .i64 0,.int .i64 0] [(0,(.t 13)),(1,(.t 15))]),L 17 4 3,p (.eT (.aP [(.i .i64),(.i .i64)]) (.t 11) (.t 16) (.t 17))]
def LR:=some [[],[0],[1],[2],[],[4],[],[6],[5,7],[],[3,8,9,0,1,2,3,4,5,6,7,8,9]]
def uQ:bo:=(s (r OI) (s (r Bh) (.b9 LR OJ)))
def Dy:List bL:=[]
theorem Al:ct Tryz.prog Tryz.f132 uQ:=e (by kernel_rfl)
theorem KE:cj Tryz.prog Tryz.f132 Dy:=e (by kernel_rfl)
theorem zW:cd Tryz.prog 132:=e (by kernel_rfl)
def OX:=[b 3 1,o 4 (.mv (.c (.nilp)))]
def OY:=[m 8 0,o 9 (.nilC (.t 8)),f 10 2 2 9,l 11 10,f 12 3 3 3,l 13 12,o 14 (.lk (.i .i64) (.nilp) true (.t 11) (.t 13)),m 7 14,o 15 (.ext (.t 7) 0),o 16 (.ext (.t 7) 1),m 5 15,m 6 16]
def LV:=some [[],[0],[1],[2],[],[4],[3,5],[6],[7],[7],[8,0,1,2,3,4,5,6,7,8],[9,10,0,1,2,3,4,5,6,7,8,9,10]]
def nH:=[m 17 6,m 18 17,cM 19 5 18,bE 20 (.nilC (.t 19)) 18,dU 21 1 1 20 18,dN 22 21 18,dU 23 2 2 3 18,dN 24 23 18,bE 25 (.bin .eql (.t 22) (.t 24)) 18,and 26 18 25,m 27 26,cM 28 5 27,bE 29 (.nilC (.t 28)) 27,dU 30 2 2 29 27,dN 31 30 27,dU 32 1 1 3 27,dN 33 32 27,bE 34 (.bin .eql (.t 31) (.t 33)) 27,and 35 27 34,o 36 (.call 114 [.t 35])]
def LW:=some [[],[0],[1],[2,1],[3,1],[4,1],[1],[6,1],[5,7,1],[1,8],[9,1],[10],[11,10],[12,10],[13,10],[10],[15,10],[14,16,10],[10,17],[18,10]]
def OZ:=[m 37 5,m 4 37]
def uR:bo:=(s (r OX) (s (.b9 LV OY) (s (.b9 LW nH) (s (r OZ) .ret))))
def DA:List bL:=[.tmp 4]
theorem Am:ct Tryz.prog Tryz.f151 uR:=e (by kernel_rfl)
theorem KG:cj Tryz.prog Tryz.f151 DA:=e (by kernel_rfl)
theorem zX:cd Tryz.prog 151:=e (by kernel_rfl)
def O0:=[b 3 1,o 4 (.mv bC)]
def O1:=[m 8 0,o 9 (.nilC (.t 8)),f 10 4 4 9,l 11 10,f 12 2 2 3,l 13 12,f 14 3 3 3,l 15 14,o 16 (.bld [.int .i64 0,.int .i64 0] [(0,(.t 13)),(1,(.t 15))]),o 17 (.lk (.aP [(.i .i64),(.i .i64)]) (.agg [.int .i64 0,.int .i64 0,.int .i64 0,.int .i64 0]) true (.t 11) (.t 16)),m 7 17,o 18 (.ext (.t 7) 0),o 19 (.ext (.t 7) 1),o 5 (.alloc (.agg [.int .i64 0,.int .i64 0,.int .i64 0,.int .i64 0])),p (.aP (some 4) (.t 5) (.t 18)),m 6 19]
def LX:=some [[],[0],[1],[2],[],[4],[],[6],[5,7],[3,8],[9],[10],[10],[],[13,11,0,1,2,3,4,5,6,7,8,9,10,11,13],[12,14,0,1,2,3,4,5,6,7,8,9,10,11,12,13,14]]
def O2:=[f 20 2 2 3,l 21 20,m 22 0,o 23 (.nilC (.t 22)),f 24 0 0 23,l 25 24,o 26 (.bin .neq (.t 21) (.t 25)),m 27 26,cM 28 6 27,bE 29 (.un .not (.t 28)) 27,and 30 27 29,m 4 30]
def LY:=some [[],[0],[],[2],[3],[4],[1,5],[6],[7],[8,7],[7,9],[10,7,0,1,2,3,4,5,6,7,8,9,10]]
def yO:bo:=(s (r O0) (s (.b9 LX O1) (s (.b9 LY O2) .ret)))
def DB:List bL:=[.tmp 4]
theorem Jm:ct Tryz.prog Tryz.f152 yO:=e (by kernel_rfl)
theorem KH:cj Tryz.prog Tryz.f152 DB:=e (by kernel_rfl)
theorem Ic:cd Tryz.prog 152:=e (by kernel_rfl)
end Go.Proofs.YthbdbocionnfgaaGreatDoor
namespace Go.Abs
open Go Go.RowKit
open Enc (enc)
def aA(x:I)(p q:Prop):Prop:=match x with
 | .bool t=>(t=true→p)∧(t=false→q)
 |_=>False
theorem ae.jX{c:cS}{A:ai}{Q:Exit→ai→Prop}{b:aO}{x y:bo}(h:aA (ak A b) (ae c x Q A) (ae c y Q A)):ae c (.cond b x y) Q A:=by
 generalize hb:ak A b=v at h;unfold aA at h;split at h
 ·exact ae.cond hb h.1 h.2
 ·exact h.elim
def oa(r:I):Option (List I)→Prop
 |some xs=>j5 xs=r
 |none=>False
theorem Zr(rs:List bL)(r:I)(A:ai):ky rs r .ret A=oa r (fb A rs):=by
 simp only[ky,oa];cases fb A rs <;>simp
theorem Zq(rs:List bL)(r:I)(A:ai):ky rs r .normal A=oa r (fb A rs):=by
 simp only[ky,oa];cases fb A rs <;>simp
def rz(s:Option Nat)(A:ai):Option I→Option I
 |some x=>if b6 s x=true then bg true A x else none
 |none=>none
def jS:Option I→Option (List I)→Option (List I)
 |some x,some xs=>some (x::xs)
 |_,_=>none
theorem Zk(A:ai):fb A []=some []:=rfl
theorem Zl(A:ai)(t:Nat)(rs:List bL):fb A (.tmp t::rs)=jS (bg true A (A.t t)) (fb A rs):=by
 simp only[fb,tF];cases bg true A (A.t t) <;>cases fb A rs <;>rfl
theorem Zj(A:ai)(a:Nat)(s:Option Nat)(rs:List bL):fb A (.cell a s::rs)=jS (rz s A (gN A (A.t a))) (fb A rs):=by
 simp only[fb,tF,lI];cases gN A (A.t a) with
 |none=>cases fb A rs <;>rfl
 |some x =>
  by_cases h:b6 s x=true
  ·simp only[rz,if_pos h];cases bg true A x <;>cases fb A rs <;>rfl
  ·simp only[rz,if_neg h];cases fb A rs <;>rfl
def sD(aN:Bool)(A:ai):Option I→Option I
 |some x=>if x.bu=true then some (.ref x) else (cU A 9 x).map .ref
 |none=>none
theorem Nh(A:ai)(n:Nat)(p:List Nat):bg true A (.ptr n p)=sD true A (fm p (A.o n)):=by
 simp only[bg,lI,gN,if_true,sD];cases fm p (A.o n) <;>rfl
open Classical in
noncomputable def lM(sz lo k:Nat):Option (List I)→Option I
 |some fs=>if I.cg ((fs.drop lo).take k)=true then some (.slice sz ((fs.drop lo).take k)) else none
 |none=>none
theorem vD(A:ai)(n:Nat)(p:List Nat)(sz lo k:Nat):bg true A (.view n p sz lo k)=lM sz lo k (fD (fm p (A.o n))):=by
 simp only[bg,lI,gN,if_true];cases fm p (A.o n) with
 |none=>rfl
 |some c=>cases c <;>simp only[fD,I.dI,lM] <;>(split <;>simp_all)
open Classical in
noncomputable def kU(k:Nat):Option aq→Option I
 |some (.b5 _ sz es)=>if k=es.length∧I.cg es=true then some (.slice sz es) else none
 |_=>none
theorem Ng(aN:Bool)(A:ai)(n k:Nat):bg aN A (.own n k)=kU k (A.o n):=by
 simp only[bg];cases A.o n with
 |none=>rfl
 |some y=>cases y <;>simp only[kU] <;>(split <;>simp_all)
theorem sE(aN:Bool)(A:ai)(fs:List I):bg aN A (.agg fs)=(b8 aN A fs).map .agg:=by simp only[bg]
theorem Nb(aN:Bool)(A:ai)(f:FuncId)(fs:List I):bg aN A (.func f fs)=if f<1000000 then (b8 aN A fs).map (.func f) else some .any:=by simp only[bg]
theorem Nc(aN:Bool)(A:ai)(k:IntKind)(n:Int):bg aN A (.int k n)=some (.int k n):=by simp only[bg]
theorem Na(aN:Bool)(A:ai)(n:Bool):bg aN A (.bool n)=some (.bool n):=by simp only[bg]
theorem Nk(aN:Bool)(A:ai)(n:ByteArray):bg aN A (.bR n)=some (.bR n):=by simp only[bg]
theorem Nf(aN:Bool)(A:ai)(n:Nat):bg aN A (.nils n)=some (.slice n []):=by simp only[bg]
theorem Nj(aN:Bool)(A:ai)(n:Nat)(es:List I):bg aN A (.slice n es)=if I.cg es=true then some (.slice n es) else none:=by simp only[bg]
theorem Ni(aN:Bool)(A:ai)(x:I):bg aN A (.ref x)=if x.bu=true then some (.ref x) else none:=by simp only[bg]
theorem sJ(aN:Bool)(A:ai):b8 aN A []=some []:=by simp only[b8]
theorem sH(aN:Bool)(A:ai)(x:I)(xs:List I):b8 aN A (x::xs)=jS (bg aN A x) (b8 aN A xs):=by
 simp only[b8];cases bg aN A x <;>cases b8 aN A xs <;>rfl
theorem Kc(fs:List I):(I.agg fs).bu=I.cg fs:=by simp only[I.bu]
theorem Kh(n:Nat)(fs:List I):(I.slice n fs).bu=I.cg fs:=by simp only[I.bu]
theorem Kg(x:I):(I.ref x).bu=x.bu:=by simp only[I.bu]
theorem Kf(k:IntKind)(n:Int):(I.int k n).bu=true:=by simp only[I.bu]
theorem Kd(n:Bool):(I.bool n).bu=true:=by simp only[I.bu]
theorem Ki(n:ByteArray):(I.bR n).bu=true:=by simp only[I.bu]
theorem Ke(f:FuncId)(fs:List I):(I.func f fs).bu=I.cg fs:=by simp only[I.bu]
theorem Kk:I.cg []=true:=by simp only[I.cg]
theorem Kj(x:I)(xs:List I):I.cg (x::xs)=(x.bu&&I.cg xs):=by simp only[I.cg]
theorem Ht(k:IntKind)(a b:Int):cz .add (.int k a) (.int k b)=some (.int k (k.wrap (a+b))):=by simp[cz]
theorem HK(k:IntKind)(a b:Int):cz .sub (.int k a) (.int k b)=some (.int k (k.wrap (a-b))):=by simp[cz]
theorem HB(k:IntKind)(a b:Int):cz .mul (.int k a) (.int k b)=some (.int k (k.wrap (a*b))):=by simp[cz]
theorem HF(k:IntKind)(a b:Int):cz .quo (.int k a) (.int k b)=if b=0 then none else some (.int k (k.wrap (a.tdiv b))):=by simp[cz]
theorem HG(k:IntKind)(a b:Int):cz .rem (.int k a) (.int k b)=if b=0 then none else some (.int k (a.tmod b)):=by simp[cz]
theorem Hu(k:IntKind)(a b:Int):cz .and (.int k a) (.int k b)=some (.int k (k.wrap ((BitVec.ofInt k.bits a &&& BitVec.ofInt k.bits b).toNat:Int))):=by simp[cz]
theorem HE(k:IntKind)(a b:Int):cz .or (.int k a) (.int k b)=some (.int k (k.wrap ((BitVec.ofInt k.bits a ||| BitVec.ofInt k.bits b).toNat:Int))):=by simp[cz]
theorem HL(k:IntKind)(a b:Int):cz .xor (.int k a) (.int k b)=some (.int k (k.wrap ((BitVec.ofInt k.bits a ^^^ BitVec.ofInt k.bits b).toNat:Int))):=by simp[cz]
theorem Hv(k:IntKind)(a b:Int):cz .andNot (.int k a) (.int k b)=some (.int k (k.wrap ((BitVec.ofInt k.bits a &&& ~~~ BitVec.ofInt k.bits b).toNat:Int))):=by simp[cz]
theorem HI(k k':IntKind)(a b:Int):cz .shl (.int k a) (.int k' b)=if 0≤b then some (.int k (k.wrap (a*2^(min b.toNat k.bits)))) else none:=by simp[cz]
theorem HJ(k k':IntKind)(a b:Int):cz .shr (.int k a) (.int k' b)=if 0≤b then some (.int k (a.fdiv (2^(min b.toNat k.bits)))) else none:=by simp[cz]
theorem Hw(k:IntKind)(a b:Int):cz .eql (.int k a) (.int k b)=some (.bool (a==b)):=by simp[cz]
theorem HC(k:IntKind)(a b:Int):cz .neq (.int k a) (.int k b)=some (.bool (a != b)):=by simp[cz]
theorem HA(k:IntKind)(a b:Int):cz .lss (.int k a) (.int k b)=some (.bool (decide (a<b))):=by simp[cz]
theorem Hz(k:IntKind)(a b:Int):cz .leq (.int k a) (.int k b)=some (.bool (decide (a≤b))):=by simp[cz]
theorem Hy(k:IntKind)(a b:Int):cz .gtr (.int k a) (.int k b)=some (.bool (decide (b<a))):=by simp[cz]
theorem Hx(k:IntKind)(a b:Int):cz .geq (.int k a) (.int k b)=some (.bool (decide (b≤a))):=by simp[cz]
theorem yg :
  (∀ ts os d v,(au ts os).put d v=au ((d,v)::ts) os)∧(∀ ts os d v,(au ts os).aU (some d) v=au ((d,v)::ts) os)∧(∀ (A:ai) v,A.aU none v=A) ∧
  (∀ ts os d x,(au ts os).aV d x=au ts ((d,x)::os))∧(∀ ts os k,(au ts os).t k=bX ts k)∧(∀ ts os k,(au ts os).o k=aj os k) ∧
  (∀ j v r k,bX ((j,v)::r) k=if k=j then v else bX r k)∧(∀ j v r k,aj ((j,v)::r) k=if k=j then some v else aj r k)∧(∀ k,aj [] k=none) ∧
  (∀ A k,ak A (.t k)=A.t k)∧(∀ A x,ak A (.c x)=x)∧(∀ d rest A v,dc d rest A v=aB rest (A.aU d v))∧(∀ v k,cP (some v) k=k v)∧(∀ A,aB [] A=.done A) :=
 ⟨ta,Cu,XA,qR,XB,Xz,cD,ez,qO,MO,MN,W7,HM,G6⟩
theorem CT :
  (∀ d rest A op,aB (⟨d,op,none⟩::rest) A=bM A d op rest)∧(∀ d rest A op t b,aB (⟨d,op,some (t,b)⟩::rest) A=gP (A.t t) b d op rest A) ∧
  (∀ d rest A op,gP (.bool true) true d op rest A=bM A d op rest)∧(∀ d rest A op,gP (.bool false) false d op rest A=bM A d op rest) ∧
  (∀ d rest A op,gP (.bool true) false d op rest A=aB rest (A.aU d .undef))∧(∀ d rest A op,gP (.bool false) true d op rest A=aB rest (A.aU d .undef))∧(∀ d rest A op b,gP .undef b d op rest A=aB rest (A.aU d .undef)) ∧
  (∀ d rest A x,bM A d (.mv x) rest=aB rest (A.aU d (ak A x)))∧(∀ d rest A c a b,bM A d (.pick c a b) rest=rh A d a b rest (ak A c)) ∧
  (∀ A d a b rest,rh A d a b rest (.bool true)=aB rest (A.aU d (ak A a)))∧(∀ A d a b rest,rh A d a b rest (.bool false)=aB rest (A.aU d (ak A b))) ∧
  (∀ d rest A op x y,bM A d (.bin op x y) rest=cP (cz op (ak A x) (ak A y)) (dc d rest A)) ∧
  (∀ d rest A ty neg x y,bM A d (.eqv ty neg x y) rest=cP ((b7 ty (ak A x) (ak A y)).map fun b=>.bool (if neg then !b else b)) (dc d rest A)) ∧
  (∀ d rest A op x,bM A d (.un op x) rest=cP (rP op (ak A x)) (dc d rest A))∧(∀ b,rP .not (.bool b)=some (.bool !b))∧(∀ k n,rP .neg (.int k n)=some (.int k (k.wrap (0-n))))∧(∀ k n,rP .xor (.int k n)=some (.int k (oQ k n))) ∧
  (∀ d rest A k x,bM A d (.conv k x) rest=cP (u6 k (ak A x)) (dc d rest A))∧(∀ k k' n,u6 k (.int k' n)=some (.int k (k.wrap n))) ∧
  (∀ d rest A s x,bM A d (.ld s x) rest=cP (nS s (gN A (ak A x))) (dc d rest A))∧(∀ d rest A f off x,bM A d (.fa f off x) rest=cP (ji A f off (ak A x)) (dc d rest A)) ∧
  (∀ d rest A f off s x,bM A d (.fl f off s x) rest=cP (kW f off s (ak A x).dI) (dc d rest A))∧(∀ d rest A n esz x i,bM A d (.ia n esz x i) rest=cP (qA A n esz (ak A x) (ak A i)) (dc d rest A)) ∧
  (∀ d rest A esz x i,bM A d (.is esz x i) rest=cP (qD A esz (ak A x) (ak A i)) (dc d rest A))∧(∀ d rest A n esz s x i,bM A d (.ix n esz s x i) rest=cP (qG n esz s (ak A x) (ak A i)) (dc d rest A)) ∧
  (∀ d rest A x,bM A d (.len x) rest=cP (jB A (ak A x)) (dc d rest A))∧(∀ d rest A n esz x,bM A d (.va n esz x) rest=cP (oy A n esz (ak A x)) (dc d rest A)) ∧
  (∀ d rest A zs ps,bM A d (.bld zs ps) rest=cP ((dK zs (ps.map fun p=>(p.1,ak A p.2))).map .agg) (dc d rest A))∧(∀ d rest A x i,bM A d (.ext x i) rest=cP (vt i (ak A x)) (dc d rest A))∧(∀ i fs,vt i (.tuple fs)=fs[i]?) ∧
  (∀ d rest A f caps,bM A d (.mk f caps) rest=cP (if ((caps.map (ak A)).all fun y=>y.bT)=true then some (.func f (caps.map (ak A))) else none) (dc d rest A)) ∧
  (∀ rest A d z,bM A (some d) (.alloc z) rest=uA A d z rest (A.o d))∧(∀ A d z rest,uA A d z rest none=aB rest ((A.aV d (.box z)).put d (.ptr d []))) ∧
  (∀ rest A d x,bM A (some d) (.box x) rest=sn A d (ak A x) rest (A.o d))∧(∀ A d z rest,sn A d z rest none=sq A d z rest z.bT)∧(∀ A d z rest,sq A d z rest true=aB rest ((A.aV d (.box z)).put d (.ptr d []))) ∧
  (∀ rest A s x v,bM A none (.aP s x v) rest=dz A s (ak A v) rest (ak A x))∧(∀ A s v rest n p,dz A s v rest (.ptr n p)=tP A s n p v rest (A.o n))∧(∀ A s n p v rest b,tP A s n p v rest (some (.box b))=df A s n p b v rest (b.at p)) ∧
  (∀ d rest A f args,bM A d (.call f args) rest=.call f (args.map (ak A)) (b8 true A (args.map (ak A))) (b8 false A (args.map (ak A))) d rest A) ∧
  (∀ d rest A x args,bM A d (.fK x args) rest=qd A d (args.map (ak A)) rest (ak A x))∧(∀ A d args rest f caps,qd A d args rest (.func f caps)=if f<1000000 then .call f (args++caps) (b8 true A (args++caps)) (b8 false A (args++caps)) d rest A else .call (kT f) (caps++args) (b8 true A (caps++args)) (b8 false A (caps++args)) d rest A) :=
 ⟨GR,GS,Wb,V8,Wa,V9,Wc,Yg,Yk,fun _ _ _ _ _=>rfl,fun _ _ _ _ _=>rfl,XR,X0,Yp,fun _=>rfl,fun _ _=>rfl,fun _ _=>rfl,XY,fun _ _ _=>rfl,X7,X2,X3,X4,X5,X6,X8,Yq,XS,X1,fun _ _=>rfl,Yc,
  XP,fun _ _ _ _=>rfl,XT,fun _ _ _ _=>rfl,fun _ _ _ _=>rfl,Yo,fun _ _ _ _ _ _=>rfl,fun _ _ _ _ _ _ _=>rfl,XV,XW,fun A d args rest f caps=>by
   simp only[qd];split
   ·rename_i h;rw[vw h,vv h]
   ·rename_i h;simp only[h3,if_neg h]⟩
theorem dE{A:ai}{s:Option Nat}{n:Nat}{p:List Nat}{b v old:I}{rest:List aH}(J:v.bT=true)(U:b6 s v=true)(ah:v.aX=old.aX):df A s n p b v rest (some old)=aB rest (A.aV n (.box (b.eA p v))):=by
 simp only[df];rw[if_pos ⟨J,U,ah⟩]
theorem FA :
  (∀ A x,gN A (.ref x)=some x)∧(∀ A n p,gN A (.ptr n p)=fm p (A.o n))∧(∀ p c,fm p (some (.box c))=c.at p)∧(∀ c:I,c.at []=some c)∧(∀ (c:I) i p,c.at (i::p)=mu i p c.dI) ∧
  (∀ i p fs,mu i p (some fs)=oH p fs[i]?)∧(∀ p f,oH p (some f)=f.at p)∧(∀ c v:I,c.eA [] v=v)∧(∀ (c:I) i p v,c.eA (i::p) v=tL c i p v c.dI)∧(∀ c i p v fs,tL c i p v (some fs)=xy fs i p v fs[i]?) ∧
  (∀ fs i p v f,xy fs i p v (some f)=.agg (fs.set i (f.eA p v)))∧(∀ fs,(I.agg fs).dI=some fs)∧(∀ x:I,fD (some x)=x.dI) ∧
  (∀ s x,nS s (some x)=if b6 s x=true then some x else none) ∧
  (∀ A f off c,ji A f off (.ref c)=qm f off c.dI)∧(∀ A f off n p,ji A f off (.ptr n p)=ql n p f off (fD (fm p (A.o n))))∧(∀ f off fs,qm f off (some fs)=oV fs f off fs[f]?)∧(∀ fs f off v,oV fs f off (some v)=c9 fs f off (.ref v)) ∧
  (∀ n p f off fs,ql n p f off (some fs)=c9 fs f off (.ptr n (p++[f])))∧(∀ A n esz x kk k,qA A n esz x (.int kk k)=nI A n esz k x)∧(∀ A n esz k c,nI A n esz k (.ref c)=lS k n (sR n esz k c.dI)) ∧
  (∀ A n esz k m p,nI A n esz k (.ptr m p)=lS k n (qB n esz m p k (fD (fm p (A.o m)))))∧(∀ n esz k fs,sR n esz k (some fs)=lR n esz fs ((fs[k.toNat]?).map .ref))∧(∀ n esz m p k fs,qB n esz m p k (some fs)=lR n esz fs (some (.ptr m (p++[k.toNat])))) ∧
  (∀ A esz x kk k,qD A esz x (.int kk k)=jW A esz k x)∧(∀ n esz s x kk k,qG n esz s x (.int kk k)=sT n esz s k x.dI)∧(∀ n esz s k fs,sT n esz s k (some fs)=lS k n (lR n esz fs (nS s fs[k.toNat]?))) ∧
  (∀ A n esz m p,oy A n esz (.ptr m p)=rS n esz m p (fD (fm p (A.o m))))∧(∀ n esz m p fs,rS n esz m p (some fs)=rR n esz fs (.view m p esz 0 n)) ∧
  (∀ A sz es,jB A (.slice sz es)=some (.int .i64 es.length))∧(∀ A n,jB A (.nils n)=some (.int .i64 0))∧(∀ A n,jB A (.c0 n)=some (.int .i64 0)) :=
 ⟨fun _ _=>rfl,fun _ _ _=>rfl,fun _ _=>rfl,yn,Hl,fun _ _ _=>rfl,fun _ _=>rfl,og,ZF,fun _ _ _ _ _=>rfl,fun _ _ _ _ _=>rfl,fun _=>rfl,fun _=>rfl,fun _ _=>rfl,fun _ _ _ _=>rfl,fun _ _ _ _ _=>rfl,fun _ _ _=>rfl,fun _ _ _ _=>rfl,
  fun _ _ _ _ _=>rfl,fun _ _ _ _ _ _=>rfl,fun _ _ _ _ _=>rfl,fun _ _ _ _ _ _=>rfl,fun _ _ _ _=>rfl,fun _ _ _ _ _ _=>rfl,fun _ _ _ _ _=>rfl,fun _ _ _ _ _ _=>rfl,fun _ _ _ _ _=>rfl,fun _ _ _ _ _=>rfl,fun _ _ _ _ _=>rfl,fun _ _ _=>rfl,fun _ _=>rfl,fun _ _=>rfl⟩
theorem AY :
  (∀ A n p,bg true A (.ptr n p)=sD true A (fm p (A.o n)))∧(∀ A x,sD true A (some x)=if x.bu=true then some (.ref x) else (cU A 9 x).map .ref)∧(∀ A n p sz lo k,bg true A (.view n p sz lo k)=lM sz lo k (fD (fm p (A.o n)))) ∧
  (∀ A n p,bg false A (.ptr n p)=none)∧(∀ A n p sz lo k,bg false A (.view n p sz lo k)=none)∧(∀ x,jS none x=none)∧(∀ x,jS x none=none) ∧
  (∀ aN A n k,bg aN A (.own n k)=kU k (A.o n))∧(∀ aN A fs,bg aN A (.agg fs)=(b8 aN A fs).map .agg)∧(∀ aN A f fs,bg aN A (.func f fs)=if f<1000000 then (b8 aN A fs).map (.func f) else some .any)∧(∀ aN A k n,bg aN A (.int k n)=some (.int k n))∧(∀ aN A b,bg aN A (.bool b)=some (.bool b)) ∧
  (∀ aN A s,bg aN A (.bR s)=some (.bR s))∧(∀ aN A n,bg aN A (.nils n)=some (.slice n []))∧(∀ aN A n es,bg aN A (.slice n es)=if I.cg es=true then some (.slice n es) else none)∧(∀ aN A x,bg aN A (.ref x)=if x.bu=true then some (.ref x) else none) ∧
  (∀ aN A,b8 aN A []=some [])∧(∀ aN A x xs,b8 aN A (x::xs)=jS (bg aN A x) (b8 aN A xs))∧(∀ x xs,jS (some x) (some xs)=some (x::xs)) ∧
  (∀ fs,(I.agg fs).bu=I.cg fs)∧(∀ n fs,(I.slice n fs).bu=I.cg fs)∧(∀ x,(I.ref x).bu=x.bu)∧(∀ k n,(I.int k n).bu=true)∧(∀ n,(I.bool n).bu=true)∧(∀ n,(I.bR n).bu=true)∧(∀ f fs,(I.func f fs).bu=I.cg fs) ∧
  I.cg []=true∧(∀ x xs,I.cg (x::xs)=(x.bu&&I.cg xs)) ∧
  (∀ rs r A,ky rs r .ret A=oa r (fb A rs))∧(∀ rs r A,ky rs r .normal A=oa r (fb A rs))∧(∀ r xs,oa r (some xs)=(j5 xs=r))∧(∀ A,fb A []=some [])∧(∀ A t rs,fb A (.tmp t::rs)=jS (bg true A (A.t t)) (fb A rs)) ∧
  (∀ A a s rs,fb A (.cell a s::rs)=jS (rz s A (gN A (A.t a))) (fb A rs))∧(∀ s A x,rz s A (some x)=if b6 s x=true then bg true A x else none)∧(∀ x,j5 [x]=x)∧(∀ x y xs,j5 (x::y::xs)=.tuple (x::y::xs)) :=
 ⟨Nh,fun _ _=>rfl,vD,fun _ _ _=>rfl,fun _ _ _ _ _ _=>rfl,fun _=>rfl,fun x=>by cases x <;>rfl,Ng,sE,Nb,Nc,Na,Nk,Nf,Nj,Ni,sJ,sH,fun _ _=>rfl,Kc,Kh,Kg,Kf,Kd,Ki,Ke,Kk,Kj,
  Zr,Zq,fun _ _=>rfl,Zk,Zl,Zj,fun _ _ _=>rfl,fun _=>rfl,fun _ _ _=>rfl⟩
theorem yw :
  (∀ k a b,cz .add (.int k a) (.int k b)=some (.int k (k.wrap (a+b))))∧(∀ k a b,cz .sub (.int k a) (.int k b)=some (.int k (k.wrap (a-b))))∧(∀ k a b,cz .mul (.int k a) (.int k b)=some (.int k (k.wrap (a*b)))) ∧
  (∀ k a b,cz .quo (.int k a) (.int k b)=if b=0 then none else some (.int k (k.wrap (a.tdiv b))))∧(∀ k a b,cz .rem (.int k a) (.int k b)=if b=0 then none else some (.int k (a.tmod b))) ∧
  (∀ k a b,cz .and (.int k a) (.int k b)=some (.int k (k.wrap ((BitVec.ofInt k.bits a &&& BitVec.ofInt k.bits b).toNat:Int))))∧(∀ k a b,cz .or (.int k a) (.int k b)=some (.int k (k.wrap ((BitVec.ofInt k.bits a ||| BitVec.ofInt k.bits b).toNat:Int)))) ∧
  (∀ k a b,cz .xor (.int k a) (.int k b)=some (.int k (k.wrap ((BitVec.ofInt k.bits a ^^^ BitVec.ofInt k.bits b).toNat:Int))))∧(∀ k a b,cz .andNot (.int k a) (.int k b)=some (.int k (k.wrap ((BitVec.ofInt k.bits a &&& ~~~ BitVec.ofInt k.bits b).toNat:Int)))) ∧
  (∀ k k' a b,cz .shl (.int k a) (.int k' b)=if 0≤b then some (.int k (k.wrap (a*2^(min b.toNat k.bits)))) else none)∧(∀ k k' a b,cz .shr (.int k a) (.int k' b)=if 0≤b then some (.int k (a.fdiv (2^(min b.toNat k.bits)))) else none) ∧
  (∀ k a b,cz .eql (.int k a) (.int k b)=some (.bool (a==b)))∧(∀ k a b,cz .neq (.int k a) (.int k b)=some (.bool (a != b)))∧(∀ k a b,cz .lss (.int k a) (.int k b)=some (.bool (decide (a<b))))∧(∀ k a b,cz .leq (.int k a) (.int k b)=some (.bool (decide (a≤b)))) ∧
  (∀ k a b,cz .gtr (.int k a) (.int k b)=some (.bool (decide (b<a))))∧(∀ k a b,cz .geq (.int k a) (.int k b)=some (.bool (decide (b≤a)))) :=
 ⟨Ht,HK,HB,HF,HG,Hu,HE,HL,Hv,HI,HJ,Hw,HC,HA,Hz,Hy,Hx⟩
end Go.Abs
namespace Go.Abs
open Go Go.RowKit
open Enc (enc)
section
variable {α:Type} [Enc α]
theorem Xg(A:ai)(l:List α):jB A (enc l)=some (.int .i64 l.length):=by simp[hh,jB]
theorem WR{A:ai}(esz:Nat){k:Int}{l:List α}(h:0≤k∧k.toNat<l.length)(ab:Enc.sz α=esz):jW A esz k (enc l)=some (.ref (enc l[k.toNat])):=by
 simp only[hh,jW,ab,zz8,true_and];rw[if_pos ⟨h.1,by omega⟩];simp[h.2]
theorem fh{A:ai}(esz:Nat){k:Nat}{l:List α}(h:k<l.length)(ab:Enc.sz α=esz):jW A esz k (enc l)=some (.ref (enc l[k])):=by
 have:=WR (A:=A) esz (k:=(k:Int)) (l:=l) ⟨by omega,by simpa using h⟩ ab;simpa using this
end
mutual
/-- What every value in memory keeps to: whole numbers within their kind,slices no longer than a slice can be. -/
def I.wf:I→Prop
 | .agg fs=>I.gf fs
 | .int k n=>k.min≤n∧n≤k.max
 | .bR s=>s.size≤maxLen
 | .slice _ es=>es.length≤maxLen∧I.gf es
 | .ref c=>c.wf
 | .func _ caps=>I.gf caps
 | .iface _ v=>v.wf
 |_=>True
def I.gf:List I→Prop
 | []=>True
 |x::xs=>x.wf∧I.gf xs
end
mutual
theorem tz{w:World}{D:aR}{E:a8} : ∀ (x:I) (cs:List Value),al w D E x cs→x.wf
 | .agg fs,cs,h=>by simp only[al,I.wf] at *;exact xb fs cs h
 | .int k n,cs,h=>by simp only[al,I.wf] at *;exact h.2
 | .bR s,cs,h=>by simp only[al,I.wf] at *;exact h.2
 | .slice sz es,cs,h=>by
  simp only[al,I.wf] at *;obtain ⟨a,cap,_,J,U,ah,_⟩:=h;refine ⟨by omega,?_⟩;rcases ah with rfl | ⟨b,off,cs',_,_,ar⟩
  ·simp[I.gf]
  ·exact xb es cs' ar
 | .ref c,cs,h=>by simp only[al,I.wf] at *;obtain ⟨b,off,cs',_,_,h⟩:=h;exact tz c cs' h
 | .func f caps,cs,h=>by simp only[al,I.wf] at *;obtain ⟨vs,_,h⟩:=h;exact pL caps vs h
 | .iface t v,cs,h=>by simp only[al,I.wf] at *;obtain ⟨u,cs',_,_,h⟩:=h;exact tz v cs' h
 | .bool _,_,_ | .nilp,_,_ | .dx,_,_ | .dV,_,_ | .any,_,_ | .raw _,_,_ | .nils _,_,_ | .c0 _,_,_ | .ptr _ _,_,_ | .own _ _,_,_ | .view _ _ _ _ _,_,_ | .mref _,_,_ | .dk _,_,_ | .de _ _,_,_ | .undef,_,_ | .dp,_,_ | .tuple _,_,_=>by simp[I.wf]
theorem xb{w:World}{D:aR}{E:a8} : ∀ (xs:List I) (cs:List Value),aM w D E xs cs→I.gf xs
 | [],_,_=>by simp[I.gf]
 |x::xs,cs,h=>by
  simp only[aM,I.gf] at *;obtain ⟨c1,c2,_,J,U⟩:=h;exact ⟨tz x c1 J,xb xs c2 U⟩
theorem pL{w:World}{D:aR}{E:a8} : ∀ (xs:List I) (vs:List Value),aI w D E xs vs→I.gf xs
 | [],_,_=>by simp[I.gf]
 |x::xs,vs,h=>by
  simp only[aI,I.gf] at *;obtain ⟨v,rest,cs,_,_,J,U⟩:=h;exact ⟨tz x cs J,pL xs rest U⟩
end
theorem aae{α:Type}[Enc α](l:List α):I.gf (l.map enc)↔∀ x∈l,(enc x:I).wf:=by
 induction l with
 |nil=>simp[I.gf]
 |cons x l ih=>simp[I.gf,ih]
theorem nk{α:Type}[Enc α](l:List α):(enc l:I).wf↔l.length≤maxLen∧∀ x∈l,(enc x:I).wf:=by
 simp only[hh,I.wf,zz8,aae]
theorem bf.wf{P:Program}{f:FuncId}{args:List I}{r:I}(hc:e8 P f=true)(h:I.gf args→bf P f args r):bf P f args r :=
 ⟨hc,fun w D vs ao J U=>(h (pL _ _ U)).2 w D vs ao J U⟩
theorem bf.bZ{P:Program}{f:FuncId}{fn:Func}{x:bo}{rs:List bL}{args:List I}{r:I}(hf:P.funcs[f]?=some fn)(hcall:e8 P f=true)(hc:(fn.body.bind (eC P fn.ntmps))=some x)
  (hrs:gL P fn.results.toList=some rs) (hn:args.length≤fn.ntmps) (h:I.gf args→∀ (w:World) (D:aR) (E:a8),ae ⟨P,w,D,fn.ntmps,cE E,E,dq,none,none⟩ x (ky rs r) (au (bJ 0 args) [])):bf P f args r :=
 bf.wf hcall fun hw=>bf.mk hf hcall hc hrs hn (h hw)
theorem kC{α:Type}[Enc α] :
  (∀ A (l:List α),jB A (enc l)=some (.int .i64 l.length))∧(∀ n (x:xN n α),(enc x).dI=some (x.l.map enc)) :=
 ⟨Xg,fun _ _=>rfl⟩
end Go.Abs
namespace Go.Abs
open Go Go.RowKit
open Enc (enc)
def pk(neg:Bool):I→Option I
 | .nils _=>some (.bool (!neg))
 | .slice _ es=>if es.isEmpty then none else some (.bool neg)
 | .view _ _ _ _ _=>some (.bool neg)
 |_=>none
def Ca:I→Option I
 | .bR s=>some (.int .i64 s.size)
 |_=>none
open Classical in
noncomputable def mj(n:Nat)(p:List Nat)(sz l0 k esz:Nat)(lo hi mx:Option I):Option (List I)→Option I
 |some fs=>if sz=esz then nc n p sz l0 k fs.length lo hi mx else none
 |none=>none
noncomputable def ka(A:ai)(esz:Nat)(lo hi mx:Option I):I→Option I
 | .slice sz es=>if sz=esz then iV sz es lo hi mx else none
 | .nils sz=>if sz=esz then iV sz [] lo hi mx else none
 | .c0 sz=>if sz=esz then iV sz [] lo hi mx else none
 | .view n p sz l0 k=>mj n p sz l0 k esz lo hi mx (fD (fm p (A.o n)))
 |_=>none
open Classical in
noncomputable def fA(esz:Nat):Option (List I)→Option I
 |some es=>if (es.all fun e=>e.size==esz)=true∧I.cg es=true then some (.slice esz es) else none
 |none=>none
open Classical in
noncomputable def p6(A:ai)(d:Option Nat)(e esz bytes n l T sz':Nat)(es:List I)(rest:List aH):I→cI
 | .slice sz ys=>if wL e esz bytes l sz ys T sz' es then aB rest ((A.aV n (.b5 e esz (es++ys))).aU d (.own n (es.length+ys.length))) else .fail
 |_=>.fail
open Classical in
noncomputable def oG(A:ai)(d:Option Nat)(e esz bytes:Nat)(z:I)(n l T:Nat)(xs:List Int)(rest:List aH):I→cI
 | .slice _ ys=>if wM e esz bytes l ys T xs z then aB rest ((A.aV n (.dG e (xs++qC ys))).aU d (.own n (xs.length+ys.length))) else .fail
 |_=>.fail
noncomputable def p5(A:ai)(d:Option Nat)(e esz bytes:Nat)(z:I)(n l:Nat)(x:I)(rest:List aH):Option aq→cI
 |some (.b5 T sz' es)=>p6 A d e esz bytes n l T sz' es rest x
 |some (.dG T xs)=>oG A d e esz bytes z n l T xs rest x
 |_=>.fail
noncomputable def fI(A:ai)(d:Option Nat)(e esz bytes:Nat)(z x:I)(rest:List aH):I→cI
 | .own n l=>p5 A d e esz bytes z n l x rest (A.o n)
 |s=>e7 A d esz bytes z s (eK A esz s) (eK A esz x) (aB rest)
section
variable (d:Option Nat) (rest:List aH) (A:ai)
noncomputable def pn(neg:Bool)(x:I):Bool→cI
 |true=>.any (fun m=>m<2) (fun m=>aB rest (A.aU d (.bool (m==0))))
 |false=>cP (pk neg x) (dc d rest A)
theorem Yi(neg:Bool)(x:aO):bM A d (.nilS neg x) rest=pn d rest A neg (ak A x) (jM (ak A x)):=by
 simp only[bM,bj,bn];cases jM (ak A x)
 ·simp only[zz2,if_false,pn,pk];cases ak A x <;>rfl
 ·rfl
theorem X9(x:aO):bM A d (.lenT x) rest=cP (Ca (ak A x)) (dc d rest A):=by
 simp only[bM,bj,bn];cases ak A x <;>rfl
theorem Yn(esz:Nat)(x:aO)(lo hi mx:Option aO):bM A d (.sl esz x lo hi mx) rest=cP (ka A esz (lo.map (ak A)) (hi.map (ak A)) (mx.map (ak A)) (ak A x)) (dc d rest A):=by
 simp only[bM,bj,bn];cases ak A x <;>try rfl
 rename_i n p sz l0 k;simp only[ka,lI,gN];cases fm p (A.o n) with
 |none=>rfl
 |some c=>cases c <;>simp only[fD,I.dI,mj] <;>(first | rfl | (split <;>rfl))
theorem XU(T esz:Nat)(ps:List aO):bM A d (.bs T esz ps) rest=cP (fA esz (b8 false A (ps.map (ak A)))) (dc d rest A):=by
 simp only[bM,bj,bn];cases b8 false A (ps.map (ak A)) <;>simp only[fA] <;>rfl
theorem XQ(e esz bytes:Nat)(z:I)(s x:aO):bM A d (.di e esz bytes z s x) rest=fI A d e esz bytes z (ak A x) rest (ak A s):=by
 simp only[bM,bj];generalize ak A s=s';generalize ak A x=x';cases s' <;>simp only[fI]
 rename_i n l;cases x' <;>simp only <;>generalize A.o n=z <;>(cases z with
  |none=>rfl
  |some y=>cases y <;>simp only[p5,p6,oG])
end
theorem CU :
  (∀ d rest A neg x,bM A d (.nilS neg x) rest=pn d rest A neg (ak A x) (jM (ak A x)))∧(∀ d rest A neg x,pn d rest A neg x false=cP (pk neg x) (dc d rest A))∧(∀ z,jM (.nils z)=false)∧(∀ n p sz lo k,jM (.view n p sz lo k)=false)∧(∀ d rest A x,bM A d (.lenT x) rest=cP (Ca (ak A x)) (dc d rest A)) ∧
  (∀ d rest A esz x lo hi mx,bM A d (.sl esz x lo hi mx) rest=cP (ka A esz (lo.map (ak A)) (hi.map (ak A)) (mx.map (ak A)) (ak A x)) (dc d rest A)) ∧
  (∀ d rest A T esz ps,bM A d (.bs T esz ps) rest=cP (fA esz (b8 false A (ps.map (ak A)))) (dc d rest A))∧(∀ d rest A e esz bytes z s x,bM A d (.di e esz bytes z s x) rest=fI A d e esz bytes z (ak A x) rest (ak A s)) ∧
  (∀ A d e esz bytes z x rest n l,fI A d e esz bytes z x rest (.own n l)=p5 A d e esz bytes z n l x rest (A.o n))∧(∀ A d e esz bytes z n l x rest T sz es,p5 A d e esz bytes z n l x rest (some (.b5 T sz es))=p6 A d e esz bytes n l T sz es rest x)∧(∀ A d e esz bytes z n l x rest T xs,p5 A d e esz bytes z n l x rest (some (.dG T xs))=oG A d e esz bytes z n l T xs rest x) ∧
  (∀ neg z,pk neg (.nils z)=some (.bool (!neg))) :=
 ⟨Yi,fun _ _ _ _ _=>rfl,fun _=>rfl,fun _ _ _ _ _=>rfl,X9,Yn,XU,XQ,fun _ _ _ _ _ _ _ _ _ _=>rfl,fun _ _ _ _ _ _ _ _ _ _ _ _ _=>rfl,fun _ _ _ _ _ _ _ _ _ _ _ _=>rfl,fun _ _=>rfl⟩
theorem qZ(p:Nat→Bool)(xs ys:List I):I.cv p (xs++ys)=(I.cv p xs&&I.cv p ys):=by
 induction xs with
 |nil=>simp[I.cv]
 |cons x xs ih=>simp[I.cv,ih,Bool.and_assoc]
section
variable {α:Type} [Enc α]
theorem p7{A:ai}{d:Option Nat}(e:Nat)(esz bytes n:Nat){l:Nat}{es ys:List α}{rest:List aH}(ao:l=es.length)(ab:Enc.sz α=esz)(hy:ys≠[])(J:es.length+ys.length≤maxLen)(U:(es.length+ys.length)*bytes≤140737488355328) :
  p6 A d e esz bytes n l e esz (es.map enc) rest (enc ys)=aB rest ((A.aV n (.b5 e esz ((es++ys).map enc))).aU d (.own n (es++ys).length)):=by
 simp only[hh,p6];rw[if_pos ⟨by simpa using ao,ab,rfl,rfl,by simpa using hy,by simpa using J,by simpa using U⟩];simp
theorem qb(esz:Nat){ys:List α}(ab:Enc.sz α=esz):fA esz (some (ys.map enc))=some (enc ys):=by
 have J:((ys.map enc).all fun e:I=>e.size==esz)=true:=by
  simp only[zx0,zx1];rintro x ⟨y,_,rfl⟩;simp[Enc.size,ab]
 simp only[fA,hh];rw[if_pos ⟨J,iC ys⟩,ab]
theorem jf(esz:Nat)(y:α)(ab:Enc.sz α=esz):fA esz (some [enc y])=some (enc [y]):=qb (ys:=[y]) esz ab
theorem qn(sz:Nat){T k:Nat}{es:List α}(hk:k=es.length)(ab:Enc.sz α=sz):kU k (some (.b5 T sz (es.map enc)))=some (enc es):=by
 simp only[kU,zz8];rw[if_pos ⟨hk,iC es⟩,hh,ab]
theorem ic(p:Nat→Bool)(l:List α):I.cv p (l.map enc)=true:=by
 induction l with
 |nil=>rfl
 |cons x l ih=>simp only[zz4,I.cv,cJ,ih,Bool.and_self]
theorem Xh(A:ai)(n k T sz:Nat)(es:List α)(ho:A.o n=some (.b5 T sz (es.map enc)))(hk:k=es.length):jB A (.own n k)=some (.int .i64 es.length):=by
 simp only[jB,ho,zz8,hk,if_true]
end
theorem BQ :
  (∀ n:Int,fA 1 (some [.int .i64 n])=some (enc [n]))∧(∀ (T:Nat) (es:List Int),kU es.length (some (.b5 T 1 (es.map enc)))=some (enc es)) :=
 ⟨fun n=>jf 1 n rfl,fun _ _=>qn 1 rfl rfl⟩
theorem bH.GV{A:ai}{d n T sz z:Nat}(af:A.t d=.nils z)(hn:A.o n=none)(hlt:n<1000000):bH A ((A.aV n (.b5 T sz [])).put d (.own n 0)):=by
 rintro c a w ⟨D,E,h⟩;have ay:E n=none:=by have:=h.bQ n;rw[hn] at this;exact this
 have ao:dS w D E w D (fun m=>if m=n then some (.rw none 0) else E m):=by
  have eM:∀ {m:Nat} {e:bO},E m=some e→(if m=n then some (.rw none 0) else E m)=some e:=fun {m e} he=>by
   have:m≠n:=fun e=>by rw[e,ay] at he;cases he
   rw[if_neg this];exact he
  refine ⟨fun _ _ h=>h,fun _ _ _ _ h=>h,fun m b aX he=>eM he,fun m aJ l he =>?_,fun m b he=>eM he,fun m b he=>eM he,fun _ _ _ _ h=>h⟩
  ·have:m≠n:=fun e=>by rw[e,ay] at he;cases he
   exact ⟨aJ,l,by simp only[if_neg this];exact he,zz3 _,fun _=>rfl⟩
 refine ⟨D,fun m=>if m=n then some (.rw none 0) else E m,h.sz,h.eE,fun t =>?_,h.dM,h.cX,h.aQ,fun m =>?_,fun m m' e e' b J U ah ar =>?_,fun m e hm =>?_,h.eP,h.cQ,h.eX,h.fu⟩
 ·simp only[ai.put,ai.aV];by_cases ht:t=d
  ·subst ht;simp only[if_true];have hv:=h.dO t;rw[af] at hv;obtain ⟨cs,q1,q2⟩:=hv;simp only[al] at q2;subst q2;refine ⟨[.slice none 0 0],by simpa[bA,I.isAgg] using q1,?_⟩;simp only[al,if_true];exact ⟨none,0,rfl,zz3 _,⟨_,_,_,rfl⟩,fun _=>trivial⟩
  ·simp only[if_neg ht];exact bd.later ao (h.dO t)
 ·simp only[ai.put,ai.aV];by_cases hm:m=n
  ·subst hm;simp only[if_true,cV];exact ⟨none,by simp,by simp,trivial⟩
  ·simp only[if_neg hm];exact (h.bQ m).later ao (by simp only[if_neg hm]) fun _ _ _ _=>⟨rfl,fun _ ho=>ho⟩
 ·by_cases hm:m=n <;>by_cases hm':m'=n
  ·rw[hm,hm']
  ·simp only[if_pos hm,v6] at J;subst J;simp[bO.aJ] at ah
  ·simp only[if_pos hm',v6] at U;subst U;simp[bO.aJ] at ar
  ·simp only[if_neg hm] at J;simp only[if_neg hm'] at U;exact h.cL m m' e e' b J U ah ar
 ·have hmn:m≠n:=fun e=>by rw[e,h.kl (.inr hlt)] at hm;cases hm
  simp only[if_neg hmn];exact h.dP m e hm
theorem bH.sa{ts:List (Nat×I)}{os:List (Nat×aq)}(d n T sz z:Nat)(af:bX ts d=.nils z)(hn:aj os n=none){B:ai}(h:bH (au ((d,.own n 0)::ts) ((n,.b5 T sz [])::os)) B)(hlt:n<1000000:=by decide):bH (au ts os) B :=
 ((bH.GV (A:=au ts os) (T:=T) (sz:=sz) af hn hlt).trans (by rw[qR,ta];exact bH.refl _)).trans h
theorem CJ:(∀ k n,b6 none (.int k n)=true)∧(∀ b,b6 none (.bool b)=true)∧(∀ z es,b6 none (.slice z es)=true)∧(∀ f es,b6 none (.func f es)=true)∧(∀ z,b6 none (.nils z)=true)∧(∀ n k,b6 none (.own n k)=true) :=
 ⟨fun _ _=>rfl,fun _=>rfl,fun _ _=>rfl,fun _ _=>rfl,fun _=>rfl,fun _ _=>rfl⟩
theorem bI:(type_of% @yg)∧(type_of% @CT)∧(type_of% @CU)∧(type_of% @BQ)∧(type_of% @CJ)∧(type_of% @FA)∧(type_of% @AY)∧(type_of% @yw)∧(∀ n:Int,(enc n:I)=.int .i64 n)∧(∀ n:Bool,(enc n:I)=.bool n) ∧
  (∀ {α β:Type} (f:α→β) (x:α) (xs:List α),List.map f (x::xs)=f x::List.map f xs)∧(∀ {α β:Type} (f:α→β),List.map f []=[])∧(∀ {α:Type} (xs:List α),[]++xs=xs)∧(∀ n:Nat,(n:Int).toNat=n)∧(∀ {α β:Type} (f:α→β) (x:α),Option.map f (some x)=some (f x)) ∧
  (∀ n:Nat,0≤(n:Int))∧((!true)=false)∧((!false)=true)∧((false=true)=False)∧((true=false)=False) :=
 ⟨@yg,@CT,@CU,@BQ,@CJ,@FA,@AY,@yw,eF,MD,fun _ _ _=>rfl,fun _=>rfl,fun _=>rfl,fun _=>rfl,fun _ _=>rfl,fun n=>Int.natCast_nonneg n,rfl,rfl,by simp,by simp⟩
end Go.Abs
namespace Go.Abs
open Go Go.RowKit
open Enc (enc)
theorem kD.bZ{P:Program}{f:FuncId}{fn:Func}{x:bo}{rs:List bL}{Y:Value→List I→List (Nat×aq)→cC→Prop}{args:List I}{os:List (Nat×aq)}{post:cC}(hf:P.funcs[f]?=some fn)(hcall:e8 P f=true)(hc:(fn.body.bind (eC P fn.ntmps))=some x)
  (hrs:gL P fn.results.toList=some rs) (hn:args.length≤fn.ntmps) (hn2:fn.ntmps≤1000000) (hos:∀ m,az os m=true→1000000≤m) (h:I.gf args→∀ (w:World) (D:aR) (E:a8),ae ⟨P,w,D,fn.ntmps,cE E,E,Y,none,none⟩ x (n2 rs post) (au (bJ 0 args) os)):kD P f Y args os post:=by
 obtain ⟨body,hb,hc'⟩:=zw3.1 hc;refine ⟨hcall,fun w D E vs hy hD ho hv =>?_⟩;exact (kD.tj hf hb hcall hc' hrs hn (fun m hm=>⟨zv0 hn2 (hos m hm),hos m hm⟩) (fun w D E=>(h (pL _ _ hv) w D E).sub (tS args os))).2 w D E vs hy hD ho hv
theorem cR.bZ{P:Program}{f:FuncId}{fn:Func}{x:bo}{rs:List bL}{args:List I}{os:List (Nat×aq)}{post:cC}(hf:P.funcs[f]?=some fn)(hcall:e8 P f=true)(hc:(fn.body.bind (eC P fn.ntmps))=some x)
  (hrs:gL P fn.results.toList=some rs) (hn:args.length≤fn.ntmps) (hn2:fn.ntmps≤1000000) (hos:∀ m,az os m=true→1000000≤m) (h:I.gf args→∀ (w:World) (D:aR) (E:a8),ae ⟨P,w,D,fn.ntmps,cE E,E,dq,none,none⟩ x (n2 rs post) (au (bJ 0 args) os)):cR P f args os post :=
 cR.CD (kD.bZ hf hcall hc hrs hn hn2 hos h)
theorem BN{A:ai} : ∀ n x,aj [] n=some x→A.o n=some x∧x.only (az [])=true∧x.eg=true:=fun n x h=>by simp[aj] at h
theorem WL{A:ai}{k:Nat}{c:I}(J:A.o k=some (.box c))(U:∀ p,c.only p=true):∀ n x,aj [(k,.box c)] n=some x→A.o n=some x∧x.only (az [(k,.box c)])=true∧x.eg=true:=fun n x h=>by
 simp only[aj] at h;split at h
 ·rename_i hn;subst hn;simp only[v6] at h;subst h;exact ⟨J,U _,rfl⟩
 ·cases h
theorem mH{k:Nat}{x:aq}{m:Nat} : az [(k,x)] m=true↔m=k:=by
 simp only[az,aj];split <;>simp_all
mutual
theorem rq(ρ:Nat→Nat):∀ x:I,x.bu=true→x.bm ρ=x
 | .agg fs,h=>by simp only[I.bm,I.bu] at *;rw[mV ρ fs h]
 | .slice _ es,h=>by simp only[I.bm,I.bu] at *;rw[mV ρ es h]
 | .ref x,h=>by simp only[I.bm,I.bu] at *;rw[rq ρ x h]
 | .func _ caps,h=>by simp only[I.bm,I.bu] at *;rw[mV ρ caps h]
 | .iface _ v,h=>by simp only[I.bm,I.bu] at *;rw[rq ρ v h]
 | .bool _,_ | .int _ _,_ | .bR _,_ | .nilp,_ | .dx,_ | .dV,_ | .any,_ | .raw _,_ | .nils _,_ | .c0 _,_=>by simp only[I.bm]
 | .de ks vs,h=>by simp only[I.bm,I.bu,t8] at *;rw[mV ρ ks h.1,mV ρ vs h.2]
 | .ptr _ _,h | .own _ _,h | .view _ _ _ _ _,h | .mref _,h | .dk _,h | .undef,h | .dp,h | .tuple _,h=>by simp[I.bu] at h
theorem mV(ρ:Nat→Nat):∀ xs:List I,I.cg xs=true→I.dR ρ xs=xs
 | [],_=>rfl
 |x::xs,h=>by
  simp only[I.cg,t8] at h;simp only[I.dR,rq ρ x h.1,mV ρ xs h.2]
end
section
variable {α:Type} [Enc α]
theorem kS(ρ:Nat→Nat)(x:α):(enc x).bm ρ=enc x:=rq ρ _ (kR x)
theorem tE(ρ:Nat→Nat)(l:List α):I.dR ρ (l.map enc)=l.map enc:=mV ρ _ (iC l)
theorem ng(A:ai)(esz:Nat)(l:List α)(ab:Enc.sz α=esz):eK A esz (enc l)=some (l.map enc):=by
 simp only[hh,eK,ab,if_true]
theorem tW(l:List α):jM (enc l)=l.isEmpty:=by
 simp only[hh,jM];cases l <;>rfl
theorem CB(neg:Bool)(l:List α)(h:l≠[]):pk neg (enc l)=some (.bool neg):=by
 simp only[hh,pk];cases l with
 |nil=>exact absurd rfl h
 |cons=>rfl
section
variable {P:Program} {Y:Value→List I→List (Nat×aq)→cC→Prop} {K:ai→Prop} {A:ai} {rest:List aH} {d:Nat} {e esz bytes:Nat} {q:Nat}
theorem aS.uB(z:α){l:List α}(ab:Enc.sz α=esz)(ao:l≠[])(hf:A.o d=none)(hb:l.length*bytes≤140737488355328)(hml:l.length≤maxLen)
  (h:∀ m,aS P Y false K (aB rest ((A.aV d (.box (.agg ((l++List.replicate m z).map enc)))).aU (some d) (.view d [] esz 0 l.length)))):aS P Y false K (fI A (some d) e esz bytes (enc z) (enc l) rest (.c0 q)):=by
 have hne:l.map (enc (α:=α))≠[]:=by simpa using ao
 have J:eK A esz (.c0 q)=some []:=rfl;simp only[fI,J,ng A esz l ab,e7,if_neg hne,fU,hf,List.length_nil,zz1,zz8,if_pos (y6 hb hml),List.nil_append];refine .any rfl fun m _ =>?_;have:=h m;simp only[zy5,List.map_replicate] at this;exact this
theorem Hg(z:I)(ab:Enc.sz α=esz):fI A (some d) e esz bytes z (enc ([]:List α)) rest (.c0 q)=aB rest (A.aU (some d) (.c0 q)):=by
 have J:eK A esz (.c0 q)=some []:=rfl;simp only[fI,J,ng A esz ([]:List α) ab,e7,zx8,if_true]
theorem XX(esz:Nat)(z:I)(x:aO)(rest:List aH)(A:ai):bM A none (.jR esz z x) rest=oP A esz z (aB rest) (ak A x):=rfl
theorem aak{n:Nat}{p:List Nat}{sz k total i:Nat}(h:i≤total)(aY:0<total):nc n p sz 0 k total none (some (.int .i64 i)) none=some (.view n p sz 0 i):=by
 simp only[nc,jt];rw[if_pos ⟨by omega,by omega,by omega⟩,if_neg (by omega)];simp
theorem WW{m:Nat}{p:List Nat}{sz lo l j:Nat}{fs:List I}(h:j<l):mI m p sz lo l sz (j:Int) (some fs)=some (.ptr m (p++[lo+j])):=by
 simp only[mI,true_and];rw[if_pos ⟨by omega,by omega⟩];simp
theorem vC{sz k:Nat}{xs:List α}(ab:Enc.sz α=sz):lM sz 0 k (some (xs.map enc))=some (enc (xs.take k)):=by
 have h:((xs.map (enc (α:=α))).drop 0).take k=(xs.take k).map enc:=by rw[List.drop_zero,List.map_take]
 simp only[lM,h];rw[if_pos (iC _),hh,ab]
end
end
theorem WS(A:ai)(esz m:Nat)(p:List Nat)(sz lo l:Nat)(k:Int):jW A esz k (.view m p sz lo l)=mI m p sz lo l esz k (fD (fm p (A.o m))):=rfl
theorem Xi(A:ai)(m:Nat)(p:List Nat)(sz lo l:Nat):jB A (.view m p sz lo l)=some (.int .i64 l):=rfl
theorem ZL(A:ai)(esz:Nat)(lo hi mx:Option I)(n:Nat)(p:List Nat)(l0 k:Nat):ka A esz lo hi mx (.view n p esz l0 k)=mj n p esz l0 k esz lo hi mx (fD (fm p (A.o n))):=rfl
theorem ZM(n:Nat)(p:List Nat)(sz l0 k:Nat)(lo hi mx:Option I)(fs:List I):mj n p sz l0 k sz lo hi mx (some fs)=nc n p sz l0 k fs.length lo hi mx:=by simp[mj]
theorem jN :
  (∀ A esz m p sz lo l k,jW A esz k (.view m p sz lo l)=mI m p sz lo l esz k (fD (fm p (A.o m))))∧(∀ A m p sz lo l,jB A (.view m p sz lo l)=some (.int .i64 l)) ∧
  (∀ A esz lo hi mx n p l0 k,ka A esz lo hi mx (.view n p esz l0 k)=mj n p esz l0 k esz lo hi mx (fD (fm p (A.o n))))∧(∀ n p sz l0 k lo hi mx fs,mj n p sz l0 k sz lo hi mx (some fs)=nc n p sz l0 k fs.length lo hi mx) ∧
  (∀ esz z x rest A,bM A none (.jR esz z x) rest=oP A esz z (aB rest) (ak A x))∧(∀ rest A d esz,bM A d (.bs0 esz) rest=aB rest (A.aU d (.c0 esz))) :=
 ⟨WS,Xi,ZL,ZM,XX,fun _ _ _ _=>rfl⟩
theorem n5(rs:List bL)(post:cC)(A:ai):n2 rs post .ret A=jc rs post A:=rfl
theorem bH.jU{ts:List (Nat×I)}{os0:List (Nat×aq)}(ns:List Nat)(d:Nat){x y:I}(af:bX ts d=x)(h:bg true (au ts (mK ns os0)) x=some y)(ho:cY (fun n => !ns.contains n) (eL ns os0)) :
  bH (au ts os0) (au ((d,y)::lL ns ts) (eL ns os0)):=by
 rintro c a w ⟨D,E,ab⟩;obtain ⟨D1,E1,hs1,hw⟩:=ab.Bb ns ho;have hu:ep (au ts (mK ns os0)) (au ts os0):=fun n z hz=>by
  simp only[au,pd] at hz ⊢;split at hz
  ·exact hz
  ·cases hz
 have hx:x.bT=true:=by cases x <;>first | rfl | simp[bg] at h
 have hv:=ab.dO d;simp only[au] at hv;rw[af] at hv;have J:aI w D E [x] [a.tmps.getD d undef]:=lp [x] _ (.cons hv .nil) (by intro z hz;simp only[zx4] at hz;subst hz;exact hx);have U:=lN (E':=E1) ab hu hw [x] [y] _ J (by simp only[b8,h]);have ah:bd w D1 E1 y (a.tmps.getD d undef):=by
  simp only[aI] at U;obtain ⟨v',rest,cs,e,k1,k2,_⟩:=U;simp only[zw9] at e;obtain ⟨e1,_⟩:=e;rw[e1];exact jC k1 k2
 refine ⟨D1,E1,hs1.sz,hs1.eE,fun t =>?_,hs1.dM,hs1.cX,hs1.aQ,hs1.bQ,hs1.cL,hs1.dP,hs1.eP,hs1.cQ,hs1.eX,hs1.fu⟩;simp only[au,bX];split
 ·rename_i ht;subst ht;exact ah
 ·exact hs1.dO t
theorem Y5{w:World}{D:aR}{E:a8}{p:List Nat}{c x y:I}{cs:List Value}(hr:al w D E c cs)(h:c.at p=some x)(hxy:∀ ds,al w D E x ds→al w D E y ds)(ab:y.aX=x.aX):al w D E (c.eA p y) cs∧(c.eA p y).aX=c.aX:=by
 obtain ⟨off,c1,c2,c3,J,rfl,U,ah⟩:=xa p c x cs hr h;obtain ⟨off',k1,k2,k3,k4⟩:=tx p c x y _ c2 hr h (hxy c2 ah) ab;rw[J,v6] at k1;subst k1;refine ⟨?_,k4⟩;have e:(c1++c2++c3).take off++c2++(c1++c2++c3).drop (off+c2.length)=c1++c2++c3:=by
  rw[zy1 c1 c2 c3,←U,List.take_left,List.drop_length_add_append,List.drop_left,zy1]
 rw[←e];exact k3
theorem bH.GW{A:ai}{m n T sz z:Nat}{p:List Nat}{b:I}(hm:A.o m=some (.box b))(hp:b.at p=some (.nils z))(hn:A.o n=none)(hlt:n<1000000):bH A ((A.aV n (.b5 T sz [])).aV m (.box (b.eA p (.own n 0)))):=by
 rintro c a w ⟨D,E,h⟩;have ay:E n=none:=by have:=h.bQ n;rw[hn] at this;exact this
 have hmn:m≠n:=fun e=>by rw[e,hn] at hm;cases hm
 have ao:dS w D E w D (fun m=>if m=n then some (.rw none 0) else E m):=by
  have eM:∀ {m:Nat} {e:bO},E m=some e→(if m=n then some (.rw none 0) else E m)=some e:=fun {m e} he=>by
   have:m≠n:=fun e=>by rw[e,ay] at he;cases he
   rw[if_neg this];exact he
  refine ⟨fun _ _ h=>h,fun _ _ _ _ h=>h,fun m b aX he=>eM he,fun m aJ l he =>?_,fun m b he=>eM he,fun m b he=>eM he,fun _ _ _ _ h=>h⟩
  ·have:m≠n:=fun e=>by rw[e,ay] at he;cases he
   exact ⟨aJ,l,by simp only[if_neg this];exact he,zz3 _,fun _=>rfl⟩
 refine ⟨D,fun m=>if m=n then some (.rw none 0) else E m,h.sz,h.eE,fun t=>bd.later ao (h.dO t),h.dM,h.cX,h.aQ,fun k =>?_,fun m m' e e' b J U ah ar =>?_,fun m e hm =>?_,h.eP,h.cQ,h.eX,h.fu⟩
 ·simp only[ai.aV];by_cases hk:k=m
  ·subst hk;have ho:=h.bQ k;rw[hm] at ho;obtain ⟨b',cs,T',J,U,ah,ar,h5⟩:=ho;obtain ⟨q1,q2⟩:=Y5 (y:=.own n 0) (al.later ao _ _ ar) hp (fun ds af=>by
    simp only[al] at af;subst af;simp only[al,if_true];exact ⟨none,0,rfl,zz3 _,⟨_,_,_,rfl⟩,fun _=>trivial⟩) rfl
   simp only[if_true,cV];exact ⟨b',cs,T',by rw[q2];simp only[if_neg hmn];exact J,U,ah,q1,h5⟩
  ·simp only[if_neg hk];by_cases hkn:k=n
   ·subst hkn;simp only[if_true,cV];exact ⟨none,by simp,by simp,trivial⟩
   ·simp only[if_neg hkn];exact (h.bQ k).later ao (by simp only[if_neg hkn]) fun _ _ _ _=>⟨rfl,fun _ ho=>ho⟩
 ·by_cases hm:m=n <;>by_cases hm':m'=n
  ·rw[hm,hm']
  ·simp only[if_pos hm,v6] at J;subst J;simp[bO.aJ] at ah
  ·simp only[if_pos hm',v6] at U;subst U;simp[bO.aJ] at ar
  ·simp only[if_neg hm] at J;simp only[if_neg hm'] at U;exact h.cL m m' e e' b J U ah ar
 ·have hmn:m≠n:=fun e=>by rw[e,h.kl (.inr hlt)] at hm;cases hm
  simp only[if_neg hmn];exact h.dP m e hm
theorem bH.GX{ts:List (Nat×I)}{os:List (Nat×aq)}(m n T sz z:Nat)(p:List Nat)(b:I)(hm:aj os m=some (.box b))(hp:b.at p=some (.nils z))(hn:aj os n=none){B:ai}(h:bH (au ts ((m,.box (b.eA p (.own n 0)))::(n,.b5 T sz [])::os)) B)(hlt:n<1000000:=by decide):bH (au ts os) B :=
 ((bH.GW (A:=au ts os) (T:=T) (sz:=sz) hm hp hn hlt).trans (by rw[qR,qR];exact bH.refl _)).trans h
mutual
theorem iO{p q:Nat→Bool}(h:∀ n,p n=true→q n=true):∀ x:I,x.only p=true→x.only q=true
 | .agg fs,hx | .tuple fs,hx=>by simp only[I.only] at *;exact ig h fs hx
 | .slice _ es,hx=>by simp only[I.only] at *;exact ig h es hx
 | .ref x,hx=>by simp only[I.only] at *;exact iO h x hx
 | .func _ caps,hx=>by simp only[I.only] at *;exact ig h caps hx
 | .iface _ v,hx=>by simp only[I.only] at *;exact iO h v hx
 | .ptr _ _,hx | .own _ _,hx | .view _ _ _ _ _,hx | .mref _,hx | .dk _,hx=>by simp only[I.only] at *;exact h _ hx
 | .de ks vs,hx=>by simp only[I.only,t8] at *;exact ⟨ig h ks hx.1,ig h vs hx.2⟩
 | .bool _,_ | .int _ _,_ | .bR _,_ | .nilp,_ | .dx,_ | .dV,_ | .any,_ | .raw _,_ | .nils _,_ | .c0 _,_ | .undef,_ | .dp,_=>by simp[I.only]
theorem ig{p q:Nat→Bool}(h:∀ n,p n=true→q n=true):∀ xs:List I,I.cv p xs=true→I.cv q xs=true
 | [],_=>rfl
 |x::xs,hx=>by
  simp only[I.cv,t8] at *;exact ⟨iO h x hx.1,ig h xs hx.2⟩
end
theorem aq.iO{p q:Nat→Bool}(h:∀ n,p n=true→q n=true)(x:aq)(hx:x.only p=true):x.only q=true:=by
 cases x with
 |box y=>simp only[aq.only] at *;exact Abs.iO h y hx
 |b5 T sz es=>simp only[aq.only] at *;exact ig h es hx
 |dD o=>rfl
 |dG T xs=>rfl
 |bt ks vs=>simp only[aq.only,t8] at *;exact ⟨ig h ks hx.1,ig h vs hx.2⟩
 |it ks vs left cur=>simp only[aq.only,t8] at *;exact ⟨ig h ks hx.1,ig h vs hx.2⟩
theorem BT{x:I}(h:x.bu=true):x.bT=true:=by
 cases x <;>first | rfl | simp[I.bu] at h
theorem sh{aN:Bool}{A0:ai}{ρ:List (Nat×Nat)}{os:List (Nat×aq)} : ∀ xs:List I,I.cg xs=true→gK aN A0 ρ os xs xs
 | [],_=>trivial
 |x::xs,h=>by
  simp only[I.cg,t8] at h;exact ⟨.inl ⟨(rq _ x h.1).symm,kr _ x h.1,BT h.1⟩,sh xs h.2⟩
structure eY (os os':List (Nat×aq)):Prop where
 same:∀ m,az os' m=az os m
 ok:∀ m x,aj os' m=some x→x.only (az os')=true∧x.eg=true
 lQ:∀ m,az os m=true→1000000≤m
def x8(P:Program)(g:FuncId)(caps:List I)(N:Nat)(item:Nat→List I):Prop :=
 ∀ (Y:Value→List I→List (Nat×aq)→cC→Prop) (v:Value) (aZ:Nat→List (Nat×aq)→Prop) (Ix:List (Nat×aq)→Prop) (os:List (Nat×aq)),v.oneCell'=true →
  (∀ k os' post,k<N→aZ k os'→(∀ r os2,(r=.bool true∧aZ (k+1) os2)∨(r=.bool false∧Ix os2)→post r os2)→Y v (item k) os' post) →
  (∀ k os',aZ k os'→eY os os')→(∀ os',Ix os'→eY os os')→aZ 0 os→kD P g Y (.raw v::caps) os (fun r os'=>r=.tuple []∧(aZ N os'∨Ix os'))
def en(o:Obj)(os:List (Nat×aq)):List (Nat×aq):=(1999999,.dD o)::os
theorem kY(o:Obj)(os:List (Nat×aq))(m:Nat):az (en o os) m=(decide (m=1999999)||az os m):=by
 simp only[en,az,aj];by_cases h:m=1999999 <;>simp[h]
theorem pf(o:Obj)(os:List (Nat×aq))(m:Nat):aj (en o os) m=if m=1999999 then some (.dD o) else aj os m:=rfl
theorem eY.en{os os':List (Nat×aq)}(h:eY os os')(o o':Obj):eY (en o os) (en o' os'):=by
 refine ⟨fun m=>by rw[kY,kY,h.same],fun m x hx =>?_,fun m hm =>?_⟩
 ·rw[pf] at hx;split at hx
  ·cases hx;exact ⟨rfl,rfl⟩
  ·obtain ⟨J,U⟩:=h.ok m x hx;exact ⟨x.iO (fun n hn=>by rw[kY,hn];simp) J,U⟩
 ·rw[kY] at hm;simp only[Bool.or_eq_true,decide_eq_true_eq] at hm;rcases hm with rfl | hm
  ·decide
  ·exact h.lQ m hm
def tv:List Nat→List I→List (Nat×I)→List (Nat×I)
 |p::ps,v::vs,ts=>tv ps vs ((p,v)::ts)
 |_,_,ts=>ts
def nd(ρ:List (Nat×Nat))(p:Nat→Bool)(ts:List (Nat×I)):List (Nat×I)→Prop
 | []=>True
 |(k,v)::r=>bX ts k=v.bm (bK ρ)∧v.only p=true∧nd ρ p ts r
theorem Fh{ρ:List (Nat×Nat)}{p:Nat→Bool}{ts:List (Nat×I)} : ∀ {tsR:List (Nat×I)},nd ρ p ts tsR→∀ k,bX tsR k=.dp∨(bX ts k=(bX tsR k).bm (bK ρ)∧(bX tsR k).only p=true)
 | [],_,k=>.inl rfl
 |(j,v)::r,h,k=>by
  simp only[nd] at h;simp only[bX];split
  ·rename_i hk;subst hk;exact .inr ⟨h.1,h.2.1⟩
  ·exact Fh h.2.2 k
section
variable {c:cS} {a:Act} {w:World} {D:aR} {E:a8}
theorem aW.xz{A:ai}(h:aW c A a w D E){n b:Nat}{o o':Obj}(hn:A.o n=some (.dD o))(ay:E n=some (.op b))(ho:o5 o'=true):aW c (A.aV n (.dD o')) a (w.putObj b o') D E:=by
 have hob:=h.bQ n;rw[hn] at hob;obtain ⟨b',k1,k2,k3,k4,k5⟩:=hob;rw[ay] at k1;cases k1;have hnc:o.isCells=false:=by cases o <;>first | rfl | cases k4
 have hlt:b<w.heap.size:=fE k3;have ao:dS w D E (w.putObj b o') D E:=⟨fun _ _ h=>h,fun b1 o1 v _ hv=>uZ k3 hnc hv,fun _ _ _ h=>h,fun _ aJ l h=>⟨aJ,l,h,zz3 _,fun _=>rfl⟩,fun _ _ h=>h,fun _ _ h=>h,fun b1 es ck af hm=>(World.putObj_heap_other (fun e1=>k5 0 (by rw[←e1];exact af))).trans hm⟩
 refine ⟨h.sz,h.eE.mono fun B _ hB=>(World.putObj_heap_other (fun e=>by rw[e,k3] at hB;cases hB;cases k4)).trans hB,fun t=>bd.later ao (h.dO t),h.dM.trans ⟨rfl,rfl,rfl,by simp,fun k hk=>World.putObj_heap_other (fun e=>hk (e▸k2))⟩,h.cX,
  fun b1 o1 af=>by have:=h.aQ b1 o1 af;simpa using this,fun m =>?_,h.cL,h.dP,h.eP,h.cQ,h.eX,h.kB ao⟩
 simp only[ai.aV];by_cases hm:m=n
 ·subst hm;simp only[if_true,cV];exact ⟨b,ay,k2,World.putObj_heap_same hlt,ho,k5⟩
 ·simp only[if_neg hm];exact (h.bQ m).later ao rfl fun e b1 he hb=>⟨World.putObj_heap_other (fun e1=>hm (h.cL m n e _ b1 he ay hb (by rw[e1];rfl))),fun _ ho=>ho⟩
theorem aW.MC{A:ai}(h:aW c A a w D E){n b:Nat}(ay:E n=some (.op b)):aW c ⟨A.t,fun m=>if m=n then none else A.o m⟩ a w D (fun m=>if m=n then none else E m):=by
 have hne:∀ {m:Nat} {e:bO},E m=some e→(∀ b,e≠.op b)→m≠n:=fun he U e'=>by
  subst e';rw[ay] at he;cases he;exact U _ rfl
 have ao:dS w D E w D (fun m=>if m=n then none else E m):=by
  refine ⟨fun _ _ h=>h,fun _ _ _ _ h=>h,fun m b aX he =>?_,fun m aJ l he=>⟨aJ,l,?_,zz3 _,fun _=>rfl⟩,fun m b he =>?_,fun m b he =>?_,fun _ _ _ _ h=>h⟩
  ·simp only[if_neg (hne he (fun b=>by simp))];exact he
  ·simp only[if_neg (hne he (fun b=>by simp))];exact he
  ·simp only[if_neg (hne he (fun b=>by simp))];exact he
  ·simp only[if_neg (hne he (fun b=>by simp))];exact he
 refine ⟨h.sz,h.eE,fun t=>bd.later ao (h.dO t),h.dM,h.cX,h.aQ,fun m =>?_,fun m m' e e' b J U ah ar =>?_,fun m e hm =>?_,h.eP,h.cQ,h.eX,h.fu⟩
 ·by_cases hm:m=n
  ·simp only[hm,if_true,cV]
  ·simp only[if_neg hm];exact (h.bQ m).later ao (by simp only[if_neg hm]) fun _ _ _ _=>⟨rfl,fun _ ho=>ho⟩
 ·split at J
  ·cases J
  ·split at U
   ·cases U
   ·exact h.cL m m' e e' b J U ah ar
 ·by_cases hmn:m=n
  ·left;simp only[hmn,if_true]
  ·simp only[if_neg hmn];exact h.dP m e hm
theorem aW.enter{ts:List (Nat×I)}{os0:List (Nat×aq)}(h:aW c (au ts os0) a w D E)(hbase:c.fj=none)(hfree:aj os0 999999=none)(hE0:c.dh 999999=none){o:Obj}(ho:o5 o=true) :
  ∃ E1,aW c (au ts ((999999,.dD o)::os0)) { a with defers := { target:=.collected w.heap.size,args := #[] } :: a.defers } ((w.alloc (.deferred (some []))).alloc o) D E1∧E1 999999=some (.op (w.heap.size+1))∧∀ xs vs,aI w D E xs vs→aI ((w.alloc (.deferred (some []))).alloc o) D E1 xs vs:=by
 have hb:Below w.heap.size w ((w.alloc (.deferred (some []))).alloc o):=((Below.refl _ w).alloc (zz3 _) _).alloc (by simp) _;have J:=h.grow (D':=D) hb (fun _ _ h=>h) (fun _ _ h _=>h) (fun b o' af=>by have:=h.aQ b o' af;simp;omega);obtain ⟨W,hW⟩:∃ W,W=(w.alloc (.deferred (some []))).alloc o:=⟨_,rfl⟩
 have hL:W.heap[w.heap.size+1]?=some o:=by
  rw[hW];have:=World.alloc_heap_new (w.alloc (.deferred (some []))) o;rwa [World.size_alloc] at this
 have hK:W.heap[w.heap.size]?=some (.deferred (some [])):=by
  rw[hW];exact (Below.heap_alloc _ _ _ (by simp)).trans (World.alloc_heap_new w _)
 rw[←hW] at J hb ⊢;have hEn:E 999999=none:=by have:=h.bQ 999999;simp only[au,hfree] at this;exact this
 have ao:dS W D E W D (fun m=>if m=999999 then some (.op (w.heap.size+1)) else E m):=by
  refine ⟨fun _ _ h=>h,fun _ _ _ _ h=>h,fun m b aX he =>?_,fun m aJ l he=>⟨aJ,l,?_,zz3 _,fun _=>rfl⟩,fun m b he =>?_,fun m b he =>?_,fun _ _ _ _ h=>h⟩
  all_goals
   have:m≠999999:=fun e=>by rw[e,hEn] at he;cases he
   simp only[if_neg this];exact he
 have hsz:c.fT.heap.size≤w.heap.size:=h.dM.size;have nb:∀ {m:Nat} {e:bO} {b:Nat},E m=some e→e.aJ=some b→b<w.heap.size:=fun he hb'=>h.fV he hb';refine ⟨fun m=>if m=999999 then some (.op (w.heap.size+1)) else E m,⟨J.sz,?_,fun t=>bd.later ao (J.dO t),J.dM,J.cX,J.aQ,fun m =>?_,fun m m' e e' b g1 g2 g3 g4 =>?_,fun m e hm =>?_,J.eP,J.cQ,J.eX,J.fu⟩,by simp,fun xs vs hx=>aI.later ao xs vs (aI.later (dS.grow hb fun _ _ h=>h) xs vs hx)⟩
 ·have hdf:=J.eE;rw[hbase] at hdf ⊢;obtain ⟨Bs,k1,k2,k3⟩:=hdf;refine ⟨w.heap.size::Bs,by simp only[zz4];rw[←k1],List.nodup_cons.2 ⟨fun hin =>?_,k2⟩,fun B hB =>?_⟩
  ·have hdf':=h.eE;rw[hbase] at hdf';obtain ⟨Bs',j1,_,j3⟩:=hdf';have e1:Bs=Bs':=by
    have:Bs.map (fun B=>({ target:=.collected B,args := #[] } : Deferred))=Bs'.map (fun B => { target:=.collected B,args := #[] }):=by rw[←k1,←j1]
    exact (List.map_inj_right (fun x y hxy=>by simpa using hxy)).1 this
   rw[e1] at hin;have:=fE (j3 _ hin).2;omega
  ·rcases zw4.1 hB with rfl | hB
   ·exact ⟨hsz,hK⟩
   ·exact k3 B hB
 ·simp only[au,aj];by_cases hm:m=999999
  ·subst hm;simp only[if_true,cV];exact ⟨_,rfl,.inl (by omega),hL,ho,fun o' af=>by have:=h.aQ _ o' af;omega⟩
  ·simp only[if_neg hm];exact (J.bQ m).later ao (by simp only[if_neg hm]) fun _ _ _ _=>⟨rfl,fun _ ho=>ho⟩
 ·by_cases hm:m=999999 <;>by_cases hm':m'=999999
  ·rw[hm,hm']
  ·simp only[if_pos hm,v6] at g1;simp only[if_neg hm'] at g2;subst g1;simp only[bO.aJ,v6] at g3;have:=nb g2 g4;omega
  ·simp only[if_neg hm] at g1;simp only[if_pos hm',v6] at g2;subst g2;simp only[bO.aJ,v6] at g4;have:=nb g1 g3;omega
  ·simp only[if_neg hm] at g1;simp only[if_neg hm'] at g2;exact h.cL m m' e e' b g1 g2 g3 g4
 ·have hmn:m≠999999:=fun e=>by rw[e,hE0] at hm;cases hm
  simp only[if_neg hmn];exact h.dP m e hm
theorem cV.h4{M M':Nat→Prop}{n:Nat}{x:Option aq}(h:cV M w D E n x)(hM:∀ e b,E n=some e→e.aJ=some b→M' b):cV M' w D E n x:=by
 unfold cV at *;split
 ·exact h
 ·obtain ⟨b,cs,T,J,_,ah⟩:=h;exact ⟨b,cs,T,J,hM _ b J rfl,ah⟩
 ·obtain ⟨aJ,J,U,ah⟩:=h;refine ⟨aJ,J,U,?_⟩;split
  ·exact ah
  ·obtain ⟨cs,pre,rest,_,ar⟩:=ah;exact ⟨cs,pre,rest,hM _ _ J rfl,ar⟩
 ·obtain ⟨b,J,_,ah⟩:=h;exact ⟨b,J,hM _ b J rfl,ah⟩
 ·obtain ⟨b,es,ck,J,_,ah⟩:=h;exact ⟨b,es,ck,J,hM _ b J rfl,ah⟩
 ·obtain ⟨r,b,es,ck,si,se,la,J,_,ah⟩:=h;exact ⟨r,b,es,ck,si,se,la,J,hM _ r J rfl,ah⟩
 ·obtain ⟨aJ,J,U,ah⟩:=h;refine ⟨aJ,J,U,?_⟩;split
  ·exact ah
  ·obtain ⟨cs,m,_,ar⟩:=ah;exact ⟨cs,m,hM _ _ J rfl,ar⟩
theorem aW.Dd{os:List (Nat×aq)} : ∀ (ps:List Nat) (vs:List Value) (xs:List I) (ts:List (Nat×I)) (a:Act),aW c (au ts os) a w D E→(∀ p∈ps,p<c.n)→aI w D E xs vs→ps.length=vs.length →
  aW c (au (tv ps xs ts) os) { a with tmps:=(ps.zip vs).foldl (fun t q=>t.setIfInBounds q.1 q.2) a.tmps } w D E
 | [],[],xs,ts,a,h,_,hv,_=>by
  cases xs with
  |nil=>exact h
  |cons x xs=>simp[aI] at hv
 | [],_::_,_,_,_,_,_,_,ao=>by simp at ao
 |_::_,[],_,_,_,_,_,_,ao=>by simp at ao
 |p::ps,v::vs,xs,ts,a,h,hp,hv,ao=>by
  cases xs with
  |nil=>simp[aI] at hv
  |cons x xs =>
   simp only[aI] at hv;obtain ⟨v',rest,cs,e,J,U,ah⟩:=hv;simp only[zw9] at e;obtain ⟨rfl,rfl⟩:=e;have ar:=h.put (hp p (by simp)) (jC J U);rw[ta] at ar;have:=aW.Dd ps vs xs ((p,x)::ts) (a.put (some p) v) ar (fun q hq=>hp q (by simp[hq])) ah (by simpa using ao);exact this
end
end Go.Abs
namespace Go.Abs
open Go Go.RowKit
def iW:bS→Bool
 | .mv _ | .pick .. | .bin .. | .eqv .. | .conv .. | .un .. | .fl .. | .ix .. | .lenT _ | .bld .. | .ext .. | .mk .. | .nilC _ | .ptrE .. | .max2 .. =>true
 | .ld .. | .fa .. | .ia .. | .is .. | .len _ | .va .. | .bs .. | .sl .. | .cap _ | .bs0 _ | .lk .. =>true
 |_=>false
def mO:bS→Bool
 | .alloc _ | .box _ | .aP .. | .call .. | .fK .. | .di .. =>true
 |op=>iW op
def pc(ab:List FuncId):bS→Bool
 | .alloc _ | .box _=>true
 | .call f _ => !ab.contains f
 |op=>iW op
abbrev ea:=List (Nat×List Nat)
def hU(L:ea)(s:Nat):Option (List Nat):=(L.find? fun q=>q.1==s).map (·.2)
def cN(L:ea)(A:ai):Prop:=∀ s ns,hU L s=some ns→(A.t s).only (fun n=>ns.contains n)=true
def qK(L:ea):aO→Option (List Nat)
 | .t s=>hU L s
 | .c x=>if x.bu then some [] else none
def tT(a:Option (List Nat))(ns:List Nat):Bool:=match a with
 |some ms=>ms.all fun m=>ns.contains m
 |none=>false
def hZ(L:ea)(g:aH):Bool:=match g.dst with
 |none=>true
 |some d=>match hU L d with
  |none=>true
  |some ns=>match g.op with
   | .mv x | .nilC x | .fa _ _ x | .ia _ _ x _=>tT (qK L x) ns
   | .bin .. | .len _ | .bs .. | .bs0 _ | .conv .. | .lenT _=>true
   | .box _ | .alloc _=>ns.contains d
   |_=>false
def mN:bS→Option (List Nat)
 | .ld _ (.t x) | .fa _ _ (.t x) | .ia _ _ (.t x) _ | .is _ (.t x) _ | .len (.t x) | .va _ _ (.t x) | .sl _ (.t x) _ _ _ | .cap (.t x) | .lk _ _ _ (.t x) _=>some [x]
 | .bs _ _ ps=>if (ps.all fun x=>match x with | .t _=>true | .c _=>false)=true then some (jK ps) else none
 | .bs0 _=>some []
 |op=>if op.gD=0∧iW op=true then some [] else none
def sf(L:ea)(g:aH)(p:Nat→Bool):Bool:=match mN g.op with
 |some xs=>xs.all fun s=>match hU L s with | some ns=>ns.all p | none=>false
 |none=>false
def nU(ab:List FuncId)(L:ea)(g h:aH):Bool:=pc ab h.op||match h.op with
 | .aP _ (.t y) _=>match mN g.op with
  |some []=>true
  |_=>match hU L y with
   |some ms=>sf L g fun n => !ms.contains n
   |none=>false
 | .aP .. =>match mN g.op with
  |some []=>true
  |_=>false
 | .di _ _ _ _ s _=>sf L g (fun _=>false)||tT (qK L s) []
 |_=>false
def mG(ab:List FuncId)(L:ea)(g h:aH):Bool:=iW g.op&&(nU ab L g h&&((match g.dst with
  |some d => !h.c4.contains d&&h.dst != some d
  |none=>true)&&(match h.dst with
  |some d => !g.c4.contains d
  |none=>true)))
theorem vT{op:bS}(h:iW op=true)(A:ai)(dst:Option Nat)(rest:List aH)(k:ai→cI):bj A dst op rest k=cP (bn A op) fun v=>k (A.aU dst v):=by
 cases op <;>first | rfl | cases h
inductive bP (P:Program) (Y:Value→List I→List (Nat×aq)→cC→Prop) (ab:List FuncId) (K:ai→Prop):cI→Prop where
 |done {A:ai} : K A→bP P Y ab K (.done A)
 |flat {f:FuncId} {avs cargs:List I} {a2:Option (List I)} {dst:Option Nat} {rest:List aH} {A:ai} (r:I):bf P f cargs r→r.flat=true→bP P Y ab K (aB rest (A.aU dst r))→bP P Y ab K (.call f avs (some cargs) a2 dst rest A)
 |lead {f:FuncId} {avs cargs:List I} {a1:Option (List I)} {dst:Option Nat} {rest:List aH} {A:ai} (r:I):bf P f cargs r→bP P Y ab K (aB rest (A.aU dst r))→bP P Y ab K (.call f avs a1 (some cargs) dst rest A)
 |bQ {f:FuncId} {avs:List I} {a1 a2:Option (List I)} {dst:Option Nat} {rest:List aH} {ts:List (Nat×I)} {os0:List (Nat×aq)} (ρ:List (Nat×Nat)) (cargs:List I) (post:cC):cR P f cargs [] post →
   gi ρ [] os0→gK false (au ts os0) ρ [] avs cargs→(∀ r os',post r os'→gA false ρ [] os0 r os') →
   (∀ r os',post r os'→bP P Y ab K (aB rest ((au ts (dy ρ os'++os0)).aU dst (r.bm (bK ρ)))))→bP P Y ab K (.call f avs a1 a2 dst rest (au ts os0))
 |any {p:Nat→Prop} {k:Nat→cI} : (∀ m,p m→bP P Y ab K (k m))→bP P Y ab K (.any p k)
 |wJ {f:FuncId} {avs:List I} {a1 a2:Option (List I)} {dst:Option Nat} {rest:List aH} {ts:List (Nat×I)} {os0:List (Nat×aq)} (aN:Bool) (ρ:List (Nat×Nat)) (os:List (Nat×aq)) (cargs:List I) (post:cC):ab.contains f=true→cR P f cargs os post →
   gi ρ os os0→gK aN (au ts (eL (iK ρ os) os0)) ρ os avs cargs→(∀ r os',post r os'→gA aN ρ os os0 r os') →
   (∀ r os',post r os'→bP P Y ab K (aB rest ((au ts (dy ρ os'++os0)).aU dst (r.bm (bK ρ)))))→bP P Y ab K (.call f avs a1 a2 dst rest (au ts os0))
 |FD {v:Value} {avs:List I} {dst:Option Nat} {rest:List aH} {ts:List (Nat×I)} {os0:List (Nat×aq)} (os:List (Nat×aq)) (cargs:List I) (post:cC):Y v cargs os post →
   gi [] os os0→gK false (au ts (eL (iK [] os) os0)) [] os avs cargs→(∀ r os',post r os'→gA false [] os os0 r os') →
   (∀ r os',post r os'→bP P Y ab K (aB rest ((au ts (dy [] os'++os0)).aU dst (r.bm (bK [])))))→bP P Y ab K (.kN v avs dst rest (au ts os0))
theorem AF(os:List (Nat×aq)):eL [] os=os:=by simp[eL]
section
variable {P:Program} {ab:List FuncId} {K:ai→Prop} {Y:Value→List I→List (Nat×aq)→cC→Prop}
theorem bP.yi{p:Nat→Prop}{k:Nat→cI}(h:bP P Y ab K (.any p k)):∀ m,p m→bP P Y ab K (k m):=by cases h;assumption
theorem cN.put{L:ea}{A B:ai}(h:cN L A)(ht:∀ k,B.t k=A.t k){dst:Option Nat}{v:I}(hv:∀ d,dst=some d→∀ ns,hU L d=some ns→v.only (fun n=>ns.contains n)=true):cN L (B.aU dst v):=by
 intro s ns hs';cases dst with
 |none=>exact (ht s).symm▸h s ns hs'
 |some d =>
  simp only[ai.aU,ai.put];by_cases af:s=d
  ·rw[if_pos af];exact hv d rfl ns (af▸hs')
  ·rw[if_neg af,ht];exact h s ns hs'
theorem rK{L:ea}{A:ai}(h:cN L A){x:aO}{ns:List Nat}(hx:tT (qK L x) ns=true):(ak A x).only (fun n=>ns.contains n)=true:=by
 cases x with
 |c x =>
  simp only[qK] at hx;split at hx
  ·rename_i hc;exact kr _ x hc
  ·cases hx
 |t s =>
  simp only[qK] at hx;cases ao:hU L s with
  |none=>rw[ao] at hx;cases hx
  |some ms =>
   rw[ao] at hx;simp only[tT,zx0] at hx;exact iO (fun n hn=>hx n (by simpa using hn)) _ (h s ms ao)
theorem HD{op:BinOp}{x y v:I}(p:Nat→Bool)(h:cz op x y=some v):v.only p=true:=by
 unfold cz at h
 (repeat' split at h) <;>first | (cases h;done) | (simp only[v6] at h;subst h;rfl)
theorem wR{p:Nat→Bool} : ∀ {xs:List I} {i:Nat} {x:I},I.cv p xs=true→xs[i]?=some x→x.only p=true
 | [],_,_,_,h=>by simp at h
 |a::xs,0,x,h,e=>by
  simp only[I.cv,t8] at h;simp only[List.getElem?_cons_zero,v6] at e;exact e▸h.1
 |a::xs,i+1,x,h,e=>by
  simp only[I.cv,t8] at h;exact wR (xs:=xs) h.2 (by simpa using e)
theorem CH{L:ea}{A:ai}{g:aH}(h:cN L A)(hg:hZ L g=true){v:I}(hv:bn A g.op=some v):∀ d,g.dst=some d→∀ ns,hU L d=some ns→v.only (fun n=>ns.contains n)=true:=by
 intro d af ns hn;obtain ⟨dst,op,gd⟩:=g;simp only at af hv;subst af;simp only[hZ,hn] at hg;cases op <;>simp only at hg <;>(try (cases hg;done)) <;>simp only[bn] at hv <;>(try (cases hv;done))
 case mv x=>simp only[v6] at hv;exact hv▸rK h hg
 case nilC x =>
  have:=rK h hg;generalize ak A x=u at hv this;cases u <;>simp only[lU] at hv <;>first | (cases hv;done) | (simp only[v6] at hv;exact hv▸this)
 case bin op x y=>exact HD _ hv
 case conv k x=>split at hv <;>first | (cases hv;done) | (simp only[v6] at hv;subst hv;rfl)
 case lenT x=>split at hv <;>first | (cases hv;done) | (simp only[v6] at hv;subst hv;rfl)
 case len x=>(repeat' split at hv) <;>first | (cases hv;done) | (simp only[v6] at hv;subst hv;rfl)
 case bs0 e=>simp only[v6] at hv;subst hv;rfl
 case bs e ps =>
  split at hv
  ·split at hv
   ·rename_i hc;simp only[v6] at hv;subst hv;simp only[I.only];exact nT _ _ hc.2
   ·cases hv
  ·cases hv
 case fa f off x =>
  have hx:=rK h hg;split at hv
  ·rename_i fs he;rw[he] at hx;simp only[I.only] at hx;split at hv
   ·rename_i u hu;split at hv
    ·simp only[v6] at hv;subst hv;simp only[I.only];exact wR hx hu
    ·cases hv
   ·cases hv
  ·rename_i n q he;rw[he] at hx;simp only[I.only] at hx;split at hv
   ·split at hv
    ·simp only[v6] at hv;subst hv;simpa only[I.only] using hx
    ·cases hv
   ·cases hv
  ·cases hv
 case ia n esz x i =>
  have hx:=rK h hg;split at hv
  case h_2=>cases hv
  split at hv
  case isFalse=>cases hv
  split at hv
  ·rename_i fs he;rw[he] at hx;simp only[I.only] at hx;split at hv
   ·simp only[t7] at hv;obtain ⟨u,hu,rfl⟩:=hv;simp only[I.only];exact wR hx hu
   ·cases hv
  ·rename_i m q he;rw[he] at hx;simp only[I.only] at hx;split at hv
   ·split at hv
    ·simp only[v6] at hv;subst hv;simpa only[I.only] using hx
    ·cases hv
   ·cases hv
  ·cases hv
def gl(A:ai)(dst:Option Nat)(s:I)(B:ai):Prop:=(∀ t,dst≠some t→B.t t=A.t t)∧(s.only (fun _=>false)=true→ep A B)
def nm(A:ai)(dst:Option Nat)(s:I)(R:(ai→cI)→cI):Prop :=
 (∀ k,R k=.fail)∨(∃ B,(∀ k,R k=k B)∧gl A dst s B)∨∃ (p:Nat→Prop) (bC:Nat→ai),(∀ k,R k=.any p fun m=>k (bC m))∧∀ m,gl A dst s (bC m)
theorem rj{A B:ai}{dst:Option Nat}{v:I}{t:Nat}(ht:∀ k,B.t k=A.t k)(h:dst≠some t):(B.aU dst v).t t=A.t t:=by
 cases dst with
 |none=>exact ht t
 |some d =>
  have:t≠d:=fun e=>h (by rw[e]);simp only[ai.aU,ai.put,if_neg this];exact ht t
theorem G7(A:ai)(dst:Option Nat)(esz bytes:Nat)(z s:I)(es ys:List I):nm A dst s (fU A dst esz bytes z es ys):=by
 cases dst with
 |none=>exact .inl fun _=>rfl
 |some d =>
  cases ho:A.o d with
  |some y=>exact .inl fun k=>by simp only[fU,ho]
  |none =>
   by_cases hc:(es.length+ys.length)*bytes≤140737488355328∧es.length+ys.length≤maxLen
   ·refine .inr (.inr ⟨_,fun m=>(A.aV d (.box (.agg (es++(ys++List.replicate m z))))).aU (some d) (.view d [] esz 0 (es.length+ys.length)),fun k=>by simp only[fU,ho];rw[if_pos hc],fun m=>⟨fun t ht=>rj (A:=A) (B:=A.aV d _) (fun _=>rfl) ht,fun _ n y hy =>?_⟩⟩);have:n≠d:=fun e=>by rw[e,ho] at hy;cases hy
    rw[im];simp only[ai.aV,if_neg this];exact hy
   ·exact .inl fun k=>by simp only[fU,ho];rw[if_neg hc]
theorem Hc(A:ai)(dst:Option Nat)(esz bytes:Nat)(z s:I)(es ys:Option (List I)):nm A dst s (e7 A dst esz bytes z s es ys):=by
 cases es with
 |none=>exact .inl fun _=>rfl
 |some es =>
  cases ys with
  |none=>exact .inl fun _=>rfl
  |some ys =>
   by_cases aY:ys=[]
   ·exact .inr (.inl ⟨A.aU dst s,fun k=>by simp only[e7,if_pos aY],fun t ht=>rj (A:=A) (fun _=>rfl) ht,fun _ n y hy=>by rw[im];exact hy⟩)
   ·have gg:=fun s'=>G7 A dst esz bytes z s' es ys;cases s
    case nils=>simp only[nm,e7,if_neg aY];exact gg _
    case c0=>simp only[nm,e7,if_neg aY];exact gg _
    case view n p sz lo l =>
     cases ho:A.o n with
     |none=>exact .inl fun k=>by simp only[e7,if_neg aY,ho]
     |some y =>
      cases y with
      |box b =>
       cases hb:b.at p with
       |none=>exact .inl fun k=>by simp only[e7,if_neg aY,ho,hb]
       |some c =>
        cases c
        case agg fs =>
         by_cases J:lo+l+ys.length≤fs.length
         ·by_cases U:sz=esz∧I.cT ys=I.cT ((fs.drop (lo+l)).take ys.length)
          ·exact .inr (.inl ⟨(A.aV n (.box (jo b p (lo+l) fs ys))).aU dst (.view n p esz lo (l+ys.length)),fun k=>by simp only[e7,if_neg aY,ho,hb,if_pos J];rw[if_pos U],fun t ht=>rj (A:=A) (B:=A.aV n _) (fun _=>rfl) ht,fun h=>by simp[I.only] at h⟩)
          ·exact .inl fun k=>by simp only[e7,if_neg aY,ho,hb,if_pos J];rw[if_neg U]
         ·simp only[nm,e7,if_neg aY,ho,hb,if_neg J];exact gg _
        all_goals exact .inl fun k=>by simp only[e7,if_neg aY,ho,hb]
      |_=>exact .inl fun k=>by simp only[e7,if_neg aY,ho]
    all_goals exact .inl fun k=>by simp only[e7,if_neg aY]
theorem yl(A:ai)(dst:Option Nat)(e esz bytes:Nat)(z:I)(s x:aO)(rest:List aH):nm A dst (ak A s) (bj A dst (.di e esz bytes z s x) rest):=by
 generalize ab:ak A s=xJ;cases xJ
 case own n l =>
  cases hx:ak A x
  case slice sz ys =>
   cases ho:A.o n with
   |none=>exact .inl fun k=>by simp only[bj,ab,hx,ho]
   |some y =>
    cases y with
    |b5 T sz' es =>
     by_cases hc:wL e esz bytes l sz ys T sz' es
     ·exact .inr (.inl ⟨(A.aV n (.b5 e esz (es++ys))).aU dst (.own n (es.length+ys.length)),fun k=>by simp only[bj,ab,hx,ho];rw[if_pos hc],fun t ht=>rj (A:=A) (B:=A.aV n _) (fun _=>rfl) ht,fun h=>by simp[I.only] at h⟩)
     ·exact .inl fun k=>by simp only[bj,ab,hx,ho];rw[if_neg hc]
    |dG T xs =>
     by_cases hc:wM e esz bytes l ys T xs z
     ·exact .inr (.inl ⟨(A.aV n (.dG e (xs++qC ys))).aU dst (.own n (xs.length+ys.length)),fun k=>by simp only[bj,ab,hx,ho];rw[if_pos hc],fun t ht=>rj (A:=A) (B:=A.aV n _) (fun _=>rfl) ht,fun h=>by simp[I.only] at h⟩)
     ·exact .inl fun k=>by simp only[bj,ab,hx,ho];rw[if_neg hc]
    |_=>exact .inl fun k=>by simp only[bj,ab,hx,ho]
  all_goals exact .inl fun k=>by simp only[bj,ab,hx]
 all_goals (simp only[nm,bj,ab];exact Hc ..)
theorem w5{A:ai}{d:Nat}{v:I}{n:Nat}{y:aq}{dst:Option Nat}{u:I}(h:dst≠some d):((A.put d v).aV n y).aU dst u=((A.aV n y).aU dst u).put d v:=by
 cases dst with
 |none=>rfl
 |some e =>
  have:e≠d:=fun he=>h (by rw[he]);simp only[ai.aU,ai.put,ai.aV,ai.mk.injEq,and_true]
  funext k
  by_cases J:k=e <;>by_cases U:k=d <;>simp_all
theorem Y2{A:ai}{d:Nat}{v:I}{dst:Option Nat}{u:I}(h:dst≠some d):(A.put d v).aU dst u=(A.aU dst u).put d v:=by
 cases dst with
 |none=>rfl
 |some e =>
  have:e≠d:=fun he=>h (by rw[he]);simp only[ai.aU,ai.put,ai.mk.injEq,and_true]
  funext k
  by_cases J:k=e <;>by_cases U:k=d <;>simp_all
theorem G8{A:ai}{d:Nat}{v:I}{dst:Option Nat}(h:dst≠some d)(esz bytes:Nat)(z:I)(es ys:List I)(k:ai→cI):fU (A.put d v) dst esz bytes z es ys k=fU A dst esz bytes z es ys fun B=>k (B.put d v):=by
 cases dst with
 |none=>rfl
 |some e =>
  simp only[fU];have:(A.put d v).o=A.o:=rfl;rw[this];cases A.o e with
  |some _=>rfl
  |none =>
   simp only;split
   ·simp only[w5 h]
   ·rfl
theorem Hd{A:ai}{d:Nat}{v:I}{dst:Option Nat}(h:dst≠some d)(esz bytes:Nat)(z s:I)(es ys:Option (List I))(k:ai→cI):e7 (A.put d v) dst esz bytes z s es ys k=e7 A dst esz bytes z s es ys fun B=>k (B.put d v):=by
 have ho:(A.put d v).o=A.o:=rfl;cases es with
 |none=>rfl
 |some es =>
  cases ys with
  |none=>rfl
  |some ys =>
   simp only[e7];split
   ·rw[Y2 h]
   ·cases s <;>simp only[G8 h,ho]
    rename_i n p sz lo l;cases A.o n with
    |none=>rfl
    |some y =>
     cases y with
     |box b =>
      simp only;cases b.at p with
      |none=>rfl
      |some c =>
       cases c <;>simp only[w5 h]
     |_=>rfl
theorem Hh{A:ai}{d:Nat}{v:I}{dst:Option Nat}(h:dst≠some d){e esz bytes:Nat}{z:I}{s x:aO}(hag:ef A (A.put d v) (s.sl++x.sl))(rest rest':List aH)(k:ai→cI) :
  bj (A.put d v) dst (.di e esz bytes z s x) rest k=bj A dst (.di e esz bytes z s x) rest' fun B=>k (B.put d v):=by
 have ho:(A.put d v).o=A.o:=rfl;have hsrc:∀ y,eK (A.put d v) esz y=eK A esz y:=fun y=>by cases y <;>rfl
 simp only[bj,c8 hag.l,c8 hag.r,hsrc];cases ak A s <;>simp only[Hd h]
 rename_i n l;cases ak A x <;>simp only[ho]
 cases A.o n with
 |none=>rfl
 |some y=>cases y <;>simp only[w5 h]
theorem bP.Ab{L:ea}{f:FuncId}{avs:List I}{a1 a2:Option (List I)}{dst:Option Nat}{rest:List aH}{A:ai}(hi:cN L A)(af:∀ d,dst=some d→hU L d=none)(h:bP P Y ab K (.call f avs a1 a2 dst rest A)) :
  aS P Y false (fun B=>bP P Y ab K (aB rest B)∧cN L B) (.call f avs a1 a2 dst [] A):=by
 have no:∀ {v:I},∀ d,dst=some d→∀ ns,hU L d=some ns→v.only (fun n=>ns.contains n)=true:=fun d e ns hn=>by rw[af d e] at hn;cases hn
 cases h with
 |flat r hc hf hw=>exact .flat r hc hf (.done ⟨hw,hi.put (fun _=>rfl) no⟩)
 |lead r hc hw=>exact .lead r hc (.done ⟨hw,hi.put (fun _=>rfl) no⟩)
 |bQ ρ cargs post hc hg ha hb hw=>exact .bQ false ρ [] cargs post rfl hc hg (by simp only[iK,zx8,AF];exact ha) hb fun r os' hp=>.done ⟨hw r os' hp,hi.put (B:=au _ (dy ρ os'++_)) (fun _=>rfl) no⟩
 |wJ aN ρ os cargs post _ hc hg ha hb hw=>exact .bQ aN ρ os cargs post rfl hc hg ha hb fun r os' hp=>.done ⟨hw r os' hp,hi.put (B:=au _ (dy ρ os'++_)) (fun _=>rfl) no⟩
theorem bP.I9{L:ea}{v:Value}{avs:List I}{dst:Option Nat}{rest:List aH}{A:ai}(hi:cN L A)(af:∀ d,dst=some d→hU L d=none)(h:bP P Y ab K (.kN v avs dst rest A)) :
  aS P Y false (fun B=>bP P Y ab K (aB rest B)∧cN L B) (.kN v avs dst [] A):=by
 have no:∀ {v:I},∀ d,dst=some d→∀ ns,hU L d=some ns→v.only (fun n=>ns.contains n)=true:=fun d e ns hn=>by rw[af d e] at hn;cases hn
 cases h with
 |FD os cargs post hc hg ha hb hw=>exact .ua os cargs post rfl hc hg ha hb fun r os' hp=>.done ⟨hw r os' hp,hi.put (B:=au _ (dy [] os'++_)) (fun _=>rfl) no⟩
theorem bP.one{L:ea}{A:ai}{g:aH}{rest:List aH}(hi:cN L A)(ho:mO g.op=true)(hL:hZ L g=true)(h:bP P Y ab K (bj A g.dst g.op rest (aB rest))):aS P Y false (fun B=>bP P Y ab K (aB rest B)∧cN L B) (bj A g.dst g.op [] (aB [])):=by
 have hval:=fun v (hv:bn A g.op=some v)=>CH hi hL hv;obtain ⟨dst,op,gd⟩:=g;simp only at ho h hval ⊢;have pure:iW op=true→aS P Y false (fun B=>bP P Y ab K (aB rest B)∧cN L B) (bj A dst op [] (aB [])):=by
  intro hsm;rw[vT hsm] at h ⊢;cases hv:bn A op with
  |none=>rw[hv] at h;cases h
  |some v=>rw[hv] at h;exact .done ⟨h,hi.put (fun _=>rfl) (hval v hv)⟩
 have unl:(∀ ns d,dst=some d→hU L d=some ns→hZ L ⟨dst,op,gd⟩=false)→∀ d,dst=some d→hU L d=none:=fun J d af=>by
  cases hn:hU L d with
  |none=>rfl
  |some ns=>rw[J ns d af hn] at hL;cases hL
 cases op with
 |alloc z =>
  cases dst with
  |none=>simp only[bj] at h;cases h
  |some d =>
   simp only[bj] at h ⊢;split at h
   case h_2=>cases h
   refine .done ⟨h,hi.put (B:=A.aV d _) (dst:=some d) (fun _=>rfl) fun d' e ns hn =>?_⟩;simp only[v6] at e;subst e;simpa only[hZ,hn,I.only] using hL
 |box x =>
  cases dst with
  |none=>simp only[bj] at h;cases h
  |some d =>
   simp only[bj] at h ⊢;split at h
   case h_2=>cases h
   split at h
   case isFalse=>cases h
   rename_i hv;rw[if_pos hv];refine .done ⟨h,hi.put (B:=A.aV d _) (dst:=some d) (fun _=>rfl) fun d' e ns hn =>?_⟩;simp only[v6] at e;subst e;simpa only[hZ,hn,I.only] using hL
 |aP s x v =>
  cases dst with
  |some d=>simp only[bj] at h;cases h
  |none =>
   simp only[bj] at h ⊢;split at h
   case h_2=>cases h
   rename_i n p hx;split at h
   case h_2=>cases h
   rename_i b hb;split at h
   case h_2=>cases h
   rename_i old hold;split at h
   case isFalse=>cases h
   rename_i hok;simp only[if_pos hok];exact .done ⟨h,fun s ns hn=>hi s ns hn⟩
 |call f args=>exact bP.Ab hi (unl fun ns d e hn=>by subst e;simp only[hZ,hn]) h
 |fK x args =>
  have hu:=unl fun ns d e hn=>by subst e;simp only[hZ,hn]
  simp only[bj] at h ⊢;split at h
  ·exact bP.Ab hi hu h
  ·exact bP.I9 hi hu h
  ·cases h
 |di e esz bytes z s x =>
  have hu:=unl fun ns d e hn=>by subst e;simp only[hZ,hn]
  have sS:∀ B,gl A dst (ak A s) B→cN L B:=fun B hB t ns hn=>by
   rw[hB.1 t fun e=>by rw[hu t e] at hn;cases hn];exact hi t ns hn
  have hf:=yl A dst e esz bytes z s x;rcases hf rest with J | ⟨B,J,U⟩ | ⟨p,bC,J,U⟩
  ·rw[J] at h;cases h
  ·rw[J] at h;have:bj A dst (.di e esz bytes z s x) [] (aB [])=aB [] B:=(show bj A dst (.di e esz bytes z s x) [] (aB [])=bj A dst (.di e esz bytes z s x) rest (aB []) from rfl).trans (J _);rw[this];exact .done ⟨h,sS B U⟩
  ·rw[J] at h;have:bj A dst (.di e esz bytes z s x) [] (aB [])=.any p fun m=>aB [] (bC m):=(show bj A dst (.di e esz bytes z s x) [] (aB [])=bj A dst (.di e esz bytes z s x) rest (aB []) from rfl).trans (J _);rw[this];exact .any rfl fun m hm=>.done ⟨h.yi m hm,sS _ (U m)⟩
 |_=>first | exact pure rfl | cases ho
def gm(g:aH)(A:ai)(v:I):Prop:=(gu A g∧v=.undef)∨(pass A g∧bn A g.op=some v)
theorem bP.xE{A:ai}{g:aH}{rest:List aH}(hs':iW g.op=true)(h:bP P Y ab K (aB (g::rest) A)):∃ v,gm g A v∧bP P Y ab K (aB rest (A.aU g.dst v)):=by
 have step:pass A g→bP P Y ab K (bj A g.dst g.op rest (aB rest))→∃ v,gm g A v∧bP P Y ab K (aB rest (A.aU g.dst v)):=by
  intro hp h;rw[vT hs'] at h;cases hv:bn A g.op with
  |none=>rw[hv] at h;cases h
  |some v=>rw[hv] at h;exact ⟨v,.inr ⟨hp,hv⟩,h⟩
 simp only[aB] at h;split at h
 ·rename_i hg;exact step (by simp only[pass,hg]) h
 ·rename_i t b hg;split at h
  ·rename_i b' hb;split at h
   ·rename_i hbb;subst hbb;exact step (by simp only[pass,hg];exact hb) h
   ·rename_i hbb;exact ⟨_,.inl ⟨by simp only[gu,hg];exact .inl (by rw[hb,uI hbb]),rfl⟩,h⟩
  ·rename_i hb;exact ⟨_,.inl ⟨by simp only[gu,hg];exact .inr hb,rfl⟩,h⟩
  ·cases h
theorem sd{A:ai}{g:aH}{rest:List aH}(hn:gu A g):aB (g::rest) A=aB rest (A.aU g.dst .undef):=by
 simp only[aB];cases hg:g.guard with
 |none=>simp only[gu,hg] at hn
 |some tb =>
  obtain ⟨t,b⟩:=tb;simp only[gu,hg] at hn;rcases hn with hn | hn
  ·simp only[hn];rw[if_neg (by cases b <;>simp)]
  ·simp only[hn]
theorem gm.to{A:ai}{g:aH}{rest:List aH}{v:I}(hs':iW g.op=true)(h:gm g A v):aB (g::rest) A=aB rest (A.aU g.dst v):=by
 rcases h with ⟨hn,rfl⟩ | ⟨hp,hv⟩
 ·exact sd hn
 ·rw[nv hp,vT hs',hv];rfl
theorem Mk{A A':ai}{p:Nat→Bool}(ho:∀ n,p n=true→A'.o n=A.o n){x:I}(hx:x.only p=true):cF A' x=cF A x:=by
 cases x <;>simp only[cF]
 rename_i n q;rw[ho n (by simpa[I.only] using hx)]
mutual
theorem Nd{A A':ai}{p:Nat→Bool}(ho:∀ n,p n=true→A'.o n=A.o n):∀ {x:I},x.only p=true→bg false A' x=bg false A x
 | .own n k,h=>by simp only[bg];rw[ho n (by simpa[I.only] using h)]
 | .func f caps,h=>by simp only[bg];rw[sI ho (xs:=caps) (by simpa[I.only] using h)]
 | .agg fs,h=>by simp only[bg];rw[sI ho (xs:=fs) (by simpa[I.only] using h)]
 | .undef,_ | .dp,_ | .bool _,_ | .int _ _,_ | .bR _,_ | .nilp,_ | .dx,_ | .dV,_ | .any,_ | .raw _,_ | .nils _,_ | .c0 _,_ | .slice _ _,_ | .tuple _,_ | .ref _,_ | .iface _ _,_ | .ptr _ _,_ | .view _ _ _ _ _,_ | .mref _,_ | .dk _,_ | .de _ _,_=>by simp[bg]
theorem sI{A A':ai}{p:Nat→Bool}(ho:∀ n,p n=true→A'.o n=A.o n):∀ {xs:List I},I.cv p xs=true→b8 false A' xs=b8 false A xs
 | [],_=>rfl
 |x::xs,h=>by
  simp only[I.cv,t8] at h;simp only[b8,Nd ho h.1,sI ho h.2]
end
theorem CL{p:Nat→Bool}{f:aO→I} : ∀ {xs:List aO},(∀ x∈xs,(f x).only p=true)→I.cv p (xs.map f)=true
 | [],_=>rfl
 |x::xs,h=>by
  simp only[zz4,I.cv,t8];exact ⟨h x (by simp),CL fun y hy=>h y (by simp[hy])⟩
theorem Xo{A A':ai}{p:Nat→Bool}(ho:∀ n,p n=true→A'.o n=A.o n){x:I}(hx:x.only p=true):fX A' x=fX A x:=by
 cases x with
 |mref n=>simp only[fX];rw[ho n (by simpa[I.only] using hx)]
 |raw v=>cases v <;>first | rfl | (rename_i o;cases o <;>rfl)
 |_=>rfl
theorem YS{A A':ai}{op:bS}{xs:List Nat}{p:Nat→Bool}(hm:mN op=some xs)(h:ef A A' op.c4)(hx:∀ s∈xs,(A.t s).only p=true)(ho:∀ n,p n=true→A'.o n=A.o n):bn A' op=bn A op:=by
 have jU:op.gD=0→bn A' op=bn A op:=fun hc=>w0 hc h;have dl:=fun {x:I} (hx:x.only p=true)=>Mk ho hx;unfold mN at hm;split at hm
 ·rename_i s x;simp only[v6] at hm;subst hm;have e:=h x (by simp[bS.c4,aO.sl]);simp only[bn,ak,e,dl (hx x (by simp))]
 ·rename_i f off x;simp only[v6] at hm;subst hm;have e:=h x (by simp[bS.c4,aO.sl]);have k:=hx x (by simp);simp only[bn,ak,e];generalize A.t x=u at k ⊢;cases u with
  |ptr n q=>simp only[dl (x:=.ptr n q) k]
  |ref c=>cases c <;>rfl
  |_=>rfl
 ·rename_i n esz x i;simp only[v6] at hm;subst hm;have e:=h x (by simp[bS.c4,aO.sl]);have ei:=c8 (x:=i) (fun m hm=>h m (by simp[bS.c4,hm]));have k:=hx x (by simp);simp only[bn,ei];generalize ak A i=w;simp only[ak,e];generalize A.t x=u at k ⊢;cases u with
  |ptr n q=>simp only[dl (x:=.ptr n q) k]
  |ref c=>cases c <;>rfl
  |_=>rfl
 ·rename_i esz x i;simp only[v6] at hm;subst hm;have e:=h x (by simp[bS.c4,aO.sl]);have ei:=c8 (x:=i) (fun m hm=>h m (by simp[bS.c4,hm]));have k:=hx x (by simp);simp only[bn,ei];generalize ak A i=w;simp only[ak,e];generalize A.t x=u at k ⊢;cases u with
  |own n l=>simp only[ho n (by simpa[I.only] using k)]
  |view n q=>simp only[dl (x:=.ptr n q) (by simpa[I.only] using k)]
  |_=>rfl
 ·rename_i x;simp only[v6] at hm;subst hm;have e:=h x (by simp[bS.c4,aO.sl]);have k:=hx x (by simp);simp only[bn,ak,e];generalize A.t x=u at k ⊢;cases u with
  |own n l=>simp only[ho n (by simpa[I.only] using k)]
  |_=>rfl
 ·rename_i n esz x;simp only[v6] at hm;subst hm;have e:=h x (by simp[bS.c4,aO.sl]);have k:=hx x (by simp);simp only[bn,ak,e];generalize A.t x=u at k ⊢;cases u with
  |ptr n q=>simp only[dl (x:=.ptr n q) k]
  |ref c=>cases c <;>rfl
  |_=>rfl
 ·rename_i esz x lo hi mx;simp only[v6] at hm;subst hm;have e:=h x (by simp[bS.c4,aO.sl]);have e1:=oS (x:=lo) (fun m hm=>h m (by simp[bS.c4,hm]));have e2:=oS (x:=hi) (fun m hm=>h m (by simp[bS.c4,hm]));have e3:=oS (x:=mx) (fun m hm=>h m (by simp[bS.c4,hm]));have k:=hx x (by simp);simp only[bn,e1,e2,e3];generalize lo.map (ak A)=w1;generalize hi.map (ak A)=w2;generalize mx.map (ak A)=w3;simp only[ak,e];generalize A.t x=u at k ⊢;cases u with
  |view n q=>simp only[dl (x:=.ptr n q) (by simpa[I.only] using k)]
  |_=>rfl
 ·rename_i x;simp only[v6] at hm;subst hm;have e:=h x (by simp[bS.c4,aO.sl]);have k:=hx x (by simp);simp only[bn,ak,e];generalize A.t x=u at k ⊢;cases u with
  |view n q=>simp only[dl (x:=.ptr n q) (by simpa[I.only] using k)]
  |_=>rfl
 ·rename_i ty z ok x kk;simp only[v6] at hm;subst hm;have e:=h x (by simp[bS.c4,aO.sl]);have ek:=c8 (x:=kk) (fun m hm=>h m (by simp[bS.c4,hm]));have k:=hx x (by simp);simp only[bn,ek];generalize ak A kk=w;simp only[ak,e,Xo ho k]
 ·rename_i esz ps;split at hm
  case isFalse=>cases hm
  rename_i hall;simp only[v6] at hm;subst hm;have hev:ps.map (ak A')=ps.map (ak A):=lK h;have hon:I.cv p (ps.map (ak A))=true:=CL fun x hx'=>by
   have J:=zx0.1 hall x hx';cases x with
   |c _=>cases J
   |t s=>exact hx s (by simp only[jK,List.mem_flatMap];exact ⟨_,hx',by simp[aO.sl]⟩)
  simp only[bn,hev,sI ho hon]
 ·rfl
 ·split at hm
  ·rename_i hc;exact jU hc.1
  ·cases hm
theorem yj{L:ea}{A:ai}{g:aH}{p:Nat→Bool}(hi:cN L A)(h:sf L g p=true):∃ xs,mN g.op=some xs∧∀ s∈xs,(A.t s).only p=true:=by
 unfold sf at h;split at h
 case h_2=>cases h
 rename_i xs hm;refine ⟨xs,hm,fun s hs' =>?_⟩;have J:=zx0.1 h s hs';split at J
 case h_2=>cases J
 rename_i ns hn;exact iO (fun n U=>zx0.1 J n (by simpa using U)) _ (hi s ns hn)
theorem gm.wj{A A':ai}{g:aH}{v:I}{xs:List Nat}{p:Nat→Bool}(h:gm g A v)(hm:mN g.op=some xs)(ha:ef A A' g.c4)(hx:∀ s∈xs,(A.t s).only p=true)(ho:∀ n,p n=true→A'.o n=A.o n):gm g A' v:=by
 rcases h with ⟨h,rfl⟩ | ⟨h,k⟩
 ·exact .inl ⟨po ha h,rfl⟩
 ·exact .inr ⟨mP ha h,by rw[YS hm (aH.j4 ha) hx ho];exact k⟩
theorem gm.sS{L:ea}{A:ai}{g:aH}{v:I}(hi:cN L A)(hg:hZ L g=true)(h:gm g A v):cN L (A.aU g.dst v):=by
 rcases h with ⟨_,rfl⟩ | ⟨_,k⟩
 ·exact hi.put (fun _=>rfl) fun _ _ _ _=>rfl
 ·exact hi.put (fun _=>rfl) (CH hi hg k)
theorem gm.cQ{A A':ai}{g:aH}{v:I}(h:gm g A v)(hu:ep A A')(ha:ef A A' g.c4):gm g A' v:=by
 rcases h with ⟨h,rfl⟩ | ⟨h,k⟩
 ·exact .inl ⟨po ha h,rfl⟩
 ·exact .inr ⟨mP ha h,C9 hu (aH.j4 ha) k⟩
theorem BP{L:ea}{g h:aH}(hi:mG ab L g h=true):iW g.op=true∧nU ab L g h=true∧(∀ d,g.dst=some d→d∉h.c4)∧(∀ d,g.dst=some d→h.dst≠some d)∧(∀ d,h.dst=some d→d∉g.c4):=by
 simp only[mG,t8] at hi;obtain ⟨J,U,ah,ar⟩:=hi;refine ⟨J,U,fun d af =>?_,fun d af =>?_,fun d af =>?_⟩
 ·rw[af] at ah;simp at ah;exact ah.1
 ·rw[af] at ah;simp at ah;exact ah.2
 ·rw[af] at ar;simpa using ar
theorem ym{aN:Bool}{A A':ai}{ρ:List (Nat×Nat)}{os:List (Nat×aq)}(hu:ep A A'):∀ {xs cs:List I},gK aN A ρ os xs cs→gK aN A' ρ os xs cs
 | [],[],_=>trivial
 |x::xs,c::cs,h=>⟨h.1.imp id fun h=>A5 hu h,ym hu h.2⟩
 | [],_::_,h=>h.elim
 |_::_,[],h=>h.elim
theorem Xy{A:ai}{d:Option Nat}{v:I}{ts:List (Nat×I)}{os:List (Nat×aq)}(h:A.aU d v=au ts os):∃ ts2,A=au ts2 os∧∀ X:List (Nat×aq),(au ts2 X).aU d v=au ts X:=by
 cases d with
 |none=>exact ⟨ts,h,fun _=>rfl⟩
 |some d =>
  have ht:∀ k,(A.aU (some d) v).t k=bX ts k:=fun k=>by rw[h];rfl
  have ho:A.o=aj os:=by
   have:(A.aU (some d) v).o=aj os:=by rw[h];rfl
   rwa [im] at this
  refine ⟨(d,A.t d)::ts,?_,fun X =>?_⟩
  ·cases A with
   |mk t o =>
    simp only[au,ai.mk.injEq];refine ⟨funext fun k =>?_,ho⟩;have:=ht k;simp only[ai.aU,ai.put] at this;simp only[bX];by_cases hk:k=d
    ·subst hk;simp
    ·rw[if_neg hk] at this;have hk':¬ d=k:=fun e=>hk e.symm;simp only[hk,if_false];exact this
  ·simp only[ai.aU,ai.put,au,ai.mk.injEq,and_true]
   funext k
   have:=ht k;simp only[ai.aU,ai.put] at this;by_cases hk:k=d
   ·subst hk;simp at this ⊢;exact this
   ·have hk':¬ d=k:=fun e=>hk e.symm;simp only[bX,hk,if_false]
theorem YR{ρ:List (Nat×Nat)}{os0 os':List (Nat×aq)}{r:I}(hb:gA false ρ [] os0 r os'){n:Nat}{x:aq}(hx:aj os0 n=some x):aj (dy ρ os'++os0) n=some x:=by
 rw[qP];cases hp:pre ρ os' n with
 |none=>exact hx
 |some m =>
  obtain ⟨J,U⟩:=lf hp;have:=(hb.pj m J (by simp[az,aj])).1;rw[U,hx] at this;cases this
theorem bP.I7{A B:ai}{j:aH}{v:I}{f:FuncId}{args:List aO}{dst:Option Nat}{rest:List aH}(hj:iW j.op=true)(hv:gm j A v)(hB:B=A.aU j.dst v)(hf:ab.contains f=false)(hag:ef A B (jK args))(af:∀ d,j.dst=some d→dst≠some d)(hr:∀ d,dst=some d→d∉j.c4)
  (h:bP P Y ab K (.call f (args.map (ak B)) (b8 true B (args.map (ak B))) (b8 false B (args.map (ak B))) dst rest B)):bP P Y ab K (.call f (args.map (ak A)) (b8 true A (args.map (ak A))) (b8 false A (args.map (ak A))) dst (j::rest) A):=by
 have eo:B.o=A.o:=by rw[hB,im]
 have cQ:ep B A:=fun n x hx=>by rwa [←eo]
 have up':ep A B:=fun n x hx=>by rwa [eo]
 have eav:args.map (ak B)=args.map (ak A):=lK hag;rw[eav] at h;have cont:∀ r:I,bP P Y ab K (aB rest (B.aU dst r))→bP P Y ab K (aB (j::rest) (A.aU dst r)):=fun r hw=>by
  have J:gm j (A.aU dst r) v:=hv.cQ (fun n x hx=>by rwa [im]) (l3 hr);rw[J.to hj,pD (fun d hd'=>fun e=>af d e hd'),←hB];exact hw
 generalize e1:b8 true B (args.map (ak A))=a1 at h;generalize e2:b8 false B (args.map (ak A))=a2 at h;generalize hBm:B=B0 at h;cases h with
 |flat r hc hfl hw =>
  subst hBm;rw[kV cQ e1];exact .flat r hc hfl (cont r hw)
 |lead r hc hw =>
  subst hBm;rw[kV cQ e2];exact .lead r hc (cont r hw)
 |bQ ρ cargs post hc hg ha hb hw =>
  rename_i ts os0;rw[hB] at hBm;obtain ⟨ts2,hA,hts⟩:=Xy hBm;have hA':=hA;clear cont;subst hA;refine .bQ ρ cargs post hc hg (ym (A:=au ts os0) (A':=au ts2 os0) (fun n x hx=>hx) ha) hb fun r os' hp =>?_;have J:gm j ((au ts2 (dy ρ os'++os0)).aU dst (r.bm (bK ρ))) v:=hv.cQ (fun n x hx=>by
   rw[im];exact YR (hb r os' hp) hx) (fun k hk=>by
    have:=l3 (A:=au ts2 (dy ρ os'++os0)) (v:=r.bm (bK ρ)) hr k hk;rw[this];rfl)
  rw[J.to hj,pD (fun d hd'=>fun e=>af d e hd'),hts];exact hw r os' hp
 |wJ aN ρ os cargs post hfs =>
  rw[hf] at hfs;cases hfs
theorem bP.rM{L:ea}{A:ai}{j g:aH}{rest:List aH}(hinv:cN L A)(hi:mG ab L j g=true)(hw:bP P Y ab K (aB (j::g::rest) A)):bP P Y ab K (aB (g::j::rest) A):=by
 obtain ⟨hj,ao,i1,i2,i3⟩:=BP hi;obtain ⟨v,hv,hw⟩:=bP.xE hj hw;have ag:ef (A.aU j.dst v) A g.c4:=(l3 i1).symm;have ag':ef A (A.aU j.dst v) g.c4:=l3 i1;have cQ:ep (A.aU j.dst v) A:=fun n x hx=>by rwa [im] at hx
 have up':∀ (d:Option Nat) (u:I),ep A (A.aU d u):=fun d u n x hx=>by rwa [im]
 by_cases hsg:iW g.op=true
 ·obtain ⟨u,hu,hw⟩:=bP.xE hsg hw;rw[(hu.cQ cQ ag).to hsg,(hv.cQ (up' _ _) (l3 i3)).to hj,←pD i2];exact hw
 ·-- the guard
  have guard:(gu (A.aU j.dst v) g∧aB (g::rest) (A.aU j.dst v)=aB rest ((A.aU j.dst v).aU g.dst .undef))∨(pass (A.aU j.dst v) g∧aB (g::rest) (A.aU j.dst v)=bj (A.aU j.dst v) g.dst g.op rest (aB rest))∨aB (g::rest) (A.aU j.dst v)=.fail:=by
   cases hg:g.guard with
   |none=>exact .inr (.inl ⟨by simp only[pass,hg],by simp only[aB,hg]⟩)
   |some tb =>
    obtain ⟨t,b⟩:=tb;cases ht:(A.aU j.dst v).t t with
    |bool b' =>
     by_cases hbb:b'=b
     ·subst hbb;have hp:pass (A.aU j.dst v) g:=by simp only[pass,hg,ht]
      exact .inr (.inl ⟨hp,nv hp⟩)
     ·have hn:gu (A.aU j.dst v) g:=by simp only[gu,hg];exact .inl (by rw[ht,uI hbb])
      exact .inl ⟨hn,sd hn⟩
    |undef =>
     have hn:gu (A.aU j.dst v) g:=by simp only[gu,hg];exact .inr ht
     exact .inl ⟨hn,sd hn⟩
    |_=>exact .inr (.inr (by simp only[aB,hg,ht]))
  rcases guard with ⟨hn,he⟩ | ⟨hp,he⟩ | he
  ·rw[he] at hw;rw[sd (po ag hn),(hv.cQ (up' _ _) (l3 i3)).to hj,←pD i2];exact hw
  ·rw[he] at hw;rw[nv (mP ag hp)];obtain ⟨dst,op,gd⟩:=g;simp only at hw hsg i2 i3 ⊢;cases op with
   |alloc z =>
    cases dst with
    |none=>simp only[bj] at hw;cases hw
    |some d =>
    simp only[bj] at hw ⊢;split at hw
    case h_2=>cases hw
    rename_i ho;rw[im] at ho;simp only[ho];have J:gm j ((A.aV d (.box z)).put d (.ptr d [])) v:=hv.cQ (fun n y hy=>by
     have:n≠d:=fun he=>by rw[he,ho] at hy;cases hy
     simp only[ai.put,ai.aV,this,if_false];exact hy) (fun k hk=>by
     have:k≠d:=fun he=>i3 d rfl (he▸hk);simp only[ai.put,ai.aV,this,if_false])
    rw[J.to hj];have e:((A.aU j.dst v).aV d (.box z)).put d (.ptr d [])=((A.aV d (.box z)).put d (.ptr d [])).aU j.dst v:=by
     cases hgd:j.dst with
     |none=>rfl
     |some e =>
      have hne:e≠d:=fun he=>i2 e hgd (by rw[he]);simp only[ai.aU,ai.put,ai.aV,ai.mk.injEq,and_true]
      funext k
      by_cases J:k=e <;>by_cases U:k=d <;>simp_all
    rw[←e];exact hw
   |box x =>
    have ex:ak (A.aU j.dst v) x=ak A x:=c8 (aH.j4 ag');cases dst with
    |none=>simp only[bj] at hw;cases hw
    |some d =>
    simp only[bj] at hw ⊢;split at hw
    case h_2=>cases hw
    rename_i ho;rw[im] at ho;simp only[ho];rw[ex] at hw;split at hw
    case isFalse=>cases hw
    rename_i hval;rw[if_pos hval];have J:gm j ((A.aV d (.box (ak A x))).put d (.ptr d [])) v:=hv.cQ (fun n y hy=>by
     have:n≠d:=fun he=>by rw[he,ho] at hy;cases hy
     simp only[ai.put,ai.aV,this,if_false];exact hy) (fun k hk=>by
     have:k≠d:=fun he=>i3 d rfl (he▸hk);simp only[ai.put,ai.aV,this,if_false])
    rw[J.to hj];have e:((A.aU j.dst v).aV d (.box (ak A x))).put d (.ptr d [])=((A.aV d (.box (ak A x))).put d (.ptr d [])).aU j.dst v:=by
     cases hgd:j.dst with
     |none=>rfl
     |some e =>
      have hne:e≠d:=fun he=>i2 e hgd (by rw[he]);simp only[ai.aU,ai.put,ai.aV,ai.mk.injEq,and_true]
      funext k
      by_cases J:k=e <;>by_cases U:k=d <;>simp_all
    rw[←e];exact hw
   |call f args =>
    simp only[bj] at hw ⊢;refine bP.I7 hj hv rfl (by simpa[nU,pc] using ao) (aH.j4 ag') i2 i3 hw
   |aP s y u =>
    cases dst with
    |some d=>simp only[bj] at hw;cases hw
    |none =>
    have ey:ak (A.aU j.dst v) y=ak A y:=c8 (aH.j4 ag').l;have eu:ak (A.aU j.dst v) u=ak A u:=c8 (aH.j4 ag').r;simp only[bj] at hw ⊢;rw[ey,eu,im] at hw;cases hx:ak A y <;>simp only[hx] at hw ⊢ <;>try (cases hw;done)
    rename_i n q;cases ho:A.o n with
    |none=>rw[ho] at hw;cases hw
    |some ob =>
    rw[ho] at hw;cases ob <;>simp only at hw ⊢ <;>try (cases hw;done)
    rename_i b;cases hb:b.at q with
    |none=>rw[hb] at hw;cases hw
    |some old =>
    rw[hb] at hw;simp only at hw ⊢;split at hw
    case isFalse=>cases hw
    rename_i hok;rw[if_pos hok];have J:gm j (A.aV n (.box (b.eA q (ak A u)))) v:=by
     have none0:mN j.op=some []→gm j (A.aV n (.box (b.eA q (ak A u)))) v:=fun hm=>hv.wj (p:=fun _=>false) hm (fun _ _=>rfl) (fun s hs'=>by cases hs') (fun m hm=>by cases hm);cases y with
     |c y =>
      simp only[nU,pc,iW,Bool.false_or] at ao;split at ao
      ·rename_i hm;exact none0 hm
      ·cases ao
     |t y =>
      simp only[nU,pc,iW,Bool.false_or] at ao;split at ao
      ·rename_i hm;exact none0 hm
      ·split at ao
       case h_2=>cases ao
       rename_i ms hms;obtain ⟨xs,hm,hx2⟩:=yj hinv ao;refine hv.wj hm (fun _ _=>rfl) hx2 fun m hm2 =>?_;have hn:=hinv y ms hms;simp only[ak] at hx;rw[hx] at hn;have:m≠n:=fun e=>by subst e;simp[I.only] at hn hm2;exact hm2 hn
       simp only[ai.aV,if_neg this]
    rw[J.to hj];have e:(A.aU j.dst v).aV n (.box (b.eA q (ak A u)))=(A.aV n (.box (b.eA q (ak A u)))).aU j.dst v:=by cases j.dst <;>rfl
    rw[←e];exact hw
   |di e esz bytes z s x =>
    have hag:ef A (A.aU j.dst v) (s.sl++x.sl):=aH.j4 ag';have he2:bj (A.aU j.dst v) dst (.di e esz bytes z s x) rest (aB rest)=bj A dst (.di e esz bytes z s x) (j::rest) fun B=>aB rest (B.aU j.dst v):=by
     cases hjd:j.dst with
     |none=>rfl
     |some d =>
      rw[hjd] at hag;exact Hh (fun e=>i2 d hjd e) hag rest (j::rest) (aB rest)
    rw[he2] at hw;have iD:∀ B,gl A dst (ak A s) B→aB (j::rest) B=aB rest (B.aU j.dst v):=fun B hB=>by
     have hagB:ef A B j.c4:=fun k hk=>hB.1 k fun e=>i3 k e hk;have:gm j B v:=by
      simp only[nU,pc,iW,Bool.false_or,Bool.or_eq_true] at ao;rcases ao with ao | ao
      ·obtain ⟨xs,hm,hx2⟩:=yj hinv ao;exact hv.wj hm hagB hx2 fun m hm2=>by cases hm2
      ·have:=rK hinv ao;exact hv.cQ (hB.2 (by simpa using this)) hagB
     rw[this.to hj]
    rcases yl A dst e esz bytes z s x (j::rest) with J | ⟨B,J,U⟩ | ⟨p,bC,J,U⟩
    ·rw[J] at hw;cases hw
    ·rw[J] at hw ⊢;rw[iD B U];exact hw
    ·rw[J] at hw ⊢;exact .any fun m hm=>by rw[iD _ (U m)];exact hw.yi m hm
   |_=>first | exact absurd rfl hsg | (simp[nU,pc,iW] at ao)
  ·rw[he] at hw;cases hw
theorem bP.nw{L:ea}{g:aH} : ∀ {l:List aH} {r:List aH} {A:ai},cN L A→(∀ j∈l,mG ab L j g=true∧hZ L j=true)→bP P Y ab K (aB (l++g::r) A)→bP P Y ab K (aB (g::(l++r)) A)
 | [],r,A,_,_,h=>h
 |j::l,r,A,hinv,hi,h=>by
  have hj:=(BP (hi j (by simp)).1).1;obtain ⟨v,hv,U⟩:=bP.xE (g:=j) (rest:=l++g::r) hj h;have ah:=bP.nw (l:=l) (r:=r) (hv.sS hinv (hi j (by simp)).2) (fun k hk=>hi k (by simp[hk])) U;refine bP.rM hinv (hi j (by simp)).1 ?_;rw[hv.to hj];exact ah
end
def qX:List Nat→Bool
 | []=>true
 |a::l => !l.contains a&&qX l
def p0(ab:List FuncId)(L:ea)(gs:List aH)(cl:List Nat):List Nat→List Nat→Bool
 |_,[]=>true
 |before,i::σ=>(before.all fun j=>(cl.getD i 0).testBit j||mG ab L (gs.getD j default) (gs.getD i default))&&p0 ab L gs cl (i::before) σ
def tr(ab:List FuncId)(L:ea)(on:List (List Nat))(gs:List aH)(cl:List Nat)(σ:List Nat):Bool :=
 (Nat.beq σ.length gs.length&&(qX σ&&(σ.all (fun i=>decide (i<gs.length))&&((List.range gs.length).all (fun i=>σ.contains i)&&gs.all fun g=>mO g.op&&hZ L g))))&&(p0 ab L gs cl [] σ&&(List.range gs.length).all fun i=>(on.getD i []).all (fun k=>decide (k<i))&&Nat.beq (cl.getD i 0) (ly cl (on.getD i [])))
theorem wG:∀ {l:List Nat},qX l=true→l.Nodup
 | [],_=>List.nodup_nil
 |a::l,h=>by
  simp only[qX,t8,Bool.not_eq_true',List.contains_eq_mem,decide_eq_false_iff_not] at h;exact List.nodup_cons.2 ⟨h.1,wG h.2⟩
theorem uz{ab:List FuncId}{L:ea}{gs:List aH}{cl:List Nat} : ∀ {σ before:List Nat},p0 ab L gs cl before σ=true→∀ s1 i s2,σ=s1++i::s2→∀ j,j∈before∨j∈s1→(cl.getD i 0).testBit j=true∨mG ab L (gs.getD j default) (gs.getD i default)=true
 | [],_,_,s1,i,s2,e,_,_=>by cases s1 <;>cases e
 |a::σ,before,h,s1,i,s2,e,j,hj=>by
  simp only[p0,t8,zx0,Bool.or_eq_true] at h;cases s1 with
  |nil =>
   simp only[List.nil_append,zw9] at e;obtain ⟨rfl,rfl⟩:=e;rcases hj with hj | hj
   ·exact h.1 j hj
   ·cases hj
  |cons b s1 =>
   simp only[zz9,zw9] at e;obtain ⟨rfl,rfl⟩:=e;refine uz h.2 s1 i s2 rfl j ?_;rcases hj with hj | hj
   ·exact .inl (List.mem_cons_of_mem _ hj)
   ·rcases zw4.1 hj with hj | hj
    ·exact .inl (by rw[hj];exact List.mem_cons_self)
    ·exact .inr hj
def dX(σ:List Nat)(listed:Array Bool):List Nat:=σ.filter fun i => !listed.getD i true
def gv(gs:List aH)(σ:List Nat)(listed:Array Bool):List aH:=(dX σ listed).map fun i=>gs.getD i default
theorem xc{σ:List Nat}{listed:Array Bool}{i:Nat}(hn:σ.Nodup)(hi:i∈σ)(ao:i<listed.size)(hu:listed.getD i true=false):∃ s1 s2,σ=s1++i::s2∧dX σ listed=(s1.filter fun j => !listed.getD j true)++i::(s2.filter fun j => !listed.getD j true) ∧
  dX σ (listed.setIfInBounds i true)=(s1.filter fun j => !listed.getD j true)++(s2.filter fun j => !listed.getD j true):=by
 obtain ⟨s1,s2,rfl⟩:=List.append_of_mem hi;have same:∀ j,j≠i→(listed.setIfInBounds i true).getD j true=listed.getD j true:=fun j hj=>getD_set_ne true (Ne.symm hj);have hit:(listed.setIfInBounds i true).getD i true=true:=by simp[ao]
 have hnd:=List.nodup_append.1 hn;have J:∀ j∈s1,j≠i:=fun j hj=>hnd.2.2 j hj i List.mem_cons_self;have U:∀ j∈s2,j≠i:=fun j hj e=>(List.nodup_cons.1 hnd.2.1).1 (e▸hj);refine ⟨s1,s2,rfl,?_,?_⟩
 ·simp only[dX,List.filter_append,List.filter_cons,hu,Bool.not_false,if_true]
 ·simp only[dX,List.filter_append,List.filter_cons,hit,Bool.not_true,zz2,if_false]
  congr 1
  ·exact List.filter_congr fun j hj=>by rw[same j (J j hj)]
  ·exact List.filter_congr fun j hj=>by rw[same j (U j hj)]
structure ya (ab:List FuncId) (L:ea) (l:List Oper) (gs:List aH) (σ:List Nat):Prop where
 nQ:σ.Nodup
 lt:∀ i∈σ,i<gs.length
 all:∀ i,i<gs.length→i∈σ
 ok:∀ g∈gs,mO g.op=true∧hZ L g=true
 len:σ.length=gs.length
 iz:∀ i o,l[i]?=some o→∀ k∈cn o,k<i
 oZ:∀ (S:Nat→Prop),(∀ i o,l[i]?=some o→S i→∀ k∈cn o,S k)→∀ s1 i s2 o,σ=s1++i::s2→l[i]?=some o→(∀ k∈cn o,S k)→∀ j∈s1,¬ S j→mG ab L (gs.getD j default) (gs.getD i default)=true
theorem YH{ab:List FuncId}{L:ea}{l:List Oper}{gs:List aH}{cl σ:List Nat}(hlen:gs.length=l.length)(h:tr ab L (l.map cn) gs cl σ=true):ya ab L l gs σ:=by
 simp only[tr,t8,zx0,decide_eq_true_eq,zw7,List.contains_eq_mem] at h;obtain ⟨⟨J,U,ah,ar,h5⟩,h6,h7⟩:=h;have fC:∀ i o,l[i]?=some o→(∀ k∈cn o,k<i)∧(∀ j,(cl.getD i 0).testBit j=true→j∈cn o∨∃ k∈cn o,(cl.getD k 0).testBit j=true):=by
  intro i o ho;have hi:i<l.length:=(zz5.1 ho).1;have h8:=h7 i (by omega);have hon:(l.map cn).getD i []=cn o:=by simp[zz0,ho]
  rw[hon] at h8;have hb:=Nat.eq_of_beq_eq_true h8.2;exact ⟨h8.1,fun j hj=>rQ (by rw[←hb];exact hj)⟩
 refine ⟨wG U,ah,ar,h5,Nat.eq_of_beq_eq_true J,fun i o ho=>(fC i o ho).1,?_⟩;intro S hS s1 i s2 o e ho hon j hj hnj;have key:∀ n i o,i≤n→l[i]?=some o→(∀ k∈cn o,S k)→∀ j,(cl.getD i 0).testBit j=true→S j:=by
  intro n
  induction n with
  |zero =>
   intro i o hi ho hon j hj;obtain ⟨h8,h9⟩:=fC i o ho;rcases h9 j hj with h | ⟨k,hk,_⟩
   ·exact hon j h
   ·have:=h8 k hk;omega
  |succ n ih =>
   intro i o hi ho hon j hj;obtain ⟨h8,h9⟩:=fC i o ho;rcases h9 j hj with h | ⟨k,hk,hjk⟩
   ·exact hon j h
   ·have hki:=h8 k hk;have hkl:k<l.length:=Nat.lt_trans hki (zz5.1 ho).1;obtain ⟨ok,hok⟩:∃ ok,l[k]?=some ok:=⟨l[k],zy4 hkl⟩
    exact ih k ok (by omega) hok (hS k ok hok (hon k hk)) j hjk
 rcases uz h6 s1 i s2 e j (.inr hj) with h | h
 ·exact absurd (key i i o (zz3 _) ho hon j h) hnj
 ·exact h
section
variable {c:cS}
theorem sK{K:ai→Prop}{ab:List FuncId}{L:ea}{aT:Array Oper}{Q:Exit→Act→World→Prop}{o:Oper}{g:aH}{rest:List aH}{A:ai}{a:Act}{w:World}{Kw:Act→World→Prop}(hg:lH c.P c.n aT o=some g)(hi:cN L A)(ho:mO g.op=true∧hZ L g=true)(hwp:bP c.P c.Y ab K (aB (g::rest) A))(hs':bY c A a w)
  (hK:∀ B a' w',bP c.P c.Y ab K (aB rest B)→cN L B→bY c B a' w'→Kw a' w'):if Region.wanted o (yielded aT a.tmps) then o.wpIn c.bC 9 c.P a w Kw Q else (∀ f,o.about c.P w a.eval=some f→c.bC.fn f)∧Kw (a.put o.dst undef) w:=by
 obtain ⟨J,U,ah,ar⟩:=nx hg;have step:bP c.P c.Y ab K (bj A g.dst g.op rest (aB rest))→o.wpIn c.bC 9 c.P a w Kw Q:=fun h =>
  sL J U.symm (by rw[U];exact ah) (bP.one (Y:=c.Y) hi ho.1 ho.2 h) hs' (fun B a' w' hw hs2=>by
   cases hw with
   |done hk=>exact hK B a' w' hk.1 hk.2 hs2)
 simp only[aB] at hwp;rcases ar with ⟨h5,h6⟩ | ⟨j,b,t,h5,h6,h7⟩
 ·rw[h6] at hwp;have hw:Region.wanted o (yielded aT a.tmps)=true:=by simp[Region.wanted,h5]
  rw[hw,if_pos rfl];exact step hwp
 ·rw[h7] at hwp;simp only at hwp;split at hwp
  ·rename_i b' hb';rw[sP hs' h5 h6 hb'];split at hwp
   ·rename_i hbb;subst hbb;simp only[BEq.rfl,if_true];exact step hwp
   ·rename_i hbb;have:(b'==b)=false:=by simpa using hbb
    rw[this];simp only[zz2,if_false];exact ⟨fun f _=>lP c f,hK _ _ _ hwp (hi.put (fun _=>rfl) fun _ _ _ _=>rfl) (by rw[U];exact hs'.mU ah)⟩
  ·rename_i hb';rw[sQ hs' h5 h6 hb'];simp only[zz2,if_false];exact ⟨fun f _=>lP c f,hK _ _ _ hwp (hi.put (fun _=>rfl) fun _ _ _ _=>rfl) (by rw[U];exact hs'.mU ah)⟩
  ·cases hwp
theorem G4{K:ai→Prop}{fs:List FuncId}{L:ea}{aT:Array Oper}{gs:List aH}{σ:List Nat}{Q:Exit→Act→World→Prop}(hQ:∀ B a w,K B→bY c B a w→Q .normal a w)(hgs:fJ c.P c.n aT aT.toList=some gs)(af:ya fs L aT.toList gs σ) :
  ∀ (fuel:Nat) (listed:Array Bool) (A:ai) (a:Act) (w:World),listed.size=aT.size→(∀ i o,aT.toList[i]?=some o→listed.getD i false=true→∀ k∈cn o,listed.getD k false=true)→(dX σ listed).length≤fuel →
   cN L A→bP c.P c.Y fs K (aB (gv gs σ listed) A)→bY c A a w→wpAnyIn c.bC 9 c.P .any aT Q fuel listed a w:=by
 obtain ⟨hlen,hat⟩:=iA hgs;have onOf_mem:∀ (o:Oper) (e:Edge),e∈o.after→Region.binds .any e=true→e.on∈cn o:=fun o e he hb=>by
  simp only[cn,zx1,zw0];exact ⟨e,⟨by simpa using he,hb⟩,rfl⟩
 have of_onOf:∀ (o:Oper) (k:Nat),k∈cn o→∃ e∈o.after,Region.binds .any e=true∧e.on=k:=fun o k hk=>by
  simp only[cn,zx1,zw0] at hk;obtain ⟨e,⟨J,U⟩,ah⟩:=hk;exact ⟨e,by simpa using J,U,ah⟩
 have hgl:gs.length=aT.size:=by rw[hlen,zx2]
 have last:∀ (listed:Array Bool) (A:ai) (a:Act) (w:World),listed.size=aT.size→Region.ready .any aT listed=[]→bP c.P c.Y fs K (aB (gv gs σ listed) A)→bY c A a w→Q .normal a w:=by
  intro listed A a w hsz hr hwp ab;have hnone:dX σ listed=[]:=by
   have all:∀ n,∀ i,i<n→i<aT.size→listed.getD i true=true:=by
    intro n
    induction n with
    |zero=>intro i hi;omega
    |succ n ih =>
     intro i hi his;cases hb:listed.getD i true with
     |true=>rfl
     |false =>
      exfalso
      have ho:aT[i]?=some aT[i]:=zw5 his;have:i∈Region.ready .any aT listed:=mem_ready.2 ⟨hb,aT[i],ho,fun e he hbd=>by
       have hlt:=af.iz i aT[i] (by simp) e.on (onOf_mem _ e he hbd);have J:=ih e.on (by omega) (by omega);have U:e.on<listed.size:=by omega
       simpa[Array.getD_eq_getD_getElem?,U] using J⟩
      rw[hr] at this;cases this
   simp only[dX];refine List.filter_eq_nil_iff.2 fun i hi =>?_;have:=all (i+1) i (by omega) (by rw[←hgl];exact af.lt i hi);simp only[this,Bool.not_true,zz2,not_false_eq_true]
  simp only[gv,hnone,zx8,aB] at hwp;cases hwp with
  |done hk=>exact hQ A a w hk ab
 intro fuel
 induction fuel with
 |zero =>
  intro listed A a w hsz hcl hcnt hinv hwp ab;have hnone:dX σ listed=[]:=List.length_eq_zero_iff.1 (by omega);have hr:Region.ready .any aT listed=[]:=by
   refine List.eq_nil_iff_forall_not_mem.2 fun i hi =>?_;obtain ⟨J,o,ho,_⟩:=mem_ready.1 hi;have:i∈dX σ listed:=by
    simp only[dX,zw0,J,Bool.not_false,and_true];exact af.all i (by rw[hgl];exact (zy0.1 ho).1)
   rw[hnone] at this;cases this
  exact ⟨hr,last listed A a w hsz hr hwp ab⟩
 |succ fuel ih =>
  intro listed A a w hsz hcl hcnt hinv hwp ab;refine ⟨fun hr=>last listed A a w hsz hr hwp ab,fun i hi =>?_⟩;obtain ⟨hun,o,ho,hall⟩:=mem_ready.1 hi;have hin:i<aT.size:=(zy0.1 ho).1;obtain ⟨s1,s2,hσ,e1,e2⟩:=xc af.nQ (af.all i (by omega)) (by omega) hun;have hol:aT.toList[i]?=some o:=by simpa using ho
  obtain ⟨g,hgi,hcg⟩:=hat i o hol;have hon:∀ k∈cn o,listed.getD k false=true:=fun k hk=>by
   obtain ⟨e,J,U,ah⟩:=of_onOf o k hk;exact ah▸hall e J U
  have hgd:gs.getD i default=g:=by simp[zz0,hgi]
  have hwp':bP c.P c.Y fs K (aB (g::gv gs σ (listed.setIfInBounds i true)) A):=by
   simp only[gv,e1,zy5,zz4,hgd] at hwp;simp only[gv,e2,zy5];refine bP.nw hinv (fun j hj =>?_) hwp;obtain ⟨k,hk,rfl⟩:=zx1.1 hj;obtain ⟨hk1,hk2⟩:=zw0.1 hk;have:=af.oZ (fun k=>listed.getD k false=true) hcl s1 i s2 o hσ hol hon k hk1 (by
    have hks:k<listed.size:=by
     have:=af.lt k (by rw[hσ];exact List.mem_append_left _ hk1);omega
    simp[Array.getD_eq_getD_getElem?,hks] at hk2 ⊢;exact hk2)
   rw[hgd] at this;refine ⟨this,(af.ok _ ?_).2⟩;have hkl:=af.lt k (by rw[hσ];exact List.mem_append_left _ hk1);rw[zz0,zy4 hkl];exact List.getElem_mem _
  unfold wpOpIn;rw[ho];refine sK hcg hinv (af.ok g (List.mem_of_getElem? hgi)) hwp' ab fun B a' w' hw hiB hs'=>ih _ B a' w' (by simpa using hsz) ?_ ?_ hiB hw hs'
  ·intro m om hom hm k hk;by_cases hmi:m=i
   ·subst hmi;rw[hol,v6] at hom;subst hom;exact getD_set_true (hon k hk)
   ·rw[getD_set_ne false (Ne.symm hmi)] at hm;exact getD_set_true (hcl m om hom hm k hk)
  ·have:(dX σ listed).length=(dX σ (listed.setIfInBounds i true)).length+1:=by
    rw[e1,e2];simp;omega
   omega
def eQ(σ:List Nat)(gs:List aH):List aH:=σ.map fun i=>gs.getD i default
theorem ae.Zb{Q:Exit→ai→Prop}{A:ai}{on:List (List Nat)}{gs:List aH}(ab:List FuncId)(L:ea)(cl σ:List Nat)(af:tr ab L on gs cl σ=true)(hi:cN L A)(h:∀ K:ai→Prop,(∀ B,Q .normal B→K B)→bP c.P c.Y ab K (aB (eQ σ gs) A)):ae c (.b9 (some on) gs) Q A:=by
 intro code hc a w hs';cases code <;>simp only[eC] at hc <;>try (first | (cases hc;done) | ((repeat' split at hc) <;>cases hc;done))
 rename_i id aT draw;split at hc
 ·rename_i gs' hgs;split at hc
  case isFalse=>cases hc
  rename_i hok;simp only[v6,bo.b9.injEq] at hc;obtain ⟨he,rfl⟩:=hc;cases draw with
  |false=>cases he
  |true =>
   simp only[cond_true,v6] at he;subst he;simp only[Bool.not_true,Bool.false_or] at hok;have hp:=YH (iA hgs).1 af;refine wpIn_region_any hok (G4 (K:=Q .normal) (fun B a w hk ab=>⟨B,hk,ab⟩) hgs hp aT.size (Array.replicate aT.size false) A a _ (by simp) ?_ ?_ hi ?_ ?_)
   ·intro i o _ h
    exfalso
    simp only[Array.getD_eq_getD_getElem?,Array.getElem?_replicate] at h;split at h <;>simp at h
   ·refine zv0 (List.length_filter_le _ _) ?_;rw[hp.len,(iA hgs).1,zx2];exact zz3 _
   ·have hall:dX σ (Array.replicate aT.size false)=σ:=by
     simp only[dX];refine List.filter_eq_self.2 fun i hi =>?_;have J:=hp.lt i hi;rw[(iA hgs).1,zx2] at J;simp[J]
    simp only[gv,hall];exact h _ fun _ hb=>hb
   ·obtain ⟨D,E,hs'⟩:=hs';exact ⟨D,E,hs'.grow (w' := { w with drawn:=w.drawn+1 }) ⟨rfl,rfl,rfl,zz3 _,fun _ _=>rfl⟩ (fun _ _ h=>h) (fun _ _ h _=>h) (fun b o h=>hs'.aQ b o h)⟩
 ·cases hc
def e9(ts:List (Nat×I)):ea→Prop
 | []=>True
 |(s,ns)::L=>(bX ts s).only (fun n=>ns.contains n)=true∧e9 ts L
theorem cN.of{ts:List (Nat×I)}{os:List (Nat×aq)}{L:ea}(h:e9 ts L):cN L (au ts os):=by
 intro s ns hn;simp only[au]
 induction L with
 |nil=>cases hn
 |cons q L ih =>
  obtain ⟨s',ns'⟩:=q;simp only[e9] at h;simp only[hU,List.find?_cons] at hn;split at hn
  ·rename_i e;simp only[zz7,v6] at hn;simp only[beq_iff_eq] at e;subst e hn;exact h.1
  ·exact ih h.2 hn
end
end Go.Abs
namespace Go.Abs
open Go Go.RowKit
open Enc (enc)
section
variable {α:Type} [Enc α] {P:Program} {Y:Value→List I→List (Nat×aq)→cC→Prop} {K:ai→Prop} {A:ai} {rest:List aH} {esz bytes:Nat}
theorem tM{n lo k:Nat}{xs:List α}(ho:A.o n=some (.box (.agg (xs.map enc))))(h:lo+k≤xs.length):eK A esz (.view n [] esz lo k)=some (((xs.drop lo).take k).map enc):=by
 have J:cF A (.ptr n [])=some (.agg (xs.map enc)):=by simp only[cF,ho];rfl
 simp only[eK,J,zz8];rw[if_pos ⟨h,trivial⟩,List.map_take,List.map_drop]
theorem ZI{xs ys:List α}(h:xs.length=ys.length):I.cT (xs.map enc)=I.cT (ys.map enc):=by
 rw[xB,xB,h]
theorem yk{d:Option Nat}{e:Nat}(z:I)(ab:Enc.sz α=esz){n l:Nat}{xs ys:List α}(hy:ys≠[])(ho:A.o n=some (.box (.agg (xs.map enc))))(hr:l+ys.length≤xs.length) :
  fI A d e esz bytes z (enc ys) rest (.view n [] esz 0 l)=aB rest ((A.aV n (.box (.agg ((xs.take l++(ys++xs.drop (l+ys.length))).map enc)))).aU d (.view n [] esz 0 (l+ys.length))):=by
 have J:=tM (A:=A) (esz:=esz) (lo:=0) (k:=l) ho (by omega);have U:(I.agg (xs.map (enc (α:=α)))).at []=some (.agg (xs.map enc)):=rfl;have ah:I.cT (ys.map (enc (α:=α)))=I.cT (((xs.map (enc (α:=α))).drop l).take ys.length):=by
  rw[←List.map_drop,←List.map_take];exact ZI (by rw[zx7,List.length_drop];omega)
 simp only[fI,J,ng A esz ys ab,e7];rw[if_neg (by simpa using hy)];simp only[ho,U,zz8,zz1];rw[if_pos hr,if_pos ⟨rfl,by rw[zz8,zz1];exact ah⟩];simp only[jo,og,zz8,zy5,List.map_take,List.map_drop]
theorem aS.G9{d e:Nat}(z:α)(ab:Enc.sz α=esz){n l:Nat}{xs ys:List α}(hy:ys≠[])(ho:A.o n=some (.box (.agg (xs.map enc))))(ao:l≤xs.length)(hr:xs.length<l+ys.length)(hf:A.o d=none)(hb:(l+ys.length)*bytes≤140737488355328)(hml:l+ys.length≤maxLen)
  (h:∀ q,aS P Y false K (aB rest ((A.aV d (.box (.agg ((xs.take l++(ys++List.replicate q z)).map enc)))).aU (some d) (.view d [] esz 0 (l+ys.length))))):aS P Y false K (fI A (some d) e esz bytes (enc z) (enc ys) rest (.view n [] esz 0 l)):=by
 have J:=tM (A:=A) (esz:=esz) (lo:=0) (k:=l) ho (by omega);have U:(I.agg (xs.map (enc (α:=α)))).at []=some (.agg (xs.map enc)):=rfl;have ar:(xs.take l).length=l:=by rw[zx7];omega
 simp only[fI,J,List.drop_zero,ng A esz ys ab,e7];rw[if_neg (by simpa using hy)];simp only[ho,U,zz8,zz1];rw[if_neg (by omega)];simp only[fU,hf,zz8,ar];rw[if_pos ⟨hb,hml⟩];refine .any rfl fun q _ =>?_;have:=h q;simp only[zy5,List.map_replicate] at this;exact this
theorem aS.Hb{d e q0:Nat}(z:α){l:List α}(ab:Enc.sz α=esz)(ao:l≠[])(hf:A.o d=none)(hb:l.length*bytes≤140737488355328)(hml:l.length≤maxLen)
  (h:∀ m,aS P Y false K (aB rest ((A.aV d (.box (.agg ((l++List.replicate m z).map enc)))).aU (some d) (.view d [] esz 0 l.length)))):aS P Y false K (fI A (some d) e esz bytes (enc z) (enc l) rest (.nils q0)):=by
 have hne:l.map (enc (α:=α))≠[]:=by simpa using ao
 have J:eK A esz (.nils q0)=some []:=rfl;simp only[fI,J,ng A esz l ab,e7,if_neg hne,fU,hf,List.length_nil,zz1,zz8,if_pos (y6 hb hml),List.nil_append];refine .any rfl fun m _ =>?_;have:=h m;simp only[zy5,List.map_replicate] at this;exact this
end
theorem pg(k:Nat):bX [] k=.dp:=rfl
def gT(L:List Nat):List (Nat×I)→List (Nat×I)
 | []=>[]
 |(s,v)::ts=>if L.contains s=true then (s,v)::gT L ts else gT L ts
theorem W2(L:List Nat):gT L []=[]:=rfl
theorem WZ(L:List Nat)(s:Nat)(v:I)(ts:List (Nat×I)):gT L ((s,v)::ts)=if L.contains s=true then (s,v)::gT L ts else gT L ts:=rfl
theorem Cj(L:List Nat)(t:Nat):∀ ts,bX (gT L ts) t=.dp∨bX (gT L ts) t=bX ts t
 | []=>.inl rfl
 |(s,v)::ts=>by
  simp only[gT];have ih:=Cj L t ts;by_cases ab:L.contains s=true
  ·rw[if_pos ab];simp only[bX];split
   ·exact .inr rfl
   ·exact ih
  ·rw[if_neg ab];simp only[bX];split
   ·rename_i e;subst e
    left
    have:∀ ts,bX (gT L ts) t=.dp:=by
     intro ts
     induction ts with
     |nil=>rfl
     |cons q ts ih2 =>
      obtain ⟨s',v'⟩:=q;simp only[gT];split
      ·rename_i h';simp only[bX];have:t≠s':=fun e=>ab (e▸h');rw[if_neg this];exact ih2
      ·exact ih2
    exact this ts
   ·exact ih
theorem ae.qH(L:List Nat){c:cS}{x:bo}{Q:Exit→ai→Prop}{ts:List (Nat×I)}{os:List (Nat×aq)}(h:ae c x Q (au (gT L ts) os)):ae c x Q (au ts os):=by
 refine ae.sub ?_ h;rintro cc a w ⟨D,E,ab⟩;refine ⟨D,E,ab.sz,ab.eE,fun t =>?_,ab.dM,ab.cX,ab.aQ,ab.bQ,ab.cL,ab.dP,ab.eP,ab.cQ,ab.eX,ab.fu⟩;simp only[au];rcases Cj L t ts with e | e
 ·rw[e];simp[bd]
 ·rw[e];exact ab.dO t
theorem BZ:(∀ L,gT L []=[])∧(∀ L s v ts,gT L ((s,v)::ts)=if L.contains s=true then (s,v)::gT L ts else gT L ts)∧(∀ (a:Nat) l b,(a::l).contains b=(b==a||l.contains b))∧(∀ b:Nat,([]:List Nat).contains b=false)∧(∀ b,(false||b)=b)∧(∀ b,(true||b)=true)∧(∀ b,(b||true)=true)∧(∀ b,(b||false)=b)∧((false=true)=False) :=
 ⟨W2,WZ,fun _ _ _=>List.contains_cons,fun _=>rfl,fun _=>rfl,fun _=>rfl,fun b=>by cases b <;>rfl,fun b=>by cases b <;>rfl,by simp⟩
end Go.Abs
namespace Go.Abs
open Go Go.RowKit
open Enc (enc)
def wk:Option aq→Option (List I×List I)
 |some (.bt ks vs)=>some (ks,vs)
 |_=>none
noncomputable def qS(A:ai)(n:Nat)(rest:List aH):Option (List I×List I)→cI
 |some (ks,vs)=>aB rest (A.aV n (.bt ks vs))
 |none=>.fail
noncomputable def wB(A:ai)(n:Nat)(ty:cB)(k v:I)(rest:List aH):Option aq→cI
 |some (.bt ks vs)=>qS A n rest (fp ty k v ks vs)
 |_=>.fail
noncomputable def wA(A:ai)(ty:cB)(k v:I)(rest:List aH):I→cI
 | .mref n=>wB A n ty k v rest (A.o n)
 |_=>.fail
noncomputable def wu(A:ai)(n:Nat)(ty:cB)(k:I)(rest:List aH):Option aq→cI
 |some (.bt ks vs)=>qS A n rest (lT ty k ks vs)
 |_=>.fail
noncomputable def wq(A:ai)(ty:cB)(k:I)(rest:List aH):I→cI
 | .mref n=>wu A n ty k rest (A.o n)
 |_=>.fail
noncomputable def wz(A:ai)(d:Nat)(rest:List aH):Option aq→cI
 |none=>aB rest ((A.aV d (.bt [] [])).put d (.mref d))
 |some _=>.fail
open Classical in
noncomputable def Cx(A:ai)(d bytes:Nat)(z:I)(rest:List aH):I→cI
 | .int _ n=>if 0≤n∧n.toNat*bytes≤281474976710656∧n.toNat≤maxLen then aB rest ((A.aV d (.box (.agg (List.replicate n.toNat z)))).put d (.view d [] 1 0 n.toNat)) else .fail
 |_=>.fail
noncomputable def te(A:ai)(d bytes:Nat)(z n:I)(rest:List aH):Option aq→cI
 |none=>Cx A d bytes z rest n
 |some _=>.fail
noncomputable def tI(A:ai)(d:Nat)(rest:List aH):I→cI
 | .de ks vs=>aB rest ((A.aV d (.it ks vs (List.range ks.length) none)).put d (.dk d))
 |_=>.fail
noncomputable def tH(A:ai)(d:Nat)(x:I)(rest:List aH):Option aq→cI
 |none=>tI A d rest x
 |some _=>.fail
def vi:Option aq→Option I
 |some (.it ks vs _ cur)=>mB ks vs cur
 |_=>none
def vh(A:ai):I→Option I
 | .dk n=>vi (A.o n)
 |_=>none
open Classical in
noncomputable def pq(A:ai)(d:Option Nat)(n:Nat)(rest:List aH):Option aq→cI
 |some (.it ks vs left _)=>if left=[] then aB rest (A.aU d (.tuple [.bool false])) else
   .any (fun i=>i∈left) fun i=>match ks[i]?,vs[i]? with
    |some kk,some x=>aB rest ((A.aV n (.it ks vs (left.filter (· != i)) (some i))).aU d (.tuple [.bool true,kk,x]))
    |_,_=>.fail
 |_=>.fail
noncomputable def wI(A:ai)(d:Option Nat)(rest:List aH):I→cI
 | .dk n=>pq A d n rest (A.o n)
 |_=>.fail
section
variable (d:Option Nat) (rest:List aH) (A:ai)
theorem Yh(x:aO):bM A d (.nilC x) rest=cP (lU (ak A x)) (dc d rest A):=rfl
theorem Yl(neg:Bool)(x y:aO):bM A d (.ptrE neg x y) rest=cP (mT neg (iH (ak A x)) (iH (ak A y))) (dc d rest A):=rfl
theorem Ya(ty:cB)(z:I)(ok:Bool)(m k:aO):bM A d (.lk ty z ok m k) rest=cP (qM ty z ok (ak A k) (fX A (ak A m))) (dc d rest A):=rfl
theorem Xq(n:Nat):fX A (.mref n)=wk (A.o n):=by
 simp only[fX];cases A.o n with
 |none=>rfl
 |some y=>cases y <;>rfl
theorem Yf(ty:cB)(m k v:aO):bM A none (.eT ty m k v) rest=wA A ty (ak A k) (ak A v) rest (ak A m):=by
 simp only[bM,bj];cases ak A m <;>rfl
theorem Yb(ty:cB)(m k:aO):bM A none (.iI ty m k) rest=wq A ty (ak A k) rest (ak A m):=by
 simp only[bM,bj];cases ak A m <;>rfl
theorem Yd(d:Nat):bM A (some d) .iJ rest=wz A d rest (A.o d):=by
 simp only[bM,bj];cases A.o d <;>rfl
theorem Ye(d e bytes:Nat)(z:I)(n:aO):bM A (some d) (.kp e bytes z n) rest=te A d bytes z (ak A n) rest (A.o d):=by
 simp only[bM,bj];cases A.o d with
 |some _=>rfl
 |none=>simp only[te];cases ak A n <;>rfl
theorem Ym(d:Nat)(x:aO):bM A (some d) (.jI x) rest=tH A d (ak A x) rest (A.o d):=by
 simp only[bM,bj];cases A.o d with
 |some _=>rfl
 |none=>simp only[tH];cases ak A x <;>rfl
theorem XZ(x:aO):bM A d (.ent x) rest=cP (vh A (ak A x)) (dc d rest A):=by
 simp only[bM,bj,bn];cases ak A x <;>rfl
theorem Yj(x:aO):bM A d (.ib x) rest=wI A d rest (ak A x):=by
 simp only[bM,bj];cases ak A x <;>rfl
end
theorem Cp:(∀ rest A ty m k,bM A none (.iI ty m k) rest=wq A ty (ak A k) rest (ak A m))∧(∀ A ty k rest n,wq A ty k rest (.mref n)=wu A n ty k rest (A.o n))∧(∀ A n ty k rest ks vs,wu A n ty k rest (some (.bt ks vs))=qS A n rest (lT ty k ks vs)) ∧
  (∀ d rest A x y,bM A d (.max2 x y) rest=cP (qT (ak A x) (ak A y)) (dc d rest A))∧(∀ a b,qT (.int .i64 a) (.int .i64 b)=some (.int .i64 (if b>a then b else a)))∧((I.any).bu=true) :=
 ⟨fun rest A=>Yb rest A,fun _ _ _ _ _=>rfl,fun _ _ _ _ _ _ _=>rfl,fun _ _ _ _ _=>rfl,fun _ _=>rfl,rfl⟩
theorem mM :
  (∀ d rest A x,bM A d (.nilC x) rest=cP (lU (ak A x)) (dc d rest A))∧(∀ n p,lU (.ptr n p)=some (.ptr n p))∧(∀ x,lU (.ref x)=some (.ref x)) ∧
  (∀ d rest A neg x y,bM A d (.ptrE neg x y) rest=cP (mT neg (iH (ak A x)) (iH (ak A y))) (dc d rest A))∧(iH .nilp=some true)∧(∀ n p,iH (.ptr n p)=some false)∧(∀ x,iH (.ref x)=some false) ∧
  (mT false (some true) (some true)=some (.bool true))∧(mT false (some false) (some true)=some (.bool false))∧(mT true (some true) (some true)=some (.bool false))∧(mT true (some false) (some true)=some (.bool true)) ∧
  (∀ d rest A ty z ok m k,bM A d (.lk ty z ok m k) rest=cP (qM ty z ok (ak A k) (fX A (ak A m))) (dc d rest A))∧(∀ A n,fX A (.mref n)=wk (A.o n))∧(∀ A ks vs,fX A (.de ks vs)=some (ks,vs))∧(∀ ks vs,wk (some (.bt ks vs))=some (ks,vs)) ∧
  (∀ ty z ok k ks vs,qM ty z ok k (some (ks,vs))=qN ok (fo ty z k ks vs))∧(∀ v b,qN false (some (v,b))=some v)∧(∀ v b,qN true (some (v,b))=some (.tuple [v,.bool b])) ∧
  (∀ rest A ty m k v,bM A none (.eT ty m k v) rest=wA A ty (ak A k) (ak A v) rest (ak A m))∧(∀ A ty k v rest n,wA A ty k v rest (.mref n)=wB A n ty k v rest (A.o n))∧(∀ A n ty k v rest ks vs,wB A n ty k v rest (some (.bt ks vs))=qS A n rest (fp ty k v ks vs)) ∧
  (∀ A n rest ks vs,qS A n rest (some (ks,vs))=aB rest (A.aV n (.bt ks vs))) ∧
  (∀ rest A d,bM A (some d) .iJ rest=wz A d rest (A.o d))∧(∀ A d rest,wz A d rest none=aB rest ((A.aV d (.bt [] [])).put d (.mref d))) ∧
  (∀ rest A d e bytes z n,bM A (some d) (.kp e bytes z n) rest=te A d bytes z (ak A n) rest (A.o d))∧(∀ A d bytes z n rest,te A d bytes z n rest none=Cx A d bytes z rest n) ∧
  (∀ rest A d x,bM A (some d) (.jI x) rest=tH A d (ak A x) rest (A.o d))∧(∀ A d x rest,tH A d x rest none=tI A d rest x)∧(∀ A d rest ks vs,tI A d rest (.de ks vs)=aB rest ((A.aV d (.it ks vs (List.range ks.length) none)).put d (.dk d))) ∧
  (∀ d rest A x,bM A d (.ent x) rest=cP (vh A (ak A x)) (dc d rest A))∧(∀ A n,vh A (.dk n)=vi (A.o n))∧(∀ ks vs l cur,vi (some (.it ks vs l cur))=mB ks vs cur) ∧
  (∀ d rest A x,bM A d (.ib x) rest=wI A d rest (ak A x))∧(∀ A d rest n,wI A d rest (.dk n)=pq A d n rest (A.o n)) :=
 ⟨Yh,fun _ _=>rfl,fun _=>rfl,Yl,rfl,fun _ _=>rfl,fun _=>rfl,rfl,rfl,rfl,rfl,Ya,Xq,fun _ _ _=>rfl,fun _ _=>rfl,fun _ _ _ _ _ _=>rfl,fun _ _=>rfl,fun _ _=>rfl,
  fun rest A ty m k v=>Yf rest A ty m k v,fun _ _ _ _ _ _=>rfl,fun _ _ _ _ _ _ _ _=>rfl,fun _ _ _ _ _=>rfl,fun rest A d=>Yd rest A d,fun _ _ _=>rfl,fun rest A d e bytes z n=>Ye rest A d e bytes z n,fun _ _ _ _ _ _=>rfl,
  fun rest A d x=>Ym rest A d x,fun _ _ _ _=>rfl,fun _ _ _ _ _=>rfl,XZ,fun _ _=>rfl,fun _ _ _ _=>rfl,Yj,fun _ _ _ _=>rfl⟩
theorem bq:(∀ n p z lo k,b6 none (.view n p z lo k)=true)∧(∀ n,b6 none (.mref n)=true)∧(∀ n p,b6 none (.ptr n p)=true)∧(∀ x,b6 none (.ref x)=true)∧b6 none .nilp=true∧b6 none .dx=true∧b6 none (.raw (.map none))=true∧(∀ ks vs,b6 none (.de ks vs)=true)∧(∀ {α:Type} [Enc α] (l:List α),b6 none (enc l)=true) :=
 ⟨fun _ _ _ _ _=>rfl,fun _=>rfl,fun _ _=>rfl,fun _=>rfl,rfl,rfl,rfl,fun _ _=>rfl,fun l=>by simp[kj,ki]⟩
section
variable {α:Type} [Enc α] [DecidableEq α] {ty:cB}
theorem sG(ay:∀ x y:α,b7 ty (enc x) (enc y)=some (decide (x=y)))(k:α):∀ (ks:List α) (i:Nat),eG ty (enc k) (ks.map enc) i=some ((ks.findIdx? fun x=>decide (k=x)).map (· + i))
 | [],i=>rfl
 |x::ks,i=>by
  simp only[zz4,eG,ay,List.findIdx?_cons];by_cases h:k=x
  ·simp[h]
  ·simp only[h,decide_false,zz2,if_false];rw[sG ay k ks (i+1)];cases ks.findIdx? fun x=>decide (k=x) with
   |none=>rfl
   |some j=>simp;omega
theorem sY(ay:∀ x y:α,b7 ty (enc x) (enc y)=some (decide (x=y)))(z:I)(k:α)(ks:List α)(vs:List I) :
  fo ty z (enc k) (ks.map enc) vs=match ks.findIdx? fun x=>decide (k=x) with
   |some i=>(vs[i]?).map fun v=>(v,true)
   |none=>some (z,false):=by
 simp only[fo,ay,Option.isSome_some,if_true,sG ay];cases ks.findIdx? fun x=>decide (k=x) <;>rfl
theorem wC(ay:∀ x y:α,b7 ty (enc x) (enc y)=some (decide (x=y)))(k:α)(v:I)(hv:v.bT=true)(ks:List α)(vs:List I) :
  fp ty (enc k) v (ks.map enc) vs=match ks.findIdx? fun x=>decide (k=x) with
   |some i=>some (ks.map enc,vs.set i v)
   |none=>some ((ks++[k]).map enc,vs++[v]):=by
 simp only[fp,ay,Option.isSome_some,hv,BT (kR k),and_self,if_true,sG ay];cases ks.findIdx? fun x=>decide (k=x) with
 |none=>simp
 |some i=>rfl
omit [Enc α] in
theorem qo{k:α}{ks:List α} : (ks.findIdx? fun x=>decide (k=x)).isSome=decide (k∈ks):=by
 induction ks with
 |nil=>rfl
 |cons x ks ih =>
  simp only[List.findIdx?_cons,zw4];by_cases h:k=x
  ·simp[h]
  ·simp only[h,decide_false,zz2,if_false,Option.isSome_map,ih,false_or]
theorem fW(ay:∀ x y:α,b7 ty (enc x) (enc y)=some (decide (x=y)))(k:α)(ks:List α):fo ty (.bool false) (enc k) (ks.map enc) (List.replicate ks.length (.bool true))=some (.bool (decide (k∈ks)),decide (k∈ks)):=by
 rw[sY ay,←qo];cases h:ks.findIdx? fun x=>decide (k=x) with
 |none=>rfl
 |some i =>
  have:=(List.findIdx?_eq_some_iff_getElem.1 h).1;simp[this]
def gC{α:Type}[DecidableEq α](ks:List α)(k:α):List α:=if k∈ks then ks else ks++[k]
theorem wD(ay:∀ x y:α,b7 ty (enc x) (enc y)=some (decide (x=y)))(k:α)(ks:List α):fp ty (enc k) (.bool true) (ks.map enc) (List.replicate ks.length (.bool true))=some ((gC ks k).map enc,List.replicate (gC ks k).length (.bool true)):=by
 rw[wC ay k _ rfl];have hm:=qo (k:=k) (ks:=ks);cases h:ks.findIdx? fun x=>decide (k=x) with
 |none =>
  rw[h] at hm;have:k∉ks:=by simpa using hm.symm
  simp only[gC,if_neg this]
  congr 2
  rw[zz6,List.length_singleton,List.replicate_succ']
 |some i =>
  rw[h] at hm;have:k∈ks:=by simpa using hm.symm
  simp only[gC,if_pos this]
  congr 2
  have:=(List.findIdx?_eq_some_iff_getElem.1 h).1;exact List.ext_getElem (by simp) fun j J U=>by
   simp only[List.getElem_set,List.getElem_replicate];split <;>rfl
end
theorem WX{m sz lo l i:Nat}{fs:List I}(h:i<l):mI m [] sz lo l sz (i:Int) (some fs)=some (.ptr m [lo+i]):=by rw[WW h];rfl
theorem As:(∀ {α:Type} [Enc α] (x:α),(enc x).bu=true)∧(∀ n p z lo k,(I.view n p z lo k).bu=false)∧(∀ n,(I.mref n).bu=false)∧(∀ n p,(I.ptr n p).bu=false)∧(∀ n k,(I.own n k).bu=false) :=
 ⟨@kR,fun _ _ _ _ _=>rfl,fun _=>rfl,fun _ _=>rfl,fun _ _=>rfl⟩
end Go.Abs
namespace Go.Abs
open Go Go.RowKit
open Enc (enc)
theorem bH.GY{A:ai}{d n T z:Nat}(af:A.t d=.nils z)(hn:A.o n=none)(hlt:n<1000000):bH A ((A.aV n (.dG T [])).put d (.own n 0)):=by
 rintro c a w ⟨D,E,h⟩;have ay:E n=none:=by have:=h.bQ n;rw[hn] at this;exact this
 have ao:dS w D E w D (fun m=>if m=n then some (.rw none 0) else E m):=by
  have eM:∀ {m:Nat} {e:bO},E m=some e→(if m=n then some (.rw none 0) else E m)=some e:=fun {m e} he=>by
   have:m≠n:=fun e=>by rw[e,ay] at he;cases he
   rw[if_neg this];exact he
  refine ⟨fun _ _ h=>h,fun _ _ _ _ h=>h,fun m b aX he=>eM he,fun m aJ l he =>?_,fun m b he=>eM he,fun m b he=>eM he,fun _ _ _ _ h=>h⟩
  ·have:m≠n:=fun e=>by rw[e,ay] at he;cases he
   exact ⟨aJ,l,by simp only[if_neg this];exact he,zz3 _,fun _=>rfl⟩
 refine ⟨D,fun m=>if m=n then some (.rw none 0) else E m,h.sz,h.eE,fun t =>?_,h.dM,h.cX,h.aQ,fun m =>?_,fun m m' e e' b J U ah ar =>?_,fun m e hm =>?_,h.eP,h.cQ,h.eX,h.fu⟩
 ·simp only[ai.put,ai.aV];by_cases ht:t=d
  ·subst ht;simp only[if_true];have hv:=h.dO t;rw[af] at hv;obtain ⟨cs,q1,q2⟩:=hv;simp only[al] at q2;subst q2;refine ⟨[.slice none 0 0],by simpa[bA,I.isAgg] using q1,?_⟩;simp only[al,if_true];exact ⟨none,0,rfl,zz3 _,⟨_,_,_,rfl⟩,fun _=>trivial⟩
  ·simp only[if_neg ht];exact bd.later ao (h.dO t)
 ·simp only[ai.put,ai.aV];by_cases hm:m=n
  ·subst hm;simp only[if_true,cV];exact ⟨none,by simp,by simp,trivial⟩
  ·simp only[if_neg hm];exact (h.bQ m).later ao (by simp only[if_neg hm]) fun _ _ _ _=>⟨rfl,fun _ ho=>ho⟩
 ·by_cases hm:m=n <;>by_cases hm':m'=n
  ·rw[hm,hm']
  ·simp only[if_pos hm,v6] at J;subst J;simp[bO.aJ] at ah
  ·simp only[if_pos hm',v6] at U;subst U;simp[bO.aJ] at ar
  ·simp only[if_neg hm] at J;simp only[if_neg hm'] at U;exact h.cL m m' e e' b J U ah ar
 ·have hmn:m≠n:=fun e=>by rw[e,h.kl (.inr hlt)] at hm;cases hm
  simp only[if_neg hmn];exact h.dP m e hm
theorem bH.GZ{ts:List (Nat×I)}{os:List (Nat×aq)}(d n T z:Nat)(af:bX ts d=.nils z)(hn:aj os n=none){B:ai}(h:bH (au ((d,.own n 0)::ts) ((n,.dG T [])::os)) B)(hlt:n<1000000:=by decide):bH (au ts os) B :=
 ((bH.GY (A:=au ts os) (T:=T) af hn hlt).trans (by rw[qR,ta];exact bH.refl _)).trans h
theorem Ha{A:ai}{d:Option Nat}{e bytes n l:Nat}{xs:List Int}{y:Int}{rest:List aH}(ao:l=xs.length)(J:xs.length+1≤maxLen)(U:(xs.length+1)*bytes≤140737488355328) :
  oG A d e 1 bytes (.int .i64 0) n l e xs rest (enc [y])=aB rest ((A.aV n (.dG e (xs++[y]))).aU d (.own n (xs.length+1))):=by
 show oG A d e 1 bytes (.int .i64 0) n l e xs rest (.slice 1 [.int .i64 y])=_
 simp only[oG];rw[if_pos ⟨ao,rfl,rfl,rfl,rfl,by simp,J,U⟩];rfl
def ja(n k:Nat):I→I
 | .own n' k'=>if n'=n∧k'=k then .view n [] 1 0 k else .own n' k'
 |v=>v
def iZ(n:Nat):I→I
 | .own n' k'=>if n'=n∧k'=0 then .nils 1 else .own n' k'
 |v=>v
def jL(f:I→I):aq→aq
 | .box v=>.box (f v)
 |y=>y
def qY(n k:Nat)(v:I):Prop:=v=.own n k∨v.only (fun j=>j != n)=true
def Yv(n k:Nat)(y:aq):Prop:=y=.box (.own n k)∨y.only (fun j=>j != n)=true
theorem tV{n k:Nat}{v:I}(h:v.only (fun j=>j != n)=true):ja n k v=v:=by
 cases v <;>try rfl
 rename_i n' k';simp only[I.only,bne_iff_ne,ne_eq] at h;simp only[ja,h,false_and,if_false]
theorem Fq{n:Nat}{v:I}(h:v.only (fun j=>j != n)=true):iZ n v=v:=by
 cases v <;>try rfl
 rename_i n' k';simp only[I.only,bne_iff_ne,ne_eq] at h;simp only[iZ,h,false_and,if_false]
theorem ph(f:I→I)(hf:f .dp=.dp)(ts:List (Nat×I))(t:Nat):bX (ts.map fun q=>(q.1,f q.2)) t=f (bX ts t):=by
 induction ts with
 |nil=>exact hf.symm
 |cons q ts ih =>
  obtain ⟨k,v⟩:=q;simp only[zz4,bX];split
  ·rfl
  ·exact ih
theorem s7(f:aq→aq)(os:List (Nat×aq))(t:Nat):aj (os.map fun q=>(q.1,f q.2)) t=(aj os t).map f:=by
 induction os with
 |nil=>rfl
 |cons q os ih =>
  obtain ⟨k,v⟩:=q;simp only[zz4,aj];split
  ·rfl
  ·exact ih
theorem cV.c7{M:Nat→Prop}{w:World}{D:aR}{E E':a8}{p:Nat→Bool}(hp:∀ n,p n=true→E' n=E n){m:Nat}(ay:E' m=E m){y:aq}(hon:y.only p=true)(ho:cV M w D E m (some y)):cV M w D E' m (some y):=by
 cases y with
 |box x =>
  obtain ⟨b,cs,T,k1,k2,k3,k4,k5⟩:=ho;exact ⟨b,cs,T,ay.trans k1,k2,k3,al.c7 hp _ _ (by simpa[aq.only] using hon) k4,k5⟩
 |b5 T sz es =>
  obtain ⟨aJ,k1,k2,k3⟩:=ho;refine ⟨aJ,ay.trans k1,k2,?_⟩;cases aJ with
  |none=>exact k3
  |some bc =>
   obtain ⟨b,cap⟩:=bc;obtain ⟨cs,pre,rest,q1,q2,q3,q4,q5⟩:=k3;exact ⟨cs,pre,rest,q1,q2,q3,aM.c7 hp _ _ (by simpa[aq.only] using hon) q4,q5⟩
 |dG T xs =>
  obtain ⟨aJ,k1,k2,k3⟩:=ho;exact ⟨aJ,ay.trans k1,k2,k3⟩
 |dD x =>
  obtain ⟨b,k1,k2⟩:=ho;exact ⟨b,ay.trans k1,k2⟩
 |bt ks vs =>
  obtain ⟨b,es,ck,k1,k2,k3,k4,k5,k6,k7⟩:=ho;simp only[aq.only,t8] at hon;exact ⟨b,es,ck,ay.trans k1,k2,k3,k4,aI.c7 hp _ _ hon.1 k5,aI.c7 hp _ _ hon.2 k6,k7⟩
 |it ks vs left cur =>
  obtain ⟨r,b,es,ck,si,se,la,k1,k2,k3,k4,k5,k6,k7⟩:=ho;simp only[aq.only,t8] at hon;exact ⟨r,b,es,ck,si,se,la,ay.trans k1,k2,k3,k4,aI.c7 hp _ _ hon.1 k5,aI.c7 hp _ _ hon.2 k6,k7⟩
theorem rG(xs:List Int):(I.agg (xs.map enc)).aX=.eH (List.replicate xs.length .one):=by
 show cO.eH (I.cT _)=_
 congr 1
 induction xs with
 |nil=>rfl
 |cons x xs ih=>simp only[zz4,I.cT,ih,zw2,List.replicate_succ];rfl
theorem rm{w:World}{D:aR}{E:a8} : ∀ {xs:List Int},(∀ x∈xs,IntKind.i64.min≤x∧x≤IntKind.i64.max)→aM w D E (xs.map enc) (xs.map (Value.int .i64))
 | [],_=>rfl
 |x::xs,h=>⟨[.int .i64 x],xs.map (Value.int .i64),rfl,⟨rfl,h x (by simp)⟩,rm fun y hy=>h y (by simp[hy])⟩
theorem bH.Z8{ts:List (Nat×I)}{os:List (Nat×aq)}{n T:Nat}{B:ai}(hn:aj os n=some (.dG T []))
  (h:bH (au (ts.map fun q=>(q.1,iZ n q.2)) (os.map fun q=>(q.1,jL (iZ n) q.2))) B):bH (au ts os) B:=by
 refine bH.trans ?_ h;rintro c a w ⟨D,E,ab⟩;obtain ⟨aJ,ay,-,hblk⟩:=ab.rO (n:=n) (T:=T) (xs:=[]) hn;have hnone:aJ=none:=by
  cases aJ with
  |none=>rfl
  |some bc=>obtain ⟨b,cap⟩:=bc;obtain ⟨_,_,_,_,_,h,_⟩:=hblk;exact absurd rfl h
 subst hnone;have conv:∀ (v:I) (cs:List Value),al w D E v cs→al w D E (iZ n v) cs:=fun v cs hr=>by
  cases v <;>try exact hr
  rename_i n' k';simp only[iZ];split
  ·rename_i bG;obtain ⟨rfl,rfl⟩:=bG;obtain ⟨blk',l,q3,q4,q5,q6⟩:=hr;rw[ay] at q3;simp only[v6,bO.rw.injEq,List.length_nil] at q3;obtain ⟨rfl,rfl⟩:=q3;exact q6 rfl
  ·exact hr
 refine ⟨D,E,ab.sz,ab.eE,fun t =>?_,ab.dM,ab.cX,ab.aQ,fun m =>?_,ab.cL,ab.dP,ab.eP,ab.cQ,ab.eX,ab.fu⟩
 ·show bd w D E (bX _ t) _
  rw[ph _ rfl];have:=ab.dO t;simp only[au] at this;revert this;generalize bX ts t=v;intro hv;cases v <;>try exact hv
  rename_i n' k';obtain ⟨cs,q1,q2⟩:=hv;have:=conv _ _ q2
  revert this;simp only[iZ];split
  ·intro this;exact ⟨cs,q1,this⟩
  ·intro this;exact ⟨cs,q1,this⟩
 ·show cV _ w D E m (aj _ m)
  rw[s7];have:=ab.bQ m;simp only[au] at this;revert this;cases aj os m with
  |none=>exact id
  |some y =>
   cases y <;>try exact id
   rename_i x;rintro ⟨b,cs,T,k1,k2,k3,k4,k5⟩;refine ⟨b,cs,T,?_,k2,k3,conv _ _ k4,k5⟩;rw[k1];have:(iZ n x).aX=x.aX:=by
    cases x <;>try rfl
    simp only[iZ];split <;>rfl
   rw[this]
theorem ae.Z7{c:cS}{x:bo}{Q:Exit→ai→Prop}{ts:List (Nat×I)}{os:List (Nat×aq)}{n T:Nat}{xs:List Int}(hn:aj os n=some (.dG T xs))(hne:xs≠[])(hlt:n<1000000)
  (ht:∀ t,qY n xs.length (bX ts t)) (ho:∀ m y,aj os m=some y→m≠n→Yv n xs.length y)
  (h:∀ q:Nat,ae c x Q (au (ts.map fun p=>(p.1,ja n xs.length p.2)) ((n,.box (.agg ((xs++List.replicate q 0).map enc)))::os.map fun p=>(p.1,jL (ja n xs.length) p.2)))):ae c x Q (au ts os):=by
 rintro code hc a w ⟨D,E,ab⟩;obtain ⟨aJ,ay,hr,hblk⟩:=ab.rO (n:=n) hn;cases aJ with
 |none=>exact absurd hblk hne
 |some bc =>
 obtain ⟨b,cap⟩:=bc;obtain ⟨cs,q,hM,hb,hcs,-,hcap,hmax,hD⟩:=hblk;have hp:∀ j,(fun j=>j != n) j=true→(fun j=>if j=n then some (bO.aN b (.eH (List.replicate (xs.length+q) .one))) else E j) j=E j:=fun j hj=>by
  have:j≠n:=by simpa using hj
  simp only[if_neg this]
 have conv:∀ cs0,al w D E (.own n xs.length) cs0→al w D (fun j=>if j=n then some (bO.aN b (.eH (List.replicate (xs.length+q) .one))) else E j) (.view n [] 1 0 xs.length) cs0:=fun cs0 hr=>by
  obtain ⟨blk',l,q3,q4,q5,q6⟩:=hr;rw[ay] at q3;simp only[v6,bO.rw.injEq] at q3;obtain ⟨rfl,rfl⟩:=q3;have:=q6 rfl;refine ⟨b,_,0,List.replicate (xs.length+q) .one,if_pos rfl,rfl,rfl,?_,by rw[List.length_replicate];omega,by rw[List.length_replicate];omega,fun s ab =>?_⟩
  ·rw[this,List.length_replicate];simp only[Nat.zero_mul,Nat.add_zero,Nat.sub_zero,hcap]
  ·rw[List.eq_of_mem_replicate ab];rfl
 refine h q code hc a w ⟨D,fun j=>if j=n then some (.aN b (.eH (List.replicate (xs.length+q) .one))) else E j,ab.sz,ab.eE,fun t =>?_,ab.dM,ab.cX,ab.aQ,fun m =>?_,fun m m' e e' b1 J U ah ar =>?_,fun m e hm =>?_,ab.eP,ab.cQ,ab.eX,ab.fu⟩
 ·show bd w D _ (bX _ t) _
  rw[ph _ rfl];have hv:=ab.dO t;simp only[au] at hv;rcases ht t with J | J
  ·rw[J] at hv ⊢;simp only[ja,and_self,if_true];obtain ⟨cs0,q1,q2⟩:=hv;exact ⟨cs0,q1,conv _ q2⟩
  ·rw[tV J];exact bd.c7 hp J hv
 ·show cV _ w D _ m (aj _ m)
  simp only[aj];by_cases hm:m=n
  ·subst hm;simp only[if_true];refine ⟨b,cs,T,?_,hM,hb,?_,hD⟩
   ·simp only[if_true];rw[rG,zz6,List.length_replicate]
   ·show aM w D _ _ _
    rw[hcs];refine rm fun y hy =>?_;rcases zx6.1 hy with hy | hy
    ·exact hr y hy
    ·rw[List.eq_of_mem_replicate hy];decide
  ·simp only[if_neg hm];rw[s7];have hob:=ab.bQ m;simp only[au] at hob;cases hy:aj os m with
   |none=>rw[hy] at hob;simp only[cV,Option.map_none] at hob ⊢;rw[if_neg hm];exact hob
   |some y =>
    rw[hy] at hob;rcases ho m y hy hm with rfl | J
    ·obtain ⟨b1,cs1,r6,k1,k2,k3,k4,k5⟩:=hob;refine ⟨b1,cs1,r6,?_,k2,k3,?_,k5⟩
     ·simp only[if_neg hm];rw[k1];simp only[ja,and_self,if_true];rfl
     ·simp only[ja,and_self,if_true];exact conv _ k4
    ·have e:jL (ja n xs.length) y=y:=by
      cases y <;>try rfl
      simp only[aq.only] at J;simp only[jL,tV J]
     simp only[zz7,e];exact hob.c7 hp (if_neg hm) J
 ·have cut:∀ m e,(if m=n then some (bO.aN b (.eH (List.replicate (xs.length+q) .one))) else E m)=some e→∃ e2,E m=some e2∧e2.aJ=e.aJ:=fun m e he=>by
   by_cases hm:m=n
   ·subst hm;rw[if_pos rfl] at he;cases he;exact ⟨_,ay,rfl⟩
   ·rw[if_neg hm] at he;exact ⟨e,he,rfl⟩
  obtain ⟨e2,k1,k2⟩:=cut m e J;obtain ⟨e3,k3,k4⟩:=cut m' e' U;exact ab.cL m m' e2 e3 b1 k1 k3 (k2.trans ah) (k4.trans ar)
 ·have hmn:m≠n:=fun e=>by rw[e,ab.kl (.inr hlt)] at hm;cases hm
  simp only[if_neg hmn];exact ab.dP m e hm
end Go.Abs
namespace Go.Abs
open Go Go.RowKit
def sU(n:Nat)(cl:List Nat)(i:Nat):Bool:=(List.range n).all fun j=>j==i||(cl.getD i 0).testBit j
def pC(ab:List FuncId)(L:ea)(on:List (List Nat))(gs:List aH)(cl:List Nat)(σ:List Nat):Bool :=
 (Nat.beq σ.length gs.length&&(qX σ&&(σ.all (fun i=>decide (i<gs.length))&&((List.range gs.length).all (fun i=>σ.contains i)&&(List.range gs.length).all fun i=>mO (gs.getD i default).op&&(hZ L (gs.getD i default)||(sU gs.length cl i&&σ.getLast?==some i))))))&&(p0 ab L gs cl [] σ&&(List.range gs.length).all fun i=>(on.getD i []).all (fun k=>decide (k<i))&&Nat.beq (cl.getD i 0) (ly cl (on.getD i [])))
structure ur (ab:List FuncId) (L:ea) (l:List Oper) (gs:List aH) (σ:List Nat):Prop where
 nQ:σ.Nodup
 lt:∀ i∈σ,i<gs.length
 all:∀ i,i<gs.length→i∈σ
 ok:∀ i,i<gs.length→mO (gs.getD i default).op=true
 qJ:∀ i o,l[i]?=some o→hZ L (gs.getD i default)=true∨(σ.getLast?=some i∧∀ (S:Nat→Prop),(∀ i o,l[i]?=some o→S i→∀ k∈cn o,S k)→(∀ k∈cn o,S k)→∀ j,j<gs.length→j≠i→S j)
 len:σ.length=gs.length
 iz:∀ i o,l[i]?=some o→∀ k∈cn o,k<i
 oZ:∀ (S:Nat→Prop),(∀ i o,l[i]?=some o→S i→∀ k∈cn o,S k)→∀ s1 i s2 o,σ=s1++i::s2→l[i]?=some o→(∀ k∈cn o,S k)→∀ j∈s1,¬ S j→mG ab L (gs.getD j default) (gs.getD i default)=true
theorem CZ{ab:List FuncId}{L:ea}{l:List Oper}{gs:List aH}{cl σ:List Nat}(hlen:gs.length=l.length)(h:pC ab L (l.map cn) gs cl σ=true):ur ab L l gs σ:=by
 simp only[pC,t8,zx0,decide_eq_true_eq,zw7,List.contains_eq_mem] at h;obtain ⟨⟨J,U,ah,ar,h5⟩,h6,h7⟩:=h;have fC:∀ i o,l[i]?=some o→(∀ k∈cn o,k<i)∧(∀ j,(cl.getD i 0).testBit j=true→j∈cn o∨∃ k∈cn o,(cl.getD k 0).testBit j=true):=by
  intro i o ho;have hi:i<l.length:=(zz5.1 ho).1;have h8:=h7 i (by omega);have hon:(l.map cn).getD i []=cn o:=by simp[zz0,ho]
  rw[hon] at h8;have hb:=Nat.eq_of_beq_eq_true h8.2;exact ⟨h8.1,fun j hj=>rQ (by rw[←hb];exact hj)⟩
 have keyS:∀ (S:Nat→Prop),(∀ i o,l[i]?=some o→S i→∀ k∈cn o,S k)→∀ n i o,i≤n→l[i]?=some o→(∀ k∈cn o,S k)→∀ j,(cl.getD i 0).testBit j=true→S j:=by
  intro S hS n
  induction n with
  |zero =>
   intro i o hi ho hon j hj;obtain ⟨h8,h9⟩:=fC i o ho;rcases h9 j hj with h | ⟨k,hk,_⟩
   ·exact hon j h
   ·have:=h8 k hk;omega
  |succ n ih =>
   intro i o hi ho hon j hj;obtain ⟨h8,h9⟩:=fC i o ho;rcases h9 j hj with h | ⟨k,hk,hjk⟩
   ·exact hon j h
   ·have hki:=h8 k hk;have hkl:k<l.length:=Nat.lt_trans hki (zz5.1 ho).1;obtain ⟨ok,hok⟩:∃ ok,l[k]?=some ok:=⟨l[k],zy4 hkl⟩
    exact ih k ok (by omega) hok (hS k ok hok (hon k hk)) j hjk
 refine ⟨wG U,ah,ar,fun i hi=>(h5 i hi).1,fun i o ho =>?_,Nat.eq_of_beq_eq_true J,fun i o ho=>(fC i o ho).1,?_⟩
 ·have hi:i<gs.length:=by rw[hlen];exact (zz5.1 ho).1
  have h5o:=(h5 i hi).2;rw[Bool.or_eq_true] at h5o;rcases h5o with h | h
  ·exact .inl h
  ·rw[t8] at h;obtain ⟨h,hla⟩:=h;refine .inr ⟨by simpa using hla,fun S hS hon j hj hji =>?_⟩;simp only[sU,zx0,zw7,Bool.or_eq_true,beq_iff_eq] at h;rcases h j hj with e | e
   ·exact absurd e hji
   ·exact keyS S hS i i o (zz3 _) ho hon j e
 intro S hS s1 i s2 o e ho hon j hj hnj;have key:=keyS S hS;rcases uz h6 s1 i s2 e j (.inr hj) with h | h
 ·exact absurd (key i i o (zz3 _) ho hon j h) hnj
 ·exact h
section
variable {c:cS}
theorem G5{K:ai→Prop}{fs:List FuncId}{L:ea}{aT:Array Oper}{gs:List aH}{σ:List Nat}{Q:Exit→Act→World→Prop}(hQ:∀ B a w,K B→bY c B a w→Q .normal a w)(hgs:fJ c.P c.n aT aT.toList=some gs)(af:ur fs L aT.toList gs σ) :
  ∀ (fuel:Nat) (listed:Array Bool) (A:ai) (a:Act) (w:World),listed.size=aT.size→(∀ i o,aT.toList[i]?=some o→listed.getD i false=true→∀ k∈cn o,listed.getD k false=true)→(dX σ listed).length≤fuel →
   (dX σ listed=[]∨cN L A)→bP c.P c.Y fs K (aB (gv gs σ listed) A)→bY c A a w→wpAnyIn c.bC 9 c.P .any aT Q fuel listed a w:=by
 obtain ⟨hlen,hat⟩:=iA hgs;have onOf_mem:∀ (o:Oper) (e:Edge),e∈o.after→Region.binds .any e=true→e.on∈cn o:=fun o e he hb=>by
  simp only[cn,zx1,zw0];exact ⟨e,⟨by simpa using he,hb⟩,rfl⟩
 have of_onOf:∀ (o:Oper) (k:Nat),k∈cn o→∃ e∈o.after,Region.binds .any e=true∧e.on=k:=fun o k hk=>by
  simp only[cn,zx1,zw0] at hk;obtain ⟨e,⟨J,U⟩,ah⟩:=hk;exact ⟨e,by simpa using J,U,ah⟩
 have hgl:gs.length=aT.size:=by rw[hlen,zx2]
 have last:∀ (listed:Array Bool) (A:ai) (a:Act) (w:World),listed.size=aT.size→Region.ready .any aT listed=[]→bP c.P c.Y fs K (aB (gv gs σ listed) A)→bY c A a w→Q .normal a w:=by
  intro listed A a w hsz hr hwp ab;have hnone:dX σ listed=[]:=by
   have all:∀ n,∀ i,i<n→i<aT.size→listed.getD i true=true:=by
    intro n
    induction n with
    |zero=>intro i hi;omega
    |succ n ih =>
     intro i hi his;cases hb:listed.getD i true with
     |true=>rfl
     |false =>
      exfalso
      have ho:aT[i]?=some aT[i]:=zw5 his;have:i∈Region.ready .any aT listed:=mem_ready.2 ⟨hb,aT[i],ho,fun e he hbd=>by
       have hlt:=af.iz i aT[i] (by simp) e.on (onOf_mem _ e he hbd);have J:=ih e.on (by omega) (by omega);have U:e.on<listed.size:=by omega
       simpa[Array.getD_eq_getD_getElem?,U] using J⟩
      rw[hr] at this;cases this
   simp only[dX];refine List.filter_eq_nil_iff.2 fun i hi =>?_;have:=all (i+1) i (by omega) (by rw[←hgl];exact af.lt i hi);simp only[this,Bool.not_true,zz2,not_false_eq_true]
  simp only[gv,hnone,zx8,aB] at hwp;cases hwp with
  |done hk=>exact hQ A a w hk ab
 intro fuel
 induction fuel with
 |zero =>
  intro listed A a w hsz hcl hcnt hinv hwp ab;have hnone:dX σ listed=[]:=List.length_eq_zero_iff.1 (by omega);have hr:Region.ready .any aT listed=[]:=by
   refine List.eq_nil_iff_forall_not_mem.2 fun i hi =>?_;obtain ⟨J,o,ho,_⟩:=mem_ready.1 hi;have:i∈dX σ listed:=by
    simp only[dX,zw0,J,Bool.not_false,and_true];exact af.all i (by rw[hgl];exact (zy0.1 ho).1)
   rw[hnone] at this;cases this
  exact ⟨hr,last listed A a w hsz hr hwp ab⟩
 |succ fuel ih =>
  intro listed A a w hsz hcl hcnt hinv hwp ab;refine ⟨fun hr=>last listed A a w hsz hr hwp ab,fun i hi =>?_⟩;obtain ⟨hun,o,ho,hall⟩:=mem_ready.1 hi;have hin:i<aT.size:=(zy0.1 ho).1;obtain ⟨s1,s2,hσ,e1,e2⟩:=xc af.nQ (af.all i (by omega)) (by omega) hun;have hinv:cN L A:=by
   rcases hinv with h | h
   ·rw[e1] at h;simp at h
   ·exact h
  have hol:aT.toList[i]?=some o:=by simpa using ho
  obtain ⟨g,hgi,hcg⟩:=hat i o hol;have hon:∀ k∈cn o,listed.getD k false=true:=fun k hk=>by
   obtain ⟨e,J,U,ah⟩:=of_onOf o k hk;exact ah▸hall e J U
  have hgd:gs.getD i default=g:=by simp[zz0,hgi]
  have hwp':bP c.P c.Y fs K (aB (g::gv gs σ (listed.setIfInBounds i true)) A):=by
   simp only[gv,e1,zy5,zz4,hgd] at hwp;simp only[gv,e2,zy5];refine bP.nw hinv (fun j hj =>?_) hwp;obtain ⟨k,hk,rfl⟩:=zx1.1 hj;obtain ⟨hk1,hk2⟩:=zw0.1 hk;have:=af.oZ (fun k=>listed.getD k false=true) hcl s1 i s2 o hσ hol hon k hk1 (by
    have hks:k<listed.size:=by
     have:=af.lt k (by rw[hσ];exact List.mem_append_left _ hk1);omega
    simp[Array.getD_eq_getD_getElem?,hks] at hk2 ⊢;exact hk2)
   rw[hgd] at this;have hkl:=af.lt k (by rw[hσ];exact List.mem_append_left _ hk1);have hks:k<aT.size:=by omega
   refine ⟨this,?_⟩;rcases af.qJ k aT[k] (by simp) with h | h
   ·exact h
   ·exfalso
    have h9:=h.1;rw[hσ,List.getLast?_append] at h9;have hne:(i::s2).getLast?=some k:=by
     cases h10:(i::s2).getLast? with
     |none=>simp at h10
     |some q=>rw[h10] at h9;simpa using h9
    have hk2:k∈i::s2:=List.mem_of_getLast? hne;have hnd:=af.nQ;rw[hσ] at hnd;exact (List.nodup_append.1 hnd).2.2 k hk1 k hk2 rfl
  unfold wpOpIn;rw[ho];have hgm:g∈gs:=List.mem_of_getElem? hgi;have hokg:mO g.op=true:=by
   have:=af.ok i (by omega)
   rwa [hgd] at this
  have hcl':∀ m om,aT.toList[m]?=some om→(listed.setIfInBounds i true).getD m false=true→∀ k∈cn om,(listed.setIfInBounds i true).getD k false=true:=by
   intro m om hom hm k hk;by_cases hmi:m=i
   ·subst hmi;rw[hol,v6] at hom;subst hom;exact getD_set_true (hon k hk)
   ·rw[getD_set_ne false (Ne.symm hmi)] at hm;exact getD_set_true (hcl m om hom hm k hk)
  have hfu:(dX σ (listed.setIfInBounds i true)).length≤fuel:=by
   have:(dX σ listed).length=(dX σ (listed.setIfInBounds i true)).length+1:=by
    rw[e1,e2];simp;omega
   omega
  rcases af.qJ i o hol with hlb | ⟨hla,hlb⟩
  ·rw[hgd] at hlb;exact sK hcg hinv ⟨hokg,hlb⟩ hwp' ab fun B a' w' hw hiB hs'=>ih _ B a' w' (by simpa using hsz) hcl' hfu (.inr hiB) hw hs'
  ·have hnil:dX σ (listed.setIfInBounds i true)=[]:=by
    simp only[dX];refine List.filter_eq_nil_iff.2 fun j hj =>?_;have hjl:=af.lt j hj;by_cases hji:j=i
    ·subst hji;have:j<listed.size:=by omega
     simp[this]
    ·have h5:=hlb (fun k=>listed.getD k false=true) hcl hon j hjl hji;have hjs:j<listed.size:=by omega
     have h6:(listed.setIfInBounds i true).getD j true=listed.getD j true:=getD_set_ne true (Ne.symm hji);rw[h6];simp[Array.getD_eq_getD_getElem?,hjs] at h5 ⊢;exact h5
   have hin0:cN [] A:=fun s ns h=>by cases h
   exact sK (L:=[]) hcg hin0 ⟨hokg,by simp[hZ,hU];cases g.dst <;>rfl⟩ hwp' ab fun B a' w' hw hiB hs'=>ih _ B a' w' (by simpa using hsz) hcl' hfu (.inl hnil) hw hs'
theorem ae.Zc{Q:Exit→ai→Prop}{A:ai}{on:List (List Nat)}{gs:List aH}(ab:List FuncId)(L:ea)(cl σ:List Nat)(af:pC ab L on gs cl σ=true)(hi:cN L A)(h:∀ K:ai→Prop,(∀ B,Q .normal B→K B)→bP c.P c.Y ab K (aB (eQ σ gs) A)):ae c (.b9 (some on) gs) Q A:=by
 intro code hc a w hs';cases code <;>simp only[eC] at hc <;>try (first | (cases hc;done) | ((repeat' split at hc) <;>cases hc;done))
 rename_i id aT draw;split at hc
 ·rename_i gs' hgs;split at hc
  case isFalse=>cases hc
  rename_i hok;simp only[v6,bo.b9.injEq] at hc;obtain ⟨he,rfl⟩:=hc;cases draw with
  |false=>cases he
  |true =>
   simp only[cond_true,v6] at he;subst he;simp only[Bool.not_true,Bool.false_or] at hok;have hp:=CZ (iA hgs).1 af;refine wpIn_region_any hok (G5 (K:=Q .normal) (fun B a w hk ab=>⟨B,hk,ab⟩) hgs hp aT.size (Array.replicate aT.size false) A a _ (by simp) ?_ ?_ (.inr hi) ?_ ?_)
   ·intro i o _ h
    exfalso
    simp only[Array.getD_eq_getD_getElem?,Array.getElem?_replicate] at h;split at h <;>simp at h
   ·refine zv0 (List.length_filter_le _ _) ?_;rw[hp.len,(iA hgs).1,zx2];exact zz3 _
   ·have hall:dX σ (Array.replicate aT.size false)=σ:=by
     simp only[dX];refine List.filter_eq_self.2 fun i hi =>?_;have J:=hp.lt i hi;rw[(iA hgs).1,zx2] at J;simp[J]
    simp only[gv,hall];exact h _ fun _ hb=>hb
   ·obtain ⟨D,E,hs'⟩:=hs';exact ⟨D,E,hs'.grow (w' := { w with drawn:=w.drawn+1 }) ⟨rfl,rfl,rfl,zz3 _,fun _ _=>rfl⟩ (fun _ _ h=>h) (fun _ _ h _=>h) (fun b o h=>hs'.aQ b o h)⟩
 ·cases hc
end
def kg(on:List (List Nat)):List Nat:=on.foldl (fun acc ks=>acc++[ly acc ks]) []
def vd(d:Option (List (List Nat)))(gs:List aH):Bool:=match d with
 |none=>true
 |some on=>sy on gs (kg on)
section
variable {c:cS} {Q:Exit→ai→Prop} {A:ai} {d:Option (List (List Nat))} {on:List (List Nat)} {gs:List aH}
theorem ae.ku(af:vd d gs=true)(h:∀ K:ai→Prop,(∀ B,Q .normal B→K B)→aS c.P c.Y d.isSome K (aB gs A)):ae c (.b9 d gs) Q A:=by
 cases d with
 |none=>exact ae.b9 (cl:=[]) rfl h
 |some on=>exact ae.b9 (cl:=kg on) af h
theorem ae.gw{y:bo}(af:vd d gs=true)(h:∀ K:ai→Prop,(∀ B,ae c y Q B→K B)→aS c.P c.Y d.isSome K (aB gs A)):ae c (.seq (.b9 d gs) y) Q A :=
 ae.seq (ae.ku af h)
theorem ae.pE(ab:List FuncId)(L:ea)(σ:List Nat)(af:tr ab L on gs (kg on) σ=true)(hi:cN L A)(h:∀ K:ai→Prop,(∀ B,Q .normal B→K B)→bP c.P c.Y ab K (aB (eQ σ gs) A)):ae c (.b9 (some on) gs) Q A :=
 ae.Zb ab L (kg on) σ af hi h
theorem ae.pF(ab:List FuncId)(L:ea)(σ:List Nat)(af:pC ab L on gs (kg on) σ=true)(hi:cN L A)(h:∀ K:ai→Prop,(∀ B,Q .normal B→K B)→bP c.P c.Y ab K (aB (eQ σ gs) A)):ae c (.b9 (some on) gs) Q A :=
 ae.Zc ab L (kg on) σ af hi h
def gB(c:cS):bo→(Exit→ai→Prop)→ai→Prop
 | .seq x y,Q,A=>gB c x (eB (fun B=>ae c y Q B) Q) A
 | .block id x,Q,A=>gB c x (jQ id Q) A
 | .skip,Q,A=>Q .normal A
 | .exit id,Q,A=>Q (.exit id) A
 | .ret,Q,A=>Q .ret A
 | .cond b x y,Q,A=>aA (ak A b) (ae c x Q A) (ae c y Q A)
 |x,Q,A=>ae c x Q A
def WV:bo→Bool
 | .seq _ _ | .block _ _ | .skip | .exit _ | .ret | .cond _ _ _=>true
 |_=>false
theorem gB.uE:∀ (x:bo) {Q:Exit→ai→Prop} {A:ai},gB c x Q A→ae c x Q A
 | .seq x y,_,_,h=>ae.seq (gB.uE x h)
 | .block id x,_,_,h=>ae.block (gB.uE x h)
 | .skip,_,_,h=>ae.skip h
 | .exit _,_,_,h=>ae.exit h
 | .ret,_,_,h=>ae.ret h
 | .cond _ _ _,_,_,h=>ae.jX h
 | .b9 _ _,_,_,h | .loop _,_,_,h | .scope _,_,_,h | .label,_,_,h | .uF,_,_,h | .mb _ _ _ _,_,_,h=>h
theorem ae.of{x:bo}(_:WV x=true)(h:gB c x Q A):ae c x Q A:=gB.uE x h
theorem aF :
  (∀ c x y Q A,gB c (.seq x y) Q A=gB c x (eB (fun B=>ae c y Q B) Q) A)∧(∀ c id x Q A,gB c (.block id x) Q A=gB c x (jQ id Q) A)∧(∀ c Q A,gB c .skip Q A=Q .normal A)∧(∀ c id Q A,gB c (.exit id) Q A=Q (.exit id) A)∧(∀ c Q A,gB c .ret Q A=Q .ret A) ∧
  (∀ c b x y Q A,gB c (.cond b x y) Q A=aA (ak A b) (ae c x Q A) (ae c y Q A))∧(∀ c d gs Q A,gB c (.b9 d gs) Q A=ae c (.b9 d gs) Q A)∧(∀ c x Q A,gB c (.loop x) Q A=ae c (.loop x) Q A)∧(∀ c f ps x y Q A,gB c (.mb f ps x y) Q A=ae c (.mb f ps x y) Q A) ∧
  (∀ k Q A,eB k Q .normal A=k A)∧(∀ k Q A,eB k Q .ret A=Q .ret A)∧(∀ k Q A i,eB k Q (.exit i) A=Q (.exit i) A)∧(∀ i Q A,jQ i Q .normal A=Q .normal A)∧(∀ i Q A,jQ i Q .ret A=Q .ret A)∧(∀ i Q A j,jQ i Q (.exit j) A=if j=i then Q .normal A else Q (.exit j) A) ∧
  (∀ p q,aA (.bool true) p q=p)∧(∀ p q,aA (.bool false) p q=q)∧(type_of% @BZ) :=
 ⟨fun _ _ _ _ _=>rfl,fun _ _ _ _ _=>rfl,fun _ _ _=>rfl,fun _ _ _ _=>rfl,fun _ _ _=>rfl,fun _ _ _ _ _ _=>rfl,fun _ _ _ _ _=>rfl,fun _ _ _ _=>rfl,fun _ _ _ _ _ _ _=>rfl,fun _ _ _=>rfl,fun _ _ _=>rfl,fun _ _ _ _=>rfl,fun _ _ _=>rfl,fun _ _ _=>rfl,fun _ _ _ _=>rfl,
  fun p q=>by simp[aA],fun p q=>by simp[aA],BZ⟩
theorem aA.aD{t:Bool}{p q:Prop}(J:t=true→p)(U:t=false→q):aA (.bool t) p q:=⟨J,U⟩
theorem ae.aE{g:aH}{r:List aH}(af:vd d gs=true)(e:gs=g::r)(h:∀ K:ai→Prop,(∀ B,Q .normal B→K B)→aS c.P c.Y d.isSome K (aB (g::r) A)):ae c (.b9 d gs) Q A :=
 ae.ku af (e▸h)
theorem aS.av(L:List Nat){P:Program}{Y:Value→List I→List (Nat×aq)→cC→Prop}{dr:Bool}{x:bo}{K:ai→Prop}{ts:List (Nat×I)}{os:List (Nat×aq)}(hK:∀ B,ae c x Q B→K B)(h:ae c x Q (au (gT L ts) os)):aS P Y dr K (.done (au ts os)) :=
 .done (hK _ (ae.qH L h))
theorem bP.av(L:List Nat){P:Program}{Y:Value→List I→List (Nat×aq)→cC→Prop}{ab:List FuncId}{x:bo}{K:ai→Prop}{ts:List (Nat×I)}{os:List (Nat×aq)}(hK:∀ B,ae c x Q B→K B)(h:ae c x Q (au (gT L ts) os)):bP P Y ab K (.done (au ts os)) :=
 .done (hK _ (ae.qH L h))
end
section
variable {c:cS} {A:ai} {o:Oper}
theorem zL{P:Program}{m:Nat}{aT:Array Oper}{l:List Oper}{gs:List aH}(h:fJ P m aT (o::l)=some gs):∃ g gs',gs=g::gs'∧lH P m aT o=some g∧fJ P m aT l=some gs':=by
 simp only[fJ] at h;split at h
 ·rename_i g gs' J U;simp only[v6] at h;exact ⟨g,gs',h.symm,J,U⟩
 ·cases h
end
def tK(P:Program)(f:FuncId)(ch:List PanicEntry)(vs:Array Value)(w:World)(R:Ending→World→Prop):Prop :=
 Calls P f vs w fun e w'=>e=.panicked ch∧R (.returned (.tuple #[])) w'
theorem tK.mono{P:Program}{f:FuncId}{ch:List PanicEntry}{vs:Array Value}{w:World}{R R':Ending→World→Prop}(h:tK P f ch vs w R)(hr:∀ e w',R e w'→R' e w'):tK P f ch vs w R' :=
 Calls.mono h fun _ _ q=>⟨q.1,hr _ _ q.2⟩
def pB(post:List (Nat×aq)→Prop):cC:=fun r os'=>r=.tuple []∧post os'
def fe(P:Program)(f:FuncId)(ch:List PanicEntry)(args:List I)(os:List (Nat×aq))(post:List (Nat×aq)→Prop):Prop :=
 e8 P f=true∧np (tK P f ch) (fun w _ E=>gI P w (cE E)) args os (pB post)
def wW(ch:List PanicEntry)(post:List (Nat×aq)→Prop):Exit→ai→Prop
 | .panic ch',A=>ch'=ch∧jc [] (pB post) A
 |_,_=>False
theorem B5{P:Program}{n:Nat}{w:World}{D:aR}{E:a8}{Y:Value→List I→List (Nat×aq)→cC→Prop}{post:List (Nat×aq)→Prop}{fn:Func}{A:ai}{D':aR}{E':a8}{ch:List PanicEntry}(h:jc [] (pB post) A){R:World→Prop}(hR:∀ v w',lC w D E (pB post) v w'→R w') :
  ∀ (ds:List Deferred) (a:Act) (w':World),a.defers=ds→aW ⟨P,w,D,n,cE E,E,Y,none,none⟩ A a w' D' E'→LeavesInM Fence.wide 9 P fn a.tmps (fun e w'=>e=.panicked ch∧R w') ds (.panicking ch) w'
 | [],a,w',_,ab=>by
  obtain ⟨v,J,U⟩:=ab.sW (fn := { fn with results := #[] }) (rs:=[]) rfl h;exact ⟨rfl,hR v w' U⟩
 |d::ds,a,w',af,ab=>by
  obtain ⟨Bs,J,_⟩:=ab.eE;rw[af] at J;cases Bs with
  |nil=>cases J
  |cons B Bs =>
   simp only[zz4,zw9] at J;obtain ⟨rfl,rfl⟩:=J;obtain ⟨k1,k2⟩:=ab.Au rfl af;exact ⟨by simp,.inl ⟨B,_,rfl,run_takeDeferred k1,B5 h hR _ { a with defers:=Bs.map _ } _ rfl k2⟩⟩
theorem B8{w:World}{D:aR}{E:a8}{post:List (Nat×aq)→Prop}{v:Value}{w':World}(h:lC w D E (pB post) v w'):∃ v' D' E' r os',Ending.returned (.tuple #[])=.returned v'∧pB post r os'∧bd w' D' E' r v'∧jO (fun b=>w.heap.size≤b∨cE E b) w' D' E' (aj os') ∧
   eZ (fun b=>w.heap.size≤b∨cE E b) w w'∧(∀ b o,D b o→D' b o)∧(∀ b o,D' b o→b<w'.heap.size)∧(∀ b o,D' b o→b<w.heap.size→¬ cE E b→D b o) ∧
   (∀ n e,E n=some e→az os' n=true→∃ e',E' n=some e'∧e.le e')∧gJ w D w':=by
 obtain ⟨D',E',r,os',J,U,ah⟩:=h;refine ⟨_,D',E',r,os',rfl,J,?_,ah⟩;obtain ⟨rfl,_⟩:=J;simp only[bd];exact ⟨[],by simp,by simp[aI]⟩
theorem fe.mk{P:Program}{f:FuncId}{fn:Func}{x:bo}{ch:List PanicEntry}{args:List I}{os:List (Nat×aq)}{post:List (Nat×aq)→Prop}(hf:P.funcs[f]?=some fn)(hcall:e8 P f=true)(hc:(fn.body.bind (eC P fn.ntmps))=some x)
  (hn:args.length≤fn.ntmps) (hn2:fn.ntmps≤1000000) (hos:∀ m,az os m=true→1000000≤m) (h:I.gf args→∀ (w:World) (D:aR) (E:a8),ae ⟨P,w,D,fn.ntmps,cE E,E,dq,none,none⟩ x (wW ch post) (au (bJ 0 args) os)):fe P f ch args os post:=by
 obtain ⟨body,hb,hc'⟩:=zw3.1 hc;refine ⟨hcall,fun w D E vs ao hD ho hv =>?_⟩;have hlen:=rE hv;have hsim:=xI (P:=P) (n:=fn.ntmps) (Y:=dq) hD ho hv (by omega) (fun m hm=>⟨zv0 hn2 (hos m hm),hos m hm⟩) (pS ao);refine (callsIn_wide (n:=9)).1 (callsIn_of_wp_marks hf hb trivial ?_);refine wpIn_mono (((h (pL _ _ hv) w D E).sub (tS args os)) body hc' _ w ⟨D,E,hsim⟩) ?_;rintro e a w' ⟨A,hq,D',E',ab⟩;cases e <;>simp only[wW] at hq
 obtain ⟨rfl,hq⟩:=hq;exact B5 hq (fun v w' h=>B8 h) a.defers a w' rfl ab
theorem fe.YL{P:Program}{f:FuncId}{ch:List PanicEntry}{args:List I}(hcall:e8 P f=true)(h:∀ (w:World) (D:aR) (vs:List Value),aI w D dh args vs→Calls P f vs.toArray w fun e w'=>e=.panicked ch∧w'=w)(hfl:I.nC args=true):fe P f ch args [] (fun os'=>os'=[]):=by
 refine ⟨hcall,fun w D E vs _ hD ho hv =>?_⟩;refine Calls.mono (h w D vs (aI.flat _ _ hfl hv)) ?_;rintro e w' ⟨rfl,rfl⟩;refine ⟨rfl,B8 (v:=.tuple #[]) ⟨D,E,.tuple [],[],⟨rfl,rfl⟩,by simp only[bd];exact ⟨[],by simp,by simp[aI]⟩,?_,eZ.refl _ _,fun _ _ h=>h,hD,fun _ _ h _ _=>h,fun n e h hn=>by simp[az,aj] at hn,.refl _ _⟩⟩;exact ⟨fun n=>ho.bQ n,fun n m e e' b J U ah ar=>ho.cL n m e e' b J U ah ar⟩
section
variable {c:cS} {A:ai} {Q:Exit→ai→Prop}
theorem sN{dr:Bool}{K:ai→Prop}{aT:Array Oper}{Q:Exit→Act→World→Prop}{l2:List Oper}(hQ:∀ B a w,K B→bY c B a w→wpListIn c.bC 9 c.P aT Q l2 a w):∀ (l:List Oper) (gs:List aH) (A:ai) (a:Act) (w:World),fJ c.P c.n aT l=some gs→aS c.P c.Y dr K (aB gs A) →
  bY c A a w→wpListIn c.bC 9 c.P aT Q (l++l2) a w
 | [],gs,A,a,w,hc,hwp,ab=>by
  simp only[fJ,v6] at hc;subst hc;simp only[aB] at hwp;cases hwp with
  |done hk=>exact hQ A a w hk ab
 |o::l,gs,A,a,w,hc,hwp,ab=>by
  simp only[fJ] at hc;split at hc
  case h_2=>cases hc
  rename_i g gs' hg hgs;simp only[v6] at hc;subst hc;obtain ⟨J,U,ah,ar⟩:=nx hg;have step:aS c.P c.Y dr K (bj A g.dst g.op gs' (aB gs'))→o.wpIn c.bC 9 c.P a w (wpListIn c.bC 9 c.P aT Q (l++l2)) Q:=fun h =>
   sL J U.symm (by rw[U];exact ah) h ab (fun B a' w' hw hs'=>sN hQ l gs' B a' w' hgs hw hs')
  simp only[zz9,wpListIn];simp only[aB] at hwp;rcases ar with ⟨h5,h6⟩ | ⟨j,b,t,h5,h6,h7⟩
  ·rw[h6] at hwp;have hw:Region.wanted o (yielded aT a.tmps)=true:=by simp[Region.wanted,h5]
   rw[hw,if_pos rfl];exact step hwp
  ·rw[h7] at hwp;simp only at hwp;split at hwp
   ·rename_i b' hb';rw[sP ab h5 h6 hb'];split at hwp
    ·rename_i hbb;subst hbb;simp only[BEq.rfl,if_true];exact step hwp
    ·rename_i hbb;have:(b'==b)=false:=by simpa using hbb
     rw[this];simp only[zz2,if_false];exact ⟨fun f _=>lP c f,sN hQ l gs' _ _ w hgs hwp (by rw[U];exact ab.mU ah)⟩
   ·rename_i hb';rw[sQ ab h5 h6 hb'];simp only[zz2,if_false];exact ⟨fun f _=>lP c f,sN hQ l gs' _ _ w hgs hwp (by rw[U];exact ab.mU ah)⟩
   ·cases hwp
theorem zK{P:Program}{m:Nat}{aT:Array Oper}{g:aH}{gs2:List aH} : ∀ {l:List Oper} {gs1:List aH},fJ P m aT l=some (gs1++g::gs2)→∃ l1 o l2,l=l1++o::l2∧fJ P m aT l1=some gs1∧lH P m aT o=some g
 | [],gs1,h=>by simp[fJ] at h
 |o::l,[],h=>by
  obtain ⟨g',gs',e,J,U⟩:=zL h;simp only[List.nil_append,zw9] at e;obtain ⟨rfl,rfl⟩:=e;exact ⟨[],o,l,rfl,rfl,J⟩
 |o::l,k::gs1,h=>by
  obtain ⟨g',gs',e,J,U⟩:=zL h;simp only[zz9,zw9] at e;obtain ⟨rfl,rfl⟩:=e;obtain ⟨l1,o',l2,rfl,q1,q2⟩:=zK U;exact ⟨o::l1,o',l2,rfl,by simp only[fJ,J,q1],q2⟩
inductive nr (P:Program) (Q:Exit→ai→Prop) (f:FuncId) (avs:List I):ai→Prop where
 |mk {ts:List (Nat×I)} {os0:List (Nat×aq)} (aN:Bool) (ρ:List (Nat×Nat)) (os:List (Nat×aq)) (cargs:List I) (ch:List PanicEntry) (post:List (Nat×aq)→Prop):fe P f ch cargs os post→gi ρ os os0→gK aN (au ts (eL (iK ρ os) os0)) ρ os avs cargs →
  (∀ os',post os'→gA aN ρ os os0 (.tuple []) os')→(∀ os',post os'→Q (.panic ch) (au ts (dy ρ os'++os0)))→nr P Q f avs (au ts os0)
inductive mq (P:Program) (Q:Exit→ai→Prop):bS→ai→Prop where
 |call {f:FuncId} {args:List aO} {A:ai} : nr P Q f (args.map (ak A)) A→mq P Q (.call f args) A
 |fK {x:aO} {args:List aO} {f:Nat} {caps:List I} {A:ai} : ak A x=.func f caps→nr P Q (kT f) (h3 f (args.map (ak A)) caps) A→mq P Q (.fK x args) A
theorem wY{o:Oper}{g:bS}{f:FuncId}{avs:List I}{vs:List Value}{a:Act}{w:World}{D:aR}{E:a8}{Kw:Act→World→Prop}(hop0:db c.P o=some g)(h:nr c.P Q f avs A)(ab:aW c A a w D E)(hall:fx (bd w D E) avs vs)
  (hrun:e8 c.P f=true→(execOp a.eval o).run c.P w=.ok (.enter f vs.toArray) w):o.wpIn c.bC 9 c.P a w Kw (sX c Q):=by
 cases h with
 |mk aN ρ os cargs ch post hspec hgv ha hb hrest =>
  have hu:=hspec.2.use ab aN (fun h=>h.mono) ⟨fun _ _=>ab.o8,fun _=>ab.o8⟩ hgv ha (fun r os' hp=>by obtain ⟨rfl,hp⟩:=hp;exact hb os' hp) hall;refine ⟨kK,?_⟩;rw[lq hop0,hrun hspec.1,Oper.uponIn_enter];refine ⟨u9 c,Ad (Calls.mono hu ?_)⟩;rintro e w' ⟨rfl,v,r,os',D2,E2,he,⟨rfl,hp⟩,hs',hv,_⟩;exact ⟨_,hrest os' hp,D2,E2,hs'⟩
theorem CW{o:Oper}{g:bS}{a:Act}{w:World}{Kw:Act→World→Prop}(hop:db c.P o=some g)(h:mq c.P Q g A)(hsim:bY c A a w):o.wpIn c.bC 9 c.P a w Kw (sX c Q):=by
 have hop0:=hop;obtain ⟨D,E,ab⟩:=hsim;cases h with
 |call h =>
  unfold db at hop;split at hop <;>try (first | (simp at hop;done) | ((repeat' split at hop) <;>simp at hop;done))
  rename_i f' xs ts ho;split at hop
  case isFalse=>simp at hop
  simp only[t7,bS.call.injEq] at hop;obtain ⟨ys,hys,rfl,rfl⟩:=hop;have e:xs.map a.eval=(xs.toList.map a.eval).toArray:=by apply Array.ext';simp
  refine wY (vs:=xs.toList.map a.eval) hop0 h ab (kL ab xs.toList ts.toList ys hys) fun hc =>?_;simp only[execOp,ho,resolve,Act.eval,Deferred.ofValue,Sem.run_bind,Sem.run_pure,Result.andThen_ok,invoke,Array.append_empty,Array.empty_append,mY hc];rw[←e]
 |fK hx h =>
  rename_i x args f caps;unfold db at hop;split at hop <;>try (first | (simp at hop;done) | ((repeat' split at hop) <;>simp at hop;done))
  rename_i y xs ts _ ho;split at hop
  case h_2=>cases hop
  rename_i y' ys J U;simp only[v6,bS.fK.injEq] at hop;obtain ⟨rfl,rfl⟩:=hop;have hv:=bW ab J;rw[hx] at hv;obtain ⟨cs,q1,q2⟩:=hv;simp only[al] at q2;obtain ⟨vs,q3,q4⟩:=q2;have hval:a.eval y=jA f vs:=by simpa[bA,I.isAgg,q3] using q1.symm
  have e:xs.map a.eval=(xs.toList.map a.eval).toArray:=by apply Array.ext';simp
  have hargs:=kL ab xs.toList ts.toList ys U;rcases Nat.lt_or_ge f 1000000 with hf | hf
  ·rw[vw hf,vv hf] at h;rw[mC hf] at hval;refine wY (vs:=xs.toList.map a.eval++vs) hop0 h ab (hargs.append (rD q4)) fun hc =>?_;simp only[execOp,ho,resolve,hval,Deferred.ofValue,Sem.run_bind,Sem.run_pure,Result.andThen_ok,invoke,Array.empty_append,mY hc];rw[e];simp
  ·obtain ⟨g,rfl⟩:∃ g:Nat,f=g+1000000:=⟨Nat.sub f 1000000,(Nat.sub_add_cancel hf).symm⟩
   rw[sB,vu] at h;rw[qt] at hval;refine wY (vs:=vs++xs.toList.map a.eval) hop0 h ab ((rD q4).append hargs) fun hc =>?_;simp only[execOp,ho,resolve,hval,Deferred.ofValue,Sem.run_bind,Sem.run_pure,Result.andThen_ok,invoke,Array.append_empty,mY hc];rw[e];simp
theorem ae.Za{gs:List aH}(k:Nat){g:bS}{dst:Option Nat}(hk:gs=gs.take k++⟨dst,g,none⟩::gs.drop (k+1))(h:∀ K:ai→Prop,(∀ B,mq c.P Q g B→K B)→aS c.P c.Y false K (aB (gs.take k) A)):ae c (.b9 none gs) Q A:=by
 intro code hc a w ab;cases code <;>simp only[eC] at hc <;>try (first | (cases hc;done) | ((repeat' split at hc) <;>cases hc;done))
 rename_i id aT draw;split at hc
 case h_2=>cases hc
 rename_i gs' hgs;split at hc
 case isFalse=>cases hc
 simp only[v6,bo.b9.injEq] at hc;obtain ⟨hdr,rfl⟩:=hc;cases draw with
 |true=>simp at hdr
 |false =>
  refine wpIn_region_list ?_;rw[hk] at hgs;obtain ⟨l1,o,l2,ao,J,U⟩:=zK hgs;rw[ao];refine sN (K:=mq c.P Q g) (fun B a' w' hp hs' =>?_) l1 _ A a w J (h _ fun _ hb=>hb) ab;obtain ⟨q1,q2,q3,q4⟩:=nx U;have wn:Region.wanted o (yielded aT a'.tmps)=true:=by
   rcases q4 with ⟨a5,_⟩ | ⟨_,_,_,_,_,a5⟩
   ·simp[Region.wanted,a5]
   ·simp at a5
  simp only[wpListIn,wn,if_true];exact CW q1 hp hs'
theorem ae.n0{gs gs1 gs2:List aH}{g:bS}{dst:Option Nat}(e:gs=gs1++⟨dst,g,none⟩::gs2)(h:∀ K:ai→Prop,(∀ B,mq c.P Q g B→K B)→aS c.P c.Y false K (aB gs1 A)):ae c (.b9 none gs) Q A:=by
 subst e;refine ae.Za gs1.length (g:=g) (dst:=dst) ?_ fun K hK =>?_
 ·simp
 ·simpa using h K hK
end
theorem ZG{w:World}{b:Nat}{cs:Array Value}{T:TypeId}{fr:Nat×Nat}{v:Value}(h:w.heap[b]?=some (.cells cs T fr)):w.setCell ⟨b,0,none⟩ v=w.setRow b (cs.setIfInBounds 0 v):=by
 unfold World.setCell World.setRow
 congr 1
 apply Array.ext
 ·simp
 ·intro i J U;simp only[Array.getElem_modify];split
  ·rename_i e;subst e;obtain ⟨_,hv⟩:=zy0.1 h;simp[hv]
  ·rfl
def r2(P:Program)(f:FuncId):Prop:=e8 P f=true∧∀ (b:Nat) (T:TypeId) (w:World) (x:Bool),w.heap[b]?=some (.cells #[.bool x] T (0,0))→CallsDIn Fence.wide 8 P f #[.pointer (some ⟨b,0,none⟩)] .returning w fun e u' w'=>(∃ v,e=.returned v)∧u'=.returning∧w'=w
def rX(P:Program)(f:FuncId)(ch:List PanicEntry):Prop:=e8 P f=true∧∀ (b:Nat) (T:TypeId) (w:World) (x:Bool),w.heap[b]?=some (.cells #[.bool x] T (0,0)) →
 CallsDIn Fence.wide 8 P f #[.pointer (some ⟨b,0,none⟩)] (.panicking ch) w fun e u' w'=>(∃ v,e=.returned v)∧settle u'=.returning∧∃ w2,Below w.heap.size w w2∧w'=w2.setCell ⟨b,0,none⟩ (.bool false)
def kh(f:FuncId)(v:Value):Deferred := { target:=.fn (.func f) #[v],args := #[] }
def rp(rs:List bL)(post:cC)(ch:List PanicEntry)(N:Nat):Exit→ai→Prop
 | .ret,A=>(∃ x,A.o N=some (.box (.bool x)))∧jc rs post A
 | .panic ch',A=>ch'=ch∧(∃ x,A.o N=some (.box (.bool x)))∧jc rs post (A.aV N (.box (.bool false)))
 |_,_=>False
section
variable {P:Program} {n:Nat} {w:World} {D:aR} {E:a8} {rs:List bL} {post:cC} {fn:Func} {ch:List PanicEntry} {f:FuncId} {N b:Nat}
theorem B6(hrs:gL P fn.results.toList=some rs)(hEN:E N=some (.aN b .one)){A:ai}{D':aR}{E':a8}{u:FrameMode}(hx:∃ x,A.o N=some (.box (.bool x)))
  (hcase:(u=.returning∧jc rs post A∧r2 P f)∨(u=.panicking ch∧jc rs post (A.aV N (.box (.bool false)))∧rX P f ch)) :
  ∀ (ds:List Deferred) (a:Act) (w':World),a.defers=ds→aW ⟨P,w,D,n,cE E,E,dq,none,some [kh f (.pointer (some ⟨b,0,none⟩))]⟩ A a w' D' E'→LeavesInM Fence.wide 9 P fn a.tmps (fun e w'=>∃ v,e=.returned v∧lC w D E post v w') ds u w'
 | [],a,w',af,ab=>by
  have J:a.defers=[kh f (.pointer (some ⟨b,0,none⟩))]:=ab.eE;rw[af] at J;cases J
 |d::ds,a,w',af,ab=>by
  have J:a.defers=[kh f (.pointer (some ⟨b,0,none⟩))]:=ab.eE;rw[af] at J;simp only[zw9] at J;obtain ⟨rfl,rfl⟩:=J
  ·skip
   obtain ⟨x,hx⟩:=hx;obtain ⟨b',cs,T,e1,e2,e3,e4,e5⟩:cV _ w' D' E' N (some (.box (.bool x))):=hx▸ab.bQ N;have hfx:E' N=none∨E' N=some (.aN b .one):=ab.vF (n:=N) (e:=.aN b .one) hEN rfl;have hE':E' N=some (.aN b .one):=by
    rcases hfx with h | h
    ·rw[h] at e1;cases e1
    ·exact h
   rw[hE'] at e1;simp only[v6,bO.aN.injEq] at e1;obtain ⟨rfl,_⟩:=e1;have hcs:cs = #[.bool x]:=by
    simp only[al] at e4;apply Array.ext';simpa using e4
   subst hcs;refine ⟨by rcases hcase with ⟨rfl,_⟩ | ⟨rfl,_⟩ <;>simp,.inr ⟨fun _=>by decide,.func f,#[.pointer (some ⟨b,0,none⟩)],f,#[.pointer (some ⟨b,0,none⟩)],rfl,?_,fun _ _=>trivial,?_⟩⟩
   ·have hcb:e8 P f=true:=by rcases hcase with ⟨_,_,h⟩ | ⟨_,_,h⟩ <;>exact h.1
    simp only[kh,invoke,mY hcb,Array.empty_append]
   ·rcases hcase with ⟨rfl,hr,hi⟩ | ⟨rfl,hr,hc⟩
    ·refine (hi.2 b T w' x e3).mono ?_;rintro e u' w'' ⟨⟨v,rfl⟩,rfl,rfl⟩;obtain ⟨v,J,U⟩:=ab.sW hrs hr;exact ⟨v,J,v,rfl,U⟩
    ·refine (hc.2 b T w' x e3).mono ?_;rintro e u' w'' ⟨⟨v,rfl⟩,hu,w2,hb2,rfl⟩;have hs1:=ab.grow (D':=D') hb2 (fun _ _ h=>h) (fun _ _ h _=>h) (fun b o af=>Nat.lt_of_lt_of_le (ab.aQ b o af) hb2.size);have e3':w2.heap[b]?=some (.cells #[.bool x] T (0,0)):=(hb2.block b (fE e3)).trans e3;have hs2:=hs1.xw (y:=.bool false) (cs' := #[.bool false]) hx hE' rfl (by simp[al]);have hw:w2.setCell ⟨b,0,none⟩ (.bool false)=w2.setRow b #[.bool false]:=by
      rw[ZG e3'];rfl
     rw[←hw] at hs2;obtain ⟨v,J,U⟩:=hs2.sW hrs hr;simp only[hu];exact ⟨v,J,v,rfl,U⟩
theorem o9{bC:Fence}{m:Nat}{tmps:Array Value}{R R':Ending→World→Prop}(hr:∀ e w,R e w→R' e w):∀ (ds:List Deferred) (u:FrameMode) (w:World),LeavesInM bC m P fn tmps R ds u w→LeavesInM bC m P fn tmps R' ds u w
 | [],u,w,h=>by
  cases u with
  |run=>exact h
  |returning=>obtain ⟨v,J,U⟩:=h;exact ⟨v,J,hr _ _ U⟩
  |panicking c=>exact hr _ _ h
 |d::ds,u,w,h=>by
  obtain ⟨J,U⟩:=h;refine ⟨J,?_⟩;rcases U with ⟨r,w',k1,k2,k3⟩ | ⟨k1,fv,cap,g,args,k2,k3,k4,k5⟩
  ·exact .inl ⟨r,w',k1,k2,o9 hr ds u w' k3⟩
  ·refine .inr ⟨k1,fv,cap,g,args,k2,k3,k4,k5.mono fun e u' w' h =>?_⟩;cases e with
   |returned v=>exact o9 hr ds _ w' h
   |panicked c=>exact o9 hr ds _ w' h
   |outgrown=>exact hr _ _ h
def rC(P:Program)(fn:Func)(rest:Code)(slots:List Nat)(a:Act)(vs:Array Value)(w:World)(R:Ending→World→Prop):Prop :=
 vs.toList=slots.map (fun t=>a.tmps.getD t undef)→rest.wpIn Fence.wide 9 P (bodyPostM Fence.wide 9 P fn R) a w
theorem rC.mono{rest:Code}{slots:List Nat}{a:Act}{vs:Array Value}{w:World}{R R':Ending→World→Prop}(h:rC P fn rest slots a vs w R)(hr:∀ e w,R e w→R' e w):rC P fn rest slots a vs w R':=fun hv=>by
 refine wpIn_mono (h hv) fun e a' w' q =>?_;cases e <;>simp only[bodyPostM] at q ⊢ <;>first
  |exact o9 hr _ _ _ q
  |exact hr _ _ q
  |exact q
theorem Fw{w:World}{D:aR}{E:a8}(g:Nat→Value):∀ (slots:List Nat) (args:List I),aI w D E args (slots.map g)→∀ t,bd w D E (bX (slots.zip args) t) (g t)
 | [],args,h,t=>by simp[bX,bd]
 |s::slots,[],h,t=>by simp[bX,bd]
 |s::slots,x::args,h,t=>by
  simp only[aI,zz4] at h;obtain ⟨v,rest,cs,e,J,U,ah⟩:=h;simp only[zw9] at e;obtain ⟨rfl,rfl⟩:=e;simp only[List.zip_cons_cons,bX];split
  ·rename_i hk;subst hk;exact jC J U
  ·exact Fw g slots args ah t
theorem Zm{rest:Code}{x:bo}{slots:List Nat}{a:Act}{args:List I}{os:List (Nat×aq)}{ts:Nat}(hrs:gL P fn.results.toList=some rs)(hx:eC P n rest=some x)(hsz:a.tmps.size=n)(af:a.defers=[kh f (a.tmps.getD ts undef)])(hos:∀ m,az os m=true→n≤m∧1000000≤m)
  (hts:bX (slots.zip args) ts=.ptr N []) {y:Bool} (hN:aj os N=some (.box (.bool y))) (hi:r2 P f) (hc:rX P f ch)
  (hAW:∀ (w:World) (D:aR) (E:a8) (d:Deferred),ae ⟨P,w,D,n,cE E,E,dq,none,some [d]⟩ x (rp rs post ch N) (au (slots.zip args) os)):np (rC P fn rest slots a) (fun w _ E=>gI P w (cE E)) args os post:=by
 intro w D E vs ao hD ho hv hvs;have hvs':vs=slots.map (fun t=>a.tmps.getD t undef):=by simpa using hvs
 subst hvs';have htm:=Fw (fun t=>a.tmps.getD t undef) slots args hv;have hp:=htm ts;rw[hts] at hp;obtain ⟨b,aX,off,p1,p2,p3⟩:=ln hp;have hob:cV _ w D E N (some (.box (.bool y))):=hN▸ho.bQ N;obtain ⟨b',cs,T,e1,_⟩:=hob;have hsh:aX=.one:=by
  rw[p1] at e1;simp only[v6,bO.aN.injEq] at e1;rw[e1.2];rfl
 subst hsh;have hoff:off=0:=by simpa[cO.off] using p2.symm
 subst hoff;simp only[p3] at af;have hsim:aW ⟨P,w,D,n,cE E,E,dq,none,some [kh f (.pointer (some ⟨b,0,none⟩))]⟩ (au (slots.zip args) os) a w D E:=by
  refine ⟨hsz,af,htm,eZ.refl _ _,fun _ _ h _=>h,hD,fun m =>?_,ho.cL,fun m e h=>.inr ⟨e,h,.refl e⟩,fun m hm =>?_,fun _ _ h=>h,pS ao,.refl _ _⟩
  ·have h:=ho.bQ m;simp only[au];cases hx:aj os m with
   |none=>rw[hx] at h;exact h
   |some x=>rw[hx] at h;exact cV.h4 h fun e b he hb=>.inr ⟨m,e,he,hb⟩
  ·refine hos m ?_;cases hx:aj os m with
   |none=>have h:=ho.bQ m;rw[hx] at h;exact absurd h hm
   |some x=>simp[az,hx]
 refine wpIn_mono ((hAW w D E _) rest hx a w ⟨D,E,hsim⟩) ?_;rintro e a' w' ⟨A,hq,D',E',ab⟩;have bg:∀ e w',(∃ v,e=Ending.returned v∧lC w D E post v w')→∃ v D' E' r os',e=.returned v∧post r os'∧bd w' D' E' r v∧jO (fun b=>w.heap.size≤b∨cE E b) w' D' E' (aj os') ∧
   eZ (fun b=>w.heap.size≤b∨cE E b) w w'∧(∀ b o,D b o→D' b o)∧(∀ b o,D' b o→b<w'.heap.size)∧(∀ b o,D' b o→b<w.heap.size→¬ cE E b→D b o) ∧
   (∀ n e,E n=some e→az os' n=true→∃ e',E' n=some e'∧e.le e')∧gJ w D w':=fun e w' ⟨v,J,D',E',r,os',U⟩=>⟨v,D',E',r,os',J,U⟩
 cases e <;>simp only[rp] at hq
 ·obtain ⟨J,U⟩:=hq;exact o9 bg _ _ _ (B6 (ch:=ch) hrs p1 J (.inl ⟨rfl,U,hi⟩) a'.defers a' w' rfl ab)
 ·obtain ⟨rfl,J,U⟩:=hq;exact o9 bg _ _ _ (B6 hrs p1 J (.inr ⟨rfl,U,hc⟩) a'.defers a' w' rfl ab)
end
def u7(P:Program)(n:Nat):Code→Option (bo×FuncId×Nat×Nat×bo)
 | .seq gY (.seq (.region _ aT false) rest)=>match aT.toList with
  | [o1,o2]=>match lH P n aT o1,o2.op with
   |some ⟨some t5,.mk g [.t ts],none⟩,.defer { callee:=.value (.tmp t),args,.. } =>if t=t5∧args = #[]∧o2.guard=none∧o2.dst=none then (match eC P n gY,eC P n rest with
     |some x0,some x=>some (x0,g,ts,t5,x)
     |_,_=>none)
    else none
   |_,_=>none
  |_=>none
 |_=>none
structure GM (P:Program) (n:Nat) (x:bo) (rs:List bL) (post:cC) (ch:List PanicEntry) (g:FuncId) (ts t5:Nat) (tsl:List (Nat×I)) (os0:List (Nat×aq)) (ρ:List (Nat×Nat)) (os1:List (Nat×aq)) (slots:List Nat) (cargs:List I) (N:Nat) (y:Bool) (post1:cC):Prop where
 fC:bX tsl ts=.ptr (bK ρ N) []
 BK:gi ρ os1 os0
 arg:gK false (au ((t5,.func g [.ptr (bK ρ N) []])::tsl) (eL (iK ρ os1) os0)) ρ os1 (slots.map (bX ((t5,.func g [.ptr (bK ρ N) []])::tsl))) cargs
 yq:∀ r os',post1 r os'→gA false ρ os1 os0 r os'
 Fg:bX (slots.zip cargs) ts=.ptr N []
 box:aj os1 N=some (.box (.bool y))
 lQ:∀ m,az os1 m=true→n≤m∧1000000≤m
 rest:∀ (w:World) (D:aR) (E:a8) (d:Deferred),ae ⟨P,w,D,n,cE E,E,dq,none,some [d]⟩ x (rp rs post1 ch N) (au (slots.zip cargs) os1)
 iz:∀ r os',post1 r os'→∃ osF,r.flat=true∧r.bm (bK ρ)=r∧(∀ m z,aj osF m=some z→aj (dy ρ os'++os0) m=some z∧z.only (az osF)=true∧z.eg=true)∧post r osF
abbrev sx(P:Program)(w:World)(D:aR)(n:Nat)(E:a8)(b:Option (List Deferred)):cS:=⟨P,w,D,n,cE E,E,dq,none,b⟩
theorem aW.Xe{P:Program}{n:Nat}{w:World}{D:aR}{E:a8}{fj:Option (List Deferred)}{post:cC}{A:ai}{a:Act}{w':World}{D':aR}{E':a8}{r:I}{v:Value}{os:List (Nat×aq)}
  (ab:aW (sx P w D n E fj) A a w' D' E') (J:∀ m z,aj os m=some z→A.o m=some z∧z.only (az os)=true∧z.eg=true) (hf:r.flat=true) (hv:bd w' D' E' r v) (hp:post r os):lC w D E post v w':=by
 obtain ⟨D2,E2,hw,e2,e2n,q1,q2,q3,q4,q5,q6⟩:=ab.wi J;exact ⟨D2,E2,r,os,hp,bd.flat hf hv,q1,q2,q3,q4,q5,q6⟩
theorem cR.Ys{P:Program}{f:FuncId}{fn:Func}{x0 x:bo}{g:FuncId}{ts t5:Nat}{rs:List bL}{args:List I}{os:List (Nat×aq)}{post:cC}{ch:List PanicEntry}(hf:P.funcs[f]?=some fn)(hcall:e8 P f=true)(hc:(fn.body.bind (u7 P fn.ntmps))=some (x0,g,ts,t5,x))
  (hrs:gL P fn.results.toList=some rs) (hn:args.length≤fn.ntmps) (hn2:fn.ntmps≤1000000) (hos:∀ m,az os m=true→1000000≤m) (hi:r2 P g) (hca:rX P g ch) (hts:ts≠t5)
  (h:I.gf args→∀ (w:World) (D:aR) (E:a8),ae ⟨P,w,D,fn.ntmps,cE E,E,dq,none,some []⟩ x0 (eB (fun B=>∃ tsl os0 ρ os1 slots cargs N y post1,B=au tsl os0∧GM P fn.ntmps x rs post ch g ts t5 tsl os0 ρ os1 slots cargs N y post1) (fun _ _=>False)) (au (bJ 0 args) os)):cR P f args os post:=by
 obtain ⟨body,hb,hc⟩:=zw3.1 hc;refine ⟨hcall,fun w D E vs ao hD ho hv =>?_⟩;have hlen:=rE hv;have s0:=xI (P:=P) (n:=fn.ntmps) (Y:=dq) hD ho hv (by omega) (fun m hm=>⟨zv0 hn2 (hos m hm),hos m hm⟩) (pS ao);have hsim:aW (sx P w D fn.ntmps E (some [])) (ox args os) { tmps:=vs.toArray++Array.replicate (fn.ntmps-vs.toArray.size) undef,defers:=[] } w D E :=
  ⟨s0.sz,rfl,s0.dO,s0.dM,s0.cX,s0.aQ,s0.bQ,s0.cL,s0.dP,s0.eP,s0.cQ,pS ao,s0.fu⟩
 obtain ⟨RR,hRR⟩:∃ RR:Ending→World→Prop,RR=fun e w'=>∃ v,e=.returned v∧lC w D E post v w':=⟨_,rfl⟩
 refine Calls.mono (R:=RR) ?_ (fun e w' q=>by rw[hRR] at q;obtain ⟨v,he,D',E',r,os',k⟩:=q;exact ⟨v,D',E',r,os',he,k⟩);refine (callsIn_wide (n:=9)).1 (callsIn_of_wp_marks hf hb trivial ?_);unfold u7 at hc;split at hc
 case h_2=>cases hc
 rename_i gY id aT rest;split at hc
 case h_2=>cases hc
 rename_i o1 o2 hops;split at hc
 case h_2=>cases hc
 rename_i t5' g' ts' t dargs _ hg1 ho2;split at hc
 case isFalse=>cases hc
 rename_i hok;obtain ⟨rfl,rfl,hgd,hdst⟩:=hok;split at hc
 case h_2=>cases hc
 rename_i y0 y hx0 hx;simp only[v6,Prod.mk.injEq] at hc;obtain ⟨rfl,rfl,rfl,rfl,rfl⟩:=hc;refine wpIn_seq ?_;have hw0:=((h (pL _ _ hv) w D E).sub (tS args os)) gY hx0 _ w ⟨D,E,hsim⟩;refine wpIn_mono hw0 ?_;rintro e a1 w1 ⟨B,hq,D1,E1,hs1⟩;cases e <;>simp only[eB] at hq
 obtain ⟨tsl,os0,ρ,os1,slots,cargs,N,yb,post1,rfl,R⟩:=hq;simp only[Exit.then];refine wpIn_seq (wpIn_region_list ?_);rw[hops];obtain ⟨q1,q2,q3,q4⟩:=nx hg1;simp only at q1 q2;have wn1:∀ a:Act,Region.wanted o1 (yielded aT a.tmps)=true:=fun a=>by
  rcases q4 with ⟨a5,_⟩ | ⟨_,_,_,_,_,a5⟩
  ·simp[Region.wanted,a5]
  ·simp at a5
 have wn2:∀ a:Act,Region.wanted o2 (yielded aT a.tmps)=true:=fun a=>by simp[Region.wanted,hgd]
 simp only[wpListIn,wn1,if_true];have hmk:bn (au tsl os0) (.mk g' [.t ts'])=some (.func g' [.ptr (bK ρ N) []]):=by
  simp[bn,ak,au,R.fC,I.bT]
 have d1:=(Da (c:=sx P w D fn.ntmps E (some [])) q1 hmk).does q3;rw[←q2] at d1;refine d1.wp q1 ⟨D1,E1,hs1⟩ fun a2 w2 hs2 =>?_;obtain ⟨D2,E2,hs2⟩:=hs2;simp only[wn2,if_true];rw[Cu] at hs2
 -- the deferred call
 have hglt:=Ac hi.1;have hfv:=hs2.dO t;simp only[au,bX,if_true] at hfv;obtain ⟨fc,f1,f2⟩:=hfv;simp only[al] at f2;obtain ⟨fvs,f3,f4⟩:=f2;have hval:a2.tmps.getD t undef=.func (.func g') #[] fvs.toArray:=by
  rw[←mC hglt];simpa[bA,I.isAgg,f3] using f1.symm
 simp only[aI] at f4;obtain ⟨pv,prest,pcs,rfl,p1,p2,rfl⟩:=f4;have hpv:=hs2.dO ts';simp only[au,bX,if_neg hts,R.fC] at hpv;obtain ⟨pb,psh,poff,b1,b2,b3⟩:=ln hpv;obtain ⟨pb',psh',poff',b1',b2',b3'⟩:=ln (jC p1 p2);have hpeq:pv=a2.tmps.getD ts' undef:=by
  rw[b1] at b1';simp only[v6,bO.aN.injEq] at b1';obtain ⟨rfl,rfl⟩:=b1';rw[b2] at b2';simp only[v6] at b2';subst b2';rw[b3,b3']
 have hdf:a2.defers=[]:=hs2.eE;obtain ⟨a3,ha3⟩:∃ a3:Act,a3 = { a2 with defers:=[kh g' (a2.tmps.getD ts' undef)] } :=⟨_,rfl⟩
 have hrun:(o2.semAt Fence.wide.round a2.eval).run P w2=.ok (.defer (kh g' (a2.tmps.getD ts' undef))) w2:=by
  show (execOp a2.eval o2).run P w2=_
  have he:a2.eval (.tmp t)=.func (.func g') #[] #[pv]:=hval;simp[execOp,ho2,resolve,he,Deferred.ofValue,kh,hpeq]
 refine ⟨fun _ _=>trivial,?_⟩;rw[hrun,Oper.uponIn_defer,hdf,hdst];simp only[Exit.then];have hput:({ tmps:=a2.tmps,defers:=[kh g' (a2.tmps.getD ts' undef)] } : Act).put none undef=a3:=by rw[ha3];rfl
 rw[hput]
 -- the rest
 have hand:=Zm (P:=P) (n:=fn.ntmps) (fn:=fn) (f:=g') (N:=N) (ch:=ch) (slots:=slots) (a:=a3) (args:=cargs) (os:=os1) (ts:=ts') hrs hx (by rw[ha3];exact hs2.sz) (by rw[ha3]) R.lQ R.Fg R.box hi hca R.rest;have hs3:aW (sx P w D fn.ntmps E (some [kh g' (a2.tmps.getD ts' undef)])) (au ((t,.func g' [.ptr (bK ρ N) []])::tsl) os0) a3 w2 D2 E2:=by
  rw[ha3];exact ⟨hs2.sz,rfl,hs2.dO,hs2.dM,hs2.cX,hs2.aQ,hs2.bQ,hs2.cL,hs2.dP,hs2.eP,hs2.cQ,pS ao,hs2.fu⟩
 have hall:∀ l:List Nat,fx (bd w2 D2 E2) (l.map (bX ((t,.func g' [.ptr (bK ρ N) []])::tsl))) (l.map fun k=>a3.tmps.getD k undef):=fun l=>by
  induction l with
  |nil=>exact .nil
  |cons k l ih=>exact .cons (hs3.dO k) ih
 have hus:=hand.use hs3 false (fun h hr=>h.mono hr) ⟨(fun h=>by cases h),fun _=>hs3.o8⟩ R.BK R.arg R.yq (hall slots);refine rC.mono hus ?_ (by simp);rintro e w' ⟨v,r,os',D4,E4,rfl,hp,hs4,hv4,_⟩;rw[hRR];obtain ⟨osF,g1,g2,g3,g4⟩:=R.iz r os' hp;rw[g2] at hv4;exact ⟨v,rfl,hs4.Xe g3 g1 hv4 g4⟩
end Go.Abs
