/-
  A part of the proof that the law MarchWritten returns true for every input; three tables of Go's library start as the text lays them (the card ties them); conditions: none beyond the statement's own. (part 3 of 6)
-/
import Derived.Test.YthbdbocionnfgaaGreatDoorChecked
import Derived.KernelRfl
import Derived.RangeFuncIn
import Derived.Laws.Externs
import Derived.RecoverIn
import Derived.Test.YthbdbocionnfgaaGreatDoorNcb
set_option linter.unusedSimpArgs false
set_option linter.unusedVariables false
set_option maxHeartbeats 16000000
set_option maxRecDepth 100000
namespace Go.Proofs.YthbdbocionnfgaaGreatDoor
open Go Go.Abs Go.Abs.C
def Rz:=[b 3 0,o 6 (.mv bE)]
def RA:=[L 20 3 3,o 21 (.call 10 [.t 20]),m 19 21,o 22 (.ext (.t 19) 0),o 23 (.ext (.t 19) 1),o 7 (.alloc (.agg [.int .i64 0,.nils 4,.int .i64 0])),p (.aU (some 3) (.t 7) (.t 22)),m 8 23]
def RB:=[L 25 3 3,o 26 (.call 11 [.t 25]),m 24 26,o 27 (.ext (.t 24) 0),o 28 (.ext (.t 24) 1),o 9 (.alloc (.agg [.int .i64 0,.nils 4,.int .i64 0])),p (.aU (some 3) (.t 9) (.t 27)),m 10 28]
def RC:=[L 30 3 3,m 31 1,o 32 (.call 12 [.t 30,.t 31]),m 29 32,o 33 (.ext (.t 29) 0),o 34 (.ext (.t 29) 1),o 11 (.alloc (.agg [.int .i64 0,.nils 4,.int .i64 0])),p (.aU (some 3) (.t 11) (.t 33)),m 12 34]
def RD:=[L 36 3 3,m 37 1,o 38 (.call 13 [.t 36,.t 37]),m 35 38,o 39 (.ext (.t 35) 0),o 40 (.ext (.t 35) 1),o 13 (.alloc (.agg [.int .i64 0,.nils 4,.int .i64 0])),p (.aU (some 3) (.t 13) (.t 39)),m 14 40]
def RE:=[L 42 3 3,m 43 2,o 44 (.call 14 [.t 42,.t 43]),m 41 44,o 45 (.ext (.t 41) 0),o 46 (.ext (.t 41) 1),m 15 45,m 16 46]
def RF:=[L 48 3 3,m 49 2,o 50 (.call 15 [.t 48,.t 49]),m 47 50,o 51 (.ext (.t 47) 0),o 52 (.ext (.t 47) 1),m 17 51,m 18 52]
def RG:=[L 53 3 7,L 54 3 9,o 55 (.call 16 [.t 53,.t 54]),m 56 55,c6 57 8 56,c6 58 10 56,bT 59 (.bin .eql (.t 57) (.t 58)) 56,and 60 56 59,m 61 60,bT 62 (.ld (some 3) (.t 11)) 61,bT 63 (.ld (some 3) (.t 13)) 61,bT 64 (.call 16 [.t 62,.t 63]) 61,and 65 61 64,m 66 65,c6 67 12 66,c6 68 14 66,bT 69 (.bin .eql (.t 67) (.t 68)) 66,and 70 66 69,m 71 70,c6 72 15 71,c6 73 17 71,bT 74 (.call 17 [.t 72,.t 73]) 71,and 75 71 74,m 76 75,c6 77 16 76,c6 78 18 76,bT 79 (.bin .eql (.t 77) (.t 78)) 76,and 80 76 79,m 81 80,bT 82 (.call 18 []) 81,and 83 81 82,m 6 83]
def c3:bq:=(s (r Rz) (s (r RA) (s (r RB) (s (r RC) (s (r RD) (s (r RE) (s (r RF) (s (r RG) .ret))))))))
def n5:List bM:=[.tmp 6]
theorem Ju:cz Tryz.prog Tryz.f3 c3:=e (by kernel_rfl)
theorem KM:cv Tryz.prog Tryz.f3 n5:=e (by kernel_rfl)
theorem Ip:cg Tryz.prog 3:=e (by kernel_rfl)
def NO:=[b 1 0,o 2 (.alloc (.agg [.int .i64 0,.nils 4,.int .i64 0])),bS 3 0]
def NP:=[L 5 3 1,o 6 (.call 23 [.t 5]),m 4 6]
def NQ:=[m 7 4,o 8 (.bin .neq (.t 7) (bf 0))]
def NR:=[o 9 (.bld [.int .i64 0,.nils 4,.int .i64 0] []),m 10 4,p (.aU (some 3) (.t 2) (.t 9)),m 3 10]
def NS:=[L 11 3 1,o 12 (.call 57 [.t 11]),p (.aU (some 3) (.t 1) (.t 12))]
def NT:=[f 13 1 1 1,l 14 13,o 15 (.len (.t 14)),f 16 2 2 1,p (.aU none (.t 16) (.t 15))]
def NU:=[L 17 3 1,p (.aU (some 3) (.t 2) (.t 17)),bS 3 0]
def yF:bq:=(s (r NO) (s (s (r NP) (s (r NQ) (.cond (.t 8) (s (r NR) .ret) .skip))) (s (r NS) (s (r NT) (s (r NU) .ret)))))
def C9:List bM:=[.cell 2 (some 3),.tmp 3]
theorem I5:cz Tryz.prog Tryz.f10 yF:=e (by kernel_rfl)
theorem Kd:cv Tryz.prog Tryz.f10 C9:=e (by kernel_rfl)
theorem HY:cg Tryz.prog 10:=e (by kernel_rfl)
def N9:=[b 1 0,o 2 (.alloc (.agg [.int .i64 0,.nils 4,.int .i64 0])),bS 3 0]
def Oa:=[L 5 3 1,o 6 (.call 24 [.t 5]),m 4 6]
def Ob:=[m 7 4,o 8 (.bin .neq (.t 7) (bf 0))]
def Oc:=[o 9 (.bld [.int .i64 0,.nils 4,.int .i64 0] []),m 10 4,p (.aU (some 3) (.t 2) (.t 9)),m 3 10]
def Od:=[L 11 3 1,o 12 (.call 58 [.t 11]),p (.aU (some 3) (.t 1) (.t 12))]
def Oe:=[f 13 1 1 1,l 14 13,o 15 (.len (.t 14)),f 16 2 2 1,p (.aU none (.t 16) (.t 15))]
def Of:=[L 17 3 1,p (.aU (some 3) (.t 2) (.t 17)),bS 3 0]
def yL:bq:=(s (r N9) (s (s (r Oa) (s (r Ob) (.cond (.t 8) (s (r Oc) .ret) .skip))) (s (r Od) (s (r Oe) (s (r Of) .ret)))))
def Df:List bM:=[.cell 2 (some 3),.tmp 3]
theorem Jb:cz Tryz.prog Tryz.f11 yL:=e (by kernel_rfl)
theorem Kj:cv Tryz.prog Tryz.f11 Df:=e (by kernel_rfl)
theorem H4:cg Tryz.prog 11:=e (by kernel_rfl)
def Ow:=[b 2 0,o 4 (.alloc (.agg [.int .i64 0,.nils 4,.int .i64 0])),bS 5 0]
def Ox:=[L 8 3 2,o 9 (.call 23 [.t 8]),m 6 9]
def Oy:=[m 10 6,o 11 (.bin .neq (.t 10) (bf 0))]
def Oz:=[o 12 (.bld [.int .i64 0,.nils 4,.int .i64 0] []),m 13 6,p (.aU (some 3) (.t 4) (.t 12)),m 5 13]
def OA:=[f 14 1 1 2,l 15 14,o 16 (.len (.t 15)),f 17 2 2 2,l 18 17,o 19 (.bin .sub (.t 16) (.t 18)),ad 20 19 1,m 7 20]
def OB:=[f 21 2 2 2,l 22 21,m 23 1,m 24 7,o 25 (.bin .rem (.t 23) (.t 24)),m 26 7,o 27 (.bin .add (.t 25) (.t 26)),m 28 7,o 29 (.bin .rem (.t 27) (.t 28)),o 30 (.bin .add (.t 22) (.t 29)),f 31 2 2 2,p (.aU none (.t 31) (.t 30))]
def Lz:=some [[],[0],[],[],[2,3],[],[4,5],[],[6,7],[1,8],[0,1,2,3,4,5,6,7,8,9],[10,9,0,1,2,3,4,5,6,7,8,9]]
def OC:=[f 32 1 1 2,l 33 32,f 34 2 2 2,l 35 34,o 36 (.sl 4 (.t 33) none (some (.t 35)) none),o 37 (.call 59 [.t 36]),f 38 1 1 2,p (.aU none (.t 38) (.t 37))]
def OD:=[L 39 3 2,p (.aU (some 3) (.t 4) (.t 39)),bS 5 0]
def yQ:bq:=(s (r Ow) (s (s (r Ox) (s (r Oy) (.cond (.t 11) (s (r Oz) .ret) .skip))) (s (r OA) (s (.cd Lz OB) (s (r OC) (s (r OD) .ret))))))
def Dl:List bM:=[.cell 4 (some 3),.tmp 5]
theorem Jg:cz Tryz.prog Tryz.f12 yQ:=e (by kernel_rfl)
theorem Ko:cv Tryz.prog Tryz.f12 Dl:=e (by kernel_rfl)
theorem H9:cg Tryz.prog 12:=e (by kernel_rfl)
def OM:=[b 2 0,o 4 (.alloc (.agg [.int .i64 0,.nils 4,.int .i64 0])),bS 5 0]
def ON:=[L 8 3 2,o 9 (.call 24 [.t 8]),m 6 9]
def OO:=[m 10 6,o 11 (.bin .neq (.t 10) (bf 0))]
def OP:=[o 12 (.bld [.int .i64 0,.nils 4,.int .i64 0] []),m 13 6,p (.aU (some 3) (.t 4) (.t 12)),m 5 13]
def OQ:=[f 14 2 2 2,l 15 14,m 16 1,f 17 1 1 2,l 18 17,o 19 (.len (.t 18)),f 20 2 2 2,l 21 20,o 22 (.bin .sub (.t 19) (.t 21)),ad 23 22 1,o 24 (.call 60 [.t 16,.t 23]),o 25 (.bin .add (.t 15) (.t 24)),m 7 25]
def LH:=some [[],[0],[],[],[3],[4],[],[6],[5,7],[8],[2,9],[1,10],[11,10,0,1,2,3,4,5,6,7,8,9,10,11]]
def OR:=[o 26 (.bs0 4),f 27 1 1 2,l 28 27,m 29 7,o 30 (.sl 4 (.t 28) none (some (.t 29)) none),o 31 (.c9 37 4 32 (.agg [.int .i64 0,.int .i64 0,.int .i64 0,.int .i64 0]) (.t 26) (.t 30)),f 32 1 1 2,p (.aU none (.t 32) (.t 31))]
def OS:=[m 33 7,f 34 2 2 2,p (.aU none (.t 34) (.t 33))]
def OT:=[L 35 3 2,p (.aU (some 3) (.t 4) (.t 35)),bS 5 0]
def yR:bq:=(s (r OM) (s (s (r ON) (s (r OO) (.cond (.t 11) (s (r OP) .ret) .skip))) (s (.cd LH OQ) (s (r OR) (s (r OS) (s (r OT) .ret))))))
def Ds:List bM:=[.cell 4 (some 3),.tmp 5]
theorem Jh:cz Tryz.prog Tryz.f13 yR:=e (by kernel_rfl)
theorem Ku:cv Tryz.prog Tryz.f13 Ds:=e (by kernel_rfl)
theorem Ia:cg Tryz.prog 13:=e (by kernel_rfl)
def OU:=[b 2 0,o 4 (.mv (.c (.nils 5))),bS 5 0]
def OV:=[L 11 3 2,o 12 (.call 23 [.t 11]),m 6 12]
def OZ:=[m 13 6,o 14 (.bin .neq (.t 13) (bf 0))]
def O0:=[m 15 6,o 4 (.mv (.c (.nils 5))),m 5 15]
def O1:=[m 16 1,o 17 (.call 61 [.t 16]),no 18 17,m 19 18,kY 20 1 19,fn 21 0 0 2 19,fq 22 21 19,on 23 (.bin .eql (.t 20) (.t 22)) 19,or 24 19 23]
def O2:=[o 4 (.mv (.c (.nils 5))),bS 5 90]
def O3:=[f 26 0 0 2,l 27 26,f 28 1 1 2,l 29 28,f 30 2 2 2,l 31 30,f 32 2 2 2,l 33 32,o 34 (.sl 4 (.t 29) none (some (.t 31)) (some (.t 33))),o 35 (.call 62 [.t 27,.t 34]),m 25 35,o 36 (.ext (.t 25) 0),o 37 (.ext (.t 25) 1),m 7 36,m 8 37]
def LJ:=some [[],[0],[],[2],[],[4],[],[6],[3,5,7],[1,8],[9],[10],[10],[11,9,0,1,2,3,4,5,6,7,8,9,10,11],[12,13,0,1,2,3,4,5,6,7,8,9,10,11,12,13]]
def O4:=[o 9 (.alloc (.nils 5))]
def O5:=[m 38 7,m 39 1,o 40 (.call 63 [.t 38,.t 39])]
def O6:=[o 10 (.alloc (.agg [.int .i64 0,.int .i64 0,.int .i64 0,.int .i64 0,.int .i64 0])),p (.aU (some 5) (.t 10) (.t 41))]
def OW:=[l 42 9,o 43 (.len (.t 42)),o 44 (.bin .eql (.t 43) (bf 0)),m 45 44,fq 46 9 45,fq 47 9 45,on 48 (.len (.t 47)) 45,on 49 (.bin .sub (.t 48) (bf 1)) 45,on 50 (.is 5 (.t 46) (.t 49)) 45,on 51 (.ld (some 5) (.t 50)) 45,on 52 (.ld (some 5) (.t 10)) 45,on 53 (.eqv (.aU [(.i .i64),(.i .i64),(.i .i64),(.i .i64),(.i .i64)]) true (.t 51) (.t 52)) 45,or 54 45 53]
def LI:=some [[],[0],[1],[2],[3],[3],[5,3],[6,3],[4,7,3],[8,3],[3],[9,10,3],[3,11]]
def OX:=[l 55 9,L 56 5 10,o 57 (.bs 39 5 [.t 56]),o 58 (.c9 39 5 40 (.agg [.int .i64 0,.int .i64 0,.int .i64 0,.int .i64 0,.int .i64 0]) (.t 55) (.t 57)),p (.aU none (.t 9) (.t 58))]
def OY:=[l 59 9,m 4 59,bS 5 0]
def yS:bq:=(s (r OU) (s (s (r OV) (s (r OZ) (.cond (.t 14) (s (r O0) .ret) .skip))) (s (s (r O1) (.cond (.t 24) (s (r O2) .ret) .skip)) (s (.cd LJ O3) (s (r O4) (s (s (r O5) (.block 0 (.mf (.t 40) [41] (r O6) (.block 1 (s (.cd LI OW) (.cond (.t 54) (r OX) .skip)))))) (s (r OY) .ret)))))))
def Dw:List bM:=[.tmp 4,.tmp 5]
theorem Ji:cz Tryz.prog Tryz.f14 yS:=e (by kernel_rfl)
theorem Kz:cv Tryz.prog Tryz.f14 Dw:=e (by kernel_rfl)
theorem Ib:cg Tryz.prog 14:=e (by kernel_rfl)
def Pd:=[b 2 0,o 4 (.mv (.c (.nils 5))),bS 5 0]
def Pe:=[L 17 3 2,o 18 (.call 24 [.t 17]),m 6 18]
def Pq:=[m 19 6,o 20 (.bin .neq (.t 19) (bf 0))]
def PB:=[m 21 6,o 4 (.mv (.c (.nils 5))),m 5 21]
def PC:=[m 22 1,o 23 (.call 64 [.t 22]),no 24 23,m 25 24,kY 26 1 25,fn 27 0 0 2 25,fq 28 27 25,on 29 (.bin .eql (.t 26) (.t 28)) 25,or 30 25 29]
def PD:=[o 4 (.mv (.c (.nils 5))),bS 5 90]
def PE:=[L 32 3 2,f 33 2 2 2,l 34 33,o 35 (.call 65 [.t 32,.t 34]),m 31 35,o 36 (.ext (.t 31) 0),o 37 (.ext (.t 31) 1),o 7 (.alloc (.agg [.int .i64 0,.nils 1,.int .i64 0,.nils 4,.nils 4])),p (.aU (some 5) (.t 7) (.t 36)),m 8 37]
def PF:=[o 9 (.mv (.c (.nils 5)))]
def PG:=[f 38 3 3 7,l 39 38,o 40 (.len (.t 39)),bS 41 0]
def PH:=[lt 42 41 40]
def Pf:=[o 43 (.is 4 (.t 39) (.t 41)),L 44 4 43,o 11 (.alloc (.agg [.int .i64 0,.int .i64 0,.int .i64 0,.bool false])),p (.aU (some 4) (.t 11) (.t 44))]
def Pg:=[f 45 1 1 11,l 46 45,m 47 1,o 48 (.bin .neq (.t 46) (.t 47))]
def Ph:=[f 49 0 0 2,l 50 49,m 51 1,f 52 2 2 11,l 53 52,f 54 0 0 11,l 55 54,o 56 (.bld [.int .i64 0,.int .i64 0,.int .i64 0,.int .i64 0,.int .i64 0] [(0,(bf 1)),(1,(.t 50)),(2,(.t 51)),(3,(.t 53)),(4,(.t 55))]),o 12 (.alloc (.agg [.int .i64 0,.int .i64 0,.int .i64 0,.int .i64 0,.int .i64 0])),p (.aU (some 5) (.t 12) (.t 56))]
def Pj:=[f 57 3 3 11,l 58 57]
def Pk:=[f 59 0 0 12,p (.aU none (.t 59) (bf 3))]
def Pl:=[m 60 9,L 61 5 12,o 62 (.bs 39 5 [.t 61]),o 63 (.c9 39 5 40 (.agg [.int .i64 0,.int .i64 0,.int .i64 0,.int .i64 0,.int .i64 0]) (.t 60) (.t 62)),m 9 63]
def Pm:=[ad 64 41 1,m 41 64]
def Pn:=[bS 13 1]
def Po:=[m 65 13,o 66 (.bin .leq (.t 65) (bf 200))]
def Pp:=[f 69 4 4 7,l 70 69,o 71 (.len (.t 70)),bS 72 0]
def Pr:=[lt 73 72 71]
def Ps:=[o 74 (.is 4 (.t 70) (.t 72)),L 75 4 74,o 15 (.alloc (.agg [.int .i64 0,.int .i64 0,.int .i64 0,.int .i64 0])),p (.aU (some 4) (.t 15) (.t 75))]
def Pt:=[f 76 1 1 15,l 77 76,m 78 1,o 79 (.bin .neq (.t 77) (.t 78)),m 80 79,fn 81 2 2 15 80,fq 82 81 80,kY 83 13 80,on 84 (.bin .neq (.t 82) (.t 83)) 80,or 85 80 84]
def Pu:=[f 86 0 0 2,l 87 86,m 88 1,f 89 3 3 15,l 90 89,m 91 13,o 92 (.bld [.int .i64 0,.int .i64 0,.int .i64 0,.int .i64 0,.int .i64 0] [(0,(bf 2)),(1,(.t 87)),(2,(.t 88)),(3,(.t 90)),(4,(.t 91))]),o 16 (.alloc (.agg [.int .i64 0,.int .i64 0,.int .i64 0,.int .i64 0,.int .i64 0])),p (.aU (some 5) (.t 16) (.t 92))]
def Pv:=[f 93 0 0 15,l 94 93,o 95 (.bin .eql (.t 94) (bf 8))]
def Pw:=[f 96 0 0 16,p (.aU none (.t 96) (bf 4))]
def Px:=[m 97 9,L 98 5 16,o 99 (.bs 39 5 [.t 98]),o 100 (.c9 39 5 40 (.agg [.int .i64 0,.int .i64 0,.int .i64 0,.int .i64 0,.int .i64 0]) (.t 97) (.t 99)),m 9 100]
def Py:=[ad 101 72 1,m 72 101]
def Pz:=[m 67 13,ad 68 67 1,m 13 68]
def PA:=[m 102 9,m 4 102,bS 5 0]
def yT:bq:=(s (r Pd) (s (s (r Pe) (s (r Pq) (.cond (.t 20) (s (r PB) .ret) .skip))) (s (s (r PC) (.cond (.t 30) (s (r PD) .ret) .skip)) (s (r PE) (s (r PF) (s (s (r PG) (.block 0 (.loop (s (r PH) (s (.cond (.t 42) .skip (.exit 0)) (s (.block 1 (s (r Pf) (s (s (r Pg) (.cond (.t 48) (.exit 1) .skip)) (s (r Ph) (s (s (r Pj) (.cond (.t 58) (r Pk) .skip)) (r Pl)))))) (r Pm))))))) (s (s (r Pn) (.block 2 (.loop (s (s (r Po) (.cond (.t 66) .skip (.exit 2))) (s (.block 3 (s (r Pp) (.block 4 (.loop (s (r Pr) (s (.cond (.t 73) .skip (.exit 4)) (s (.block 5 (s (r Ps) (s (s (r Pt) (.cond (.t 85) (.exit 5) .skip)) (s (r Pu) (s (s (r Pv) (.cond (.t 95) (r Pw) .skip)) (r Px)))))) (r Py)))))))) (r Pz)))))) (s (r PA) .ret))))))))
def Dy:List bM:=[.tmp 4,.tmp 5]
theorem Jj:cz Tryz.prog Tryz.f15 yT:=e (by kernel_rfl)
theorem KA:cv Tryz.prog Tryz.f15 Dy:=e (by kernel_rfl)
theorem Ic:cg Tryz.prog 15:=e (by kernel_rfl)
def PI:=[b 2 0,b 3 1,o 4 (.mv bE)]
def PJ:=[f 5 0 0 2,l 6 5,f 7 0 0 3,l 8 7,o 9 (.bin .eql (.t 6) (.t 8)),m 10 9,dZ 11 2 2 2 10,dS 12 11 10,dZ 13 2 2 3 10,dS 14 13 10,bT 15 (.bin .eql (.t 12) (.t 14)) 10,and 16 10 15,m 17 16,dZ 18 1 1 2 17,dS 19 18 17,dZ 20 1 1 3 17,dS 21 20 17,bT 22 (.call 52 [.t 19,.t 21]) 17,and 23 17 22,m 4 23]
def yV:bq:=(s (r PI) (s (r PJ) .ret))
def DB:List bM:=[.tmp 4]
theorem Jl:cz Tryz.prog Tryz.f16 yV:=e (by kernel_rfl)
theorem KD:cv Tryz.prog Tryz.f16 DB:=e (by kernel_rfl)
theorem If:cg Tryz.prog 16:=e (by kernel_rfl)
def PK:=[o 4 (.mv bE)]
def PL:=[m 6 0,o 7 (.len (.t 6)),m 8 1,o 9 (.len (.t 8)),o 10 (.bin .neq (.t 7) (.t 9))]
def PM:=[o 4 (.mv bE)]
def PN:=[m 11 0,o 12 (.len (.t 11)),bS 13 0]
def PO:=[lt 14 13 12]
def PQ:=[m 15 13,m 5 15]
def PR:=[m 16 0,m 17 5,o 18 (.is 5 (.t 16) (.t 17)),L 19 5 18,m 20 1,m 21 5,o 22 (.is 5 (.t 20) (.t 21)),L 23 5 22,o 24 (.eqv (.aU [(.i .i64),(.i .i64),(.i .i64),(.i .i64),(.i .i64)]) true (.t 19) (.t 23))]
def LO:=some [[],[],[0,1],[2],[],[],[4,5],[6],[3,7]]
def PS:=[o 4 (.mv bE)]
def PT:=[ad 25 13 1,m 13 25]
def PU:=[o 4 (.mv T)]
def yW:bq:=(s (r PK) (s (s (r PL) (.cond (.t 10) (s (r PM) .ret) .skip)) (s (s (r PN) (.block 0 (.loop (s (r PO) (s (.cond (.t 14) .skip (.exit 0)) (s (.block 1 (s (r PQ) (s (.cd LO PR) (.cond (.t 24) (s (r PS) .ret) .skip)))) (r PT))))))) (s (r PU) .ret))))
def DC:List bM:=[.tmp 4]
theorem Jm:cz Tryz.prog Tryz.f17 yW:=e (by kernel_rfl)
theorem KE:cv Tryz.prog Tryz.f17 DC:=e (by kernel_rfl)
theorem Ig:cg Tryz.prog 17:=e (by kernel_rfl)
def PV:=[o 0 (.mv bE)]
def PW:=[o 28 (.call 19 [(bf 0)]),m 27 28,o 29 (.ext (.t 27) 0),o 30 (.ext (.t 27) 1),o 1 (.alloc (.agg [.int .i64 0,.nils 4,.int .i64 0])),p (.aU (some 3) (.t 1) (.t 29)),m 2 30]
def P6:=[o 32 (.call 19 [(bf 1)]),m 31 32,o 33 (.ext (.t 31) 0),o 34 (.ext (.t 31) 1),o 3 (.alloc (.agg [.int .i64 0,.nils 4,.int .i64 0])),p (.aU (some 3) (.t 3) (.t 33)),m 4 34]
def P7:=[L 36 3 1,o 37 (.call 27 [.t 36,(bf 7)]),m 35 37,o 38 (.ext (.t 35) 0),o 39 (.ext (.t 35) 1),p (.aU (some 3) (.t 1) (.t 38)),m 5 39]
def P8:=[L 41 3 1,o 42 (.call 10 [.t 41]),m 40 42,o 43 (.ext (.t 40) 0),o 44 (.ext (.t 40) 1),p (.aU (some 3) (.t 1) (.t 43)),m 6 44]
def P9:=[L 46 3 1,o 47 (.call 31 [.t 46,(bf 7),(bf 1)]),m 45 47,o 48 (.ext (.t 45) 0),o 49 (.ext (.t 45) 1),o 50 (.ext (.t 45) 2),o 7 (.alloc (.agg [.int .i64 0,.int .i64 0,.int .i64 0,.bool false])),p (.aU (some 3) (.t 1) (.t 48)),p (.aU (some 4) (.t 7) (.t 49)),m 8 50]
def Qa:=[L 52 3 1,o 53 (.call 14 [.t 52,(bf 1)]),m 51 53,o 54 (.ext (.t 51) 0),o 55 (.ext (.t 51) 1),m 9 54,m 10 55]
def Qb:=[L 57 3 1,o 58 (.call 53 [.t 57]),m 56 58,o 59 (.ext (.t 56) 0),o 60 (.ext (.t 56) 1),m 11 59,m 12 60]
def Qc:=[L 62 3 1,o 63 (.call 10 [.t 62]),m 61 63,o 64 (.ext (.t 61) 0),o 65 (.ext (.t 61) 1),p (.aU (some 3) (.t 1) (.t 64)),m 13 65]
def Qd:=[L 67 3 1,o 68 (.call 14 [.t 67,(bf 1)]),m 66 68,o 69 (.ext (.t 66) 0),o 70 (.ext (.t 66) 1),m 14 69,m 15 70]
def PX:=[o 71 (.bld [.int .i64 0,.int .i64 0,.int .i64 0,.int .i64 0,.int .i64 0] [(0,(bf 1)),(2,(bf 1)),(3,(bf 7)),(4,(bf 1))]),o 16 (.alloc (.agg [.int .i64 0,.int .i64 0,.int .i64 0,.int .i64 0,.int .i64 0])),p (.aU (some 5) (.t 16) (.t 71))]
def PY:=[L 73 3 3,L 74 5 16,o 75 (.call 35 [.t 73,.t 74]),m 72 75,o 76 (.ext (.t 72) 0),o 77 (.ext (.t 72) 1),p (.aU (some 3) (.t 3) (.t 76)),m 17 77]
def PZ:=[L 79 3 1,L 80 3 3,o 81 (.bs 24 3 [.t 79,.t 80]),o 82 (.call 37 [.t 81,(bf 7)]),m 78 82,o 83 (.ext (.t 78) 0),o 84 (.ext (.t 78) 1),m 18 83,m 19 84]
def P0:=[L 86 3 3,o 87 (.call 10 [.t 86]),m 85 87,o 88 (.ext (.t 85) 0),o 89 (.ext (.t 85) 1),p (.aU (some 3) (.t 3) (.t 88)),m 20 89]
def P1:=[L 91 3 3,o 92 (.call 14 [.t 91,(bf 0)]),m 90 92,o 93 (.ext (.t 90) 0),o 94 (.ext (.t 90) 1),m 21 93,m 22 94]
def P2:=[L 96 3 1,o 97 (.bld [.int .i64 0,.int .i64 0,.int .i64 0,.int .i64 0,.int .i64 0] [(0,(bf 2)),(1,(bf 1)),(3,(bf 7)),(4,(bf 1))]),o 98 (.call 35 [.t 96,.t 97]),m 95 98,o 99 (.ext (.t 95) 0),o 100 (.ext (.t 95) 1),p (.aU (some 3) (.t 1) (.t 99)),m 23 100]
def P3:=[L 102 3 1,o 103 (.call 46 [.t 102]),m 101 103,o 104 (.ext (.t 101) 0),o 105 (.ext (.t 101) 1),m 24 104,m 25 105]
def P4:=[m 106 2,o 107 (.bin .eql (.t 106) (bf 0)),m 108 107,c6 109 4 108,bT 110 (.bin .eql (.t 109) (bf 0)) 108,and 111 108 110,m 112 111,c6 113 5 112,bT 114 (.bin .eql (.t 113) (bf 0)) 112,and 115 112 114,m 116 115,c6 117 6 116,bT 118 (.bin .eql (.t 117) (bf 0)) 116,and 119 116 118,m 120 119,c6 121 8 120,bT 122 (.bin .eql (.t 121) (bf 0)) 120,and 123 120 122,m 124 123,c6 125 10 124,bT 126 (.bin .eql (.t 125) (bf 0)) 124,and 127 124 126,m 128 127,c6 129 12 128,bT 130 (.bin .eql (.t 129) (bf 0)) 128,and 131 128 130,m 132 131,c6 133 13 132,bT 134 (.bin .eql (.t 133) (bf 0)) 132,and 135 132 134,m 136 135,c6 137 15 136,bT 138 (.bin .eql (.t 137) (bf 0)) 136,and 139 136 138,m 140 139,c6 141 17 140,bT 142 (.bin .eql (.t 141) (bf 0)) 140,and 143 140 142,m 144 143,c6 145 19 144,bT 146 (.bin .eql (.t 145) (bf 0)) 144,and 147 144 146,m 148 147,c6 149 20 148,bT 150 (.bin .eql (.t 149) (bf 0)) 148,and 151 148 150,m 152 151,c6 153 22 152,bT 154 (.bin .eql (.t 153) (bf 0)) 152,and 155 152 154,m 156 155,c6 157 23 156,bT 158 (.bin .eql (.t 157) (bf 0)) 156,and 159 156 158,m 160 159,c6 161 25 160,bT 162 (.bin .eql (.t 161) (bf 0)) 160,and 163 160 162,m 26 163]
def P5:=[m 164 26,m 165 164,bT 166 (.ld (some 4) (.t 7)) 165,bT 167 (.bld [.int .i64 0,.int .i64 0,.int .i64 0,.bool false] [(0,(bf 1)),(1,(bf 1)),(2,(bf 7))]) 165,bT 168 (.eqv (.aU [(.i .i64),(.i .i64),(.i .i64),.b]) false (.t 166) (.t 167)) 165,and 169 165 168,m 170 169,c6 171 9 170,bT 172 (.len (.t 171)) 170,bT 173 (.bin .eql (.t 172) (bf 0)) 170,and 174 170 173,m 175 174,c6 176 11 175,bT 177 (.bin .eql (.t 176) (.c (.bP ⟨#[112,111,117,110,100,32,48,32,49,10,112,111,117,110,100,32,55,10,115,101,110,100,32,55,32,49,32,49,10]⟩))) 175,and 178 175 177,m 179 178,c6 180 14 179,bT 181 (.ld (some 5) (.t 16)) 179,bT 182 (.bs 39 5 [.t 181]) 179,bT 183 (.call 17 [.t 180,.t 182]) 179,and 184 179 183,m 185 184,c6 186 18 185,bT 187 (.bs 3 1 [(bf 1)]) 185,bT 188 (.call 41 [.t 186,.t 187]) 185,and 189 185 188,m 190 189,c6 191 21 190,bT 192 (.bld [.int .i64 0,.int .i64 0,.int .i64 0,.int .i64 0,.int .i64 0] [(0,(bf 2)),(1,(bf 1)),(3,(bf 7)),(4,(bf 1))]) 190,bT 193 (.bs 39 5 [.t 192]) 190,bT 194 (.call 17 [.t 191,.t 193]) 190,and 195 190 194,m 196 195,c6 197 24 196,bT 198 (.len (.t 197)) 196,bT 199 (.bin .eql (.t 198) (bf 0)) 196,and 200 196 199,m 0 200]
def yX:bq:=(s (r PV) (s (r PW) (s (r P6) (s (r P7) (s (r P8) (s (r P9) (s (r Qa) (s (r Qb) (s (r Qc) (s (r Qd) (s (r PX) (s (r PY) (s (r PZ) (s (r P0) (s (r P1) (s (r P2) (s (r P3) (s (r P4) (s (r P5) .ret)))))))))))))))))))
def DE:List bM:=[.tmp 0]
theorem Jn:cz Tryz.prog Tryz.f18 yX:=e (by kernel_rfl)
theorem KF:cv Tryz.prog Tryz.f18 DE:=e (by kernel_rfl)
theorem Ih:cg Tryz.prog 18:=e (by kernel_rfl)
def Qe:=[o 2 (.alloc (.agg [.int .i64 0,.nils 4,.int .i64 0])),bS 3 0]
def Qf:=[m 4 0,o 5 (.call 61 [.t 4]),no 6 5]
def Qg:=[o 7 (.bld [.int .i64 0,.nils 4,.int .i64 0] []),p (.aU (some 3) (.t 2) (.t 7)),bS 3 90]
def Qh:=[m 8 0,o 9 (.bld [.int .i64 0,.nils 4,.int .i64 0] [(0,(.t 8))]),p (.aU (some 3) (.t 2) (.t 9)),bS 3 0]
def yY:bq:=(s (r Qe) (s (s (r Qf) (.cond (.t 6) (s (r Qg) .ret) .skip)) (s (r Qh) .ret)))
def DF:List bM:=[.cell 2 (some 3),.tmp 3]
theorem Jo:cz Tryz.prog Tryz.f19 yY:=e (by kernel_rfl)
theorem KG:cv Tryz.prog Tryz.f19 DF:=e (by kernel_rfl)
theorem Ii:cg Tryz.prog 19:=e (by kernel_rfl)
def Qi:=[b 1 0,bS 2 0]
def Qj:=[f 3 0 0 1,l 4 3]
def Qp:=[o 6 (.bin .eql (.t 4) (bf 1)),m 5 6]
def Qq:=[o 7 (.bin .eql (.t 4) (bf 2)),m 5 7]
def Qr:=[f 8 1 1 1,l 9 8,o 10 (.call 67 [.t 9]),m 11 10,dZ 12 2 2 1 11,dS 13 12 11,bT 14 (.bin .eql (.t 13) (bf 0)) 11,and 15 11 14,m 16 15,dZ 17 3 3 1 16,dS 18 17 16,bT 19 (.bin .eql (.t 18) (bf 0)) 16,and 20 16 19]
def Qs:=[bS 2 0]
def Qt:=[o 22 (.bin .eql (.t 4) (bf 3)),m 21 22]
def Qu:=[o 23 (.bin .eql (.t 4) (bf 4)),m 21 23]
def Qv:=[o 24 (.bin .eql (.t 4) (bf 5)),m 21 24]
def Qw:=[o 25 (.bin .eql (.t 4) (bf 6)),m 21 25]
def Qk:=[o 26 (.bin .eql (.t 4) (bf 7)),m 21 26]
def Ql:=[o 27 (.bin .eql (.t 4) (bf 8)),m 21 27]
def Qm:=[f 28 1 1 1,l 29 28,o 30 (.call 67 [.t 29]),m 31 30,dZ 32 2 2 1 31,dS 33 32 31,bT 34 (.call 64 [.t 33]) 31,and 35 31 34,m 36 35,dZ 37 3 3 1 36,dS 38 37 36,bT 39 (.call 68 [.t 38,(bf 1),(bf 200)]) 36,and 40 36 39]
def Qn:=[bS 2 0]
def Qo:=[bS 2 1]
def yZ:bq:=(s (r Qi) (s (s (r Qj) (.block 0 (s (s (r Qp) (.cond (.t 5) .skip (r Qq))) (.cond (.t 5) (s (r Qr) (.cond (.t 20) (s (r Qs) .ret) .skip)) (s (s (r Qt) (.cond (.t 21) .skip (s (r Qu) (.cond (.t 21) .skip (s (r Qv) (.cond (.t 21) .skip (s (r Qw) (.cond (.t 21) .skip (s (r Qk) (.cond (.t 21) .skip (r Ql))))))))))) (.cond (.t 21) (s (r Qm) (.cond (.t 40) (s (r Qn) .ret) .skip)) .skip)))))) (s (r Qo) .ret)))
def DG:List bM:=[.tmp 2]
theorem Jp:cz Tryz.prog Tryz.f22 yZ:=e (by kernel_rfl)
theorem KH:cv Tryz.prog Tryz.f22 DG:=e (by kernel_rfl)
theorem Ij:cg Tryz.prog 22:=e (by kernel_rfl)
def Qx:=[b 1 0,bS 2 0]
def Qy:=[L 6 3 1,o 7 (.call 69 [.t 6]),m 5 7,o 8 (.ext (.t 5) 0),o 9 (.ext (.t 5) 1),m 3 8,m 4 9]
def Qz:=[m 10 4,m 2 10]
def y5:bq:=(s (r Qx) (s (r Qy) (s (r Qz) .ret)))
def DH:List bM:=[.tmp 2]
theorem Jq:cz Tryz.prog Tryz.f23 y5:=e (by kernel_rfl)
theorem KI:cv Tryz.prog Tryz.f23 DH:=e (by kernel_rfl)
theorem Ik:cg Tryz.prog 23:=e (by kernel_rfl)
def QA:=[b 1 0,bS 2 0]
def QB:=[f 5 0 0 1,l 6 5,o 7 (.call 64 [.t 6]),no 8 7,m 9 8,fn 10 1 1 1 9,fq 11 10 9,on 12 (.len (.t 11)) 9,on 13 (.bin .gtr (.t 12) (bf 200)) 9,or 14 9 13,m 15 14,fn 16 2 2 1 15,fq 17 16 15,fn 18 1 1 1 15,fq 19 18 15,on 20 (.len (.t 19)) 15,on 21 (.call 68 [.t 17,(bf 0),.t 20]) 15,on 22 (.un .not (.t 21)) 15,or 23 15 22]
def QC:=[bS 2 91]
def QD:=[L 25 3 1,f 26 1 1 1,l 27 26,o 28 (.len (.t 27)),o 29 (.call 65 [.t 25,.t 28]),m 24 29,o 30 (.ext (.t 24) 0),o 31 (.ext (.t 24) 1),o 3 (.alloc (.agg [.int .i64 0,.nils 1,.int .i64 0,.nils 4,.nils 4])),p (.aU (some 5) (.t 3) (.t 30)),m 4 31]
def QE:=[m 32 4,no 33 32]
def QF:=[bS 2 91]
def QG:=[bS 2 0]
def y7:bq:=(s (r QA) (s (s (r QB) (.cond (.t 23) (s (r QC) .ret) .skip)) (s (s (r QD) (s (r QE) (.cond (.t 33) (s (r QF) .ret) .skip))) (s (r QG) .ret))))
def DI:List bM:=[.tmp 2]
theorem Jr:cz Tryz.prog Tryz.f24 y7:=e (by kernel_rfl)
theorem KJ:cv Tryz.prog Tryz.f24 DI:=e (by kernel_rfl)
theorem Il:cg Tryz.prog 24:=e (by kernel_rfl)
def QH:=[b 2 0,o 4 (.alloc (.agg [.int .i64 0,.nils 4,.int .i64 0])),bS 5 0]
def QI:=[L 9 3 2,o 10 (.call 69 [.t 9]),m 8 10,o 11 (.ext (.t 8) 0),o 12 (.ext (.t 8) 1),m 6 11,m 7 12]
def QJ:=[m 14 7,o 15 (.bin .neq (.t 14) (bf 0)),m 13 15]
def QK:=[o 16 (.bld [.int .i64 0,.nils 4,.int .i64 0] []),m 17 7,p (.aU (some 3) (.t 4) (.t 16)),m 5 17]
def QL:=[m 19 1,o 20 (.call 71 [.t 19]),no 21 20,m 18 21]
def QM:=[o 22 (.bld [.int .i64 0,.nils 4,.int .i64 0] []),p (.aU (some 3) (.t 4) (.t 22)),bS 5 1]
def QN:=[m 24 6,o 25 (.nilC (.t 24)),f 26 1 1 25,l 27 26,m 28 1,o 29 (.lk (.i .i64) (.bool false) false (.t 27) (.t 28)),m 30 29,kY 31 6 30,kY 32 1 30,on 33 (.call 72 [.t 31,.t 32]) 30,or 34 30 33,m 23 34]
def QO:=[o 35 (.bld [.int .i64 0,.nils 4,.int .i64 0] []),p (.aU (some 3) (.t 4) (.t 35)),bS 5 92]
def QP:=[L 36 3 2,m 37 1,o 38 (.bld [.int .i64 0,.int .i64 0,.int .i64 0,.int .i64 0] [(0,(bf 1)),(1,(.t 37))]),o 39 (.call 73 [.t 36,.t 38]),o 40 (.ext (.t 39) 0),o 41 (.ext (.t 39) 1),p (.aU (some 3) (.t 4) (.t 40)),m 5 41]
def y8:bq:=(s (r QH) (s (r QI) (s (.block 0 (s (r QJ) (.cond (.t 13) (s (r QK) .ret) (s (r QL) (.cond (.t 18) (s (r QM) .ret) (s (r QN) (.cond (.t 23) (s (r QO) .ret) .skip))))))) (s (r QP) .ret))))
def DJ:List bM:=[.cell 4 (some 3),.tmp 5]
theorem Js:cz Tryz.prog Tryz.f27 y8:=e (by kernel_rfl)
theorem KK:cv Tryz.prog Tryz.f27 DJ:=e (by kernel_rfl)
theorem Im:cg Tryz.prog 27:=e (by kernel_rfl)
def QR:=[b 2 0,o 4 (.alloc (.agg [.int .i64 0,.nils 4,.int .i64 0])),bS 5 0]
def QS:=[L 10 3 2,m 11 1,o 12 (.call 74 [.t 10,.t 11]),m 6 12]
def QT:=[m 13 6,o 14 (.bin .neq (.t 13) (bf 0))]
def QU:=[o 15 (.bld [.int .i64 0,.nils 4,.int .i64 0] []),m 16 6,p (.aU (some 3) (.t 4) (.t 15)),m 5 16]
def QV:=[m 17 1,o 18 (.bld [.int .i64 0,.int .i64 0,.int .i64 0,.int .i64 0] [(0,(bf 1)),(1,(.t 17))]),o 7 (.alloc (.agg [.int .i64 0,.int .i64 0,.int .i64 0,.int .i64 0])),p (.aU (some 4) (.t 7) (.t 18))]
def QW:=[L 20 3 2,o 21 (.call 75 [.t 20]),L 22 4 7,o 23 (.call 76 [.t 21,.t 22]),m 19 23,o 24 (.ext (.t 19) 0),o 25 (.ext (.t 19) 1),o 8 (.alloc (.agg [.int .i64 0,.nils 1,.int .i64 0,.nils 4,.nils 4])),p (.aU (some 5) (.t 8) (.t 24)),m 9 25]
def LP:=some [[],[0],[],[1,2,1],[3],[4],[4],[],[7,5,3,0,1,2,3,4,5,7],[6,8,0,1,2,3,4,5,6,7,8]]
def QX:=[m 26 9,no 27 26]
def QY:=[o 28 (.bld [.int .i64 0,.nils 4,.int .i64 0] []),p (.aU (some 3) (.t 4) (.t 28)),bS 5 92]
def QZ:=[L 29 3 2,L 30 4 7,o 31 (.call 77 [.t 29,.t 30]),o 32 (.ext (.t 31) 0),o 33 (.ext (.t 31) 1),p (.aU (some 3) (.t 4) (.t 32)),m 5 33]
def y9:bq:=(s (r QR) (s (s (r QS) (s (r QT) (.cond (.t 14) (s (r QU) .ret) .skip))) (s (r QV) (s (s (.cd LP QW) (s (r QX) (.cond (.t 27) (s (r QY) .ret) .skip))) (s (r QZ) .ret)))))
def DK:List bM:=[.cell 4 (some 3),.tmp 5]
theorem Jt:cz Tryz.prog Tryz.f28 y9:=e (by kernel_rfl)
theorem KL:cv Tryz.prog Tryz.f28 DK:=e (by kernel_rfl)
theorem Io:cg Tryz.prog 28:=e (by kernel_rfl)
def Q0:=[b 3 0,o 6 (.alloc (.agg [.int .i64 0,.nils 4,.int .i64 0])),o 7 (.alloc (.agg [.int .i64 0,.int .i64 0,.int .i64 0,.bool false])),bS 8 0]
def Q1:=[L 13 3 3,o 14 (.call 69 [.t 13]),m 12 14,o 15 (.ext (.t 12) 0),o 16 (.ext (.t 12) 1),m 9 15,m 10 16]
def Q6:=[m 18 10,o 19 (.bin .neq (.t 18) (bf 0)),m 17 19]
def Q7:=[o 20 (.bld [.int .i64 0,.nils 4,.int .i64 0] []),o 21 (.bld [.int .i64 0,.int .i64 0,.int .i64 0,.bool false] []),m 22 10,p (.aU (some 3) (.t 6) (.t 20)),p (.aU (some 4) (.t 7) (.t 21)),m 8 22]
def Q8:=[m 24 1,o 25 (.call 71 [.t 24]),no 26 25,m 23 26]
def Q9:=[o 27 (.bld [.int .i64 0,.nils 4,.int .i64 0] []),o 28 (.bld [.int .i64 0,.int .i64 0,.int .i64 0,.bool false] []),p (.aU (some 3) (.t 6) (.t 27)),p (.aU (some 4) (.t 7) (.t 28)),bS 8 1]
def Ra:=[m 30 2,o 31 (.call 61 [.t 30]),no 32 31,m 33 32,kY 34 2 33,fn 35 0 0 3 33,fq 36 35 33,on 37 (.bin .eql (.t 34) (.t 36)) 33,or 38 33 37,m 29 38]
def Rb:=[o 39 (.bld [.int .i64 0,.nils 4,.int .i64 0] []),o 40 (.bld [.int .i64 0,.int .i64 0,.int .i64 0,.bool false] []),p (.aU (some 3) (.t 6) (.t 39)),p (.aU (some 4) (.t 7) (.t 40)),bS 8 90]
def Rc:=[m 42 9,o 43 (.nilC (.t 42)),f 44 1 1 43,l 45 44,m 46 1,o 47 (.lk (.i .i64) (.bool false) false (.t 45) (.t 46)),no 48 47,m 41 48]
def Re:=[o 49 (.bld [.int .i64 0,.nils 4,.int .i64 0] []),o 50 (.bld [.int .i64 0,.int .i64 0,.int .i64 0,.bool false] []),p (.aU (some 3) (.t 6) (.t 49)),p (.aU (some 4) (.t 7) (.t 50)),bS 8 93]
def Q2:=[m 51 9,o 52 (.nilC (.t 51)),f 53 3 3 52,l 54 53,ad 55 54 1,m 56 2,m 57 1,o 58 (.bld [.int .i64 0,.int .i64 0,.int .i64 0,.bool false] [(0,(.t 55)),(1,(.t 56)),(2,(.t 57))]),o 11 (.alloc (.agg [.int .i64 0,.int .i64 0,.int .i64 0,.bool false])),p (.aU (some 4) (.t 11) (.t 58))]
def Q3:=[L 60 3 3,m 61 1,m 62 2,f 63 0 0 11,l 64 63,o 65 (.bld [.int .i64 0,.int .i64 0,.int .i64 0,.int .i64 0] [(0,(bf 3)),(1,(.t 61)),(2,(.t 62)),(3,(.t 64))]),o 66 (.call 73 [.t 60,.t 65]),m 59 66,o 67 (.ext (.t 59) 0),o 68 (.ext (.t 59) 1),p (.aU (some 3) (.t 3) (.t 67)),m 10 68]
def Q4:=[m 69 10,o 70 (.bin .neq (.t 69) (bf 0))]
def Q5:=[o 71 (.bld [.int .i64 0,.nils 4,.int .i64 0] []),o 72 (.bld [.int .i64 0,.int .i64 0,.int .i64 0,.bool false] []),m 73 10,p (.aU (some 3) (.t 6) (.t 71)),p (.aU (some 4) (.t 7) (.t 72)),m 8 73]
def vN:=[L 74 3 3,L 75 4 11,p (.aU (some 3) (.t 6) (.t 74)),p (.aU (some 4) (.t 7) (.t 75)),bS 8 0]
def LQ:=some [[],[],[0,0],[1,2,0,1,2],[3,0,1,2,3]] -- DRAW BAD
def za:bq:=(s (r Q0) (s (r Q1) (s (.block 0 (s (r Q6) (.cond (.t 17) (s (r Q7) .ret) (s (r Q8) (.cond (.t 23) (s (r Q9) .ret) (s (r Ra) (.cond (.t 29) (s (r Rb) .ret) (s (r Rc) (.cond (.t 41) (s (r Re) .ret) .skip))))))))) (s (r Q2) (s (r Q3) (s (s (r Q4) (.cond (.t 70) (s (r Q5) .ret) .skip)) (s (.cd LQ vN) .ret)))))))
def DL:List bM:=[.cell 6 (some 3),.cell 7 (some 4),.tmp 8]
theorem Jv:cz Tryz.prog Tryz.f31 za:=e (by kernel_rfl)
theorem KN:cv Tryz.prog Tryz.f31 DL:=e (by kernel_rfl)
theorem Iq:cg Tryz.prog 31:=e (by kernel_rfl)
def Rf:=[b 2 0,b 3 1,o 4 (.alloc (.agg [.int .i64 0,.nils 4,.int .i64 0])),bS 5 0]
def Rg:=[L 10 3 2,o 11 (.call 69 [.t 10]),m 9 11,o 12 (.ext (.t 9) 0),o 13 (.ext (.t 9) 1),m 6 12,m 7 13]
def Rh:=[m 15 7,o 16 (.bin .neq (.t 15) (bf 0)),m 14 16]
def Ri:=[o 17 (.bld [.int .i64 0,.nils 4,.int .i64 0] []),m 18 7,p (.aU (some 3) (.t 4) (.t 17)),m 5 18]
def Rj:=[L 20 5 3,o 21 (.call 70 [.t 20]),no 22 21,m 23 22,fn 24 2 2 3 23,fq 25 24 23,fn 26 0 0 2 23,fq 27 26 23,on 28 (.bin .neq (.t 25) (.t 27)) 23,or 29 23 28,m 19 29]
def Rk:=[o 30 (.bld [.int .i64 0,.nils 4,.int .i64 0] []),p (.aU (some 3) (.t 4) (.t 30)),bS 5 95]
def Rl:=[f 31 0 0 3,l 32 31,o 33 (.call 80 [.t 32]),f 34 3 3 3,l 35 34,f 36 1 1 3,l 37 36,f 38 4 4 3,l 39 38,o 40 (.bld [.int .i64 0,.int .i64 0,.int .i64 0,.int .i64 0] [(0,(.t 33)),(1,(.t 35)),(2,(.t 37)),(3,(.t 39))]),o 8 (.alloc (.agg [.int .i64 0,.int .i64 0,.int .i64 0,.int .i64 0])),p (.aU (some 4) (.t 8) (.t 40))]
def LR:=some [[],[0],[1],[],[3],[],[5],[],[7],[2,4,6,8],[],[10,9,2,0,1,2,3,4,5,6,7,8,9,10]]
def Rm:=[m 41 6,L 42 4 8,o 43 (.call 81 [.t 41,.t 42]),no 44 43]
def Rn:=[L 45 3 2,o 46 (.call 57 [.t 45]),p (.aU (some 3) (.t 4) (.t 46)),bS 5 0]
def Ro:=[L 47 3 2,L 48 4 8,o 49 (.call 73 [.t 47,.t 48]),o 50 (.ext (.t 49) 0),o 51 (.ext (.t 49) 1),p (.aU (some 3) (.t 4) (.t 50)),m 5 51]
def zb:bq:=(s (r Rf) (s (r Rg) (s (.block 0 (s (r Rh) (.cond (.t 14) (s (r Ri) .ret) (s (r Rj) (.cond (.t 19) (s (r Rk) .ret) .skip))))) (s (.cd LR Rl) (s (s (r Rm) (.cond (.t 44) (s (r Rn) .ret) .skip)) (s (r Ro) .ret))))))
def DM:List bM:=[.cell 4 (some 3),.tmp 5]
theorem Jw:cz Tryz.prog Tryz.f35 zb:=e (by kernel_rfl)
theorem KO:cv Tryz.prog Tryz.f35 DM:=e (by kernel_rfl)
theorem Ir:cg Tryz.prog 35:=e (by kernel_rfl)
def Rp:=[o 4 (.mv (.c (.nils 1))),bS 5 0]
def Rq:=[m 12 0,m 13 1,o 14 (.call 83 [.t 12,.t 13]),m 11 14,o 15 (.ext (.t 11) 0),o 16 (.ext (.t 11) 1),m 6 15,m 7 16]
def Rr:=[o 8 (.mv (.c (.nils 1)))]
def Rs:=[m 17 6,o 18 (.len (.t 17)),bS 19 0]
def Rt:=[lt 20 19 18]
def Ru:=[o 21 (.is 1 (.t 17) (.t 19)),l 22 21,m 10 22]
def Rv:=[m 23 10,o 24 (.nilC (.t 23)),f 25 1 1 24,l 26 25,m 27 1,o 28 (.lk (.i .i64) (.bool false) false (.t 26) (.t 27))]
def Rw:=[m 29 8,m 30 10,o 31 (.nilC (.t 30)),f 32 0 0 31,l 33 32,o 34 (.bs 3 1 [.t 33]),o 35 (.c9 3 1 8 (.int .i64 0) (.t 29) (.t 34)),m 8 35]
def Rx:=[ad 36 19 1,m 19 36]
def Ry:=[m 37 8,m 38 7,m 4 37,m 5 38]
def zc:bq:=(s (r Rp) (s (r Rq) (s (r Rr) (s (s (r Rs) (.block 0 (.loop (s (r Rt) (s (.cond (.t 20) .skip (.exit 0)) (s (.block 1 (s (r Ru) (s (r Rv) (.cond (.t 28) (r Rw) .skip)))) (r Rx))))))) (s (r Ry) .ret)))))
def DN:List bM:=[.tmp 4,.tmp 5]
theorem Jx:cz Tryz.prog Tryz.f37 zc:=e (by kernel_rfl)
theorem KP:cv Tryz.prog Tryz.f37 DN:=e (by kernel_rfl)
theorem Is:cg Tryz.prog 37:=e (by kernel_rfl)
def RH:=[o 4 (.mv bE)]
def RI:=[m 6 0,o 7 (.len (.t 6)),m 8 1,o 9 (.len (.t 8)),o 10 (.bin .neq (.t 7) (.t 9))]
def RJ:=[o 4 (.mv bE)]
def RK:=[m 11 0,o 12 (.len (.t 11)),bS 13 0]
def RL:=[lt 14 13 12]
def RM:=[m 15 13,m 5 15]
def RN:=[m 16 0,m 17 5,o 18 (.is 1 (.t 16) (.t 17)),l 19 18,m 20 1,m 21 5,o 22 (.is 1 (.t 20) (.t 21)),l 23 22,o 24 (.bin .neq (.t 19) (.t 23))]
def LS:=some [[],[],[0,1],[2],[],[],[4,5],[6],[3,7]]
def RO:=[o 4 (.mv bE)]
def RP:=[ad 25 13 1,m 13 25]
def RQ:=[o 4 (.mv T)]
def zd:bq:=(s (r RH) (s (s (r RI) (.cond (.t 10) (s (r RJ) .ret) .skip)) (s (s (r RK) (.block 0 (.loop (s (r RL) (s (.cond (.t 14) .skip (.exit 0)) (s (.block 1 (s (r RM) (s (.cd LS RN) (.cond (.t 24) (s (r RO) .ret) .skip)))) (r RP))))))) (s (r RQ) .ret))))
def DO:List bM:=[.tmp 4]
theorem Jy:cz Tryz.prog Tryz.f41 zd:=e (by kernel_rfl)
theorem KQ:cv Tryz.prog Tryz.f41 DO:=e (by kernel_rfl)
theorem It:cg Tryz.prog 41:=e (by kernel_rfl)
def RS:=[b 1 0,o 2 (.mv (.c (.nils 4))),bS 3 0]
def RT:=[L 10 3 1,o 11 (.call 69 [.t 10]),m 9 11,o 12 (.ext (.t 9) 0),o 13 (.ext (.t 9) 1),m 4 12,m 5 13]
def RV:=[m 14 5,o 15 (.bin .neq (.t 14) (bf 0))]
def RW:=[m 16 5,o 2 (.mv (.c (.nils 4))),m 3 16]
def RX:=[o 6 (.mv (.c (.nils 4)))]
def RY:=[m 17 4,o 18 (.call 85 [.t 17]),o 19 (.len (.t 18)),bS 20 0]
def RZ:=[lt 21 20 19]
def R0:=[o 22 (.is 1 (.t 18) (.t 20)),l 23 22,m 8 23]
def R1:=[m 24 6,m 25 4,o 26 (.nilC (.t 25)),f 27 2 2 26,l 28 27,m 29 8,o 30 (.lk (.i .i64) (.nilp) false (.t 28) (.t 29)),o 31 (.nilC (.t 30)),L 32 4 31,o 33 (.bs 48 4 [.t 32]),o 34 (.c9 48 4 32 (.agg [.int .i64 0,.int .i64 0,.int .i64 0,.bool false]) (.t 24) (.t 33)),m 6 34]
def R2:=[ad 35 20 1,m 20 35]
def RU:=[m 36 6,m 2 36,bS 3 0]
def ze:bq:=(s (r RS) (s (r RT) (s (s (r RV) (.cond (.t 15) (s (r RW) .ret) .skip)) (s (r RX) (s (s (r RY) (.block 0 (.loop (s (r RZ) (s (.cond (.t 21) .skip (.exit 0)) (s (.block 1 (s (r R0) (r R1))) (r R2))))))) (s (r RU) .ret))))))
def DP:List bM:=[.tmp 2,.tmp 3]
theorem Jz:cz Tryz.prog Tryz.f46 ze:=e (by kernel_rfl)
theorem KR:cv Tryz.prog Tryz.f46 DP:=e (by kernel_rfl)
theorem Iu:cg Tryz.prog 46:=e (by kernel_rfl)
def R3:=[o 4 (.mv bE)]
def R4:=[m 6 0,o 7 (.len (.t 6)),m 8 1,o 9 (.len (.t 8)),o 10 (.bin .neq (.t 7) (.t 9))]
def R5:=[o 4 (.mv bE)]
def R6:=[m 11 0,o 12 (.len (.t 11)),bS 13 0]
def R7:=[lt 14 13 12]
def R8:=[m 15 13,m 5 15]
def R9:=[m 16 0,m 17 5,o 18 (.is 4 (.t 16) (.t 17)),L 19 4 18,m 20 1,m 21 5,o 22 (.is 4 (.t 20) (.t 21)),L 23 4 22,o 24 (.eqv (.aU [(.i .i64),(.i .i64),(.i .i64),(.i .i64)]) true (.t 19) (.t 23))]
def LU:=some [[],[],[0,1],[2],[],[],[4,5],[6],[3,7]]
def Sa:=[o 4 (.mv bE)]
def Sb:=[ad 25 13 1,m 13 25]
def Sc:=[o 4 (.mv T)]
def zf:bq:=(s (r R3) (s (s (r R4) (.cond (.t 10) (s (r R5) .ret) .skip)) (s (s (r R6) (.block 0 (.loop (s (r R7) (s (.cond (.t 14) .skip (.exit 0)) (s (.block 1 (s (r R8) (s (.cd LU R9) (.cond (.t 24) (s (r Sa) .ret) .skip)))) (r Sb))))))) (s (r Sc) .ret))))
def DQ:List bM:=[.tmp 4]
theorem JA:cz Tryz.prog Tryz.f52 zf:=e (by kernel_rfl)
theorem KS:cv Tryz.prog Tryz.f52 DQ:=e (by kernel_rfl)
theorem Iv:cg Tryz.prog 52:=e (by kernel_rfl)
def Sd:=[b 1 0,o 2 (.mv (.c (.bP ⟨#[]⟩))),bS 3 0]
def Se:=[L 8 3 1,o 9 (.call 23 [.t 8]),m 4 9]
def Si:=[m 10 4,o 11 (.bin .neq (.t 10) (bf 0))]
def Sj:=[m 12 4,o 2 (.mv (.c (.bP ⟨#[]⟩))),m 3 12]
def Sk:=[f 13 0 0 1,l 14 13,f 15 2 2 1,l 16 15,o 17 (.bs 3 1 [.t 14,.t 16]),o 18 (.call 93 [(.c (.bP ⟨#[112,111,117,110,100]⟩)),.t 17]),m 5 18]
def Sl:=[f 19 1 1 1,l 20 19,o 21 (.len (.t 20)),bS 22 0]
def Sm:=[lt 23 22 21]
def Sn:=[o 24 (.is 4 (.t 20) (.t 22)),L 25 4 24,o 7 (.alloc (.agg [.int .i64 0,.int .i64 0,.int .i64 0,.int .i64 0])),p (.aU (some 4) (.t 7) (.t 25))]
def Sp:=[f 26 0 0 7,l 27 26,o 28 (.bin .leq (.t 27) (bf 2))]
def Sq:=[m 29 5,o 30 (.call 94 []),f 31 0 0 7,l 32 31,o 33 (.is 1 (.t 30) (.t 32)),l 34 33,f 35 1 1 7,l 36 35,o 37 (.bs 3 1 [.t 36]),o 38 (.call 93 [.t 34,.t 37]),o 39 (.bin .add (.t 29) (.t 38)),m 5 39]
def LW:=some [[],[],[],[2],[1,3],[4],[],[6],[7],[5,8,1],[0,9],[10,9,0,1,2,3,4,5,6,7,8,9,10]]
def Sf:=[m 40 5,o 41 (.call 94 []),f 42 0 0 7,l 43 42,o 44 (.is 1 (.t 41) (.t 43)),l 45 44,f 46 1 1 7,l 47 46,f 48 2 2 7,l 49 48,f 50 3 3 7,l 51 50,o 52 (.bs 3 1 [.t 47,.t 49,.t 51]),o 53 (.call 93 [.t 45,.t 52]),o 54 (.bin .add (.t 40) (.t 53)),m 5 54]
def LV:=some [[],[],[],[2],[1,3],[4],[],[6],[],[8],[],[10],[7,9,11],[5,12,1],[0,13],[14,13,0,1,2,3,4,5,6,7,8,9,10,11,12,13,14]]
def Sg:=[ad 55 22 1,m 22 55]
def Sh:=[m 56 5,m 2 56,bS 3 0]
def zg:bq:=(s (r Sd) (s (s (r Se) (s (r Si) (.cond (.t 11) (s (r Sj) .ret) .skip))) (s (r Sk) (s (s (r Sl) (.block 0 (.loop (s (r Sm) (s (.cond (.t 23) .skip (.exit 0)) (s (.block 1 (s (r Sn) (s (r Sp) (.cond (.t 28) (.cd LW Sq) (.cd LV Sf))))) (r Sg))))))) (s (r Sh) .ret)))))
def DR:List bM:=[.tmp 2,.tmp 3]
theorem JB:cz Tryz.prog Tryz.f53 zg:=e (by kernel_rfl)
theorem KT:cv Tryz.prog Tryz.f53 DR:=e (by kernel_rfl)
theorem Iw:cg Tryz.prog 53:=e (by kernel_rfl)
def Sr:=[b 1 0,o 2 (.alloc (.agg [.int .i64 0,.nils 4,.int .i64 0]))]
def St:=[f 3 1 1 1,l 4 3,o 5 (.call 59 [.t 4]),f 6 1 1 1,p (.aU none (.t 6) (.t 5))]
def Su:=[L 7 3 1,p (.aU (some 3) (.t 2) (.t 7))]
def uV:bq:=(s (r Sr) (s (r St) (s (r Su) .ret)))
def xa:List bM:=[.cell 2 (some 3)]
theorem Am:cz Tryz.prog Tryz.f57 uV:=e (by kernel_rfl)
theorem Au:cv Tryz.prog Tryz.f57 xa:=e (by kernel_rfl)
theorem zX:cg Tryz.prog 57:=e (by kernel_rfl)
def Sv:=[b 1 0,o 2 (.alloc (.agg [.int .i64 0,.nils 4,.int .i64 0]))]
def Sw:=[o 3 (.bs0 4),f 4 1 1 1,l 5 4,o 6 (.c9 37 4 32 (.agg [.int .i64 0,.int .i64 0,.int .i64 0,.int .i64 0]) (.t 3) (.t 5)),f 7 1 1 1,p (.aU none (.t 7) (.t 6))]
def Sx:=[L 8 3 1,p (.aU (some 3) (.t 2) (.t 8))]
def zh:bq:=(s (r Sv) (s (r Sw) (s (r Sx) .ret)))
def DS:List bM:=[.cell 2 (some 3)]
theorem JC:cz Tryz.prog Tryz.f58 zh:=e (by kernel_rfl)
theorem KU:cv Tryz.prog Tryz.f58 DS:=e (by kernel_rfl)
theorem Iy:cg Tryz.prog 58:=e (by kernel_rfl)
def vO:=[o 2 (.mv (.c (.nils 4)))]
def qo:=[m 3 0,o 4 (.nilS false (.t 3))]
def vP:=[o 2 (.mv (.c (.nils 4)))]
def qp:=[o 5 (.bs0 4),m 6 0,o 7 (.c9 37 4 32 (.agg [.int .i64 0,.int .i64 0,.int .i64 0,.int .i64 0]) (.t 5) (.t 6)),m 2 7]
def uW:bq:=(s (r vO) (s (s (r qo) (.cond (.t 4) (s (r vP) .ret) .skip)) (s (r qp) .ret)))
def xb:List bM:=[.tmp 2]
theorem An:cz Tryz.prog Tryz.f59 uW:=e (by kernel_rfl)
theorem Av:cv Tryz.prog Tryz.f59 xb:=e (by kernel_rfl)
theorem zY:cg Tryz.prog 59:=e (by kernel_rfl)
def Sy:=[bS 4 0]
def Sz:=[m 5 0,m 6 1,o 7 (.bin .rem (.t 5) (.t 6)),m 8 1,o 9 (.bin .add (.t 7) (.t 8)),m 10 1,o 11 (.bin .rem (.t 9) (.t 10)),m 4 11]
def zi:bq:=(s (r Sy) (s (r Sz) .ret))
def DT:List bM:=[.tmp 4]
theorem JD:cz Tryz.prog Tryz.f60 zi:=e (by kernel_rfl)
theorem KV:cv Tryz.prog Tryz.f60 DT:=e (by kernel_rfl)
theorem Iz:cg Tryz.prog 60:=e (by kernel_rfl)
def SA:=[o 2 (.mv bE)]
def SB:=[m 3 0,o 4 (.call 105 [.t 3,(bf 0),(bf 5)]),m 2 4]
def zj:bq:=(s (r SA) (s (r SB) .ret))
def DU:List bM:=[.tmp 2]
theorem JE:cz Tryz.prog Tryz.f61 zj:=e (by kernel_rfl)
theorem KW:cv Tryz.prog Tryz.f61 DU:=e (by kernel_rfl)
theorem IA:cg Tryz.prog 61:=e (by kernel_rfl)
def SC:=[o 4 (.mv (.c (.nilp))),o 5 (.mv bE)]
def SD:=[m 9 0,o 10 (.call 106 [.t 9]),m 6 10]
def SE:=[m 11 1,o 12 (.len (.t 11)),bS 13 0]
def SF:=[lt 14 13 12]
def SG:=[o 15 (.is 4 (.t 11) (.t 13)),L 16 4 15,o 8 (.alloc (.agg [.int .i64 0,.int .i64 0,.int .i64 0,.int .i64 0])),p (.aU (some 4) (.t 8) (.t 16))]
def SH:=[m 17 6,L 18 4 8,o 19 (.call 81 [.t 17,.t 18]),no 20 19]
def SI:=[o 4 (.mv (.c (.nilp))),o 5 (.mv bE)]
def SJ:=[ad 21 13 1,m 13 21]
def SK:=[m 22 6,m 4 22,o 5 (.mv T)]
def uX:bq:=(s (r SC) (s (r SD) (s (s (r SE) (.block 0 (.loop (s (r SF) (s (.cond (.t 14) .skip (.exit 0)) (s (.block 1 (s (r SG) (s (r SH) (.cond (.t 20) (s (r SI) .ret) .skip)))) (r SJ))))))) (s (r SK) .ret))))
def xc:List bM:=[.tmp 4,.tmp 5]
theorem Ao:cz Tryz.prog Tryz.f62 uX:=e (by kernel_rfl)
theorem Aw:cv Tryz.prog Tryz.f62 xc:=e (by kernel_rfl)
theorem zZ:cg Tryz.prog 62:=e (by kernel_rfl)
def SL:=[b 2 0,b 3 1,o 4 (.mv (.c (.dC)))]
def SM:=[o 5 (.mk 107 [.t 2,.t 3]),m 4 5]
def zk:bq:=(s (r SL) (s (r SM) .ret))
def DV:List bM:=[.tmp 4]
theorem JF:cz Tryz.prog Tryz.f63 zk:=e (by kernel_rfl)
theorem KX:cv Tryz.prog Tryz.f63 DV:=e (by kernel_rfl)
theorem IB:cg Tryz.prog 63:=e (by kernel_rfl)
def SN:=[o 2 (.mv bE)]
def SO:=[m 3 0,o 4 (.call 68 [.t 3,(bf 0),(bf 5)]),m 2 4]
def zl:bq:=(s (r SN) (s (r SO) .ret))
def DW:List bM:=[.tmp 2]
theorem JG:cz Tryz.prog Tryz.f64 zl:=e (by kernel_rfl)
theorem KY:cv Tryz.prog Tryz.f64 DW:=e (by kernel_rfl)
theorem IC:cg Tryz.prog 64:=e (by kernel_rfl)
def SP:=[b 2 0,o 4 (.alloc (.agg [.int .i64 0,.nils 1,.int .i64 0,.nils 4,.nils 4])),o 5 (.mv bE)]
def SQ:=[f 10 0 0 2,l 11 10,o 12 (.bld [.int .i64 0,.nils 1,.int .i64 0,.nils 4,.nils 4] [(0,(.t 11))]),o 6 (.alloc (.agg [.int .i64 0,.nils 1,.int .i64 0,.nils 4,.nils 4])),p (.aU (some 5) (.t 6) (.t 12))]
def SU:=[bS 7 0]
def SV:=[m 13 7,m 14 1,lt 15 13 14]
def SW:=[f 18 1 1 2,l 19 18,m 20 7,o 21 (.is 4 (.t 19) (.t 20)),L 22 4 21,o 23 (.call 22 [.t 22]),o 24 (.bin .neq (.t 23) (bf 0))]
def SX:=[L 25 5 6,p (.aU (some 5) (.t 4) (.t 25)),o 5 (.mv bE)]
def SY:=[L 27 5 6,f 28 1 1 2,l 29 28,m 30 7,o 31 (.is 4 (.t 29) (.t 30)),L 32 4 31,o 33 (.call 76 [.t 27,.t 32]),m 26 33,o 34 (.ext (.t 26) 0),o 35 (.ext (.t 26) 1),o 8 (.alloc (.agg [.int .i64 0,.nils 1,.int .i64 0,.nils 4,.nils 4])),p (.aU (some 5) (.t 8) (.t 34)),m 9 35]
def LX:=some [[],[],[1],[],[2,3],[4],[0,5],[6],[7],[7],[],[10,8,6,0,1,2,3,4,5,6,7,8,10],[9,11,0,1,2,3,4,5,6,7,8,9,10,11]]
def SZ:=[m 36 9,no 37 36]
def S0:=[L 38 5 6,p (.aU (some 5) (.t 4) (.t 38)),o 5 (.mv bE)]
def S1:=[L 39 5 8,p (.aU (some 5) (.t 6) (.t 39))]
def SR:=[m 16 7,ad 17 16 1,m 7 17]
def SS:=[L 40 5 6,p (.aU (some 5) (.t 4) (.t 40)),o 5 (.mv T)]
def zm:bq:=(s (r SP) (s (r SQ) (s (s (r SU) (.block 0 (.loop (s (s (r SV) (.cond (.t 15) .skip (.exit 0))) (s (.block 1 (s (s (r SW) (.cond (.t 24) (s (r SX) .ret) .skip)) (s (.cd LX SY) (s (s (r SZ) (.cond (.t 37) (s (r S0) .ret) .skip)) (r S1))))) (r SR)))))) (s (r SS) .ret))))
def DX:List bM:=[.cell 4 (some 5),.tmp 5]
theorem JH:cz Tryz.prog Tryz.f65 zm:=e (by kernel_rfl)
theorem KZ:cv Tryz.prog Tryz.f65 DX:=e (by kernel_rfl)
theorem ID:cg Tryz.prog 65:=e (by kernel_rfl)
def S2:=[b 1 0,o 2 (.mv bE)]
def S3:=[f 3 0 0 1,l 4 3]
def S7:=[o 6 (.bin .eql (.t 4) (bf 1)),m 5 6]
def S8:=[o 7 (.bin .eql (.t 4) (bf 2)),m 5 7]
def S9:=[f 8 1 1 1,l 9 8,o 10 (.call 71 [.t 9]),m 11 10,dZ 12 2 2 1 11,dS 13 12 11,bT 14 (.bin .eql (.t 13) (bf 0)) 11,and 15 11 14,m 16 15,dZ 17 3 3 1 16,dS 18 17 16,bT 19 (.bin .eql (.t 18) (bf 0)) 16,and 20 16 19,m 2 20]
def Ta:=[o 22 (.bin .eql (.t 4) (bf 3)),m 21 22]
def Tb:=[o 23 (.bin .eql (.t 4) (bf 4)),m 21 23]
def Tc:=[o 24 (.bin .eql (.t 4) (bf 5)),m 21 24]
def Td:=[o 25 (.bin .eql (.t 4) (bf 6)),m 21 25]
def Te:=[o 26 (.bin .eql (.t 4) (bf 7)),m 21 26]
def S4:=[o 27 (.bin .eql (.t 4) (bf 8)),m 21 27]
def S5:=[f 28 1 1 1,l 29 28,o 30 (.call 71 [.t 29]),m 31 30,dZ 32 2 2 1 31,dS 33 32 31,bT 34 (.call 61 [.t 33]) 31,and 35 31 34,m 36 35,dZ 37 3 3 1 36,dS 38 37 36,bT 39 (.call 90 [.t 38]) 36,and 40 36 39,m 2 40]
def S6:=[o 2 (.mv bE)]
def zn:bq:=(s (r S2) (s (s (r S3) (.block 0 (s (s (r S7) (.cond (.t 5) .skip (r S8))) (.cond (.t 5) (s (r S9) .ret) (s (s (r Ta) (.cond (.t 21) .skip (s (r Tb) (.cond (.t 21) .skip (s (r Tc) (.cond (.t 21) .skip (s (r Td) (.cond (.t 21) .skip (s (r Te) (.cond (.t 21) .skip (r S4))))))))))) (.cond (.t 21) (s (r S5) .ret) .skip)))))) (s (r S6) .ret)))
def DY:List bM:=[.tmp 2]
theorem JI:cz Tryz.prog Tryz.f66 zn:=e (by kernel_rfl)
theorem K0:cv Tryz.prog Tryz.f66 DY:=e (by kernel_rfl)
theorem IE:cg Tryz.prog 66:=e (by kernel_rfl)
def Tf:=[o 2 (.mv bE)]
def Tg:=[m 3 0,o 4 (.call 68 [.t 3,(bf 1),(bf 9999)]),m 2 4]
def zo:bq:=(s (r Tf) (s (r Tg) .ret))
def DZ:List bM:=[.tmp 2]
theorem JJ:cz Tryz.prog Tryz.f67 zo:=e (by kernel_rfl)
theorem K1:cv Tryz.prog Tryz.f67 DZ:=e (by kernel_rfl)
theorem IF:cg Tryz.prog 67:=e (by kernel_rfl)
def Th:=[o 6 (.mv bE)]
def Ti:=[m 7 1,m 8 0,o 9 (.bin .leq (.t 7) (.t 8)),m 10 9,c6 11 0 10,c6 12 2 10,bT 13 (.bin .leq (.t 11) (.t 12)) 10,and 14 10 13,m 6 14]
def zp:bq:=(s (r Th) (s (r Ti) .ret))
def D0:List bM:=[.tmp 6]
theorem JK:cz Tryz.prog Tryz.f68 zp:=e (by kernel_rfl)
theorem K2:cv Tryz.prog Tryz.f68 D0:=e (by kernel_rfl)
theorem IG:cg Tryz.prog 68:=e (by kernel_rfl)
def Tj:=[b 1 0,o 2 (.mv (.c (.nilp))),bS 3 0]
def Tk:=[f 6 0 0 1,l 7 6,o 8 (.call 61 [.t 7]),no 9 8,m 10 9,fn 11 1 1 1 10,fq 12 11 10,on 13 (.len (.t 12)) 10,on 14 (.bin .gtr (.t 13) (bf 200)) 10,or 15 10 14,m 16 15,fn 17 2 2 1 16,fq 18 17 16,fn 19 1 1 1 16,fq 20 19 16,on 21 (.len (.t 20)) 16,on 22 (.call 105 [.t 18,(bf 0),.t 21]) 16,on 23 (.un .not (.t 22)) 16,or 24 16 23]
def Tl:=[o 2 (.mv (.c (.nilp))),bS 3 91]
def Tm:=[f 26 0 0 1,l 27 26,f 28 1 1 1,l 29 28,o 30 (.call 62 [.t 27,.t 29]),m 25 30,o 31 (.ext (.t 25) 0),o 32 (.ext (.t 25) 1),m 4 31,m 5 32]
def Tn:=[m 33 5,no 34 33]
def Tp:=[o 2 (.mv (.c (.nilp))),bS 3 91]
def Tq:=[m 35 4,m 2 35,bS 3 0]
def uY:bq:=(s (r Tj) (s (s (r Tk) (.cond (.t 24) (s (r Tl) .ret) .skip)) (s (r Tm) (s (s (r Tn) (.cond (.t 34) (s (r Tp) .ret) .skip)) (s (r Tq) .ret)))))
def xd:List bM:=[.tmp 2,.tmp 3]
theorem Ap:cz Tryz.prog Tryz.f69 uY:=e (by kernel_rfl)
theorem Ax:cv Tryz.prog Tryz.f69 xd:=e (by kernel_rfl)
theorem z7:cg Tryz.prog 69:=e (by kernel_rfl)
def Tr:=[b 1 0,o 2 (.mv bE)]
def Ts:=[f 3 0 0 1,l 4 3,o 5 (.call 105 [.t 4,(bf 1),(bf 4)]),m 6 5,dZ 7 1 1 1 6,dS 8 7 6,bT 9 (.call 61 [.t 8]) 6,and 10 6 9,m 11 10,dZ 12 2 2 1 11,dS 13 12 11,bT 14 (.call 61 [.t 13]) 11,and 15 11 14,m 16 15,dZ 17 1 1 1 16,dS 18 17 16,dZ 19 2 2 1 16,dS 20 19 16,bT 21 (.bin .neq (.t 18) (.t 20)) 16,and 22 16 21,m 23 22,dZ 24 3 3 1 23,dS 25 24 23,bT 26 (.call 71 [.t 25]) 23,and 27 23 26,m 28 27,dZ 29 4 4 1 28,dS 30 29 28,bT 31 (.call 90 [.t 30]) 28,and 32 28 31,m 2 32]
def zq:bq:=(s (r Tr) (s (r Ts) .ret))
def D5:List bM:=[.tmp 2]
theorem JL:cz Tryz.prog Tryz.f70 zq:=e (by kernel_rfl)
theorem K3:cv Tryz.prog Tryz.f70 D5:=e (by kernel_rfl)
theorem IH:cg Tryz.prog 70:=e (by kernel_rfl)
def Tt:=[o 2 (.mv bE)]
def Tu:=[m 3 0,o 4 (.call 105 [.t 3,(bf 1),(bf 9999)]),m 2 4]
def zr:bq:=(s (r Tt) (s (r Tu) .ret))
def D6:List bM:=[.tmp 2]
theorem JM:cz Tryz.prog Tryz.f71 zr:=e (by kernel_rfl)
theorem K4:cv Tryz.prog Tryz.f71 D6:=e (by kernel_rfl)
theorem II:cg Tryz.prog 71:=e (by kernel_rfl)
def Bh:=[o 4 (.mv bE)]
def Bi:=[m 7 0,o 8 (.nilC (.t 7)),f 9 2 2 8,l 10 9,o 11 (.jD (.t 10))]
def vQ:=[o 12 (.ib (.t 11)),o 13 (.ext (.t 12) 0)]
def Tv:=[o 14 (.ent (.t 11)),o 15 (.ext (.t 14) 1),m 6 15]
def Tw:=[m 16 6,o 17 (.nilC (.t 16)),f 18 2 2 17,l 19 18,m 20 1,o 21 (.bin .eql (.t 19) (.t 20))]
def Tx:=[o 4 (.mv T)]
def Ty:=[o 4 (.mv bE)]
def zt:bq:=(s (r Bh) (s (s (r Bi) (.block 0 (.loop (s (r vQ) (s (.cond (.t 13) .skip (.exit 0)) (.block 1 (s (r Tv) (s (r Tw) (.cond (.t 21) (s (r Tx) .ret) .skip))))))))) (s (r Ty) .ret)))
def D7:List bM:=[.tmp 4]
theorem JN:cz Tryz.prog Tryz.f72 zt:=e (by kernel_rfl)
theorem K5:cv Tryz.prog Tryz.f72 D7:=e (by kernel_rfl)
theorem IJ:cg Tryz.prog 72:=e (by kernel_rfl)
def Tz:=[b 2 0,b 3 1,o 4 (.alloc (.agg [.int .i64 0,.nils 4,.int .i64 0])),bS 5 0]
def TA:=[f 6 1 1 2,l 7 6,o 8 (.len (.t 7)),o 9 (.bin .eql (.t 8) (bf 200))]
def TB:=[o 10 (.bld [.int .i64 0,.nils 4,.int .i64 0] []),p (.aU (some 3) (.t 4) (.t 10)),bS 5 2]
def TC:=[L 11 3 2,o 12 (.call 57 [.t 11]),p (.aU (some 3) (.t 2) (.t 12))]
def TD:=[f 13 1 1 2,l 14 13,L 15 4 3,o 16 (.bs 37 4 [.t 15]),o 17 (.c9 37 4 32 (.agg [.int .i64 0,.int .i64 0,.int .i64 0,.int .i64 0]) (.t 14) (.t 16)),f 18 1 1 2,p (.aU none (.t 18) (.t 17))]
def TE:=[L 19 3 2,p (.aU (some 3) (.t 4) (.t 19)),bS 5 0]
def zu:bq:=(s (r Tz) (s (s (r TA) (.cond (.t 9) (s (r TB) .ret) .skip)) (s (r TC) (s (r TD) (s (r TE) .ret)))))
def D8:List bM:=[.cell 4 (some 3),.tmp 5]
theorem JO:cz Tryz.prog Tryz.f73 zu:=e (by kernel_rfl)
theorem K6:cv Tryz.prog Tryz.f73 D8:=e (by kernel_rfl)
theorem IK:cg Tryz.prog 73:=e (by kernel_rfl)
def TF:=[b 2 0,bS 4 0]
def TG:=[L 6 3 2,o 7 (.call 24 [.t 6]),m 5 7]
def TH:=[m 8 5,o 9 (.bin .neq (.t 8) (bf 0))]
def TI:=[m 10 5,m 4 10]
def TJ:=[m 11 1,o 12 (.call 67 [.t 11]),no 13 12]
def TK:=[bS 4 1]
def TL:=[bS 4 0]
def zw:bq:=(s (r TF) (s (s (r TG) (s (r TH) (.cond (.t 9) (s (r TI) .ret) .skip))) (s (s (r TJ) (.cond (.t 13) (s (r TK) .ret) .skip)) (s (r TL) .ret))))
def D9:List bM:=[.tmp 4]
theorem JP:cz Tryz.prog Tryz.f74 zw:=e (by kernel_rfl)
theorem K7:cv Tryz.prog Tryz.f74 D9:=e (by kernel_rfl)
theorem IL:cg Tryz.prog 74:=e (by kernel_rfl)
def TM:=[b 1 0,o 2 (.alloc (.agg [.int .i64 0,.nils 1,.int .i64 0,.nils 4,.nils 4]))]
def TN:=[L 6 3 1,f 7 1 1 1,l 8 7,o 9 (.len (.t 8)),o 10 (.call 65 [.t 6,.t 9]),m 5 10,o 11 (.ext (.t 5) 0),o 12 (.ext (.t 5) 1),o 3 (.alloc (.agg [.int .i64 0,.nils 1,.int .i64 0,.nils 4,.nils 4])),p (.aU (some 5) (.t 3) (.t 11)),m 4 12]
def TO:=[L 13 5 3,p (.aU (some 5) (.t 2) (.t 13))]
def zx:bq:=(s (r TM) (s (r TN) (s (r TO) .ret)))
def Ea:List bM:=[.cell 2 (some 5)]
theorem JQ:cz Tryz.prog Tryz.f75 zx:=e (by kernel_rfl)
theorem K8:cv Tryz.prog Tryz.f75 Ea:=e (by kernel_rfl)
theorem IM:cg Tryz.prog 75:=e (by kernel_rfl)
def Bj:=[b 2 0,b 3 1,o 4 (.alloc (.agg [.int .i64 0,.nils 1,.int .i64 0,.nils 4,.nils 4])),o 5 (.mv bE)]
def Bk:=[f 9 1 1 2,l 10 9,f 11 1 1 3,l 12 11,o 13 (.call 78 [.t 10,.t 12]),m 6 13]
def Bl:=[L 14 5 2,f 15 3 3 3,l 16 15,o 17 (.call 79 [.t 14,.t 16]),m 7 17]
def Bm:=[m 18 7,o 19 (.bin .geq (.t 18) (bf 0)),m 20 19,dZ 21 3 3 2 20,dS 22 21 20,c6 23 7 20,bT 24 (.max2 (.t 23) (bf 0)) 20,bT 25 (.is 4 (.t 22) (.t 24)) 20,dZ 26 1 1 25 20,dS 27 26 20,dZ 28 2 2 3 20,dS 29 28 20,bT 30 (.bin .eql (.t 27) (.t 29)) 20,and 31 20 30,m 32 31,dZ 33 3 3 2 32,dS 34 33 32,c6 35 7 32,bT 36 (.max2 (.t 35) (bf 0)) 32,bT 37 (.is 4 (.t 34) (.t 36)) 32,dZ 38 2 2 37 32,dS 39 38 32,dZ 40 1 1 3 32,dS 41 40 32,bT 42 (.bin .eql (.t 39) (.t 41)) 32,and 43 32 42,m 8 43]
def Az:=some [[],[0],[1],[2],[3,2],[2],[5,2],[4,6,2],[7,2],[8,2],[2],[10,2],[9,11,2],[2,12],[13,2],[14],[15,14],[14],[17,14],[16,18,14],[19,14],[20,14],[14],[22,14],[21,23,14],[14,24],[25,14,0,1,2,3,4,5,6,7,8,9,10,11,12,13,14,15,16,17,18,19,20,21,22,23,24,25]]
def Ui:=[f 44 0 0 3,l 45 44]
def Um:=[o 47 (.bin .eql (.t 45) (bf 1)),m 46 47]
def Un:=[m 48 6,m 49 48,on 50 (.ld (some 5) (.t 2)) 49,fn 51 1 1 3 49,fq 52 51 49,on 53 (.call 108 [.t 50,.t 52]) 49,or 54 49 53]
def Uo:=[L 55 5 2,p (.aU (some 5) (.t 4) (.t 55)),o 5 (.mv bE)]
def Up:=[f 56 1 1 2,l 57 56,f 58 1 1 3,l 59 58,o 60 (.call 109 [.t 57,.t 59]),f 61 1 1 2,p (.aU none (.t 61) (.t 60))]
def Uq:=[L 62 5 2,p (.aU (some 5) (.t 4) (.t 62)),o 5 (.mv T)]
def TP:=[o 64 (.bin .eql (.t 45) (bf 2)),m 63 64]
def TQ:=[f 65 1 1 2,l 66 65,f 67 1 1 3,l 68 67,o 69 (.call 110 [.t 66,.t 68]),f 70 1 1 2,p (.aU none (.t 70) (.t 69))]
def TR:=[L 71 5 2,m 72 6,p (.aU (some 5) (.t 4) (.t 71)),m 5 72]
def TS:=[o 74 (.bin .eql (.t 45) (bf 3)),m 73 74]
def TT:=[m 75 6,no 76 75,m 77 76,fn 78 2 2 3 77,fq 79 78 77,fn 80 0 0 2 77,fq 81 80 77,on 82 (.bin .eql (.t 79) (.t 81)) 77,or 83 77 82,m 84 83,fn 85 3 3 3 84,fq 86 85 84,fn 87 2 2 2 84,fq 88 87 84,on 89 (.bin .add (.t 88) (bf 1)) 84,on 90 (.bin .neq (.t 86) (.t 89)) 84,or 91 84 90]
def TU:=[L 92 5 2,p (.aU (some 5) (.t 4) (.t 92)),o 5 (.mv bE)]
def TV:=[f 93 1 1 2,l 94 93,f 95 1 1 3,l 96 95,o 97 (.call 110 [.t 94,.t 96]),f 98 1 1 2,p (.aU none (.t 98) (.t 97))]
def TW:=[f 99 3 3 3,l 100 99,f 101 2 2 2,p (.aU none (.t 101) (.t 100))]
def vR:=[o 102 (.bs0 4),f 103 3 3 2,l 104 103,o 105 (.c9 48 4 32 (.agg [.int .i64 0,.int .i64 0,.int .i64 0,.bool false]) (.t 102) (.t 104)),f 106 3 3 3,l 107 106,f 108 2 2 3,l 109 108,f 110 1 1 3,l 111 110,o 112 (.bld [.int .i64 0,.int .i64 0,.int .i64 0,.bool false] [(0,(.t 107)),(1,(.t 109)),(2,(.t 111))]),o 113 (.bs 48 4 [.t 112]),o 114 (.c9 48 4 32 (.agg [.int .i64 0,.int .i64 0,.int .i64 0,.bool false]) (.t 105) (.t 113)),f 115 3 3 2,p (.aU none (.t 115) (.t 114))]
def LY:=some [[],[],[1],[0,2],[],[4],[],[6],[],[8],[5,7,9],[10],[3,11,3],[0,1,2,3,4,5,6,7,8,9,10,11,12],[13,12,12,0,1,2,3,4,5,6,7,8,9,10,11,12]] -- DRAW BAD
def TX:=[L 116 5 2,p (.aU (some 5) (.t 4) (.t 116)),o 5 (.mv T)]
def TY:=[o 118 (.bin .eql (.t 45) (bf 4)),m 117 118]
def TZ:=[m 119 8,no 120 119,m 121 120,fn 122 3 3 2 121,fq 123 122 121,kY 124 7 121,on 125 (.is 4 (.t 123) (.t 124)) 121,fn 126 3 3 125 121,fq 127 126 121,or 128 121 127]
def T0:=[L 129 5 2,p (.aU (some 5) (.t 4) (.t 129)),o 5 (.mv bE)]
def T1:=[o 130 (.bs0 4),f 131 3 3 2,l 132 131,o 133 (.c9 48 4 32 (.agg [.int .i64 0,.int .i64 0,.int .i64 0,.bool false]) (.t 130) (.t 132)),f 134 3 3 2,p (.aU none (.t 134) (.t 133))]
def T2:=[f 135 3 3 2,l 136 135,m 137 7,o 138 (.is 4 (.t 136) (.t 137)),f 139 3 3 138,p (.aU none (.t 139) T)]
def T3:=[L 140 5 2,p (.aU (some 5) (.t 4) (.t 140)),o 5 (.mv T)]
def T4:=[o 142 (.bin .eql (.t 45) (bf 5)),m 141 142]
def T5:=[m 143 8,no 144 143]
def T6:=[L 145 5 2,p (.aU (some 5) (.t 4) (.t 145)),o 5 (.mv bE)]
def T7:=[L 146 5 2,m 147 7,o 148 (.call 111 [.t 146,.t 147]),p (.aU (some 5) (.t 4) (.t 148)),o 5 (.mv T)]
def T8:=[o 150 (.bin .eql (.t 45) (bf 6)),m 149 150]
def T9:=[m 151 8,no 152 151,m 153 152,fn 154 3 3 2 153,fq 155 154 153,kY 156 7 153,on 157 (.is 4 (.t 155) (.t 156)) 153,fn 158 3 3 157 153,fq 159 158 153,on 160 (.un .not (.t 159)) 153,or 161 153 160]
def Ua:=[L 162 5 2,p (.aU (some 5) (.t 4) (.t 162)),o 5 (.mv bE)]
def Ub:=[L 163 5 2,m 164 7,o 165 (.call 111 [.t 163,.t 164]),p (.aU (some 5) (.t 2) (.t 165))]
def Uc:=[f 166 1 1 2,l 167 166,f 168 1 1 3,l 169 168,o 170 (.call 109 [.t 167,.t 169]),f 171 1 1 2,p (.aU none (.t 171) (.t 170))]
def Ud:=[L 172 5 2,p (.aU (some 5) (.t 4) (.t 172)),o 5 (.mv T)]
def Ue:=[f 173 2 2 3,l 174 173,f 175 0 0 2,l 176 175,o 177 (.bin .eql (.t 174) (.t 176)),m 178 177,on 179 (.ld (some 5) (.t 2)) 178,fn 180 2 2 3 178,fq 181 180 178,fn 182 3 3 3 178,fq 183 182 178,on 184 (.call 88 [.t 179,.t 181,.t 183]) 178,on 185 (.bin .neq (.t 184) (bf 0)) 178,or 186 178 185]
def Uf:=[L 187 5 2,p (.aU (some 5) (.t 4) (.t 187)),o 5 (.mv bE)]
def Ug:=[f 188 0 0 3,l 189 188,o 190 (.bin .eql (.t 189) (bf 7))]
def Uh:=[m 191 6,m 192 191,on 193 (.ld (some 5) (.t 2)) 192,fn 194 1 1 3 192,fq 195 194 192,on 196 (.call 108 [.t 193,.t 195]) 192,or 197 192 196]
def Uj:=[L 198 5 2,p (.aU (some 5) (.t 4) (.t 198)),o 5 (.mv bE)]
def Uk:=[f 199 1 1 2,l 200 199,f 201 1 1 3,l 202 201,o 203 (.call 109 [.t 200,.t 202]),f 204 1 1 2,p (.aU none (.t 204) (.t 203))]
def Ul:=[L 205 5 2,L 206 4 3,o 207 (.call 112 [.t 205,.t 206]),p (.aU (some 5) (.t 4) (.t 207)),o 5 (.mv T)]
def lF:bq:=(s (r Bj) (s (r Bk) (s (r Bl) (s (.cd Az Bm) (s (s (r Ui) (.block 0 (s (r Um) (.cond (.t 46) (s (s (r Un) (.cond (.t 54) (s (r Uo) .ret) .skip)) (s (r Up) (s (r Uq) .ret))) (s (r TP) (.cond (.t 63) (s (r TQ) (s (r TR) .ret)) (s (r TS) (.cond (.t 73) (s (s (r TT) (.cond (.t 91) (s (r TU) .ret) .skip)) (s (r TV) (s (r TW) (s (.cd LY vR) (s (r TX) .ret))))) (s (r TY) (.cond (.t 117) (s (s (r TZ) (.cond (.t 128) (s (r T0) .ret) .skip)) (s (r T1) (s (r T2) (s (r T3) .ret)))) (s (r T4) (.cond (.t 141) (s (s (r T5) (.cond (.t 144) (s (r T6) .ret) .skip)) (s (r T7) .ret)) (s (r T8) (.cond (.t 149) (s (s (r T9) (.cond (.t 161) (s (r Ua) .ret) .skip)) (s (r Ub) (s (r Uc) (s (r Ud) .ret)))) .skip)))))))))))))) (s (s (r Ue) (.cond (.t 186) (s (r Uf) .ret) .skip)) (s (s (r Ug) (.cond (.t 190) (s (s (r Uh) (.cond (.t 197) (s (r Uj) .ret) .skip)) (r Uk)) .skip)) (s (r Ul) .ret))))))))
def l7:List bM:=[.cell 4 (some 5),.tmp 5]
theorem mD:cz Tryz.prog Tryz.f76 lF:=e (by kernel_rfl)
theorem mE:cv Tryz.prog Tryz.f76 l7:=e (by kernel_rfl)
theorem mC:cg Tryz.prog 76:=e (by kernel_rfl)
def Ur:=[b 2 0,b 3 1,o 4 (.alloc (.agg [.int .i64 0,.nils 4,.int .i64 0])),bS 5 0]
def Us:=[f 6 1 1 2,l 7 6,o 8 (.len (.t 7)),o 9 (.bin .eql (.t 8) (bf 200))]
def Ut:=[o 10 (.bld [.int .i64 0,.nils 4,.int .i64 0] []),p (.aU (some 3) (.t 4) (.t 10)),bS 5 2]
def vS:=[o 11 (.bs0 4),f 12 1 1 2,l 13 12,o 14 (.c9 37 4 32 (.agg [.int .i64 0,.int .i64 0,.int .i64 0,.int .i64 0]) (.t 11) (.t 13)),L 15 4 3,o 16 (.bs 37 4 [.t 15]),o 17 (.c9 37 4 32 (.agg [.int .i64 0,.int .i64 0,.int .i64 0,.int .i64 0]) (.t 14) (.t 16)),f 18 1 1 2,p (.aU none (.t 18) (.t 17))]
def LZ:=some [[],[],[1],[0,2],[],[4],[3,5,3],[0,1,2,3,4,5,6],[7,6,6,0,1,2,3,4,5,6]] -- DRAW BAD
def Uu:=[L 19 3 2,p (.aU (some 3) (.t 4) (.t 19)),bS 5 0]
def zy:bq:=(s (r Ur) (s (s (r Us) (.cond (.t 9) (s (r Ut) .ret) .skip)) (s (.cd LZ vS) (s (r Uu) .ret))))
def Eb:List bM:=[.cell 4 (some 3),.tmp 5]
theorem JR:cz Tryz.prog Tryz.f77 zy:=e (by kernel_rfl)
theorem K9:cv Tryz.prog Tryz.f77 Eb:=e (by kernel_rfl)
theorem IN:cg Tryz.prog 77:=e (by kernel_rfl)
def Uv:=[o 4 (.mv bE)]
def Uw:=[m 7 0,o 8 (.len (.t 7)),bS 9 0]
def Ux:=[lt 10 9 8]
def Uy:=[o 11 (.is 1 (.t 7) (.t 9)),l 12 11,m 6 12]
def Uz:=[m 13 6,m 14 1,o 15 (.bin .eql (.t 13) (.t 14))]
def UA:=[o 4 (.mv T)]
def UB:=[ad 16 9 1,m 9 16]
def UC:=[o 4 (.mv bE)]
def zA:bq:=(s (r Uv) (s (s (r Uw) (.block 0 (.loop (s (r Ux) (s (.cond (.t 10) .skip (.exit 0)) (s (.block 1 (s (r Uy) (s (r Uz) (.cond (.t 15) (s (r UA) .ret) .skip)))) (r UB))))))) (s (r UC) .ret)))
def Ec:List bM:=[.tmp 4]
theorem JS:cz Tryz.prog Tryz.f78 zA:=e (by kernel_rfl)
theorem La:cv Tryz.prog Tryz.f78 Ec:=e (by kernel_rfl)
theorem IP:cg Tryz.prog 78:=e (by kernel_rfl)
def UD:=[b 2 0,bS 4 0]
def UE:=[f 7 3 3 2,l 8 7,o 9 (.len (.t 8)),bS 10 0]
def UF:=[lt 11 10 9]
def UG:=[m 12 10,o 13 (.is 4 (.t 8) (.t 10)),L 14 4 13,o 6 (.alloc (.agg [.int .i64 0,.int .i64 0,.int .i64 0,.bool false])),m 5 12,p (.aU (some 4) (.t 6) (.t 14))]
def UH:=[f 15 0 0 6,l 16 15,m 17 1,o 18 (.bin .eql (.t 16) (.t 17))]
def UI:=[m 19 5,m 4 19]
def UJ:=[ad 20 10 1,m 10 20]
def UK:=[bS 4 (-1)]
def zB:bq:=(s (r UD) (s (s (r UE) (.block 0 (.loop (s (r UF) (s (.cond (.t 11) .skip (.exit 0)) (s (.block 1 (s (r UG) (s (r UH) (.cond (.t 18) (s (r UI) .ret) .skip)))) (r UJ))))))) (s (r UK) .ret)))
def Ed:List bM:=[.tmp 4]
theorem JT:cz Tryz.prog Tryz.f79 zB:=e (by kernel_rfl)
theorem Lb:cv Tryz.prog Tryz.f79 Ed:=e (by kernel_rfl)
theorem IQ:cg Tryz.prog 79:=e (by kernel_rfl)
def UL:=[bS 2 0]
def UM:=[o 3 (.iH),p (.eT (.i .i64) (.t 3) (bf 1) (bf 7)),p (.eT (.i .i64) (.t 3) (bf 2) (bf 5)),p (.eT (.i .i64) (.t 3) (bf 3) (bf 8)),p (.eT (.i .i64) (.t 3) (bf 4) (bf 6)),m 4 3,m 5 0,o 6 (.lk (.i .i64) (.int .i64 0) false (.t 4) (.t 5)),m 2 6]
def zC:bq:=(s (r UL) (s (r UM) .ret))
def Ee:List bM:=[.tmp 2]
theorem JU:cz Tryz.prog Tryz.f80 zC:=e (by kernel_rfl)
theorem Lc:cv Tryz.prog Tryz.f80 Ee:=e (by kernel_rfl)
theorem IS:cg Tryz.prog 80:=e (by kernel_rfl)
def Bn:=[b 3 1,o 4 (.alloc (.bool false))]
def Bo:=[L 6 4 3,o 7 (.call 66 [.t 6]),o 8 (.call 114 [.t 7])]
def qt:=[m 9 0,o 10 (.nilC (.t 9)),f 11 5 5 10,l 12 11,f 13 0 0 3,l 14 13,o 15 (.lk (.i .i64) (.dC) false (.t 12) (.t 14)),L 16 4 3,o 17 (.fL (.t 15) [.t 16])]
def L0:=some [[],[0],[1],[2],[],[4],[3,5],[],[6,7]]
def UN:=[p (.aU none (.t 4) T)]
def YC:List bM:=[.cell 4 none]
theorem Ld:cv Tryz.prog Tryz.f81 YC:=e (by kernel_rfl)
theorem IT:cg Tryz.prog 81:=e (by kernel_rfl)
def UO:=[o 4 (.mv (.c (.nils 1))),bS 5 0]
def UP:=[o 6 (.mv (.c (.nils 1)))]
def UT:=[m 11 0,o 12 (.len (.t 11)),bS 13 0]
def UU:=[lt 14 13 12]
def UW:=[m 15 13,o 16 (.is 3 (.t 11) (.t 13)),L 17 3 16,o 8 (.alloc (.agg [.int .i64 0,.nils 4,.int .i64 0])),m 7 15,p (.aU (some 3) (.t 8) (.t 17))]
def UX:=[L 19 3 8,o 20 (.call 69 [.t 19]),m 18 20,o 21 (.ext (.t 18) 0),o 22 (.ext (.t 18) 1),m 9 21,m 10 22]
def UY:=[m 23 10,o 24 (.bin .neq (.t 23) (bf 0)),m 25 24,kY 26 7 25,on 27 (.bin .gtr (.t 26) (bf 0)) 25,kY 28 27 25,c6 29 0 28,c6 30 7 28,bT 31 (.bin .sub (.t 30) (bf 1)) 28,bT 32 (.is 3 (.t 29) (.t 31)) 28,dZ 33 0 0 32 28,dS 34 33 28,dZ 35 0 0 8 28,dS 36 35 28,bT 37 (.bin .geq (.t 34) (.t 36)) 28,on 38 (.pick (.t 28) (.t 37) bE) 25,or 39 25 38]
def L1:=some [[],[0],[1],[2],[3,2],[4,2,2],[5],[5],[7,5],[6,8,5],[9,5],[10,5],[5],[12,5],[11,13,5],[5,14,2],[2,15]]
def UZ:=[o 4 (.mv (.c (.nils 1))),bS 5 96]
def U0:=[m 40 6,m 41 9,o 42 (.bs 80 1 [.t 41]),o 43 (.c9 80 1 8 (.nilp) (.t 40) (.t 42)),m 6 43]
def U1:=[ad 44 13 1,m 13 44]
def UQ:=[m 45 1,o 46 (.call 71 [.t 45]),no 47 46]
def UR:=[o 4 (.mv (.c (.nils 1))),bS 5 1]
def US:=[m 48 6,m 4 48,bS 5 0]
def zD:bq:=(s (r UO) (s (r UP) (s (s (r UT) (.block 0 (.loop (s (r UU) (s (.cond (.t 14) .skip (.exit 0)) (s (.block 1 (s (r UW) (s (r UX) (s (s (.cd L1 UY) (.cond (.t 39) (s (r UZ) .ret) .skip)) (r U0))))) (r U1))))))) (s (s (r UQ) (.cond (.t 47) (s (r UR) .ret) .skip)) (s (r US) .ret)))))
def Ef:List bM:=[.tmp 4,.tmp 5]
theorem JV:cz Tryz.prog Tryz.f83 zD:=e (by kernel_rfl)
theorem Le:cv Tryz.prog Tryz.f83 Ef:=e (by kernel_rfl)
theorem IU:cg Tryz.prog 83:=e (by kernel_rfl)
def Bp:=[o 2 (.mv (.c (.nils 1)))]
def Bq:=[o 3 (.mv (.c (.nils 1)))]
def Br:=[m 5 0,o 6 (.nilC (.t 5)),f 7 2 2 6,l 8 7,o 9 (.jD (.t 8))]
def vT:=[o 10 (.ib (.t 9)),o 11 (.ext (.t 10) 0)]
def U2:=[o 12 (.ent (.t 9)),o 13 (.ext (.t 12) 0),m 4 13]
def U3:=[m 14 3,m 15 4,o 16 (.bs 3 1 [.t 15]),o 17 (.c9 3 1 8 (.int .i64 0) (.t 14) (.t 16)),m 3 17]
def U4:=[m 18 3,o 19 (.call 89 [.t 18])]
def U5:=[m 20 3,m 2 20]
def zE:bq:=(s (r Bp) (s (r Bq) (s (s (r Br) (.block 0 (.loop (s (r vT) (s (.cond (.t 11) .skip (.exit 0)) (.block 1 (s (r U2) (r U3)))))))) (s (r U4) (s (r U5) .ret)))))
def Eg:List bM:=[.tmp 2]
theorem JW:cz Tryz.prog Tryz.f85 zE:=e (by kernel_rfl)
theorem Lf:cv Tryz.prog Tryz.f85 Eg:=e (by kernel_rfl)
theorem IV:cg Tryz.prog 85:=e (by kernel_rfl)
def U6:=[b 3 0,bS 6 0]
def U7:=[f 9 4 4 3,l 10 9,o 11 (.len (.t 10)),bS 12 0]
def U8:=[lt 13 12 11]
def U9:=[o 14 (.is 4 (.t 10) (.t 12)),L 15 4 14,o 8 (.alloc (.agg [.int .i64 0,.int .i64 0,.int .i64 0,.int .i64 0])),p (.aU (some 4) (.t 8) (.t 15))]
def Va:=[f 16 1 1 8,l 17 16,m 18 1,o 19 (.bin .eql (.t 17) (.t 18)),m 20 19,dZ 21 2 2 8 20,dS 22 21 20,c6 23 2 20,bT 24 (.bin .eql (.t 22) (.t 23)) 20,and 25 20 24]
def Vb:=[f 26 0 0 8,l 27 26,m 6 27]
def Vc:=[ad 28 12 1,m 12 28]
def Vd:=[bS 6 0]
def zF:bq:=(s (r U6) (s (s (r U7) (.block 0 (.loop (s (r U8) (s (.cond (.t 13) .skip (.exit 0)) (s (.block 1 (s (r U9) (s (r Va) (.cond (.t 25) (s (r Vb) .ret) .skip)))) (r Vc))))))) (s (r Vd) .ret)))
def Ei:List bM:=[.tmp 6]
theorem JX:cz Tryz.prog Tryz.f88 zF:=e (by kernel_rfl)
theorem Lg:cv Tryz.prog Tryz.f88 Ei:=e (by kernel_rfl)
theorem IW:cg Tryz.prog 88:=e (by kernel_rfl)
theorem z8:cg Tryz.prog 89:=e (by kernel_rfl)
def Ve:=[o 2 (.mv bE)]
def Vf:=[m 3 0,o 4 (.call 105 [.t 3,(bf 1),(bf 200)]),m 2 4]
def zG:bq:=(s (r Ve) (s (r Vf) .ret))
def Ej:List bM:=[.tmp 2]
theorem JY:cz Tryz.prog Tryz.f90 zG:=e (by kernel_rfl)
theorem Lh:cv Tryz.prog Tryz.f90 Ej:=e (by kernel_rfl)
theorem IX:cg Tryz.prog 90:=e (by kernel_rfl)
def Bt:=[o 4 (.mv (.c (.bP ⟨#[]⟩)))]
def Bu:=[m 7 1,o 8 (.len (.t 7)),bS 9 0]
def Bv:=[lt 10 9 8]
def Bw:=[o 11 (.is 1 (.t 7) (.t 9)),l 12 11,m 6 12]
def Bx:=[m 13 0,m 14 6,o 15 (.call 119 [.t 14]),o 16 (.bin .add (.c (.bP ⟨#[32]⟩)) (.t 15)),o 17 (.bin .add (.t 13) (.t 16)),m 0 17]
def By:=[ad 18 9 1,m 9 18]
def Bz:=[m 19 0,o 20 (.bin .add (.t 19) (.c (.bP ⟨#[10]⟩))),m 4 20]
def zH:bq:=(s (r Bt) (s (s (r Bu) (.block 0 (.loop (s (r Bv) (s (.cond (.t 10) .skip (.exit 0)) (s (.block 1 (s (r Bw) (r Bx))) (r By))))))) (s (r Bz) .ret)))
def Ek:List bM:=[.tmp 4]
theorem JZ:cz Tryz.prog Tryz.f93 zH:=e (by kernel_rfl)
theorem Li:cv Tryz.prog Tryz.f93 Ek:=e (by kernel_rfl)
theorem IY:cg Tryz.prog 93:=e (by kernel_rfl)
def Vg:=[o 0 (.mv (.c (.nils 1)))]
def Vh:=[o 1 (.bs 9 1 [(.c (.bP ⟨#[]⟩)),(.c (.bP ⟨#[112,111,117,110,100]⟩)),(.c (.bP ⟨#[114,101,108,101,97,115,101]⟩)),(.c (.bP ⟨#[115,101,110,100]⟩)),(.c (.bP ⟨#[99,97,108,108]⟩)),(.c (.bP ⟨#[100,111,110,101]⟩)),(.c (.bP ⟨#[98,97,99,107]⟩)),(.c (.bP ⟨#[116,97,107,101]⟩)),(.c (.bP ⟨#[114,101,102,117,115,101]⟩))]),m 0 1]
def zI:bq:=(s (r Vg) (s (r Vh) .ret))
def El:List bM:=[.tmp 0]
theorem J0:cz Tryz.prog Tryz.f94 zI:=e (by kernel_rfl)
theorem Lj:cv Tryz.prog Tryz.f94 El:=e (by kernel_rfl)
theorem IZ:cg Tryz.prog 94:=e (by kernel_rfl)
def Na:=[o 6 (.mv bE)]
def Nb:=[m 7 0,m 8 1,o 9 (.bin .geq (.t 7) (.t 8)),m 10 9,c6 11 0 10,c6 12 2 10,bT 13 (.bin .leq (.t 11) (.t 12)) 10,and 14 10 13,m 6 14]
def yG:bq:=(s (r Na) (s (r Nb) .ret))
def Da:List bM:=[.tmp 6]
theorem I6:cz Tryz.prog Tryz.f105 yG:=e (by kernel_rfl)
theorem Ke:cv Tryz.prog Tryz.f105 Da:=e (by kernel_rfl)
theorem HZ:cg Tryz.prog 105:=e (by kernel_rfl)
def Nc:=[o 2 (.mv (.c (.nilp)))]
def Nd:=[m 4 0,o 5 (.iH),o 6 (.iH),o 7 (.iH),o 8 (.bld [.int .i64 0,.raw (.map none),.raw (.map none),.int .i64 0,.raw (.map none),.raw (.map none)] [(0,(.t 4)),(1,(.t 5)),(2,(.t 6)),(4,(.t 7))]),b 9 8,m 3 9]
def Nf:=[m 10 3,o 11 (.iH),m 12 3,o 13 (.mk 1000125 [.t 12]),p (.eT (.i .i64) (.t 11) (bf 1) (.t 13)),m 14 3,o 15 (.mk 1000126 [.t 14]),p (.eT (.i .i64) (.t 11) (bf 2) (.t 15)),m 16 3,o 17 (.mk 1000127 [.t 16]),p (.eT (.i .i64) (.t 11) (bf 3) (.t 17)),m 18 3,o 19 (.mk 1000128 [.t 18]),p (.eT (.i .i64) (.t 11) (bf 4) (.t 19)),m 20 3,o 21 (.mk 1000129 [.t 20]),p (.eT (.i .i64) (.t 11) (bf 5) (.t 21)),m 22 3,o 23 (.mk 1000130 [.t 22]),p (.eT (.i .i64) (.t 11) (bf 6) (.t 23)),m 24 3,o 25 (.mk 1000131 [.t 24]),p (.eT (.i .i64) (.t 11) (bf 7) (.t 25)),m 26 3,o 27 (.mk 1000132 [.t 26]),p (.eT (.i .i64) (.t 11) (bf 8) (.t 27)),m 28 11,o 29 (.nilC (.t 10)),f 30 5 5 29,p (.aU none (.t 30) (.t 28))]
def Ng:=[m 31 3,m 2 31]
def yH:bq:=(s (r Nc) (s (r Nd) (s (r Nf) (s (r Ng) .ret))))
def Db:List bM:=[.tmp 2]
theorem I7:cz Tryz.prog Tryz.f106 yH:=e (by kernel_rfl)
theorem Kf:cv Tryz.prog Tryz.f106 Db:=e (by kernel_rfl)
theorem H0:cg Tryz.prog 106:=e (by kernel_rfl)
def Nh:=[l 12 1,o 13 (.call 85 [.t 12]),o 14 (.len (.t 13)),bS 15 0]
def Ni:=[lt 16 15 14]
def Ns:=[o 17 (.is 1 (.t 13) (.t 15)),l 18 17,m 5 18]
def Nt:=[l 19 1,o 20 (.nilC (.t 19)),f 21 2 2 20,l 22 21,m 23 5,o 24 (.lk (.i .i64) (.nilp) false (.t 22) (.t 23)),m 6 24]
def Nu:=[l 25 1,o 26 (.nilC (.t 25)),f 27 0 0 26,l 28 27,l 29 2,m 30 6,o 31 (.nilC (.t 30)),f 32 2 2 31,l 33 32,m 34 5,o 35 (.bld [.int .i64 0,.int .i64 0,.int .i64 0,.int .i64 0,.int .i64 0] [(0,(bf 1)),(1,(.t 28)),(2,(.t 29)),(3,(.t 33)),(4,(.t 34))]),o 7 (.alloc (.agg [.int .i64 0,.int .i64 0,.int .i64 0,.int .i64 0,.int .i64 0])),p (.aU (some 5) (.t 7) (.t 35))]
def Lm:=some [[],[0],[1],[2],[],[],[5],[6],[7],[],[3,4,8,9],[],[11,10,0,1,2,3,4,5,6,7,8,9,10,11]]
def Nv:=[m 36 6,o 37 (.nilC (.t 36)),f 38 3 3 37,l 39 38]
def Nw:=[f 40 0 0 7,p (.aU none (.t 40) (bf 3))]
def nJ:=[m 41 6,o 42 (.nilC (.t 41)),f 43 1 1 42,l 44 43,l 45 2,o 46 (.bin .eql (.t 44) (.t 45)),m 47 46,c6 48 0 47,bT 49 (.ld (some 5) (.t 7)) 47,bT 50 (.fL (.t 48) [.t 49]) 47,bT 51 (.un .not (.t 50)) 47,and 52 47 51]
def Ln:=some [[],[0],[1],[2],[],[3,4],[5],[6],[6],[7,8,6,6],[9,6],[6,10]]
def Nx:=[ad 53 15 1,m 15 53]
def Ny:=[bS 8 1]
def Nj:=[m 54 8,o 55 (.bin .leq (.t 54) (bf 200))]
def Nk:=[l 59 1,o 60 (.nilC (.t 59)),f 61 4 4 60,l 62 61,l 63 2,m 64 8,o 65 (.bld [.int .i64 0,.int .i64 0] [(0,(.t 63)),(1,(.t 64))]),o 66 (.lk (.aU [(.i .i64),(.i .i64)]) (.agg [.int .i64 0,.int .i64 0,.int .i64 0,.int .i64 0]) true (.t 62) (.t 65)),m 58 66,o 67 (.ext (.t 58) 0),o 68 (.ext (.t 58) 1),o 9 (.alloc (.agg [.int .i64 0,.int .i64 0,.int .i64 0,.int .i64 0])),p (.aU (some 4) (.t 9) (.t 67)),m 10 68]
def Lk:=some [[],[0],[1],[2],[],[],[4,5],[3,6],[7],[8],[8],[],[11,9,0,1,2,3,4,5,6,7,8,9,11],[10,12,0,1,2,3,4,5,6,7,8,9,10,11,12]]
def Nl:=[l 69 1,o 70 (.nilC (.t 69)),f 71 0 0 70,l 72 71,l 73 2,f 74 1 1 9,l 75 74,m 76 8,o 77 (.bld [.int .i64 0,.int .i64 0,.int .i64 0,.int .i64 0,.int .i64 0] [(0,(bf 2)),(1,(.t 72)),(2,(.t 73)),(3,(.t 75)),(4,(.t 76))]),o 11 (.alloc (.agg [.int .i64 0,.int .i64 0,.int .i64 0,.int .i64 0,.int .i64 0])),p (.aU (some 5) (.t 11) (.t 77))]
def Ll:=some [[],[0],[1],[2],[],[],[5],[],[3,4,6,7],[],[9,8,0,1,2,3,4,5,6,7,8,9]]
def Nn:=[f 78 0 0 9,l 79 78,o 80 (.bin .eql (.t 79) (bf 8))]
def Np:=[f 81 0 0 11,p (.aU none (.t 81) (bf 4))]
def Nq:=[m 82 10,m 83 82,c6 84 0 83,bT 85 (.ld (some 5) (.t 11)) 83,bT 86 (.fL (.t 84) [.t 85]) 83,bT 87 (.un .not (.t 86)) 83,and 88 83 87]
def Nr:=[m 56 8,ad 57 56 1,m 8 57]
def yI:bq:=(s (s (r Nh) (.block 0 (.loop (s (r Ni) (s (.cond (.t 16) .skip (.exit 0)) (s (.block 1 (s (r Ns) (s (r Nt) (s (.cd Lm Nu) (s (s (r Nv) (.cond (.t 39) (r Nw) .skip)) (s (.cd Ln nJ) (.cond (.t 52) .ret .skip))))))) (r Nx))))))) (s (r Ny) (.block 2 (.loop (s (s (r Nj) (.cond (.t 55) .skip (.exit 2))) (s (.block 3 (s (.cd Lk Nk) (s (.cd Ll Nl) (s (s (r Nn) (.cond (.t 80) (r Np) .skip)) (s (r Nq) (.cond (.t 88) .ret .skip)))))) (r Nr)))))))
def Dc:List bM:=[]
theorem I8:cz Tryz.prog Tryz.f107 yI:=e (by kernel_rfl)
theorem Kg:cv Tryz.prog Tryz.f107 Dc:=e (by kernel_rfl)
theorem zL:cg Tryz.prog 107:=e (by kernel_rfl)
def Nz:=[b 2 0,o 4 (.mv bE)]
def NA:=[f 7 3 3 2,l 8 7,o 9 (.len (.t 8)),bS 10 0]
def NB:=[lt 11 10 9]
def NC:=[o 12 (.is 4 (.t 8) (.t 10)),L 13 4 12,o 6 (.alloc (.agg [.int .i64 0,.int .i64 0,.int .i64 0,.bool false])),p (.aU (some 4) (.t 6) (.t 13))]
def ND:=[f 14 2 2 6,l 15 14,m 16 1,o 17 (.bin .eql (.t 15) (.t 16))]
def NF:=[o 4 (.mv T)]
def NG:=[ad 18 10 1,m 10 18]
def NH:=[o 4 (.mv bE)]
def yJ:bq:=(s (r Nz) (s (s (r NA) (.block 0 (.loop (s (r NB) (s (.cond (.t 11) .skip (.exit 0)) (s (.block 1 (s (r NC) (s (r ND) (.cond (.t 17) (s (r NF) .ret) .skip)))) (r NG))))))) (s (r NH) .ret)))
def Dd:List bM:=[.tmp 4]
theorem I9:cz Tryz.prog Tryz.f108 yJ:=e (by kernel_rfl)
theorem Kh:cv Tryz.prog Tryz.f108 Dd:=e (by kernel_rfl)
theorem H2:cg Tryz.prog 108:=e (by kernel_rfl)
def NI:=[o 4 (.mv (.c (.nils 1)))]
def NJ:=[bS 5 0]
def NK:=[m 6 5,m 7 0,o 8 (.len (.t 7)),lt 9 6 8,m 10 9,c6 11 0 10,c6 12 5 10,bT 13 (.is 1 (.t 11) (.t 12)) 10,dS 14 13 10,c6 15 1 10,bT 16 (.bin .lss (.t 14) (.t 15)) 10,and 17 10 16]
def NL:=[m 18 5,ad 19 18 1,m 5 19]
def NM:=[m 20 5,m 21 0,o 22 (.len (.t 21)),lt 23 20 22,m 24 23,c6 25 0 24,c6 26 5 24,bT 27 (.is 1 (.t 25) (.t 26)) 24,dS 28 27 24,c6 29 1 24,bT 30 (.bin .eql (.t 28) (.t 29)) 24,and 31 24 30]
def NN:=[m 32 0,m 4 32]
def qm:=[o 33 (.bs0 1),m 34 0,m 35 5,o 36 (.sl 1 (.t 34) none (some (.t 35)) none),o 37 (.c9 3 1 8 (.int .i64 0) (.t 33) (.t 36)),m 38 1,o 39 (.bs 3 1 [.t 38]),o 40 (.c9 3 1 8 (.int .i64 0) (.t 37) (.t 39)),m 41 0,m 42 5,o 43 (.sl 1 (.t 41) (some (.t 42)) none none),o 44 (.c9 3 1 8 (.int .i64 0) (.t 40) (.t 43)),m 4 44]
def Lo:=some [[],[],[],[1,2],[0,3],[],[5],[4,6,4],[],[],[8,9],[7,10,7],[11,11,0,1,2,3,4,5,6,7,8,9,10,11]] -- DRAW BAD
def yK:bq:=(s (r NI) (s (r NJ) (s (.block 0 (.loop (s (s (r NK) (.cond (.t 17) .skip (.exit 0))) (.block 1 (r NL))))) (s (s (r NM) (.cond (.t 31) (s (r NN) .ret) .skip)) (s (.cd Lo qm) .ret)))))
def De:List bM:=[.tmp 4]
theorem Ja:cz Tryz.prog Tryz.f109 yK:=e (by kernel_rfl)
theorem Ki:cv Tryz.prog Tryz.f109 De:=e (by kernel_rfl)
theorem H3:cg Tryz.prog 109:=e (by kernel_rfl)
def NV:=[o 4 (.mv (.c (.nils 1)))]
def NW:=[o 5 (.mv (.c (.nils 1)))]
def NX:=[m 8 0,o 9 (.len (.t 8)),bS 10 0]
def NY:=[lt 11 10 9]
def NZ:=[o 12 (.is 1 (.t 8) (.t 10)),l 13 12,m 7 13]
def N0:=[m 14 7,m 15 1,o 16 (.bin .neq (.t 14) (.t 15))]
def N1:=[m 17 5,m 18 7,o 19 (.bs 3 1 [.t 18]),o 20 (.c9 3 1 8 (.int .i64 0) (.t 17) (.t 19)),m 5 20]
def N2:=[ad 21 10 1,m 10 21]
def N3:=[m 22 5,m 4 22]
def yM:bq:=(s (r NV) (s (r NW) (s (s (r NX) (.block 0 (.loop (s (r NY) (s (.cond (.t 11) .skip (.exit 0)) (s (.block 1 (s (r NZ) (s (r N0) (.cond (.t 16) (r N1) .skip)))) (r N2))))))) (s (r N3) .ret))))
def Dg:List bM:=[.tmp 4]
theorem Jc:cz Tryz.prog Tryz.f110 yM:=e (by kernel_rfl)
theorem Kk:cv Tryz.prog Tryz.f110 Dg:=e (by kernel_rfl)
theorem H5:cg Tryz.prog 110:=e (by kernel_rfl)
def N4:=[b 2 0,o 4 (.alloc (.agg [.int .i64 0,.nils 1,.int .i64 0,.nils 4,.nils 4]))]
def vJ:=[o 5 (.bs0 4),f 6 3 3 2,l 7 6,m 8 1,o 9 (.sl 4 (.t 7) none (some (.t 8)) none),o 10 (.c9 48 4 32 (.agg [.int .i64 0,.int .i64 0,.int .i64 0,.bool false]) (.t 5) (.t 9)),f 11 3 3 2,l 12 11,m 13 1,ad 14 13 1,o 15 (.sl 4 (.t 12) (some (.t 14)) none none),o 16 (.c9 48 4 32 (.agg [.int .i64 0,.int .i64 0,.int .i64 0,.bool false]) (.t 10) (.t 15)),f 17 3 3 2,p (.aU none (.t 17) (.t 16))]
def Lp:=some [[],[],[1],[],[2,3],[0,4],[],[6],[],[8],[7,9],[5,10,5],[0,1,2,3,4,5,6,7,8,9,10,11],[12,11,11,0,1,2,3,4,5,6,7,8,9,10,11]] -- DRAW BAD
def N5:=[L 18 5 2,p (.aU (some 5) (.t 4) (.t 18))]
def yN:bq:=(s (r N4) (s (.cd Lp vJ) (s (r N5) .ret)))
def Di:List bM:=[.cell 4 (some 5)]
theorem Jd:cz Tryz.prog Tryz.f111 yN:=e (by kernel_rfl)
theorem Kl:cv Tryz.prog Tryz.f111 Di:=e (by kernel_rfl)
theorem H6:cg Tryz.prog 111:=e (by kernel_rfl)
def N6:=[b 2 0,b 3 1,o 4 (.alloc (.agg [.int .i64 0,.nils 1,.int .i64 0,.nils 4,.nils 4]))]
def vK:=[o 5 (.bs0 4),f 6 4 4 2,l 7 6,o 8 (.c9 91 4 32 (.agg [.int .i64 0,.int .i64 0,.int .i64 0,.int .i64 0]) (.t 5) (.t 7)),f 9 0 0 3,l 10 9,f 11 2 2 3,l 12 11,f 13 3 3 3,l 14 13,f 15 1 1 3,l 16 15,o 17 (.bld [.int .i64 0,.int .i64 0,.int .i64 0,.int .i64 0] [(0,(.t 10)),(1,(.t 12)),(2,(.t 14)),(3,(.t 16))]),o 18 (.bs 91 4 [.t 17]),o 19 (.c9 91 4 32 (.agg [.int .i64 0,.int .i64 0,.int .i64 0,.int .i64 0]) (.t 8) (.t 18)),f 20 4 4 2,p (.aU none (.t 20) (.t 19))]
def Lq:=some [[],[],[1],[0,2],[],[4],[],[6],[],[8],[],[10],[5,7,9,11],[12],[3,13,3],[0,1,2,3,4,5,6,7,8,9,10,11,12,13,14],[15,14,14,0,1,2,3,4,5,6,7,8,9,10,11,12,13,14]] -- DRAW BAD
def N7:=[L 21 5 2,p (.aU (some 5) (.t 4) (.t 21))]
def yO:bq:=(s (r N6) (s (.cd Lq vK) (s (r N7) .ret)))
def Dj:List bM:=[.cell 4 (some 5)]
theorem Je:cz Tryz.prog Tryz.f112 yO:=e (by kernel_rfl)
theorem Km:cv Tryz.prog Tryz.f112 Dj:=e (by kernel_rfl)
theorem H7:cg Tryz.prog 112:=e (by kernel_rfl)
theorem zM:cg Tryz.prog 113:=e (by kernel_rfl)
def N8:=[m 2 0,no 3 2]
def yP:bq:=(s (r N8) (.cond (.t 3) .uH .skip))
def Dk:List bM:=[]
theorem Jf:cz Tryz.prog Tryz.f114 yP:=e (by kernel_rfl)
theorem Kn:cv Tryz.prog Tryz.f114 Dk:=e (by kernel_rfl)
theorem zN:cg Tryz.prog 114:=e (by kernel_rfl)
theorem H8:cg Tryz.prog 119:=e (by kernel_rfl)
def Og:=[b 3 1]
def qn:=[m 4 0,o 5 (.nilC (.t 4)),f 6 1 1 5,l 7 6,f 8 1 1 3,l 9 8,o 10 (.lk (.i .i64) (.bool false) false (.t 7) (.t 9)),no 11 10,m 12 11,c6 13 0 12,dZ 14 1 1 3 12,dS 15 14 12,bT 16 (.call 72 [.t 13,.t 15]) 12,bT 17 (.un .not (.t 16)) 12,and 18 12 17,o 19 (.call 114 [.t 18])]
def Lr:=some [[],[0],[1],[2],[],[4],[3,5],[6],[7],[8],[8],[10,8],[9,11,8,8],[12,8],[8,13],[14,12]]
def Oh:=[m 20 0,o 21 (.nilC (.t 20)),f 22 1 1 21,l 23 22,f 24 1 1 3,l 25 24,p (.eT (.i .i64) (.t 23) (.t 25) T)]
def Ls:=some [[],[0],[1],[2],[],[4],[3,5,0,1,2,3,4,5]]
def uM:bq:=(s (r Og) (s (.cd Lr qn) (.cd Ls Oh)))
def Dm:List bM:=[]
theorem Ad:cz Tryz.prog Tryz.f125 uM:=e (by kernel_rfl)
theorem Kp:cv Tryz.prog Tryz.f125 Dm:=e (by kernel_rfl)
theorem zO:cg Tryz.prog 125:=e (by kernel_rfl)
def Oi:=[b 3 1]
def vL:=[m 4 0,o 5 (.nilC (.t 4)),f 6 1 1 5,l 7 6,f 8 1 1 3,l 9 8,o 10 (.lk (.i .i64) (.bool false) false (.t 7) (.t 9)),o 11 (.call 114 [.t 10])]
def Lt:=some [[],[0],[1],[2],[],[4],[3,5],[6]]
def Oj:=[m 12 0,o 13 (.nilC (.t 12)),f 14 1 1 13,l 15 14,f 16 1 1 3,l 17 16,p (.iG (.i .i64) (.t 15) (.t 17))]
def Lu:=some [[],[0],[1],[2],[],[4],[3,5]]
def uN:bq:=(s (r Oi) (s (.cd Lt vL) (.cd Lu Oj)))
def Dn:List bM:=[]
theorem Ae:cz Tryz.prog Tryz.f126 uN:=e (by kernel_rfl)
theorem Kq:cv Tryz.prog Tryz.f126 Dn:=e (by kernel_rfl)
theorem zP:cg Tryz.prog 126:=e (by kernel_rfl)
def Ol:=[b 3 1]
def nK:=[m 4 0,o 5 (.nilC (.t 4)),f 6 1 1 5,l 7 6,f 8 1 1 3,l 9 8,o 10 (.lk (.i .i64) (.bool false) false (.t 7) (.t 9)),m 11 10,dZ 12 2 2 3 11,dS 13 12 11,c6 14 0 11,bT 15 (.nilC (.t 14)) 11,dZ 16 0 0 15 11,dS 17 16 11,bT 18 (.bin .neq (.t 13) (.t 17)) 11,and 19 11 18,m 20 19,dZ 21 3 3 3 20,dS 22 21 20,c6 23 0 20,bT 24 (.nilC (.t 23)) 20,dZ 25 3 3 24 20,dS 26 25 20,bT 27 (.bin .add (.t 26) (bf 1)) 20,bT 28 (.bin .eql (.t 22) (.t 27)) 20,and 29 20 28,o 30 (.call 114 [.t 29])]
def Lv:=some [[],[0],[1],[2],[],[4],[3,5],[6],[7],[8,7],[7],[10,7],[11,7],[12,7],[9,13,7],[7,14],[15,7],[16],[17,16],[16],[19,16],[20,16],[21,16],[22,16],[18,23,16],[16,24],[25,16]]
def Om:=[m 31 0,o 32 (.nilC (.t 31)),f 33 1 1 32,l 34 33,f 35 1 1 3,l 36 35,p (.iG (.i .i64) (.t 34) (.t 36))]
def Lw:=some [[],[0],[1],[2],[],[4],[3,5]]
def On:=[m 37 0,o 38 (.nilC (.t 37)),f 39 3 3 38,l 40 39,ad 41 40 1,o 42 (.nilC (.t 37)),f 43 3 3 42,p (.aU none (.t 43) (.t 41))]
def Oo:=[m 44 0,o 45 (.nilC (.t 44)),f 46 2 2 45,l 47 46,f 48 3 3 3,l 49 48,f 50 3 3 3,l 51 50,f 52 2 2 3,l 53 52,f 54 1 1 3,l 55 54,o 56 (.bld [.int .i64 0,.int .i64 0,.int .i64 0,.bool false] [(0,(.t 51)),(1,(.t 53)),(2,(.t 55))]),b 57 56,p (.eT (.i .i64) (.t 47) (.t 49) (.t 57))]
def Lx:=some [[],[0],[1],[2],[],[4],[],[6],[],[8],[],[10],[7,9,11],[12],[3,5,13,0,1,2,3,4,5,6,7,8,9,10,11,12,13]]
def uO:bq:=(s (r Ol) (s (.cd Lv nK) (s (.cd Lw Om) (s (r On) (.cd Lx Oo)))))
def Dp:List bM:=[]
theorem Af:cz Tryz.prog Tryz.f127 uO:=e (by kernel_rfl)
theorem Kr:cv Tryz.prog Tryz.f127 Dp:=e (by kernel_rfl)
theorem zQ:cg Tryz.prog 127:=e (by kernel_rfl)
def Oq:=[b 3 1]
def Bd:=[m 5 0,L 6 4 3,o 7 (.call 151 [.t 5,.t 6]),m 4 7]
def Be:=[m 8 4,o 9 (.nilC (.t 8)),f 10 3 3 9,l 11 10,no 12 11,o 13 (.call 114 [.t 12])]
def Ot:=[m 14 4,o 15 (.nilC (.t 14)),f 16 3 3 15,p (.aU none (.t 16) T)]
def uP:bq:=(s (r Oq) (s (r Bd) (s (r Be) (r Ot))))
def Dq:List bM:=[]
theorem Ag:cz Tryz.prog Tryz.f128 uP:=e (by kernel_rfl)
theorem Ks:cv Tryz.prog Tryz.f128 Dq:=e (by kernel_rfl)
theorem zR:cg Tryz.prog 128:=e (by kernel_rfl)
def Ou:=[b 3 1]
def Bf:=[m 4 0,L 5 4 3,o 6 (.call 151 [.t 4,.t 5])]
def Ov:=[m 7 0,o 8 (.nilC (.t 7)),f 9 2 2 8,l 10 9,f 11 3 3 3,l 12 11,p (.iG (.i .i64) (.t 10) (.t 12))]
def Ly:=some [[],[0],[1],[2],[],[4],[3,5]]
def uQ:bq:=(s (r Ou) (s (r Bf) (.cd Ly Ov)))
def Dr:List bM:=[]
theorem Ah:cz Tryz.prog Tryz.f129 uQ:=e (by kernel_rfl)
theorem Kt:cv Tryz.prog Tryz.f129 Dr:=e (by kernel_rfl)
theorem zS:cg Tryz.prog 129:=e (by kernel_rfl)
def OE:=[b 3 1]
def vM:=[m 4 0,L 5 4 3,o 6 (.call 151 [.t 4,.t 5]),o 7 (.nilC (.t 6)),f 8 3 3 7,l 9 8,o 10 (.call 114 [.t 9])]
def OF:=[m 11 0,o 12 (.nilC (.t 11)),f 13 2 2 12,l 14 13,f 15 3 3 3,l 16 15,p (.iG (.i .i64) (.t 14) (.t 16))]
def LA:=some [[],[0],[1],[2],[],[4],[3,5]]
def OG:=[m 17 0,o 18 (.nilC (.t 17)),f 19 1 1 18,l 20 19,f 21 1 1 3,l 22 21,p (.eT (.i .i64) (.t 20) (.t 22) T)]
def LB:=some [[],[0],[1],[2],[],[4],[3,5,0,1,2,3,4,5]]
def uR:bq:=(s (r OE) (s (r vM) (s (.cd LA OF) (.cd LB OG))))
def Dt:List bM:=[]
theorem Ai:cz Tryz.prog Tryz.f130 uR:=e (by kernel_rfl)
theorem Kv:cv Tryz.prog Tryz.f130 Dt:=e (by kernel_rfl)
theorem zT:cg Tryz.prog 130:=e (by kernel_rfl)
def OH:=[b 3 1]
def nL:=[m 4 0,L 5 4 3,o 6 (.call 152 [.t 4,.t 5]),m 7 6,c6 8 0 7,bT 9 (.nilC (.t 8)) 7,dZ 10 1 1 9 7,dS 11 10 7,dZ 12 1 1 3 7,dS 13 12 7,bT 14 (.lk (.i .i64) (.bool false) false (.t 11) (.t 13)) 7,bT 15 (.un .not (.t 14)) 7,and 16 7 15,m 17 16,c6 18 0 17,dZ 19 1 1 3 17,dS 20 19 17,bT 21 (.call 72 [.t 18,.t 20]) 17,bT 22 (.un .not (.t 21)) 17,and 23 17 22,o 24 (.call 114 [.t 23])]
def LC:=some [[],[],[0,1],[2,2],[3],[4,3],[5,3],[6,3],[3],[8,3],[7,9,3],[10,3],[3,11],[12,3],[13],[13],[15,13],[14,16,13,13],[17,13],[13,18],[19,17]]
def OI:=[m 25 0,o 26 (.nilC (.t 25)),f 27 4 4 26,l 28 27,f 29 2 2 3,l 30 29,f 31 3 3 3,l 32 31,o 33 (.bld [.int .i64 0,.int .i64 0] [(0,(.t 30)),(1,(.t 32))]),L 34 4 3,p (.eT (.aU [(.i .i64),(.i .i64)]) (.t 28) (.t 33) (.t 34))]
def LD:=some [[],[0],[1],[2],[],[4],[],[6],[5,7],[],[3,8,9,0,1,2,3,4,5,6,7,8,9]]
def OJ:=[m 35 0,o 36 (.nilC (.t 35)),f 37 1 1 36,l 38 37,f 39 1 1 3,l 40 39,p (.eT (.i .i64) (.t 38) (.t 40) T)]
def LF:=some [[],[0],[1],[2],[],[4],[3,5,0,1,2,3,4,5]]
def uS:bq:=(s (r OH) (s (.cd LC nL) (s (.cd LD OI) (.cd LF OJ))))
def Du:List bM:=[]
theorem Aj:cz Tryz.prog Tryz.f131 uS:=e (by kernel_rfl)
theorem Kx:cv Tryz.prog Tryz.f131 Du:=e (by kernel_rfl)
theorem zU:cg Tryz.prog 131:=e (by kernel_rfl)
def OK:=[b 3 1]
def Bg:=[m 4 0,L 5 4 3,o 6 (.call 152 [.t 4,.t 5]),o 7 (.call 114 [.t 6])]
def OL:=[m 8 0,o 9 (.nilC (.t 8)),f 10 4 4 9,l 11 10,f 12 2 2 3,l 13 12,f 14 3 3 3,l 15 14,o 16 (.bld [.int .i64 0,.int .i64 0] [(0,(.t 13)),(1,(.t 15))]),L 17 4 3,p (.eT (.aU [(.i .i64),(.i .i64)]) (.t 11) (.t 16) (.t 17))]
def LG:=some [[],[0],[1],[2],[],[4],[],[6],[5,7],[],[3,8,9,0,1,2,3,4,5,6,7,8,9]]
def uT:bq:=(s (r OK) (s (r Bg) (.cd LG OL)))
def Dv:List bM:=[]
theorem Ak:cz Tryz.prog Tryz.f132 uT:=e (by kernel_rfl)
theorem Ky:cv Tryz.prog Tryz.f132 Dv:=e (by kernel_rfl)
theorem zV:cg Tryz.prog 132:=e (by kernel_rfl)
def O7:=[b 3 1,o 4 (.mv (.c (.nilp)))]
def O8:=[m 8 0,o 9 (.nilC (.t 8)),f 10 2 2 9,l 11 10,f 12 3 3 3,l 13 12,o 14 (.lk (.i .i64) (.nilp) true (.t 11) (.t 13)),m 7 14,o 15 (.ext (.t 7) 0),o 16 (.ext (.t 7) 1),m 5 15,m 6 16]
def LK:=some [[],[0],[1],[2],[],[4],[3,5],[6],[7],[7],[8,0,1,2,3,4,5,6,7,8],[9,10,0,1,2,3,4,5,6,7,8,9,10]]
def nM:=[m 17 6,m 18 17,c6 19 5 18,bT 20 (.nilC (.t 19)) 18,dZ 21 1 1 20 18,dS 22 21 18,dZ 23 2 2 3 18,dS 24 23 18,bT 25 (.bin .eql (.t 22) (.t 24)) 18,and 26 18 25,m 27 26,c6 28 5 27,bT 29 (.nilC (.t 28)) 27,dZ 30 2 2 29 27,dS 31 30 27,dZ 32 1 1 3 27,dS 33 32 27,bT 34 (.bin .eql (.t 31) (.t 33)) 27,and 35 27 34,o 36 (.call 114 [.t 35])]
def LL:=some [[],[0],[1],[2,1],[3,1],[4,1],[1],[6,1],[5,7,1],[1,8],[9,1],[10],[11,10],[12,10],[13,10],[10],[15,10],[14,16,10],[10,17],[18,10]]
def O9:=[m 37 5,m 4 37]
def uU:bq:=(s (r O7) (s (.cd LK O8) (s (.cd LL nM) (s (r O9) .ret))))
def Dz:List bM:=[.tmp 4]
theorem Al:cz Tryz.prog Tryz.f151 uU:=e (by kernel_rfl)
theorem KB:cv Tryz.prog Tryz.f151 Dz:=e (by kernel_rfl)
theorem zW:cg Tryz.prog 151:=e (by kernel_rfl)
def Pa:=[b 3 1,o 4 (.mv bE)]
def Pb:=[m 8 0,o 9 (.nilC (.t 8)),f 10 4 4 9,l 11 10,f 12 2 2 3,l 13 12,f 14 3 3 3,l 15 14,o 16 (.bld [.int .i64 0,.int .i64 0] [(0,(.t 13)),(1,(.t 15))]),o 17 (.lk (.aU [(.i .i64),(.i .i64)]) (.agg [.int .i64 0,.int .i64 0,.int .i64 0,.int .i64 0]) true (.t 11) (.t 16)),m 7 17,o 18 (.ext (.t 7) 0),o 19 (.ext (.t 7) 1),o 5 (.alloc (.agg [.int .i64 0,.int .i64 0,.int .i64 0,.int .i64 0])),p (.aU (some 4) (.t 5) (.t 18)),m 6 19]
def LM:=some [[],[0],[1],[2],[],[4],[],[6],[5,7],[3,8],[9],[10],[10],[],[13,11,0,1,2,3,4,5,6,7,8,9,10,11,13],[12,14,0,1,2,3,4,5,6,7,8,9,10,11,12,13,14]]
def Pc:=[f 20 2 2 3,l 21 20,m 22 0,o 23 (.nilC (.t 22)),f 24 0 0 23,l 25 24,o 26 (.bin .neq (.t 21) (.t 25)),m 27 26,c6 28 6 27,bT 29 (.un .not (.t 28)) 27,and 30 27 29,m 4 30]
def LN:=some [[],[0],[],[2],[3],[4],[1,5],[6],[7],[8,7],[7,9],[10,7,0,1,2,3,4,5,6,7,8,9,10]]
def yU:bq:=(s (r Pa) (s (.cd LM Pb) (s (.cd LN Pc) .ret)))
def DA:List bM:=[.tmp 4]
theorem Jk:cz Tryz.prog Tryz.f152 yU:=e (by kernel_rfl)
theorem KC:cv Tryz.prog Tryz.f152 DA:=e (by kernel_rfl)
theorem Ie:cg Tryz.prog 152:=e (by kernel_rfl)
end Go.Proofs.YthbdbocionnfgaaGreatDoor
namespace Go.Abs
open Go Go.RowKit
open Enc (enc)
def aB(x:I)(p q:Prop):Prop:=match x with
 | .bool t=>(t=true→p)∧(t=false→q)
 |_=>False
theorem ae.jQ{c:cT}{A:ai}{Q:Exit→ai→Prop}{b:aO}{x y:bq}(h:aB (ak A b) (ae c x Q A) (ae c y Q A)):ae c (.cond b x y) Q A:=by
 generalize hb:ak A b=v at h;unfold aB at h;split at h
 ·exact ae.cond hb h.1 h.2
 ·exact h.elim
def oi(r:I):Option (List I)→Prop
 |some xs=>jW xs=r
 |none=>False
theorem YZ(rs:List bM)(r:I)(A:ai):ku rs r .ret A=oi r (fe A rs):=by
 simp only[ku,oi];cases fe A rs <;>simp
theorem YY(rs:List bM)(r:I)(A:ai):ku rs r .normal A=oi r (fe A rs):=by
 simp only[ku,oi];cases fe A rs <;>simp
def ru(s:Option Nat)(A:ai):Option I→Option I
 |some x=>if bY s x=true then bh true A x else none
 |none=>none
def jM:Option I→Option (List I)→Option (List I)
 |some x,some xs=>some (x::xs)
 |_,_=>none
theorem YS(A:ai):fe A []=some []:=rfl
theorem YT(A:ai)(t:Nat)(rs:List bM):fe A (.tmp t::rs)=jM (bh true A (A.t t)) (fe A rs):=by
 simp only[fe,tK];cases bh true A (A.t t) <;>cases fe A rs <;>rfl
theorem YR(A:ai)(a:Nat)(s:Option Nat)(rs:List bM):fe A (.cell a s::rs)=jM (ru s A (gT A (A.t a))) (fe A rs):=by
 simp only[fe,tK,lI];cases gT A (A.t a) with
 |none=>cases fe A rs <;>rfl
 |some x =>
  by_cases h:bY s x=true
  ·simp only[ru,if_pos h];cases bh true A x <;>cases fe A rs <;>rfl
  ·simp only[ru,if_neg h];cases fe A rs <;>rfl
def sG(aN:Bool)(A:ai):Option I→Option I
 |some x=>if x.bw=true then some (.ref x) else (cW A 9 x).map .ref
 |none=>none
theorem M3(A:ai)(n:Nat)(p:List Nat):bh true A (.ptr n p)=sG true A (fo p (A.o n)):=by
 simp only[bh,lI,gT,if_true,sG];cases fo p (A.o n) <;>rfl
open Classical in
noncomputable def lM(sz lo k:Nat):Option (List I)→Option I
 |some fs=>if I.ca ((fs.drop lo).take k)=true then some (.slice sz ((fs.drop lo).take k)) else none
 |none=>none
theorem vG(A:ai)(n:Nat)(p:List Nat)(sz lo k:Nat):bh true A (.view n p sz lo k)=lM sz lo k (fF (fo p (A.o n))):=by
 simp only[bh,lI,gT,if_true];cases fo p (A.o n) with
 |none=>rfl
 |some c=>cases c <;>simp only[fF,I.dR,lM] <;>(split <;>simp_all)
open Classical in
noncomputable def ke(k:Nat):Option aq→Option I
 |some (.bU _ sz es)=>if k=es.length∧I.ca es=true then some (.slice sz es) else none
 |_=>none
theorem M2(aN:Bool)(A:ai)(n k:Nat):bh aN A (.own n k)=ke k (A.o n):=by
 simp only[bh];cases A.o n with
 |none=>rfl
 |some y=>cases y <;>simp only[ke] <;>(split <;>simp_all)
theorem sH(aN:Bool)(A:ai)(fs:List I):bh aN A (.agg fs)=(b7 aN A fs).map .agg:=by simp only[bh]
theorem MX(aN:Bool)(A:ai)(f:FuncId)(fs:List I):bh aN A (.func f fs)=if f<1000000 then (b7 aN A fs).map (.func f) else some .any:=by simp only[bh]
theorem MY(aN:Bool)(A:ai)(k:IntKind)(n:Int):bh aN A (.int k n)=some (.int k n):=by simp only[bh]
theorem MW(aN:Bool)(A:ai)(n:Bool):bh aN A (.bool n)=some (.bool n):=by simp only[bh]
theorem M6(aN:Bool)(A:ai)(n:ByteArray):bh aN A (.bP n)=some (.bP n):=by simp only[bh]
theorem M0(aN:Bool)(A:ai)(n:Nat):bh aN A (.nils n)=some (.slice n []):=by simp only[bh]
theorem M5(aN:Bool)(A:ai)(n:Nat)(es:List I):bh aN A (.slice n es)=if I.ca es=true then some (.slice n es) else none:=by simp only[bh]
theorem M4(aN:Bool)(A:ai)(x:I):bh aN A (.ref x)=if x.bw=true then some (.ref x) else none:=by simp only[bh]
theorem sM(aN:Bool)(A:ai):b7 aN A []=some []:=by simp only[b7]
theorem sK(aN:Bool)(A:ai)(x:I)(xs:List I):b7 aN A (x::xs)=jM (bh aN A x) (b7 aN A xs):=by
 simp only[b7];cases bh aN A x <;>cases b7 aN A xs <;>rfl
theorem J3(fs:List I):(I.agg fs).bw=I.ca fs:=by simp only[I.bw]
theorem J8(n:Nat)(fs:List I):(I.slice n fs).bw=I.ca fs:=by simp only[I.bw]
theorem J7(x:I):(I.ref x).bw=x.bw:=by simp only[I.bw]
theorem J6(k:IntKind)(n:Int):(I.int k n).bw=true:=by simp only[I.bw]
theorem J4(n:Bool):(I.bool n).bw=true:=by simp only[I.bw]
theorem J9(n:ByteArray):(I.bP n).bw=true:=by simp only[I.bw]
theorem J5(f:FuncId)(fs:List I):(I.func f fs).bw=I.ca fs:=by simp only[I.bw]
theorem Kb:I.ca []=true:=by simp only[I.ca]
theorem Ka(x:I)(xs:List I):I.ca (x::xs)=(x.bw&&I.ca xs):=by simp only[I.ca]
theorem Hp(k:IntKind)(a b:Int):cD .add (.int k a) (.int k b)=some (.int k (k.wrap (a+b))):=by simp[cD]
theorem HF(k:IntKind)(a b:Int):cD .sub (.int k a) (.int k b)=some (.int k (k.wrap (a-b))):=by simp[cD]
theorem Hx(k:IntKind)(a b:Int):cD .mul (.int k a) (.int k b)=some (.int k (k.wrap (a*b))):=by simp[cD]
theorem HB(k:IntKind)(a b:Int):cD .quo (.int k a) (.int k b)=if b=0 then none else some (.int k (k.wrap (a.tdiv b))):=by simp[cD]
theorem HC(k:IntKind)(a b:Int):cD .rem (.int k a) (.int k b)=if b=0 then none else some (.int k (a.tmod b)):=by simp[cD]
theorem Hq(k:IntKind)(a b:Int):cD .and (.int k a) (.int k b)=some (.int k (k.wrap ((BitVec.ofInt k.bits a &&& BitVec.ofInt k.bits b).toNat:Int))):=by simp[cD]
theorem HA(k:IntKind)(a b:Int):cD .or (.int k a) (.int k b)=some (.int k (k.wrap ((BitVec.ofInt k.bits a ||| BitVec.ofInt k.bits b).toNat:Int))):=by simp[cD]
theorem HG(k:IntKind)(a b:Int):cD .xor (.int k a) (.int k b)=some (.int k (k.wrap ((BitVec.ofInt k.bits a ^^^ BitVec.ofInt k.bits b).toNat:Int))):=by simp[cD]
theorem Hr(k:IntKind)(a b:Int):cD .andNot (.int k a) (.int k b)=some (.int k (k.wrap ((BitVec.ofInt k.bits a &&& ~~~ BitVec.ofInt k.bits b).toNat:Int))):=by simp[cD]
theorem HD(k k':IntKind)(a b:Int):cD .shl (.int k a) (.int k' b)=if 0≤b then some (.int k (k.wrap (a*2^(min b.toNat k.bits)))) else none:=by simp[cD]
theorem HE(k k':IntKind)(a b:Int):cD .shr (.int k a) (.int k' b)=if 0≤b then some (.int k (a.fdiv (2^(min b.toNat k.bits)))) else none:=by simp[cD]
theorem Hs(k:IntKind)(a b:Int):cD .eql (.int k a) (.int k b)=some (.bool (a==b)):=by simp[cD]
theorem Hy(k:IntKind)(a b:Int):cD .neq (.int k a) (.int k b)=some (.bool (a != b)):=by simp[cD]
theorem Hw(k:IntKind)(a b:Int):cD .lss (.int k a) (.int k b)=some (.bool (decide (a<b))):=by simp[cD]
theorem Hv(k:IntKind)(a b:Int):cD .leq (.int k a) (.int k b)=some (.bool (decide (a≤b))):=by simp[cD]
theorem Hu(k:IntKind)(a b:Int):cD .gtr (.int k a) (.int k b)=some (.bool (decide (b<a))):=by simp[cD]
theorem Ht(k:IntKind)(a b:Int):cD .geq (.int k a) (.int k b)=some (.bool (decide (b≤a))):=by simp[cD]
theorem yj :
  (∀ ts os d v,(av ts os).put d v=av ((d,v)::ts) os)∧(∀ ts os d v,(av ts os).aT (some d) v=av ((d,v)::ts) os)∧(∀ (A:ai) v,A.aT none v=A) ∧
  (∀ ts os d x,(av ts os).aS d x=av ts ((d,x)::os))∧(∀ ts os k,(av ts os).t k=bW ts k)∧(∀ ts os k,(av ts os).o k=aj os k) ∧
  (∀ j v r k,bW ((j,v)::r) k=if k=j then v else bW r k)∧(∀ j v r k,aj ((j,v)::r) k=if k=j then some v else aj r k)∧(∀ k,aj [] k=none) ∧
  (∀ A k,ak A (.t k)=A.t k)∧(∀ A x,ak A (.c x)=x)∧(∀ d rest A v,dk d rest A v=az rest (A.aT d v))∧(∀ v k,cP (some v) k=k v)∧(∀ A,az [] A=.done A) :=
 ⟨te,Ct,W3,qN,W4,W2,cq,dx,qK,Mz,My,Ww,HI,G2⟩
theorem CR :
  (∀ d rest A op,az (⟨d,op,none⟩::rest) A=bJ A d op rest)∧(∀ d rest A op t b,az (⟨d,op,some (t,b)⟩::rest) A=gV (A.t t) b d op rest A) ∧
  (∀ d rest A op,gV (.bool true) true d op rest A=bJ A d op rest)∧(∀ d rest A op,gV (.bool false) false d op rest A=bJ A d op rest) ∧
  (∀ d rest A op,gV (.bool true) false d op rest A=az rest (A.aT d .undef))∧(∀ d rest A op,gV (.bool false) true d op rest A=az rest (A.aT d .undef))∧(∀ d rest A op b,gV .undef b d op rest A=az rest (A.aT d .undef)) ∧
  (∀ d rest A x,bJ A d (.mv x) rest=az rest (A.aT d (ak A x)))∧(∀ d rest A c a b,bJ A d (.pick c a b) rest=qY A d a b rest (ak A c)) ∧
  (∀ A d a b rest,qY A d a b rest (.bool true)=az rest (A.aT d (ak A a)))∧(∀ A d a b rest,qY A d a b rest (.bool false)=az rest (A.aT d (ak A b))) ∧
  (∀ d rest A op x y,bJ A d (.bin op x y) rest=cP (cD op (ak A x) (ak A y)) (dk d rest A)) ∧
  (∀ d rest A ty neg x y,bJ A d (.eqv ty neg x y) rest=cP ((b5 ty (ak A x) (ak A y)).map fun b=>.bool (if neg then !b else b)) (dk d rest A)) ∧
  (∀ d rest A op x,bJ A d (.un op x) rest=cP (rO op (ak A x)) (dk d rest A))∧(∀ b,rO .not (.bool b)=some (.bool !b))∧(∀ k n,rO .neg (.int k n)=some (.int k (k.wrap (0-n))))∧(∀ k n,rO .xor (.int k n)=some (.int k (oT k n))) ∧
  (∀ d rest A k x,bJ A d (.conv k x) rest=cP (vb k (ak A x)) (dk d rest A))∧(∀ k k' n,vb k (.int k' n)=some (.int k (k.wrap n))) ∧
  (∀ d rest A s x,bJ A d (.ld s x) rest=cP (nW s (gT A (ak A x))) (dk d rest A))∧(∀ d rest A f off x,bJ A d (.fa f off x) rest=cP (jc A f off (ak A x)) (dk d rest A)) ∧
  (∀ d rest A f off s x,bJ A d (.fl f off s x) rest=cP (sN f off s (ak A x).dR) (dk d rest A))∧(∀ d rest A n esz x i,bJ A d (.ia n esz x i) rest=cP (qw A n esz (ak A x) (ak A i)) (dk d rest A)) ∧
  (∀ d rest A esz x i,bJ A d (.is esz x i) rest=cP (qz A esz (ak A x) (ak A i)) (dk d rest A))∧(∀ d rest A n esz s x i,bJ A d (.ix n esz s x i) rest=cP (qC n esz s (ak A x) (ak A i)) (dk d rest A)) ∧
  (∀ d rest A x,bJ A d (.len x) rest=cP (jw A (ak A x)) (dk d rest A))∧(∀ d rest A n esz x,bJ A d (.va n esz x) rest=cP (oF A n esz (ak A x)) (dk d rest A)) ∧
  (∀ d rest A zs ps,bJ A d (.bld zs ps) rest=cP ((dT zs (ps.map fun p=>(p.1,ak A p.2))).map .agg) (dk d rest A))∧(∀ d rest A x i,bJ A d (.ext x i) rest=cP (vw i (ak A x)) (dk d rest A))∧(∀ i fs,vw i (.tuple fs)=fs[i]?) ∧
  (∀ d rest A f caps,bJ A d (.mk f caps) rest=cP (if ((caps.map (ak A)).all fun y=>y.bR)=true then some (.func f (caps.map (ak A))) else none) (dk d rest A)) ∧
  (∀ rest A d z,bJ A (some d) (.alloc z) rest=uC A d z rest (A.o d))∧(∀ A d z rest,uC A d z rest none=az rest ((A.aS d (.box z)).put d (.ptr d []))) ∧
  (∀ rest A d x,bJ A (some d) (.box x) rest=su A d (ak A x) rest (A.o d))∧(∀ A d z rest,su A d z rest none=sv A d z rest z.bR)∧(∀ A d z rest,sv A d z rest true=az rest ((A.aS d (.box z)).put d (.ptr d []))) ∧
  (∀ rest A s x v,bJ A none (.aU s x v) rest=dH A s (ak A v) rest (ak A x))∧(∀ A s v rest n p,dH A s v rest (.ptr n p)=tU A s n p v rest (A.o n))∧(∀ A s n p v rest b,tU A s n p v rest (some (.box b))=db A s n p b v rest (b.at p)) ∧
  (∀ d rest A f args,bJ A d (.call f args) rest=.call f (args.map (ak A)) (b7 true A (args.map (ak A))) (b7 false A (args.map (ak A))) d rest A) ∧
  (∀ d rest A x args,bJ A d (.fL x args) rest=p9 A d (args.map (ak A)) rest (ak A x))∧(∀ A d args rest f caps,p9 A d args rest (.func f caps)=if f<1000000 then .call f (args++caps) (b7 true A (args++caps)) (b7 false A (args++caps)) d rest A else .call (kV f) (caps++args) (b7 true A (caps++args)) (b7 false A (caps++args)) d rest A) :=
 ⟨GM,GN,VE,VB,VD,VC,VF,XI,XM,fun _ _ _ _ _=>rfl,fun _ _ _ _ _=>rfl,Xj,Xs,XR,fun _=>rfl,fun _ _=>rfl,fun _ _=>rfl,Xq,fun _ _ _=>rfl,Xz,Xu,Xv,Xw,Xx,Xy,XA,XS,Xk,Xt,fun _ _=>rfl,XE,
  Xh,fun _ _ _ _=>rfl,Xl,fun _ _ _ _=>rfl,fun _ _ _ _=>rfl,XQ,fun _ _ _ _ _ _=>rfl,fun _ _ _ _ _ _ _=>rfl,Xn,Xo,fun A d args rest f caps=>by
   simp only[p9];split
   ·rename_i h;rw[vz h,vy h]
   ·rename_i h;simp only[h3,if_neg h]⟩
theorem dE{A:ai}{s:Option Nat}{n:Nat}{p:List Nat}{b v old:I}{rest:List aH}(J:v.bR=true)(U:bY s v=true)(ah:v.aX=old.aX):db A s n p b v rest (some old)=az rest (A.aS n (.box (b.ez p v))):=by
 simp only[db];rw[if_pos ⟨J,U,ah⟩]
theorem Ft :
  (∀ A x,gT A (.ref x)=some x)∧(∀ A n p,gT A (.ptr n p)=fo p (A.o n))∧(∀ p c,fo p (some (.box c))=c.at p)∧(∀ c:I,c.at []=some c)∧(∀ (c:I) i p,c.at (i::p)=mB i p c.dR) ∧
  (∀ i p fs,mB i p (some fs)=oM p fs[i]?)∧(∀ p f,oM p (some f)=f.at p)∧(∀ c v:I,c.ez [] v=v)∧(∀ (c:I) i p v,c.ez (i::p) v=tQ c i p v c.dR)∧(∀ c i p v fs,tQ c i p v (some fs)=xD fs i p v fs[i]?) ∧
  (∀ fs i p v f,xD fs i p v (some f)=.agg (fs.set i (f.ez p v)))∧(∀ fs,(I.agg fs).dR=some fs)∧(∀ x:I,fF (some x)=x.dR) ∧
  (∀ s x,nW s (some x)=if bY s x=true then some x else none) ∧
  (∀ A f off c,jc A f off (.ref c)=qh f off c.dR)∧(∀ A f off n p,jc A f off (.ptr n p)=qg n p f off (fF (fo p (A.o n))))∧(∀ f off fs,qh f off (some fs)=oY fs f off fs[f]?)∧(∀ fs f off v,oY fs f off (some v)=dD fs f off (.ref v)) ∧
  (∀ n p f off fs,qg n p f off (some fs)=dD fs f off (.ptr n (p++[f])))∧(∀ A n esz x kk k,qw A n esz x (.int kk k)=nN A n esz k x)∧(∀ A n esz k c,nN A n esz k (.ref c)=lT k n (sV n esz k c.dR)) ∧
  (∀ A n esz k m p,nN A n esz k (.ptr m p)=lT k n (qx n esz m p k (fF (fo p (A.o m)))))∧(∀ n esz k fs,sV n esz k (some fs)=lS n esz fs ((fs[k.toNat]?).map .ref))∧(∀ n esz m p k fs,qx n esz m p k (some fs)=lS n esz fs (some (.ptr m (p++[k.toNat])))) ∧
  (∀ A esz x kk k,qz A esz x (.int kk k)=jP A esz k x)∧(∀ n esz s x kk k,qC n esz s x (.int kk k)=sX n esz s k x.dR)∧(∀ n esz s k fs,sX n esz s k (some fs)=lT k n (lS n esz fs (nW s fs[k.toNat]?))) ∧
  (∀ A n esz m p,oF A n esz (.ptr m p)=rR n esz m p (fF (fo p (A.o m))))∧(∀ n esz m p fs,rR n esz m p (some fs)=rQ n esz fs (.view m p esz 0 n)) ∧
  (∀ A sz es,jw A (.slice sz es)=some (.int .i64 es.length))∧(∀ A n,jw A (.nils n)=some (.int .i64 0))∧(∀ A n,jw A (.c0 n)=some (.int .i64 0)) :=
 ⟨fun _ _=>rfl,fun _ _ _=>rfl,fun _ _=>rfl,yq,Hh,fun _ _ _=>rfl,fun _ _=>rfl,ot,Zd,fun _ _ _ _ _=>rfl,fun _ _ _ _ _=>rfl,fun _=>rfl,fun _=>rfl,fun _ _=>rfl,fun _ _ _ _=>rfl,fun _ _ _ _ _=>rfl,fun _ _ _=>rfl,fun _ _ _ _=>rfl,
  fun _ _ _ _ _=>rfl,fun _ _ _ _ _ _=>rfl,fun _ _ _ _ _=>rfl,fun _ _ _ _ _ _=>rfl,fun _ _ _ _=>rfl,fun _ _ _ _ _ _=>rfl,fun _ _ _ _ _=>rfl,fun _ _ _ _ _ _=>rfl,fun _ _ _ _ _=>rfl,fun _ _ _ _ _=>rfl,fun _ _ _ _ _=>rfl,fun _ _ _=>rfl,fun _ _=>rfl,fun _ _=>rfl⟩
theorem AW :
  (∀ A n p,bh true A (.ptr n p)=sG true A (fo p (A.o n)))∧(∀ A x,sG true A (some x)=if x.bw=true then some (.ref x) else (cW A 9 x).map .ref)∧(∀ A n p sz lo k,bh true A (.view n p sz lo k)=lM sz lo k (fF (fo p (A.o n)))) ∧
  (∀ A n p,bh false A (.ptr n p)=none)∧(∀ A n p sz lo k,bh false A (.view n p sz lo k)=none)∧(∀ x,jM none x=none)∧(∀ x,jM x none=none) ∧
  (∀ aN A n k,bh aN A (.own n k)=ke k (A.o n))∧(∀ aN A fs,bh aN A (.agg fs)=(b7 aN A fs).map .agg)∧(∀ aN A f fs,bh aN A (.func f fs)=if f<1000000 then (b7 aN A fs).map (.func f) else some .any)∧(∀ aN A k n,bh aN A (.int k n)=some (.int k n))∧(∀ aN A b,bh aN A (.bool b)=some (.bool b)) ∧
  (∀ aN A s,bh aN A (.bP s)=some (.bP s))∧(∀ aN A n,bh aN A (.nils n)=some (.slice n []))∧(∀ aN A n es,bh aN A (.slice n es)=if I.ca es=true then some (.slice n es) else none)∧(∀ aN A x,bh aN A (.ref x)=if x.bw=true then some (.ref x) else none) ∧
  (∀ aN A,b7 aN A []=some [])∧(∀ aN A x xs,b7 aN A (x::xs)=jM (bh aN A x) (b7 aN A xs))∧(∀ x xs,jM (some x) (some xs)=some (x::xs)) ∧
  (∀ fs,(I.agg fs).bw=I.ca fs)∧(∀ n fs,(I.slice n fs).bw=I.ca fs)∧(∀ x,(I.ref x).bw=x.bw)∧(∀ k n,(I.int k n).bw=true)∧(∀ n,(I.bool n).bw=true)∧(∀ n,(I.bP n).bw=true)∧(∀ f fs,(I.func f fs).bw=I.ca fs) ∧
  I.ca []=true∧(∀ x xs,I.ca (x::xs)=(x.bw&&I.ca xs)) ∧
  (∀ rs r A,ku rs r .ret A=oi r (fe A rs))∧(∀ rs r A,ku rs r .normal A=oi r (fe A rs))∧(∀ r xs,oi r (some xs)=(jW xs=r))∧(∀ A,fe A []=some [])∧(∀ A t rs,fe A (.tmp t::rs)=jM (bh true A (A.t t)) (fe A rs)) ∧
  (∀ A a s rs,fe A (.cell a s::rs)=jM (ru s A (gT A (A.t a))) (fe A rs))∧(∀ s A x,ru s A (some x)=if bY s x=true then bh true A x else none)∧(∀ x,jW [x]=x)∧(∀ x y xs,jW (x::y::xs)=.tuple (x::y::xs)) :=
 ⟨M3,fun _ _=>rfl,vG,fun _ _ _=>rfl,fun _ _ _ _ _ _=>rfl,fun _=>rfl,fun x=>by cases x <;>rfl,M2,sH,MX,MY,MW,M6,M0,M5,M4,sM,sK,fun _ _=>rfl,J3,J8,J7,J6,J4,J9,J5,Kb,Ka,
  YZ,YY,fun _ _=>rfl,YS,YT,YR,fun _ _ _=>rfl,fun _=>rfl,fun _ _ _=>rfl⟩
theorem yz :
  (∀ k a b,cD .add (.int k a) (.int k b)=some (.int k (k.wrap (a+b))))∧(∀ k a b,cD .sub (.int k a) (.int k b)=some (.int k (k.wrap (a-b))))∧(∀ k a b,cD .mul (.int k a) (.int k b)=some (.int k (k.wrap (a*b)))) ∧
  (∀ k a b,cD .quo (.int k a) (.int k b)=if b=0 then none else some (.int k (k.wrap (a.tdiv b))))∧(∀ k a b,cD .rem (.int k a) (.int k b)=if b=0 then none else some (.int k (a.tmod b))) ∧
  (∀ k a b,cD .and (.int k a) (.int k b)=some (.int k (k.wrap ((BitVec.ofInt k.bits a &&& BitVec.ofInt k.bits b).toNat:Int))))∧(∀ k a b,cD .or (.int k a) (.int k b)=some (.int k (k.wrap ((BitVec.ofInt k.bits a ||| BitVec.ofInt k.bits b).toNat:Int)))) ∧
  (∀ k a b,cD .xor (.int k a) (.int k b)=some (.int k (k.wrap ((BitVec.ofInt k.bits a ^^^ BitVec.ofInt k.bits b).toNat:Int))))∧(∀ k a b,cD .andNot (.int k a) (.int k b)=some (.int k (k.wrap ((BitVec.ofInt k.bits a &&& ~~~ BitVec.ofInt k.bits b).toNat:Int)))) ∧
  (∀ k k' a b,cD .shl (.int k a) (.int k' b)=if 0≤b then some (.int k (k.wrap (a*2^(min b.toNat k.bits)))) else none)∧(∀ k k' a b,cD .shr (.int k a) (.int k' b)=if 0≤b then some (.int k (a.fdiv (2^(min b.toNat k.bits)))) else none) ∧
  (∀ k a b,cD .eql (.int k a) (.int k b)=some (.bool (a==b)))∧(∀ k a b,cD .neq (.int k a) (.int k b)=some (.bool (a != b)))∧(∀ k a b,cD .lss (.int k a) (.int k b)=some (.bool (decide (a<b))))∧(∀ k a b,cD .leq (.int k a) (.int k b)=some (.bool (decide (a≤b)))) ∧
  (∀ k a b,cD .gtr (.int k a) (.int k b)=some (.bool (decide (b<a))))∧(∀ k a b,cD .geq (.int k a) (.int k b)=some (.bool (decide (b≤a)))) :=
 ⟨Hp,HF,Hx,HB,HC,Hq,HA,HG,Hr,HD,HE,Hs,Hy,Hw,Hv,Hu,Ht⟩
end Go.Abs
namespace Go.Abs
open Go Go.RowKit
open Enc (enc)
section
variable {α:Type} [Enc α]
theorem WG(A:ai)(l:List α):jw A (enc l)=some (.int .i64 l.length):=by simp[hl,jw]
theorem Wi{A:ai}(esz:Nat){k:Int}{l:List α}(h:0≤k∧k.toNat<l.length)(ab:Enc.sz α=esz):jP A esz k (enc l)=some (.ref (enc l[k.toNat])):=by
 simp only[hl,jP,ab,Z9,true_and];rw[if_pos ⟨h.1,by omega⟩];simp[h.2]
theorem fb{A:ai}(esz:Nat){k:Nat}{l:List α}(h:k<l.length)(ab:Enc.sz α=esz):jP A esz k (enc l)=some (.ref (enc l[k])):=by
 have:=Wi (A:=A) esz (k:=(k:Int)) (l:=l) ⟨by omega,by simpa using h⟩ ab;simpa using this
end
mutual
/-- What every value in memory keeps to: whole numbers within their kind,slices no longer than a slice can be. -/
def I.wf:I→Prop
 | .agg fs=>I.gi fs
 | .int k n=>k.min≤n∧n≤k.max
 | .bP s=>s.size≤maxLen
 | .slice _ es=>es.length≤maxLen∧I.gi es
 | .ref c=>c.wf
 | .func _ caps=>I.gi caps
 | .iface _ v=>v.wf
 |_=>True
def I.gi:List I→Prop
 | []=>True
 |x::xs=>x.wf∧I.gi xs
end
mutual
theorem tE{w:World}{D:aP}{E:aZ} : ∀ (x:I) (cs:List Value),al w D E x cs→x.wf
 | .agg fs,cs,h=>by simp only[al,I.wf] at *;exact xf fs cs h
 | .int k n,cs,h=>by simp only[al,I.wf] at *;exact h.2
 | .bP s,cs,h=>by simp only[al,I.wf] at *;exact h.2
 | .slice sz es,cs,h=>by
  simp only[al,I.wf] at *;obtain ⟨a,cap,_,J,U,ah,_⟩:=h;refine ⟨by omega,?_⟩;rcases ah with rfl | ⟨b,off,cs',_,_,au⟩
  ·simp[I.gi]
  ·exact xf es cs' au
 | .ref c,cs,h=>by simp only[al,I.wf] at *;obtain ⟨b,off,cs',_,_,h⟩:=h;exact tE c cs' h
 | .func f caps,cs,h=>by simp only[al,I.wf] at *;obtain ⟨vs,_,h⟩:=h;exact pM caps vs h
 | .iface t v,cs,h=>by simp only[al,I.wf] at *;obtain ⟨u,cs',_,_,h⟩:=h;exact tE v cs' h
 | .bool _,_,_ | .nilp,_,_ | .dC,_,_ | .ea,_,_ | .any,_,_ | .raw _,_,_ | .nils _,_,_ | .c0 _,_,_ | .ptr _ _,_,_ | .own _ _,_,_ | .view _ _ _ _ _,_,_ | .mref _,_,_ | .dq _,_,_ | .dm _ _,_,_ | .undef,_,_ | .dv,_,_ | .tuple _,_,_=>by simp[I.wf]
theorem xf{w:World}{D:aP}{E:aZ} : ∀ (xs:List I) (cs:List Value),aM w D E xs cs→I.gi xs
 | [],_,_=>by simp[I.gi]
 |x::xs,cs,h=>by
  simp only[aM,I.gi] at *;obtain ⟨c1,c2,_,J,U⟩:=h;exact ⟨tE x c1 J,xf xs c2 U⟩
theorem pM{w:World}{D:aP}{E:aZ} : ∀ (xs:List I) (vs:List Value),aI w D E xs vs→I.gi xs
 | [],_,_=>by simp[I.gi]
 |x::xs,vs,h=>by
  simp only[aI,I.gi] at *;obtain ⟨v,rest,cs,_,_,J,U⟩:=h;exact ⟨tE x cs J,pM xs rest U⟩
end
theorem ZK{α:Type}[Enc α](l:List α):I.gi (l.map enc)↔∀ x∈l,(enc x:I).wf:=by
 induction l with
 |nil=>simp[I.gi]
 |cons x l ih=>simp[I.gi,ih]
theorem nt{α:Type}[Enc α](l:List α):(enc l:I).wf↔l.length≤maxLen∧∀ x∈l,(enc x:I).wf:=by
 simp only[hl,I.wf,Z9,ZK]
theorem bd.wf{P:Program}{f:FuncId}{args:List I}{r:I}(hc:e9 P f=true)(h:I.gi args→bd P f args r):bd P f args r :=
 ⟨hc,fun w D vs ao J U=>(h (pM _ _ U)).2 w D vs ao J U⟩
theorem bd.b6{P:Program}{f:FuncId}{fn:Func}{x:bq}{rs:List bM}{args:List I}{r:I}(hf:P.funcs[f]?=some fn)(hcall:e9 P f=true)(hc:(fn.body.bind (eB P fn.ntmps))=some x)
  (hrs:gS P fn.results.toList=some rs) (hn:args.length≤fn.ntmps) (h:I.gi args→∀ (w:World) (D:aP) (E:aZ),ae ⟨P,w,D,fn.ntmps,cI E,E,dy,none,none⟩ x (ku rs r) (av (bH 0 args) [])):bd P f args r :=
 bd.wf hcall fun hw=>bd.mk hf hcall hc hrs hn (h hw)
theorem kB{α:Type}[Enc α] :
  (∀ A (l:List α),jw A (enc l)=some (.int .i64 l.length))∧(∀ n (x:xS n α),(enc x).dR=some (x.l.map enc)) :=
 ⟨WG,fun _ _=>rfl⟩
end Go.Abs
namespace Go.Abs
open Go Go.RowKit
open Enc (enc)
def pt(neg:Bool):I→Option I
 | .nils _=>some (.bool (!neg))
 | .slice _ es=>if es.isEmpty then none else some (.bool neg)
 | .view _ _ _ _ _=>some (.bool neg)
 |_=>none
def B9:I→Option I
 | .bP s=>some (.int .i64 s.size)
 |_=>none
open Classical in
noncomputable def mr(n:Nat)(p:List Nat)(sz l0 k esz:Nat)(lo hi mx:Option I):Option (List I)→Option I
 |some fs=>if sz=esz then nk n p sz l0 k fs.length lo hi mx else none
 |none=>none
noncomputable def ji(A:ai)(esz:Nat)(lo hi mx:Option I):I→Option I
 | .slice sz es=>if sz=esz then iR sz es lo hi mx else none
 | .nils sz=>if sz=esz then iR sz [] lo hi mx else none
 | .c0 sz=>if sz=esz then iR sz [] lo hi mx else none
 | .view n p sz l0 k=>mr n p sz l0 k esz lo hi mx (fF (fo p (A.o n)))
 |_=>none
open Classical in
noncomputable def fm(esz:Nat):Option (List I)→Option I
 |some es=>if (es.all fun e=>e.size==esz)=true∧I.ca es=true then some (.slice esz es) else none
 |none=>none
open Classical in
noncomputable def p0(A:ai)(d:Option Nat)(e esz bytes n l T sz':Nat)(es:List I)(rest:List aH):I→cM
 | .slice sz ys=>if wN e esz bytes l sz ys T sz' es then az rest ((A.aS n (.bU e esz (es++ys))).aT d (.own n (es.length+ys.length))) else .fail
 |_=>.fail
open Classical in
noncomputable def oL(A:ai)(d:Option Nat)(e esz bytes:Nat)(z:I)(n l T:Nat)(xs:List Int)(rest:List aH):I→cM
 | .slice _ ys=>if wO e esz bytes l ys T xs z then az rest ((A.aS n (.dL e (xs++qy ys))).aT d (.own n (xs.length+ys.length))) else .fail
 |_=>.fail
noncomputable def pZ(A:ai)(d:Option Nat)(e esz bytes:Nat)(z:I)(n l:Nat)(x:I)(rest:List aH):Option aq→cM
 |some (.bU T sz' es)=>p0 A d e esz bytes n l T sz' es rest x
 |some (.dL T xs)=>oL A d e esz bytes z n l T xs rest x
 |_=>.fail
noncomputable def fJ(A:ai)(d:Option Nat)(e esz bytes:Nat)(z x:I)(rest:List aH):I→cM
 | .own n l=>pZ A d e esz bytes z n l x rest (A.o n)
 |s=>e7 A d esz bytes z s (eK A esz s) (eK A esz x) (az rest)
section
variable (d:Option Nat) (rest:List aH) (A:ai)
noncomputable def pw(neg:Bool)(x:I):Bool→cM
 |true=>.any (fun m=>m<2) (fun m=>az rest (A.aT d (.bool (m==0))))
 |false=>cP (pt neg x) (dk d rest A)
theorem XK(neg:Bool)(x:aO):bJ A d (.nilS neg x) rest=pw d rest A neg (ak A x) (jH (ak A x)):=by
 simp only[bJ,bl,bn];cases jH (ak A x)
 ·simp only[Z2,if_false,pw,pt];cases ak A x <;>rfl
 ·rfl
theorem XB(x:aO):bJ A d (.lenT x) rest=cP (B9 (ak A x)) (dk d rest A):=by
 simp only[bJ,bl,bn];cases ak A x <;>rfl
theorem XP(esz:Nat)(x:aO)(lo hi mx:Option aO):bJ A d (.sl esz x lo hi mx) rest=cP (ji A esz (lo.map (ak A)) (hi.map (ak A)) (mx.map (ak A)) (ak A x)) (dk d rest A):=by
 simp only[bJ,bl,bn];cases ak A x <;>try rfl
 rename_i n p sz l0 k;simp only[ji,lI,gT];cases fo p (A.o n) with
 |none=>rfl
 |some c=>cases c <;>simp only[fF,I.dR,mr] <;>(first | rfl | (split <;>rfl))
theorem Xm(T esz:Nat)(ps:List aO):bJ A d (.bs T esz ps) rest=cP (fm esz (b7 false A (ps.map (ak A)))) (dk d rest A):=by
 simp only[bJ,bl,bn];cases b7 false A (ps.map (ak A)) <;>simp only[fm] <;>rfl
theorem Xi(e esz bytes:Nat)(z:I)(s x:aO):bJ A d (.c9 e esz bytes z s x) rest=fJ A d e esz bytes z (ak A x) rest (ak A s):=by
 simp only[bJ,bl];generalize ak A s=s';generalize ak A x=x';cases s' <;>simp only[fJ]
 rename_i n l;cases x' <;>simp only <;>generalize A.o n=z <;>(cases z with
  |none=>rfl
  |some y=>cases y <;>simp only[pZ,p0,oL])
end
theorem CS :
  (∀ d rest A neg x,bJ A d (.nilS neg x) rest=pw d rest A neg (ak A x) (jH (ak A x)))∧(∀ d rest A neg x,pw d rest A neg x false=cP (pt neg x) (dk d rest A))∧(∀ z,jH (.nils z)=false)∧(∀ n p sz lo k,jH (.view n p sz lo k)=false)∧(∀ d rest A x,bJ A d (.lenT x) rest=cP (B9 (ak A x)) (dk d rest A)) ∧
  (∀ d rest A esz x lo hi mx,bJ A d (.sl esz x lo hi mx) rest=cP (ji A esz (lo.map (ak A)) (hi.map (ak A)) (mx.map (ak A)) (ak A x)) (dk d rest A)) ∧
  (∀ d rest A T esz ps,bJ A d (.bs T esz ps) rest=cP (fm esz (b7 false A (ps.map (ak A)))) (dk d rest A))∧(∀ d rest A e esz bytes z s x,bJ A d (.c9 e esz bytes z s x) rest=fJ A d e esz bytes z (ak A x) rest (ak A s)) ∧
  (∀ A d e esz bytes z x rest n l,fJ A d e esz bytes z x rest (.own n l)=pZ A d e esz bytes z n l x rest (A.o n))∧(∀ A d e esz bytes z n l x rest T sz es,pZ A d e esz bytes z n l x rest (some (.bU T sz es))=p0 A d e esz bytes n l T sz es rest x)∧(∀ A d e esz bytes z n l x rest T xs,pZ A d e esz bytes z n l x rest (some (.dL T xs))=oL A d e esz bytes z n l T xs rest x) ∧
  (∀ neg z,pt neg (.nils z)=some (.bool (!neg))) :=
 ⟨XK,fun _ _ _ _ _=>rfl,fun _=>rfl,fun _ _ _ _ _=>rfl,XB,XP,Xm,Xi,fun _ _ _ _ _ _ _ _ _ _=>rfl,fun _ _ _ _ _ _ _ _ _ _ _ _ _=>rfl,fun _ _ _ _ _ _ _ _ _ _ _ _=>rfl,fun _ _=>rfl⟩
theorem lZ(p:Nat→Bool)(xs ys:List I):I.ct p (xs++ys)=(I.ct p xs&&I.ct p ys):=by
 induction xs with
 |nil=>simp[I.ct]
 |cons x xs ih=>simp[I.ct,ih,Bool.and_assoc]
section
variable {α:Type} [Enc α]
theorem nA{A:ai}{d:Option Nat}(e:Nat)(esz bytes n:Nat){l:Nat}{es ys:List α}{rest:List aH}(ao:l=es.length)(ab:Enc.sz α=esz)(hy:ys≠[])(J:es.length+ys.length≤maxLen)(U:(es.length+ys.length)*bytes≤140737488355328) :
  p0 A d e esz bytes n l e esz (es.map enc) rest (enc ys)=az rest ((A.aS n (.bU e esz ((es++ys).map enc))).aT d (.own n (es++ys).length)):=by
 simp only[hl,p0];rw[if_pos ⟨by simpa using ao,ab,rfl,rfl,by simpa using hy,by simpa using J,by simpa using U⟩];simp
theorem p8(esz:Nat){ys:List α}(ab:Enc.sz α=esz):fm esz (some (ys.map enc))=some (enc ys):=by
 have J:((ys.map enc).all fun e:I=>e.size==esz)=true:=by
  simp only[zy1,zy0];rintro x ⟨y,_,rfl⟩;simp[Enc.size,ab]
 simp only[fm,hl];rw[if_pos ⟨J,iA ys⟩,ab]
theorem iw(esz:Nat)(y:α)(ab:Enc.sz α=esz):fm esz (some [enc y])=some (enc [y]):=p8 (ys:=[y]) esz ab
theorem oZ(sz:Nat){T k:Nat}{es:List α}(hk:k=es.length)(ab:Enc.sz α=sz):ke k (some (.bU T sz (es.map enc)))=some (enc es):=by
 simp only[ke,Z9];rw[if_pos ⟨hk,iA es⟩,hl,ab]
theorem fu(p:Nat→Bool)(l:List α):I.ct p (l.map enc)=true:=by
 induction l with
 |nil=>rfl
 |cons x l ih=>simp only[Z4,I.ct,cA,ih,Bool.and_self]
theorem WH(A:ai)(n k T sz:Nat)(es:List α)(ho:A.o n=some (.bU T sz (es.map enc)))(hk:k=es.length):jw A (.own n k)=some (.int .i64 es.length):=by
 simp only[jw,ho,Z9,hk,if_true]
end
theorem BP :
  (∀ n:Int,fm 1 (some [.int .i64 n])=some (enc [n]))∧(∀ (T:Nat) (es:List Int),ke es.length (some (.bU T 1 (es.map enc)))=some (enc es)) :=
 ⟨fun n=>iw 1 n rfl,fun _ _=>oZ 1 rfl rfl⟩
theorem bx.GP{A:ai}{d n T sz z:Nat}(af:A.t d=.nils z)(hn:A.o n=none)(hlt:n<1000000):bx A ((A.aS n (.bU T sz [])).put d (.own n 0)):=by
 rintro c a w ⟨D,E,h⟩;have aA:E n=none:=by have:=h.bO n;rw[hn] at this;exact this
 have ao:dY w D E w D (fun m=>if m=n then some (.rw none 0) else E m):=by
  have eN:∀ {m:Nat} {e:bL},E m=some e→(if m=n then some (.rw none 0) else E m)=some e:=fun {m e} he=>by
   have:m≠n:=fun e=>by rw[e,aA] at he;cases he
   rw[if_neg this];exact he
  refine ⟨fun _ _ h=>h,fun _ _ _ _ h=>h,fun m b aX he=>eN he,fun m aJ l he =>?_,fun m b he=>eN he,fun m b he=>eN he,fun _ _ _ _ h=>h⟩
  ·have:m≠n:=fun e=>by rw[e,aA] at he;cases he
   exact ⟨aJ,l,by simp only[if_neg this];exact he,Z3 _,fun _=>rfl⟩
 refine ⟨D,fun m=>if m=n then some (.rw none 0) else E m,h.sz,h.eD,fun t =>?_,h.dQ,h.cZ,h.aQ,fun m =>?_,fun m m' e e' b J U ah au =>?_,fun m e hm =>?_,h.eP,h.cR,h.eX,h.fx⟩
 ·simp only[ai.put,ai.aS];by_cases ht:t=d
  ·subst ht;simp only[if_true];have hv:=h.dU t;rw[af] at hv;obtain ⟨cs,q1,q2⟩:=hv;simp only[al] at q2;subst q2;refine ⟨[.slice none 0 0],by simpa[bB,I.isAgg] using q1,?_⟩;simp only[al,if_true];exact ⟨none,0,rfl,Z3 _,⟨_,_,_,rfl⟩,fun _=>trivial⟩
  ·simp only[if_neg ht];exact a8.later ao (h.dU t)
 ·simp only[ai.put,ai.aS];by_cases hm:m=n
  ·subst hm;simp only[if_true,cX];exact ⟨none,by simp,by simp,trivial⟩
  ·simp only[if_neg hm];exact (h.bO m).later ao (by simp only[if_neg hm]) fun _ _ _ _=>⟨rfl,fun _ ho=>ho⟩
 ·by_cases hm:m=n <;>by_cases hm':m'=n
  ·rw[hm,hm']
  ·simp only[if_pos hm,v6] at J;subst J;simp[bL.aJ] at ah
  ·simp only[if_pos hm',v6] at U;subst U;simp[bL.aJ] at au
  ·simp only[if_neg hm] at J;simp only[if_neg hm'] at U;exact h.cN m m' e e' b J U ah au
 ·have hmn:m≠n:=fun e=>by rw[e,h.kg (.inr hlt)] at hm;cases hm
  simp only[if_neg hmn];exact h.dV m e hm
theorem bx.pX{ts:List (Nat×I)}{os:List (Nat×aq)}(d n T sz z:Nat)(af:bW ts d=.nils z)(hn:aj os n=none){B:ai}(h:bx (av ((d,.own n 0)::ts) ((n,.bU T sz [])::os)) B)(hlt:n<1000000:=by decide):bx (av ts os) B :=
 ((bx.GP (A:=av ts os) (T:=T) (sz:=sz) af hn hlt).trans (by rw[qN,te];exact bx.refl _)).trans h
theorem CI:(∀ k n,bY none (.int k n)=true)∧(∀ b,bY none (.bool b)=true)∧(∀ z es,bY none (.slice z es)=true)∧(∀ f es,bY none (.func f es)=true)∧(∀ z,bY none (.nils z)=true)∧(∀ n k,bY none (.own n k)=true) :=
 ⟨fun _ _=>rfl,fun _=>rfl,fun _ _=>rfl,fun _ _=>rfl,fun _=>rfl,fun _ _=>rfl⟩
theorem bF:(type_of% @yj)∧(type_of% @CR)∧(type_of% @CS)∧(type_of% @BP)∧(type_of% @CI)∧(type_of% @Ft)∧(type_of% @AW)∧(type_of% @yz)∧(∀ n:Int,(enc n:I)=.int .i64 n)∧(∀ n:Bool,(enc n:I)=.bool n) ∧
  (∀ {α β:Type} (f:α→β) (x:α) (xs:List α),List.map f (x::xs)=f x::List.map f xs)∧(∀ {α β:Type} (f:α→β),List.map f []=[])∧(∀ {α:Type} (xs:List α),[]++xs=xs)∧(∀ n:Nat,(n:Int).toNat=n)∧(∀ {α β:Type} (f:α→β) (x:α),Option.map f (some x)=some (f x)) ∧
  (∀ n:Nat,0≤(n:Int))∧((!true)=false)∧((!false)=true)∧((false=true)=False)∧((true=false)=False) :=
 ⟨@yj,@CR,@CS,@BP,@CI,@Ft,@AW,@yz,eH,Mo,fun _ _ _=>rfl,fun _=>rfl,fun _=>rfl,fun _=>rfl,fun _ _=>rfl,fun n=>Int.natCast_nonneg n,rfl,rfl,by simp,by simp⟩
end Go.Abs
namespace Go.Abs
open Go Go.RowKit
open Enc (enc)
theorem kC.b6{P:Program}{f:FuncId}{fn:Func}{x:bq}{rs:List bM}{Y:Value→List I→List (Nat×aq)→cG→Prop}{args:List I}{os:List (Nat×aq)}{post:cG}(hf:P.funcs[f]?=some fn)(hcall:e9 P f=true)(hc:(fn.body.bind (eB P fn.ntmps))=some x)
  (hrs:gS P fn.results.toList=some rs) (hn:args.length≤fn.ntmps) (hn2:fn.ntmps≤1000000) (hos:∀ m,aw os m=true→1000000≤m) (h:I.gi args→∀ (w:World) (D:aP) (E:aZ),ae ⟨P,w,D,fn.ntmps,cI E,E,Y,none,none⟩ x (og rs post) (av (bH 0 args) os)):kC P f Y args os post:=by
 obtain ⟨body,hb,hc'⟩:=zx7.1 hc;refine ⟨hcall,fun w D E vs hy hD ho hv =>?_⟩;exact (kC.tm hf hb hcall hc' hrs hn (fun m hm=>⟨zw3 hn2 (hos m hm),hos m hm⟩) (fun w D E=>(h (pM _ _ hv) w D E).sub (tX args os))).2 w D E vs hy hD ho hv
theorem cS.b6{P:Program}{f:FuncId}{fn:Func}{x:bq}{rs:List bM}{args:List I}{os:List (Nat×aq)}{post:cG}(hf:P.funcs[f]?=some fn)(hcall:e9 P f=true)(hc:(fn.body.bind (eB P fn.ntmps))=some x)
  (hrs:gS P fn.results.toList=some rs) (hn:args.length≤fn.ntmps) (hn2:fn.ntmps≤1000000) (hos:∀ m,aw os m=true→1000000≤m) (h:I.gi args→∀ (w:World) (D:aP) (E:aZ),ae ⟨P,w,D,fn.ntmps,cI E,E,dy,none,none⟩ x (og rs post) (av (bH 0 args) os)):cS P f args os post :=
 cS.CC (kC.b6 hf hcall hc hrs hn hn2 hos h)
theorem BM{A:ai} : ∀ n x,aj [] n=some x→A.o n=some x∧x.only (aw [])=true∧x.ej=true:=fun n x h=>by simp[aj] at h
theorem Wd{A:ai}{k:Nat}{c:I}(J:A.o k=some (.box c))(U:∀ p,c.only p=true):∀ n x,aj [(k,.box c)] n=some x→A.o n=some x∧x.only (aw [(k,.box c)])=true∧x.ej=true:=fun n x h=>by
 simp only[aj] at h;split at h
 ·rename_i hn;subst hn;simp only[v6] at h;subst h;exact ⟨J,U _,rfl⟩
 ·cases h
theorem mL{k:Nat}{x:aq}{m:Nat} : aw [(k,x)] m=true↔m=k:=by
 simp only[aw,aj];split <;>simp_all
mutual
theorem rm(ρ:Nat→Nat):∀ x:I,x.bw=true→x.bm ρ=x
 | .agg fs,h=>by simp only[I.bm,I.bw] at *;rw[nf ρ fs h]
 | .slice _ es,h=>by simp only[I.bm,I.bw] at *;rw[nf ρ es h]
 | .ref x,h=>by simp only[I.bm,I.bw] at *;rw[rm ρ x h]
 | .func _ caps,h=>by simp only[I.bm,I.bw] at *;rw[nf ρ caps h]
 | .iface _ v,h=>by simp only[I.bm,I.bw] at *;rw[rm ρ v h]
 | .bool _,_ | .int _ _,_ | .bP _,_ | .nilp,_ | .dC,_ | .ea,_ | .any,_ | .raw _,_ | .nils _,_ | .c0 _,_=>by simp only[I.bm]
 | .dm ks vs,h=>by simp only[I.bm,I.bw,t8] at *;rw[nf ρ ks h.1,nf ρ vs h.2]
 | .ptr _ _,h | .own _ _,h | .view _ _ _ _ _,h | .mref _,h | .dq _,h | .undef,h | .dv,h | .tuple _,h=>by simp[I.bw] at h
theorem nf(ρ:Nat→Nat):∀ xs:List I,I.ca xs=true→I.dX ρ xs=xs
 | [],_=>rfl
 |x::xs,h=>by
  simp only[I.ca,t8] at h;simp only[I.dX,rm ρ x h.1,nf ρ xs h.2]
end
section
variable {α:Type} [Enc α]
theorem kT(ρ:Nat→Nat)(x:α):(enc x).bm ρ=enc x:=rm ρ _ (kQ x)
theorem tJ(ρ:Nat→Nat)(l:List α):I.dX ρ (l.map enc)=l.map enc:=nf ρ _ (iA l)
theorem np(A:ai)(esz:Nat)(l:List α)(ab:Enc.sz α=esz):eK A esz (enc l)=some (l.map enc):=by
 simp only[hl,eK,ab,if_true]
theorem ub(l:List α):jH (enc l)=l.isEmpty:=by
 simp only[hl,jH];cases l <;>rfl
theorem CA(neg:Bool)(l:List α)(h:l≠[]):pt neg (enc l)=some (.bool neg):=by
 simp only[hl,pt];cases l with
 |nil=>exact absurd rfl h
 |cons=>rfl
section
variable {P:Program} {Y:Value→List I→List (Nat×aq)→cG→Prop} {K:ai→Prop} {A:ai} {rest:List aH} {d:Nat} {e esz bytes:Nat} {q:Nat}
theorem aR.uD(z:α){l:List α}(ab:Enc.sz α=esz)(ao:l≠[])(hf:A.o d=none)(hb:l.length*bytes≤140737488355328)(hml:l.length≤maxLen)
  (h:∀ m,aR P Y false K (az rest ((A.aS d (.box (.agg ((l++List.replicate m z).map enc)))).aT (some d) (.view d [] esz 0 l.length)))):aR P Y false K (fJ A (some d) e esz bytes (enc z) (enc l) rest (.c0 q)):=by
 have hne:l.map (enc (α:=α))≠[]:=by simpa using ao
 have J:eK A esz (.c0 q)=some []:=rfl;simp only[fJ,J,np A esz l ab,e7,if_neg hne,fX,hf,List.length_nil,Z1,Z9,if_pos (y6 hb hml),zx6];refine .any rfl fun m _ =>?_;have:=h m;simp only[zz2,List.map_replicate] at this;exact this
theorem Hc(z:I)(ab:Enc.sz α=esz):fJ A (some d) e esz bytes z (enc ([]:List α)) rest (.c0 q)=az rest (A.aT (some d) (.c0 q)):=by
 have J:eK A esz (.c0 q)=some []:=rfl;simp only[fJ,J,np A esz ([]:List α) ab,e7,zy6,if_true]
theorem Xp(esz:Nat)(z:I)(x:aO)(rest:List aH)(A:ai):bJ A none (.jL esz z x) rest=oS A esz z (az rest) (ak A x):=rfl
theorem ZR{n:Nat}{p:List Nat}{sz k total i:Nat}(h:i≤total)(aY:0<total):nk n p sz 0 k total none (some (.int .i64 i)) none=some (.view n p sz 0 i):=by
 simp only[nk,jo];rw[if_pos ⟨by omega,by omega,by omega⟩,if_neg (by omega)];simp
theorem Wn{m:Nat}{p:List Nat}{sz lo l j:Nat}{fs:List I}(h:j<l):mM m p sz lo l sz (j:Int) (some fs)=some (.ptr m (p++[lo+j])):=by
 simp only[mM,true_and];rw[if_pos ⟨by omega,by omega⟩];simp
theorem vF{sz k:Nat}{xs:List α}(ab:Enc.sz α=sz):lM sz 0 k (some (xs.map enc))=some (enc (xs.take k)):=by
 have h:((xs.map (enc (α:=α))).drop 0).take k=(xs.take k).map enc:=by rw[List.drop_zero,List.map_take]
 simp only[lM,h];rw[if_pos (iA _),hl,ab]
end
end
theorem Wj(A:ai)(esz m:Nat)(p:List Nat)(sz lo l:Nat)(k:Int):jP A esz k (.view m p sz lo l)=mM m p sz lo l esz k (fF (fo p (A.o m))):=rfl
theorem WI(A:ai)(m:Nat)(p:List Nat)(sz lo l:Nat):jw A (.view m p sz lo l)=some (.int .i64 l):=rfl
theorem Zj(A:ai)(esz:Nat)(lo hi mx:Option I)(n:Nat)(p:List Nat)(l0 k:Nat):ji A esz lo hi mx (.view n p esz l0 k)=mr n p esz l0 k esz lo hi mx (fF (fo p (A.o n))):=rfl
theorem Zk(n:Nat)(p:List Nat)(sz l0 k:Nat)(lo hi mx:Option I)(fs:List I):mr n p sz l0 k sz lo hi mx (some fs)=nk n p sz l0 k fs.length lo hi mx:=by simp[mr]
theorem jk :
  (∀ A esz m p sz lo l k,jP A esz k (.view m p sz lo l)=mM m p sz lo l esz k (fF (fo p (A.o m))))∧(∀ A m p sz lo l,jw A (.view m p sz lo l)=some (.int .i64 l)) ∧
  (∀ A esz lo hi mx n p l0 k,ji A esz lo hi mx (.view n p esz l0 k)=mr n p esz l0 k esz lo hi mx (fF (fo p (A.o n))))∧(∀ n p sz l0 k lo hi mx fs,mr n p sz l0 k sz lo hi mx (some fs)=nk n p sz l0 k fs.length lo hi mx) ∧
  (∀ esz z x rest A,bJ A none (.jL esz z x) rest=oS A esz z (az rest) (ak A x))∧(∀ rest A d esz,bJ A d (.bs0 esz) rest=az rest (A.aT d (.c0 esz))) :=
 ⟨Wj,WI,Zj,Zk,Xp,fun _ _ _ _=>rfl⟩
theorem oh(rs:List bM)(post:cG)(A:ai):og rs post .ret A=iY rs post A:=rfl
theorem bx.jN{ts:List (Nat×I)}{os0:List (Nat×aq)}(ns:List Nat)(d:Nat){x y:I}(af:bW ts d=x)(h:bh true (av ts (mO ns os0)) x=some y)(ho:cJ (fun n => !ns.contains n) (eL ns os0)) :
  bx (av ts os0) (av ((d,y)::lL ns ts) (eL ns os0)):=by
 rintro c a w ⟨D,E,ab⟩;obtain ⟨D1,E1,hs1,hw⟩:=ab.Ba ns ho;have hu:er (av ts (mO ns os0)) (av ts os0):=fun n z hz=>by
  simp only[av,pj] at hz ⊢;split at hz
  ·exact hz
  ·cases hz
 have hx:x.bR=true:=by cases x <;>first | rfl | simp[bh] at h
 have hv:=ab.dU d;simp only[av] at hv;rw[af] at hv;have J:aI w D E [x] [a.tmps.getD d undef]:=lp [x] _ (.cons hv .nil) (by intro z hz;simp only[zy3] at hz;subst hz;exact hx);have U:=lN (E':=E1) ab hu hw [x] [y] _ J (by simp only[b7,h]);have ah:a8 w D1 E1 y (a.tmps.getD d undef):=by
  simp only[aI] at U;obtain ⟨v',rest,cs,e,k1,k2,_⟩:=U;simp only[zw2] at e;obtain ⟨e1,_⟩:=e;rw[e1];exact jx k1 k2
 refine ⟨D1,E1,hs1.sz,hs1.eD,fun t =>?_,hs1.dQ,hs1.cZ,hs1.aQ,hs1.bO,hs1.cN,hs1.dV,hs1.eP,hs1.cR,hs1.eX,hs1.fx⟩;simp only[av,bW];split
 ·rename_i ht;subst ht;exact ah
 ·exact hs1.dU t
theorem YD{w:World}{D:aP}{E:aZ}{p:List Nat}{c x y:I}{cs:List Value}(hr:al w D E c cs)(h:c.at p=some x)(hxy:∀ ds,al w D E x ds→al w D E y ds)(ab:y.aX=x.aX):al w D E (c.ez p y) cs∧(c.ez p y).aX=c.aX:=by
 obtain ⟨off,c1,c2,c3,J,rfl,U,ah⟩:=xe p c x cs hr h;obtain ⟨off',k1,k2,k3,k4⟩:=tD p c x y _ c2 hr h (hxy c2 ah) ab;rw[J,v6] at k1;subst k1;refine ⟨?_,k4⟩;have e:(c1++c2++c3).take off++c2++(c1++c2++c3).drop (off+c2.length)=c1++c2++c3:=by
  rw[zz0 c1 c2 c3,←U,List.take_left,List.drop_length_add_append,List.drop_left,zz0]
 rw[←e];exact k3
theorem bx.GQ{A:ai}{m n T sz z:Nat}{p:List Nat}{b:I}(hm:A.o m=some (.box b))(hp:b.at p=some (.nils z))(hn:A.o n=none)(hlt:n<1000000):bx A ((A.aS n (.bU T sz [])).aS m (.box (b.ez p (.own n 0)))):=by
 rintro c a w ⟨D,E,h⟩;have aA:E n=none:=by have:=h.bO n;rw[hn] at this;exact this
 have hmn:m≠n:=fun e=>by rw[e,hn] at hm;cases hm
 have ao:dY w D E w D (fun m=>if m=n then some (.rw none 0) else E m):=by
  have eN:∀ {m:Nat} {e:bL},E m=some e→(if m=n then some (.rw none 0) else E m)=some e:=fun {m e} he=>by
   have:m≠n:=fun e=>by rw[e,aA] at he;cases he
   rw[if_neg this];exact he
  refine ⟨fun _ _ h=>h,fun _ _ _ _ h=>h,fun m b aX he=>eN he,fun m aJ l he =>?_,fun m b he=>eN he,fun m b he=>eN he,fun _ _ _ _ h=>h⟩
  ·have:m≠n:=fun e=>by rw[e,aA] at he;cases he
   exact ⟨aJ,l,by simp only[if_neg this];exact he,Z3 _,fun _=>rfl⟩
 refine ⟨D,fun m=>if m=n then some (.rw none 0) else E m,h.sz,h.eD,fun t=>a8.later ao (h.dU t),h.dQ,h.cZ,h.aQ,fun k =>?_,fun m m' e e' b J U ah au =>?_,fun m e hm =>?_,h.eP,h.cR,h.eX,h.fx⟩
 ·simp only[ai.aS];by_cases hk:k=m
  ·subst hk;have ho:=h.bO k;rw[hm] at ho;obtain ⟨b',cs,T',J,U,ah,au,h5⟩:=ho;obtain ⟨q1,q2⟩:=YD (y:=.own n 0) (al.later ao _ _ au) hp (fun ds af=>by
    simp only[al] at af;subst af;simp only[al,if_true];exact ⟨none,0,rfl,Z3 _,⟨_,_,_,rfl⟩,fun _=>trivial⟩) rfl
   simp only[if_true,cX];exact ⟨b',cs,T',by rw[q2];simp only[if_neg hmn];exact J,U,ah,q1,h5⟩
  ·simp only[if_neg hk];by_cases hkn:k=n
   ·subst hkn;simp only[if_true,cX];exact ⟨none,by simp,by simp,trivial⟩
   ·simp only[if_neg hkn];exact (h.bO k).later ao (by simp only[if_neg hkn]) fun _ _ _ _=>⟨rfl,fun _ ho=>ho⟩
 ·by_cases hm:m=n <;>by_cases hm':m'=n
  ·rw[hm,hm']
  ·simp only[if_pos hm,v6] at J;subst J;simp[bL.aJ] at ah
  ·simp only[if_pos hm',v6] at U;subst U;simp[bL.aJ] at au
  ·simp only[if_neg hm] at J;simp only[if_neg hm'] at U;exact h.cN m m' e e' b J U ah au
 ·have hmn:m≠n:=fun e=>by rw[e,h.kg (.inr hlt)] at hm;cases hm
  simp only[if_neg hmn];exact h.dV m e hm
theorem bx.GR{ts:List (Nat×I)}{os:List (Nat×aq)}(m n T sz z:Nat)(p:List Nat)(b:I)(hm:aj os m=some (.box b))(hp:b.at p=some (.nils z))(hn:aj os n=none){B:ai}(h:bx (av ts ((m,.box (b.ez p (.own n 0)))::(n,.bU T sz [])::os)) B)(hlt:n<1000000:=by decide):bx (av ts os) B :=
 ((bx.GQ (A:=av ts os) (T:=T) (sz:=sz) hm hp hn hlt).trans (by rw[qN,qN];exact bx.refl _)).trans h
mutual
theorem iK{p q:Nat→Bool}(h:∀ n,p n=true→q n=true):∀ x:I,x.only p=true→x.only q=true
 | .agg fs,hx | .tuple fs,hx=>by simp only[I.only] at *;exact ig h fs hx
 | .slice _ es,hx=>by simp only[I.only] at *;exact ig h es hx
 | .ref x,hx=>by simp only[I.only] at *;exact iK h x hx
 | .func _ caps,hx=>by simp only[I.only] at *;exact ig h caps hx
 | .iface _ v,hx=>by simp only[I.only] at *;exact iK h v hx
 | .ptr _ _,hx | .own _ _,hx | .view _ _ _ _ _,hx | .mref _,hx | .dq _,hx=>by simp only[I.only] at *;exact h _ hx
 | .dm ks vs,hx=>by simp only[I.only,t8] at *;exact ⟨ig h ks hx.1,ig h vs hx.2⟩
 | .bool _,_ | .int _ _,_ | .bP _,_ | .nilp,_ | .dC,_ | .ea,_ | .any,_ | .raw _,_ | .nils _,_ | .c0 _,_ | .undef,_ | .dv,_=>by simp[I.only]
theorem ig{p q:Nat→Bool}(h:∀ n,p n=true→q n=true):∀ xs:List I,I.ct p xs=true→I.ct q xs=true
 | [],_=>rfl
 |x::xs,hx=>by
  simp only[I.ct,t8] at *;exact ⟨iK h x hx.1,ig h xs hx.2⟩
end
theorem aq.iK{p q:Nat→Bool}(h:∀ n,p n=true→q n=true)(x:aq)(hx:x.only p=true):x.only q=true:=by
 cases x with
 |box y=>simp only[aq.only] at *;exact Abs.iK h y hx
 |bU T sz es=>simp only[aq.only] at *;exact ig h es hx
 |dK o=>rfl
 |dL T xs=>rfl
 |bt ks vs=>simp only[aq.only,t8] at *;exact ⟨ig h ks hx.1,ig h vs hx.2⟩
 |it ks vs left cur=>simp only[aq.only,t8] at *;exact ⟨ig h ks hx.1,ig h vs hx.2⟩
theorem BS{x:I}(h:x.bw=true):x.bR=true:=by
 cases x <;>first | rfl | simp[I.bw] at h
theorem sk{aN:Bool}{A0:ai}{ρ:List (Nat×Nat)}{os:List (Nat×aq)} : ∀ xs:List I,I.ca xs=true→gR aN A0 ρ os xs xs
 | [],_=>trivial
 |x::xs,h=>by
  simp only[I.ca,t8] at h;exact ⟨.inl ⟨(rm _ x h.1).symm,kl _ x h.1,BS h.1⟩,sk xs h.2⟩
structure eY (os os':List (Nat×aq)):Prop where
 same:∀ m,aw os' m=aw os m
 ok:∀ m x,aj os' m=some x→x.only (aw os')=true∧x.ej=true
 lP:∀ m,aw os m=true→1000000≤m
def yc(P:Program)(g:FuncId)(caps:List I)(N:Nat)(item:Nat→List I):Prop :=
 ∀ (Y:Value→List I→List (Nat×aq)→cG→Prop) (v:Value) (bf:Nat→List (Nat×aq)→Prop) (Ix:List (Nat×aq)→Prop) (os:List (Nat×aq)),v.oneCell'=true →
  (∀ k os' post,k<N→bf k os'→(∀ r os2,(r=.bool true∧bf (k+1) os2)∨(r=.bool false∧Ix os2)→post r os2)→Y v (item k) os' post) →
  (∀ k os',bf k os'→eY os os')→(∀ os',Ix os'→eY os os')→bf 0 os→kC P g Y (.raw v::caps) os (fun r os'=>r=.tuple []∧(bf N os'∨Ix os'))
def ep(o:Obj)(os:List (Nat×aq)):List (Nat×aq):=(1999999,.dK o)::os
theorem kX(o:Obj)(os:List (Nat×aq))(m:Nat):aw (ep o os) m=(decide (m=1999999)||aw os m):=by
 simp only[ep,aw,aj];by_cases h:m=1999999 <;>simp[h]
theorem pk(o:Obj)(os:List (Nat×aq))(m:Nat):aj (ep o os) m=if m=1999999 then some (.dK o) else aj os m:=rfl
theorem eY.ep{os os':List (Nat×aq)}(h:eY os os')(o o':Obj):eY (ep o os) (ep o' os'):=by
 refine ⟨fun m=>by rw[kX,kX,h.same],fun m x hx =>?_,fun m hm =>?_⟩
 ·rw[pk] at hx;split at hx
  ·cases hx;exact ⟨rfl,rfl⟩
  ·obtain ⟨J,U⟩:=h.ok m x hx;exact ⟨x.iK (fun n hn=>by rw[kX,hn];simp) J,U⟩
 ·rw[kX] at hm;simp only[Bool.or_eq_true,decide_eq_true_eq] at hm;rcases hm with rfl | hm
  ·decide
  ·exact h.lP m hm
def tC:List Nat→List I→List (Nat×I)→List (Nat×I)
 |p::ps,v::vs,ts=>tC ps vs ((p,v)::ts)
 |_,_,ts=>ts
def nl(ρ:List (Nat×Nat))(p:Nat→Bool)(ts:List (Nat×I)):List (Nat×I)→Prop
 | []=>True
 |(k,v)::r=>bW ts k=v.bm (bI ρ)∧v.only p=true∧nl ρ p ts r
theorem E8{ρ:List (Nat×Nat)}{p:Nat→Bool}{ts:List (Nat×I)} : ∀ {tsR:List (Nat×I)},nl ρ p ts tsR→∀ k,bW tsR k=.dv∨(bW ts k=(bW tsR k).bm (bI ρ)∧(bW tsR k).only p=true)
 | [],_,k=>.inl rfl
 |(j,v)::r,h,k=>by
  simp only[nl] at h;simp only[bW];split
  ·rename_i hk;subst hk;exact .inr ⟨h.1,h.2.1⟩
  ·exact E8 h.2.2 k
section
variable {c:cT} {a:Act} {w:World} {D:aP} {E:aZ}
theorem aV.xE{A:ai}(h:aV c A a w D E){n b:Nat}{o o':Obj}(hn:A.o n=some (.dK o))(aA:E n=some (.op b))(ho:o9 o'=true):aV c (A.aS n (.dK o')) a (w.putObj b o') D E:=by
 have hob:=h.bO n;rw[hn] at hob;obtain ⟨b',k1,k2,k3,k4,k5⟩:=hob;rw[aA] at k1;cases k1;have hnc:o.isCells=false:=by cases o <;>first | rfl | cases k4
 have hlt:b<w.heap.size:=fG k3;have ao:dY w D E (w.putObj b o') D E:=⟨fun _ _ h=>h,fun b1 o1 v _ hv=>u5 k3 hnc hv,fun _ _ _ h=>h,fun _ aJ l h=>⟨aJ,l,h,Z3 _,fun _=>rfl⟩,fun _ _ h=>h,fun _ _ h=>h,fun b1 es ck af hm=>(World.putObj_heap_other (fun e1=>k5 0 (by rw[←e1];exact af))).trans hm⟩
 refine ⟨h.sz,h.eD.mono fun B _ hB=>(World.putObj_heap_other (fun e=>by rw[e,k3] at hB;cases hB;cases k4)).trans hB,fun t=>a8.later ao (h.dU t),h.dQ.trans ⟨rfl,rfl,rfl,by simp,fun k hk=>World.putObj_heap_other (fun e=>hk (e▸k2))⟩,h.cZ,
  fun b1 o1 af=>by have:=h.aQ b1 o1 af;simpa using this,fun m =>?_,h.cN,h.dV,h.eP,h.cR,h.eX,h.kA ao⟩
 simp only[ai.aS];by_cases hm:m=n
 ·subst hm;simp only[if_true,cX];exact ⟨b,aA,k2,World.putObj_heap_same hlt,ho,k5⟩
 ·simp only[if_neg hm];exact (h.bO m).later ao rfl fun e b1 he hb=>⟨World.putObj_heap_other (fun e1=>hm (h.cN m n e _ b1 he aA hb (by rw[e1];rfl))),fun _ ho=>ho⟩
theorem aV.Mn{A:ai}(h:aV c A a w D E){n b:Nat}(aA:E n=some (.op b)):aV c ⟨A.t,fun m=>if m=n then none else A.o m⟩ a w D (fun m=>if m=n then none else E m):=by
 have hne:∀ {m:Nat} {e:bL},E m=some e→(∀ b,e≠.op b)→m≠n:=fun he U e'=>by
  subst e';rw[aA] at he;cases he;exact U _ rfl
 have ao:dY w D E w D (fun m=>if m=n then none else E m):=by
  refine ⟨fun _ _ h=>h,fun _ _ _ _ h=>h,fun m b aX he =>?_,fun m aJ l he=>⟨aJ,l,?_,Z3 _,fun _=>rfl⟩,fun m b he =>?_,fun m b he =>?_,fun _ _ _ _ h=>h⟩
  ·simp only[if_neg (hne he (fun b=>by simp))];exact he
  ·simp only[if_neg (hne he (fun b=>by simp))];exact he
  ·simp only[if_neg (hne he (fun b=>by simp))];exact he
  ·simp only[if_neg (hne he (fun b=>by simp))];exact he
 refine ⟨h.sz,h.eD,fun t=>a8.later ao (h.dU t),h.dQ,h.cZ,h.aQ,fun m =>?_,fun m m' e e' b J U ah au =>?_,fun m e hm =>?_,h.eP,h.cR,h.eX,h.fx⟩
 ·by_cases hm:m=n
  ·simp only[hm,if_true,cX]
  ·simp only[if_neg hm];exact (h.bO m).later ao (by simp only[if_neg hm]) fun _ _ _ _=>⟨rfl,fun _ ho=>ho⟩
 ·split at J
  ·cases J
  ·split at U
   ·cases U
   ·exact h.cN m m' e e' b J U ah au
 ·by_cases hmn:m=n
  ·left;simp only[hmn,if_true]
  ·simp only[if_neg hmn];exact h.dV m e hm
theorem aV.enter{ts:List (Nat×I)}{os0:List (Nat×aq)}(h:aV c (av ts os0) a w D E)(hbase:c.e8=none)(hfree:aj os0 999999=none)(hE0:c.dh 999999=none){o:Obj}(ho:o9 o=true) :
  ∃ E1,aV c (av ts ((999999,.dK o)::os0)) { a with defers := { target:=.collected w.heap.size,args := #[] } :: a.defers } ((w.alloc (.deferred (some []))).alloc o) D E1∧E1 999999=some (.op (w.heap.size+1))∧∀ xs vs,aI w D E xs vs→aI ((w.alloc (.deferred (some []))).alloc o) D E1 xs vs:=by
 have hb:Below w.heap.size w ((w.alloc (.deferred (some []))).alloc o):=((Below.refl _ w).alloc (Z3 _) _).alloc (by simp) _;have J:=h.grow (D':=D) hb (fun _ _ h=>h) (fun _ _ h _=>h) (fun b o' af=>by have:=h.aQ b o' af;simp;omega);obtain ⟨W,hW⟩:∃ W,W=(w.alloc (.deferred (some []))).alloc o:=⟨_,rfl⟩
 have hL:W.heap[w.heap.size+1]?=some o:=by
  rw[hW];have:=World.alloc_heap_new (w.alloc (.deferred (some []))) o;rwa [World.size_alloc] at this
 have hK:W.heap[w.heap.size]?=some (.deferred (some [])):=by
  rw[hW];exact (Below.heap_alloc _ _ _ (by simp)).trans (World.alloc_heap_new w _)
 rw[←hW] at J hb ⊢;have hEn:E 999999=none:=by have:=h.bO 999999;simp only[av,hfree] at this;exact this
 have ao:dY W D E W D (fun m=>if m=999999 then some (.op (w.heap.size+1)) else E m):=by
  refine ⟨fun _ _ h=>h,fun _ _ _ _ h=>h,fun m b aX he =>?_,fun m aJ l he=>⟨aJ,l,?_,Z3 _,fun _=>rfl⟩,fun m b he =>?_,fun m b he =>?_,fun _ _ _ _ h=>h⟩
  all_goals
   have:m≠999999:=fun e=>by rw[e,hEn] at he;cases he
   simp only[if_neg this];exact he
 have hsz:c.fV.heap.size≤w.heap.size:=h.dQ.size;have nb:∀ {m:Nat} {e:bL} {b:Nat},E m=some e→e.aJ=some b→b<w.heap.size:=fun he hb'=>h.fY he hb';refine ⟨fun m=>if m=999999 then some (.op (w.heap.size+1)) else E m,⟨J.sz,?_,fun t=>a8.later ao (J.dU t),J.dQ,J.cZ,J.aQ,fun m =>?_,fun m m' e e' b g1 g2 g3 g4 =>?_,fun m e hm =>?_,J.eP,J.cR,J.eX,J.fx⟩,by simp,fun xs vs hx=>aI.later ao xs vs (aI.later (dY.grow hb fun _ _ h=>h) xs vs hx)⟩
 ·have hdf:=J.eD;rw[hbase] at hdf ⊢;obtain ⟨Bs,k1,k2,k3⟩:=hdf;refine ⟨w.heap.size::Bs,by simp only[Z4];rw[←k1],List.nodup_cons.2 ⟨fun hin =>?_,k2⟩,fun B hB =>?_⟩
  ·have hdf':=h.eD;rw[hbase] at hdf';obtain ⟨Bs',j1,_,j3⟩:=hdf';have e1:Bs=Bs':=by
    have:Bs.map (fun B=>({ target:=.collected B,args := #[] } : Deferred))=Bs'.map (fun B => { target:=.collected B,args := #[] }):=by rw[←k1,←j1]
    exact (List.map_inj_right (fun x y hxy=>by simpa using hxy)).1 this
   rw[e1] at hin;have:=fG (j3 _ hin).2;omega
  ·rcases zx3.1 hB with rfl | hB
   ·exact ⟨hsz,hK⟩
   ·exact k3 B hB
 ·simp only[av,aj];by_cases hm:m=999999
  ·subst hm;simp only[if_true,cX];exact ⟨_,rfl,.inl (by omega),hL,ho,fun o' af=>by have:=h.aQ _ o' af;omega⟩
  ·simp only[if_neg hm];exact (J.bO m).later ao (by simp only[if_neg hm]) fun _ _ _ _=>⟨rfl,fun _ ho=>ho⟩
 ·by_cases hm:m=999999 <;>by_cases hm':m'=999999
  ·rw[hm,hm']
  ·simp only[if_pos hm,v6] at g1;simp only[if_neg hm'] at g2;subst g1;simp only[bL.aJ,v6] at g3;have:=nb g2 g4;omega
  ·simp only[if_neg hm] at g1;simp only[if_pos hm',v6] at g2;subst g2;simp only[bL.aJ,v6] at g4;have:=nb g1 g3;omega
  ·simp only[if_neg hm] at g1;simp only[if_neg hm'] at g2;exact h.cN m m' e e' b g1 g2 g3 g4
 ·have hmn:m≠999999:=fun e=>by rw[e,hE0] at hm;cases hm
  simp only[if_neg hmn];exact h.dV m e hm
theorem cX.h4{M M':Nat→Prop}{n:Nat}{x:Option aq}(h:cX M w D E n x)(hM:∀ e b,E n=some e→e.aJ=some b→M' b):cX M' w D E n x:=by
 unfold cX at *;split
 ·exact h
 ·obtain ⟨b,cs,T,J,_,ah⟩:=h;exact ⟨b,cs,T,J,hM _ b J rfl,ah⟩
 ·obtain ⟨aJ,J,U,ah⟩:=h;refine ⟨aJ,J,U,?_⟩;split
  ·exact ah
  ·obtain ⟨cs,pre,rest,_,au⟩:=ah;exact ⟨cs,pre,rest,hM _ _ J rfl,au⟩
 ·obtain ⟨b,J,_,ah⟩:=h;exact ⟨b,J,hM _ b J rfl,ah⟩
 ·obtain ⟨b,es,ck,J,_,ah⟩:=h;exact ⟨b,es,ck,J,hM _ b J rfl,ah⟩
 ·obtain ⟨r,b,es,ck,si,se,la,J,_,ah⟩:=h;exact ⟨r,b,es,ck,si,se,la,J,hM _ r J rfl,ah⟩
 ·obtain ⟨aJ,J,U,ah⟩:=h;refine ⟨aJ,J,U,?_⟩;split
  ·exact ah
  ·obtain ⟨cs,m,_,au⟩:=ah;exact ⟨cs,m,hM _ _ J rfl,au⟩
theorem aV.C8{os:List (Nat×aq)} : ∀ (ps:List Nat) (vs:List Value) (xs:List I) (ts:List (Nat×I)) (a:Act),aV c (av ts os) a w D E→(∀ p∈ps,p<c.n)→aI w D E xs vs→ps.length=vs.length →
  aV c (av (tC ps xs ts) os) { a with tmps:=(ps.zip vs).foldl (fun t q=>t.setIfInBounds q.1 q.2) a.tmps } w D E
 | [],[],xs,ts,a,h,_,hv,_=>by
  cases xs with
  |nil=>exact h
  |cons x xs=>simp[aI] at hv
 | [],_::_,_,_,_,_,_,_,ao=>by simp at ao
 |_::_,[],_,_,_,_,_,_,ao=>by simp at ao
 |p::ps,v::vs,xs,ts,a,h,hp,hv,ao=>by
  cases xs with
  |nil=>simp[aI] at hv
  |cons x xs =>
   simp only[aI] at hv;obtain ⟨v',rest,cs,e,J,U,ah⟩:=hv;simp only[zw2] at e;obtain ⟨rfl,rfl⟩:=e;have au:=h.put (hp p (by simp)) (jx J U);rw[te] at au;have:=aV.C8 ps vs xs ((p,x)::ts) (a.put (some p) v) au (fun q hq=>hp q (by simp[hq])) ah (by simpa using ao);exact this
end
end Go.Abs
namespace Go.Abs
open Go Go.RowKit
def iS:bQ→Bool
 | .mv _ | .pick .. | .bin .. | .eqv .. | .conv .. | .un .. | .fl .. | .ix .. | .lenT _ | .bld .. | .ext .. | .mk .. | .nilC _ | .ptrE .. | .max2 .. =>true
 | .ld .. | .fa .. | .ia .. | .is .. | .len _ | .va .. | .bs .. | .sl .. | .cap _ | .bs0 _ | .lk .. =>true
 |_=>false
def mU:bQ→Bool
 | .alloc _ | .box _ | .aU .. | .call .. | .fL .. | .c9 .. =>true
 |op=>iS op
def ph(ab:List FuncId):bQ→Bool
 | .alloc _ | .box _=>true
 | .call f _ => !ab.contains f
 |op=>iS op
abbrev ec:=List (Nat×List Nat)
def hJ(L:ec)(s:Nat):Option (List Nat):=(L.find? fun q=>q.1==s).map (·.2)
def cU(L:ec)(A:ai):Prop:=∀ s ns,hJ L s=some ns→(A.t s).only (fun n=>ns.contains n)=true
def qG(L:ec):aO→Option (List Nat)
 | .t s=>hJ L s
 | .c x=>if x.bw then some [] else none
def tY(a:Option (List Nat))(ns:List Nat):Bool:=match a with
 |some ms=>ms.all fun m=>ns.contains m
 |none=>false
def hP(L:ec)(g:aH):Bool:=match g.dst with
 |none=>true
 |some d=>match hJ L d with
  |none=>true
  |some ns=>match g.op with
   | .mv x | .nilC x | .fa _ _ x | .ia _ _ x _=>tY (qG L x) ns
   | .bin .. | .len _ | .bs .. | .bs0 _ | .conv .. | .lenT _=>true
   | .box _ | .alloc _=>ns.contains d
   |_=>false
def mR:bQ→Option (List Nat)
 | .ld _ (.t x) | .fa _ _ (.t x) | .ia _ _ (.t x) _ | .is _ (.t x) _ | .len (.t x) | .va _ _ (.t x) | .sl _ (.t x) _ _ _ | .cap (.t x) | .lk _ _ _ (.t x) _=>some [x]
 | .bs _ _ ps=>if (ps.all fun x=>match x with | .t _=>true | .c _=>false)=true then some (jF ps) else none
 | .bs0 _=>some []
 |op=>if op.gJ=0∧iS op=true then some [] else none
def sh(L:ec)(g:aH)(p:Nat→Bool):Bool:=match mR g.op with
 |some xs=>xs.all fun s=>match hJ L s with | some ns=>ns.all p | none=>false
 |none=>false
def nZ(ab:List FuncId)(L:ec)(g h:aH):Bool:=ph ab h.op||match h.op with
 | .aU _ (.t y) _=>match mR g.op with
  |some []=>true
  |_=>match hJ L y with
   |some ms=>sh L g fun n => !ms.contains n
   |none=>false
 | .aU .. =>match mR g.op with
  |some []=>true
  |_=>false
 | .c9 _ _ _ _ s _=>sh L g (fun _=>false)||tY (qG L s) []
 |_=>false
def mK(ab:List FuncId)(L:ec)(g h:aH):Bool:=iS g.op&&(nZ ab L g h&&((match g.dst with
  |some d => !h.c7.contains d&&h.dst != some d
  |none=>true)&&(match h.dst with
  |some d => !g.c7.contains d
  |none=>true)))
theorem vU{op:bQ}(h:iS op=true)(A:ai)(dst:Option Nat)(rest:List aH)(k:ai→cM):bl A dst op rest k=cP (bn A op) fun v=>k (A.aT dst v):=by
 cases op <;>first | rfl | cases h
inductive bN (P:Program) (Y:Value→List I→List (Nat×aq)→cG→Prop) (ab:List FuncId) (K:ai→Prop):cM→Prop where
 |done {A:ai} : K A→bN P Y ab K (.done A)
 |flat {f:FuncId} {avs cargs:List I} {a2:Option (List I)} {dst:Option Nat} {rest:List aH} {A:ai} (r:I):bd P f cargs r→r.flat=true→bN P Y ab K (az rest (A.aT dst r))→bN P Y ab K (.call f avs (some cargs) a2 dst rest A)
 |lead {f:FuncId} {avs cargs:List I} {a1:Option (List I)} {dst:Option Nat} {rest:List aH} {A:ai} (r:I):bd P f cargs r→bN P Y ab K (az rest (A.aT dst r))→bN P Y ab K (.call f avs a1 (some cargs) dst rest A)
 |bO {f:FuncId} {avs:List I} {a1 a2:Option (List I)} {dst:Option Nat} {rest:List aH} {ts:List (Nat×I)} {os0:List (Nat×aq)} (ρ:List (Nat×Nat)) (cargs:List I) (post:cG):cS P f cargs [] post →
   gl ρ [] os0→gR false (av ts os0) ρ [] avs cargs→(∀ r os',post r os'→gG false ρ [] os0 r os') →
   (∀ r os',post r os'→bN P Y ab K (az rest ((av ts (dF ρ os'++os0)).aT dst (r.bm (bI ρ)))))→bN P Y ab K (.call f avs a1 a2 dst rest (av ts os0))
 |any {p:Nat→Prop} {k:Nat→cM} : (∀ m,p m→bN P Y ab K (k m))→bN P Y ab K (.any p k)
 |wL {f:FuncId} {avs:List I} {a1 a2:Option (List I)} {dst:Option Nat} {rest:List aH} {ts:List (Nat×I)} {os0:List (Nat×aq)} (aN:Bool) (ρ:List (Nat×Nat)) (os:List (Nat×aq)) (cargs:List I) (post:cG):ab.contains f=true→cS P f cargs os post →
   gl ρ os os0→gR aN (av ts (eL (iI ρ os) os0)) ρ os avs cargs→(∀ r os',post r os'→gG aN ρ os os0 r os') →
   (∀ r os',post r os'→bN P Y ab K (az rest ((av ts (dF ρ os'++os0)).aT dst (r.bm (bI ρ)))))→bN P Y ab K (.call f avs a1 a2 dst rest (av ts os0))
 |Fw {v:Value} {avs:List I} {dst:Option Nat} {rest:List aH} {ts:List (Nat×I)} {os0:List (Nat×aq)} (os:List (Nat×aq)) (cargs:List I) (post:cG):Y v cargs os post →
   gl [] os os0→gR false (av ts (eL (iI [] os) os0)) [] os avs cargs→(∀ r os',post r os'→gG false [] os os0 r os') →
   (∀ r os',post r os'→bN P Y ab K (az rest ((av ts (dF [] os'++os0)).aT dst (r.bm (bI [])))))→bN P Y ab K (.kN v avs dst rest (av ts os0))
theorem AD(os:List (Nat×aq)):eL [] os=os:=by simp[eL]
section
variable {P:Program} {ab:List FuncId} {K:ai→Prop} {Y:Value→List I→List (Nat×aq)→cG→Prop}
theorem bN.yk{p:Nat→Prop}{k:Nat→cM}(h:bN P Y ab K (.any p k)):∀ m,p m→bN P Y ab K (k m):=by cases h;assumption
theorem cU.put{L:ec}{A B:ai}(h:cU L A)(ht:∀ k,B.t k=A.t k){dst:Option Nat}{v:I}(hv:∀ d,dst=some d→∀ ns,hJ L d=some ns→v.only (fun n=>ns.contains n)=true):cU L (B.aT dst v):=by
 intro s ns hs';cases dst with
 |none=>exact (ht s).symm▸h s ns hs'
 |some d =>
  simp only[ai.aT,ai.put];by_cases af:s=d
  ·rw[if_pos af];exact hv d rfl ns (af▸hs')
  ·rw[if_neg af,ht];exact h s ns hs'
theorem rI{L:ec}{A:ai}(h:cU L A){x:aO}{ns:List Nat}(hx:tY (qG L x) ns=true):(ak A x).only (fun n=>ns.contains n)=true:=by
 cases x with
 |c x =>
  simp only[qG] at hx;split at hx
  ·rename_i hc;exact kl _ x hc
  ·cases hx
 |t s =>
  simp only[qG] at hx;cases ao:hJ L s with
  |none=>rw[ao] at hx;cases hx
  |some ms =>
   rw[ao] at hx;simp only[tY,zy1] at hx;exact iK (fun n hn=>hx n (by simpa using hn)) _ (h s ms ao)
theorem Hz{op:BinOp}{x y v:I}(p:Nat→Bool)(h:cD op x y=some v):v.only p=true:=by
 unfold cD at h
 (repeat' split at h) <;>first | (cases h;done) | (simp only[v6] at h;subst h;rfl)
theorem wT{p:Nat→Bool} : ∀ {xs:List I} {i:Nat} {x:I},I.ct p xs=true→xs[i]?=some x→x.only p=true
 | [],_,_,_,h=>by simp at h
 |a::xs,0,x,h,e=>by
  simp only[I.ct,t8] at h;simp only[List.getElem?_cons_zero,v6] at e;exact e▸h.1
 |a::xs,i+1,x,h,e=>by
  simp only[I.ct,t8] at h;exact wT (xs:=xs) h.2 (by simpa using e)
theorem CG{L:ec}{A:ai}{g:aH}(h:cU L A)(hg:hP L g=true){v:I}(hv:bn A g.op=some v):∀ d,g.dst=some d→∀ ns,hJ L d=some ns→v.only (fun n=>ns.contains n)=true:=by
 intro d af ns hn;obtain ⟨dst,op,gd⟩:=g;simp only at af hv;subst af;simp only[hP,hn] at hg;cases op <;>simp only at hg <;>(try (cases hg;done)) <;>simp only[bn] at hv <;>(try (cases hv;done))
 case mv x=>simp only[v6] at hv;exact hv▸rI h hg
 case nilC x =>
  have:=rI h hg;generalize ak A x=u at hv this;cases u <;>simp only[lW] at hv <;>first | (cases hv;done) | (simp only[v6] at hv;exact hv▸this)
 case bin op x y=>exact Hz _ hv
 case conv k x=>split at hv <;>first | (cases hv;done) | (simp only[v6] at hv;subst hv;rfl)
 case lenT x=>split at hv <;>first | (cases hv;done) | (simp only[v6] at hv;subst hv;rfl)
 case len x=>(repeat' split at hv) <;>first | (cases hv;done) | (simp only[v6] at hv;subst hv;rfl)
 case bs0 e=>simp only[v6] at hv;subst hv;rfl
 case bs e ps =>
  split at hv
  ·split at hv
   ·rename_i hc;simp only[v6] at hv;subst hv;simp only[I.only];exact nX _ _ hc.2
   ·cases hv
  ·cases hv
 case fa f off x =>
  have hx:=rI h hg;split at hv
  ·rename_i fs he;rw[he] at hx;simp only[I.only] at hx;split at hv
   ·rename_i u hu;split at hv
    ·simp only[v6] at hv;subst hv;simp only[I.only];exact wT hx hu
    ·cases hv
   ·cases hv
  ·rename_i n q he;rw[he] at hx;simp only[I.only] at hx;split at hv
   ·split at hv
    ·simp only[v6] at hv;subst hv;simpa only[I.only] using hx
    ·cases hv
   ·cases hv
  ·cases hv
 case ia n esz x i =>
  have hx:=rI h hg;split at hv
  case h_2=>cases hv
  split at hv
  case isFalse=>cases hv
  split at hv
  ·rename_i fs he;rw[he] at hx;simp only[I.only] at hx;split at hv
   ·simp only[t7] at hv;obtain ⟨u,hu,rfl⟩:=hv;simp only[I.only];exact wT hx hu
   ·cases hv
  ·rename_i m q he;rw[he] at hx;simp only[I.only] at hx;split at hv
   ·split at hv
    ·simp only[v6] at hv;subst hv;simpa only[I.only] using hx
    ·cases hv
   ·cases hv
  ·cases hv
def gu(A:ai)(dst:Option Nat)(s:I)(B:ai):Prop:=(∀ t,dst≠some t→B.t t=A.t t)∧(s.only (fun _=>false)=true→er A B)
def nu(A:ai)(dst:Option Nat)(s:I)(R:(ai→cM)→cM):Prop :=
 (∀ k,R k=.fail)∨(∃ B,(∀ k,R k=k B)∧gu A dst s B)∨∃ (p:Nat→Prop) (bE:Nat→ai),(∀ k,R k=.any p fun m=>k (bE m))∧∀ m,gu A dst s (bE m)
theorem re{A B:ai}{dst:Option Nat}{v:I}{t:Nat}(ht:∀ k,B.t k=A.t k)(h:dst≠some t):(B.aT dst v).t t=A.t t:=by
 cases dst with
 |none=>exact ht t
 |some d =>
  have:t≠d:=fun e=>h (by rw[e]);simp only[ai.aT,ai.put,if_neg this];exact ht t
theorem G3(A:ai)(dst:Option Nat)(esz bytes:Nat)(z s:I)(es ys:List I):nu A dst s (fX A dst esz bytes z es ys):=by
 cases dst with
 |none=>exact .inl fun _=>rfl
 |some d =>
  cases ho:A.o d with
  |some y=>exact .inl fun k=>by simp only[fX,ho]
  |none =>
   by_cases hc:(es.length+ys.length)*bytes≤140737488355328∧es.length+ys.length≤maxLen
   ·refine .inr (.inr ⟨_,fun m=>(A.aS d (.box (.agg (es++(ys++List.replicate m z))))).aT (some d) (.view d [] esz 0 (es.length+ys.length)),fun k=>by simp only[fX,ho];rw[if_pos hc],fun m=>⟨fun t ht=>re (A:=A) (B:=A.aS d _) (fun _=>rfl) ht,fun _ n y hy =>?_⟩⟩);have:n≠d:=fun e=>by rw[e,ho] at hy;cases hy
    rw[il];simp only[ai.aS,if_neg this];exact hy
   ·exact .inl fun k=>by simp only[fX,ho];rw[if_neg hc]
theorem G8(A:ai)(dst:Option Nat)(esz bytes:Nat)(z s:I)(es ys:Option (List I)):nu A dst s (e7 A dst esz bytes z s es ys):=by
 cases es with
 |none=>exact .inl fun _=>rfl
 |some es =>
  cases ys with
  |none=>exact .inl fun _=>rfl
  |some ys =>
   by_cases aY:ys=[]
   ·exact .inr (.inl ⟨A.aT dst s,fun k=>by simp only[e7,if_pos aY],fun t ht=>re (A:=A) (fun _=>rfl) ht,fun _ n y hy=>by rw[il];exact hy⟩)
   ·have gg:=fun s'=>G3 A dst esz bytes z s' es ys;cases s
    case nils=>simp only[nu,e7,if_neg aY];exact gg _
    case c0=>simp only[nu,e7,if_neg aY];exact gg _
    case view n p sz lo l =>
     cases ho:A.o n with
     |none=>exact .inl fun k=>by simp only[e7,if_neg aY,ho]
     |some y =>
      cases y with
      |box b =>
       cases hb:b.at p with
       |none=>exact .inl fun k=>by simp only[e7,if_neg aY,ho,hb]
       |some c =>
        cases c
        case agg fs =>
         by_cases J:lo+l+ys.length≤fs.length
         ·by_cases U:sz=esz∧I.cV ys=I.cV ((fs.drop (lo+l)).take ys.length)
          ·exact .inr (.inl ⟨(A.aS n (.box (jh b p (lo+l) fs ys))).aT dst (.view n p esz lo (l+ys.length)),fun k=>by simp only[e7,if_neg aY,ho,hb,if_pos J];rw[if_pos U],fun t ht=>re (A:=A) (B:=A.aS n _) (fun _=>rfl) ht,fun h=>by simp[I.only] at h⟩)
          ·exact .inl fun k=>by simp only[e7,if_neg aY,ho,hb,if_pos J];rw[if_neg U]
         ·simp only[nu,e7,if_neg aY,ho,hb,if_neg J];exact gg _
        all_goals exact .inl fun k=>by simp only[e7,if_neg aY,ho,hb]
      |_=>exact .inl fun k=>by simp only[e7,if_neg aY,ho]
    all_goals exact .inl fun k=>by simp only[e7,if_neg aY]
theorem yn(A:ai)(dst:Option Nat)(e esz bytes:Nat)(z:I)(s x:aO)(rest:List aH):nu A dst (ak A s) (bl A dst (.c9 e esz bytes z s x) rest):=by
 generalize ab:ak A s=xO;cases xO
 case own n l =>
  cases hx:ak A x
  case slice sz ys =>
   cases ho:A.o n with
   |none=>exact .inl fun k=>by simp only[bl,ab,hx,ho]
   |some y =>
    cases y with
    |bU T sz' es =>
     by_cases hc:wN e esz bytes l sz ys T sz' es
     ·exact .inr (.inl ⟨(A.aS n (.bU e esz (es++ys))).aT dst (.own n (es.length+ys.length)),fun k=>by simp only[bl,ab,hx,ho];rw[if_pos hc],fun t ht=>re (A:=A) (B:=A.aS n _) (fun _=>rfl) ht,fun h=>by simp[I.only] at h⟩)
     ·exact .inl fun k=>by simp only[bl,ab,hx,ho];rw[if_neg hc]
    |dL T xs =>
     by_cases hc:wO e esz bytes l ys T xs z
     ·exact .inr (.inl ⟨(A.aS n (.dL e (xs++qy ys))).aT dst (.own n (xs.length+ys.length)),fun k=>by simp only[bl,ab,hx,ho];rw[if_pos hc],fun t ht=>re (A:=A) (B:=A.aS n _) (fun _=>rfl) ht,fun h=>by simp[I.only] at h⟩)
     ·exact .inl fun k=>by simp only[bl,ab,hx,ho];rw[if_neg hc]
    |_=>exact .inl fun k=>by simp only[bl,ab,hx,ho]
  all_goals exact .inl fun k=>by simp only[bl,ab,hx]
 all_goals (simp only[nu,bl,ab];exact G8 ..)
theorem w9{A:ai}{d:Nat}{v:I}{n:Nat}{y:aq}{dst:Option Nat}{u:I}(h:dst≠some d):((A.put d v).aS n y).aT dst u=((A.aS n y).aT dst u).put d v:=by
 cases dst with
 |none=>rfl
 |some e =>
  have:e≠d:=fun he=>h (by rw[he]);simp only[ai.aT,ai.put,ai.aS,ai.mk.injEq,and_true]
  funext k
  by_cases J:k=e <;>by_cases U:k=d <;>simp_all
theorem YA{A:ai}{d:Nat}{v:I}{dst:Option Nat}{u:I}(h:dst≠some d):(A.put d v).aT dst u=(A.aT dst u).put d v:=by
 cases dst with
 |none=>rfl
 |some e =>
  have:e≠d:=fun he=>h (by rw[he]);simp only[ai.aT,ai.put,ai.mk.injEq,and_true]
  funext k
  by_cases J:k=e <;>by_cases U:k=d <;>simp_all
theorem G4{A:ai}{d:Nat}{v:I}{dst:Option Nat}(h:dst≠some d)(esz bytes:Nat)(z:I)(es ys:List I)(k:ai→cM):fX (A.put d v) dst esz bytes z es ys k=fX A dst esz bytes z es ys fun B=>k (B.put d v):=by
 cases dst with
 |none=>rfl
 |some e =>
  simp only[fX];have:(A.put d v).o=A.o:=rfl;rw[this];cases A.o e with
  |some _=>rfl
  |none =>
   simp only;split
   ·simp only[w9 h]
   ·rfl
theorem G9{A:ai}{d:Nat}{v:I}{dst:Option Nat}(h:dst≠some d)(esz bytes:Nat)(z s:I)(es ys:Option (List I))(k:ai→cM):e7 (A.put d v) dst esz bytes z s es ys k=e7 A dst esz bytes z s es ys fun B=>k (B.put d v):=by
 have ho:(A.put d v).o=A.o:=rfl;cases es with
 |none=>rfl
 |some es =>
  cases ys with
  |none=>rfl
  |some ys =>
   simp only[e7];split
   ·rw[YA h]
   ·cases s <;>simp only[G4 h,ho]
    rename_i n p sz lo l;cases A.o n with
    |none=>rfl
    |some y =>
     cases y with
     |box b =>
      simp only;cases b.at p with
      |none=>rfl
      |some c =>
       cases c <;>simp only[w9 h]
     |_=>rfl
theorem Hd{A:ai}{d:Nat}{v:I}{dst:Option Nat}(h:dst≠some d){e esz bytes:Nat}{z:I}{s x:aO}(hag:eg A (A.put d v) (s.sl++x.sl))(rest rest':List aH)(k:ai→cM) :
  bl (A.put d v) dst (.c9 e esz bytes z s x) rest k=bl A dst (.c9 e esz bytes z s x) rest' fun B=>k (B.put d v):=by
 have ho:(A.put d v).o=A.o:=rfl;have hsrc:∀ y,eK (A.put d v) esz y=eK A esz y:=fun y=>by cases y <;>rfl
 simp only[bl,de hag.l,de hag.r,hsrc];cases ak A s <;>simp only[G9 h]
 rename_i n l;cases ak A x <;>simp only[ho]
 cases A.o n with
 |none=>rfl
 |some y=>cases y <;>simp only[w9 h]
theorem bN.Aa{L:ec}{f:FuncId}{avs:List I}{a1 a2:Option (List I)}{dst:Option Nat}{rest:List aH}{A:ai}(hi:cU L A)(af:∀ d,dst=some d→hJ L d=none)(h:bN P Y ab K (.call f avs a1 a2 dst rest A)) :
  aR P Y false (fun B=>bN P Y ab K (az rest B)∧cU L B) (.call f avs a1 a2 dst [] A):=by
 have no:∀ {v:I},∀ d,dst=some d→∀ ns,hJ L d=some ns→v.only (fun n=>ns.contains n)=true:=fun d e ns hn=>by rw[af d e] at hn;cases hn
 cases h with
 |flat r hc hf hw=>exact .flat r hc hf (.done ⟨hw,hi.put (fun _=>rfl) no⟩)
 |lead r hc hw=>exact .lead r hc (.done ⟨hw,hi.put (fun _=>rfl) no⟩)
 |bO ρ cargs post hc hg ha hb hw=>exact .bO false ρ [] cargs post rfl hc hg (by simp only[iI,zy6,AD];exact ha) hb fun r os' hp=>.done ⟨hw r os' hp,hi.put (B:=av _ (dF ρ os'++_)) (fun _=>rfl) no⟩
 |wL aN ρ os cargs post _ hc hg ha hb hw=>exact .bO aN ρ os cargs post rfl hc hg ha hb fun r os' hp=>.done ⟨hw r os' hp,hi.put (B:=av _ (dF ρ os'++_)) (fun _=>rfl) no⟩
theorem bN.I3{L:ec}{v:Value}{avs:List I}{dst:Option Nat}{rest:List aH}{A:ai}(hi:cU L A)(af:∀ d,dst=some d→hJ L d=none)(h:bN P Y ab K (.kN v avs dst rest A)) :
  aR P Y false (fun B=>bN P Y ab K (az rest B)∧cU L B) (.kN v avs dst [] A):=by
 have no:∀ {v:I},∀ d,dst=some d→∀ ns,hJ L d=some ns→v.only (fun n=>ns.contains n)=true:=fun d e ns hn=>by rw[af d e] at hn;cases hn
 cases h with
 |Fw os cargs post hc hg ha hb hw=>exact .uf os cargs post rfl hc hg ha hb fun r os' hp=>.done ⟨hw r os' hp,hi.put (B:=av _ (dF [] os'++_)) (fun _=>rfl) no⟩
theorem bN.one{L:ec}{A:ai}{g:aH}{rest:List aH}(hi:cU L A)(ho:mU g.op=true)(hL:hP L g=true)(h:bN P Y ab K (bl A g.dst g.op rest (az rest))):aR P Y false (fun B=>bN P Y ab K (az rest B)∧cU L B) (bl A g.dst g.op [] (az [])):=by
 have hval:=fun v (hv:bn A g.op=some v)=>CG hi hL hv;obtain ⟨dst,op,gd⟩:=g;simp only at ho h hval ⊢;have pure:iS op=true→aR P Y false (fun B=>bN P Y ab K (az rest B)∧cU L B) (bl A dst op [] (az [])):=by
  intro hsm;rw[vU hsm] at h ⊢;cases hv:bn A op with
  |none=>rw[hv] at h;cases h
  |some v=>rw[hv] at h;exact .done ⟨h,hi.put (fun _=>rfl) (hval v hv)⟩
 have unl:(∀ ns d,dst=some d→hJ L d=some ns→hP L ⟨dst,op,gd⟩=false)→∀ d,dst=some d→hJ L d=none:=fun J d af=>by
  cases hn:hJ L d with
  |none=>rfl
  |some ns=>rw[J ns d af hn] at hL;cases hL
 cases op with
 |alloc z =>
  cases dst with
  |none=>simp only[bl] at h;cases h
  |some d =>
   simp only[bl] at h ⊢;split at h
   case h_2=>cases h
   refine .done ⟨h,hi.put (B:=A.aS d _) (dst:=some d) (fun _=>rfl) fun d' e ns hn =>?_⟩;simp only[v6] at e;subst e;simpa only[hP,hn,I.only] using hL
 |box x =>
  cases dst with
  |none=>simp only[bl] at h;cases h
  |some d =>
   simp only[bl] at h ⊢;split at h
   case h_2=>cases h
   split at h
   case isFalse=>cases h
   rename_i hv;rw[if_pos hv];refine .done ⟨h,hi.put (B:=A.aS d _) (dst:=some d) (fun _=>rfl) fun d' e ns hn =>?_⟩;simp only[v6] at e;subst e;simpa only[hP,hn,I.only] using hL
 |aU s x v =>
  cases dst with
  |some d=>simp only[bl] at h;cases h
  |none =>
   simp only[bl] at h ⊢;split at h
   case h_2=>cases h
   rename_i n p hx;split at h
   case h_2=>cases h
   rename_i b hb;split at h
   case h_2=>cases h
   rename_i old hold;split at h
   case isFalse=>cases h
   rename_i hok;simp only[if_pos hok];exact .done ⟨h,fun s ns hn=>hi s ns hn⟩
 |call f args=>exact bN.Aa hi (unl fun ns d e hn=>by subst e;simp only[hP,hn]) h
 |fL x args =>
  have hu:=unl fun ns d e hn=>by subst e;simp only[hP,hn]
  simp only[bl] at h ⊢;split at h
  ·exact bN.Aa hi hu h
  ·exact bN.I3 hi hu h
  ·cases h
 |c9 e esz bytes z s x =>
  have hu:=unl fun ns d e hn=>by subst e;simp only[hP,hn]
  have sW:∀ B,gu A dst (ak A s) B→cU L B:=fun B hB t ns hn=>by
   rw[hB.1 t fun e=>by rw[hu t e] at hn;cases hn];exact hi t ns hn
  have hf:=yn A dst e esz bytes z s x;rcases hf rest with J | ⟨B,J,U⟩ | ⟨p,bE,J,U⟩
  ·rw[J] at h;cases h
  ·rw[J] at h;have:bl A dst (.c9 e esz bytes z s x) [] (az [])=az [] B:=(show bl A dst (.c9 e esz bytes z s x) [] (az [])=bl A dst (.c9 e esz bytes z s x) rest (az []) from rfl).trans (J _);rw[this];exact .done ⟨h,sW B U⟩
  ·rw[J] at h;have:bl A dst (.c9 e esz bytes z s x) [] (az [])=.any p fun m=>az [] (bE m):=(show bl A dst (.c9 e esz bytes z s x) [] (az [])=bl A dst (.c9 e esz bytes z s x) rest (az []) from rfl).trans (J _);rw[this];exact .any rfl fun m hm=>.done ⟨h.yk m hm,sW _ (U m)⟩
 |_=>first | exact pure rfl | cases ho
def gv(g:aH)(A:ai)(v:I):Prop:=(gz A g∧v=.undef)∨(pass A g∧bn A g.op=some v)
theorem bN.xI{A:ai}{g:aH}{rest:List aH}(hs':iS g.op=true)(h:bN P Y ab K (az (g::rest) A)):∃ v,gv g A v∧bN P Y ab K (az rest (A.aT g.dst v)):=by
 have step:pass A g→bN P Y ab K (bl A g.dst g.op rest (az rest))→∃ v,gv g A v∧bN P Y ab K (az rest (A.aT g.dst v)):=by
  intro hp h;rw[vU hs'] at h;cases hv:bn A g.op with
  |none=>rw[hv] at h;cases h
  |some v=>rw[hv] at h;exact ⟨v,.inr ⟨hp,hv⟩,h⟩
 simp only[az] at h;split at h
 ·rename_i hg;exact step (by simp only[pass,hg]) h
 ·rename_i t b hg;split at h
  ·rename_i b' hb;split at h
   ·rename_i hbb;subst hbb;exact step (by simp only[pass,hg];exact hb) h
   ·rename_i hbb;exact ⟨_,.inl ⟨by simp only[gz,hg];exact .inl (by rw[hb,uL hbb]),rfl⟩,h⟩
  ·rename_i hb;exact ⟨_,.inl ⟨by simp only[gz,hg];exact .inr hb,rfl⟩,h⟩
  ·cases h
theorem sg{A:ai}{g:aH}{rest:List aH}(hn:gz A g):az (g::rest) A=az rest (A.aT g.dst .undef):=by
 simp only[az];cases hg:g.guard with
 |none=>simp only[gz,hg] at hn
 |some tb =>
  obtain ⟨t,b⟩:=tb;simp only[gz,hg] at hn;rcases hn with hn | hn
  ·simp only[hn];rw[if_neg (by cases b <;>simp)]
  ·simp only[hn]
theorem gv.to{A:ai}{g:aH}{rest:List aH}{v:I}(hs':iS g.op=true)(h:gv g A v):az (g::rest) A=az rest (A.aT g.dst v):=by
 rcases h with ⟨hn,rfl⟩ | ⟨hp,hv⟩
 ·exact sg hn
 ·rw[nz hp,vU hs',hv];rfl
theorem L5{A A':ai}{p:Nat→Bool}(ho:∀ n,p n=true→A'.o n=A.o n){x:I}(hx:x.only p=true):cK A' x=cK A x:=by
 cases x <;>simp only[cK]
 rename_i n q;rw[ho n (by simpa[I.only] using hx)]
mutual
theorem MZ{A A':ai}{p:Nat→Bool}(ho:∀ n,p n=true→A'.o n=A.o n):∀ {x:I},x.only p=true→bh false A' x=bh false A x
 | .own n k,h=>by simp only[bh];rw[ho n (by simpa[I.only] using h)]
 | .func f caps,h=>by simp only[bh];rw[sL ho (xs:=caps) (by simpa[I.only] using h)]
 | .agg fs,h=>by simp only[bh];rw[sL ho (xs:=fs) (by simpa[I.only] using h)]
 | .undef,_ | .dv,_ | .bool _,_ | .int _ _,_ | .bP _,_ | .nilp,_ | .dC,_ | .ea,_ | .any,_ | .raw _,_ | .nils _,_ | .c0 _,_ | .slice _ _,_ | .tuple _,_ | .ref _,_ | .iface _ _,_ | .ptr _ _,_ | .view _ _ _ _ _,_ | .mref _,_ | .dq _,_ | .dm _ _,_=>by simp[bh]
theorem sL{A A':ai}{p:Nat→Bool}(ho:∀ n,p n=true→A'.o n=A.o n):∀ {xs:List I},I.ct p xs=true→b7 false A' xs=b7 false A xs
 | [],_=>rfl
 |x::xs,h=>by
  simp only[I.ct,t8] at h;simp only[b7,MZ ho h.1,sL ho h.2]
end
theorem CK{p:Nat→Bool}{f:aO→I} : ∀ {xs:List aO},(∀ x∈xs,(f x).only p=true)→I.ct p (xs.map f)=true
 | [],_=>rfl
 |x::xs,h=>by
  simp only[Z4,I.ct,t8];exact ⟨h x (by simp),CK fun y hy=>h y (by simp[hy])⟩
theorem WO{A A':ai}{p:Nat→Bool}(ho:∀ n,p n=true→A'.o n=A.o n){x:I}(hx:x.only p=true):fZ A' x=fZ A x:=by
 cases x with
 |mref n=>simp only[fZ];rw[ho n (by simpa[I.only] using hx)]
 |raw v=>cases v <;>first | rfl | (rename_i o;cases o <;>rfl)
 |_=>rfl
theorem Yq{A A':ai}{op:bQ}{xs:List Nat}{p:Nat→Bool}(hm:mR op=some xs)(h:eg A A' op.c7)(hx:∀ s∈xs,(A.t s).only p=true)(ho:∀ n,p n=true→A'.o n=A.o n):bn A' op=bn A op:=by
 have jN:op.gJ=0→bn A' op=bn A op:=fun hc=>w7 hc h;have dl:=fun {x:I} (hx:x.only p=true)=>L5 ho hx;unfold mR at hm;split at hm
 ·rename_i s x;simp only[v6] at hm;subst hm;have e:=h x (by simp[bQ.c7,aO.sl]);simp only[bn,ak,e,dl (hx x (by simp))]
 ·rename_i f off x;simp only[v6] at hm;subst hm;have e:=h x (by simp[bQ.c7,aO.sl]);have k:=hx x (by simp);simp only[bn,ak,e];generalize A.t x=u at k ⊢;cases u with
  |ptr n q=>simp only[dl (x:=.ptr n q) k]
  |ref c=>cases c <;>rfl
  |_=>rfl
 ·rename_i n esz x i;simp only[v6] at hm;subst hm;have e:=h x (by simp[bQ.c7,aO.sl]);have ei:=de (x:=i) (fun m hm=>h m (by simp[bQ.c7,hm]));have k:=hx x (by simp);simp only[bn,ei];generalize ak A i=w;simp only[ak,e];generalize A.t x=u at k ⊢;cases u with
  |ptr n q=>simp only[dl (x:=.ptr n q) k]
  |ref c=>cases c <;>rfl
  |_=>rfl
 ·rename_i esz x i;simp only[v6] at hm;subst hm;have e:=h x (by simp[bQ.c7,aO.sl]);have ei:=de (x:=i) (fun m hm=>h m (by simp[bQ.c7,hm]));have k:=hx x (by simp);simp only[bn,ei];generalize ak A i=w;simp only[ak,e];generalize A.t x=u at k ⊢;cases u with
  |own n l=>simp only[ho n (by simpa[I.only] using k)]
  |view n q=>simp only[dl (x:=.ptr n q) (by simpa[I.only] using k)]
  |_=>rfl
 ·rename_i x;simp only[v6] at hm;subst hm;have e:=h x (by simp[bQ.c7,aO.sl]);have k:=hx x (by simp);simp only[bn,ak,e];generalize A.t x=u at k ⊢;cases u with
  |own n l=>simp only[ho n (by simpa[I.only] using k)]
  |_=>rfl
 ·rename_i n esz x;simp only[v6] at hm;subst hm;have e:=h x (by simp[bQ.c7,aO.sl]);have k:=hx x (by simp);simp only[bn,ak,e];generalize A.t x=u at k ⊢;cases u with
  |ptr n q=>simp only[dl (x:=.ptr n q) k]
  |ref c=>cases c <;>rfl
  |_=>rfl
 ·rename_i esz x lo hi mx;simp only[v6] at hm;subst hm;have e:=h x (by simp[bQ.c7,aO.sl]);have e1:=oV (x:=lo) (fun m hm=>h m (by simp[bQ.c7,hm]));have e2:=oV (x:=hi) (fun m hm=>h m (by simp[bQ.c7,hm]));have e3:=oV (x:=mx) (fun m hm=>h m (by simp[bQ.c7,hm]));have k:=hx x (by simp);simp only[bn,e1,e2,e3];generalize lo.map (ak A)=w1;generalize hi.map (ak A)=w2;generalize mx.map (ak A)=w3;simp only[ak,e];generalize A.t x=u at k ⊢;cases u with
  |view n q=>simp only[dl (x:=.ptr n q) (by simpa[I.only] using k)]
  |_=>rfl
 ·rename_i x;simp only[v6] at hm;subst hm;have e:=h x (by simp[bQ.c7,aO.sl]);have k:=hx x (by simp);simp only[bn,ak,e];generalize A.t x=u at k ⊢;cases u with
  |view n q=>simp only[dl (x:=.ptr n q) (by simpa[I.only] using k)]
  |_=>rfl
 ·rename_i ty z ok x kk;simp only[v6] at hm;subst hm;have e:=h x (by simp[bQ.c7,aO.sl]);have ek:=de (x:=kk) (fun m hm=>h m (by simp[bQ.c7,hm]));have k:=hx x (by simp);simp only[bn,ek];generalize ak A kk=w;simp only[ak,e,WO ho k]
 ·rename_i esz ps;split at hm
  case isFalse=>cases hm
  rename_i hall;simp only[v6] at hm;subst hm;have hev:ps.map (ak A')=ps.map (ak A):=lK h;have hon:I.ct p (ps.map (ak A))=true:=CK fun x hx'=>by
   have J:=zy1.1 hall x hx';cases x with
   |c _=>cases J
   |t s=>exact hx s (by simp only[jF,List.mem_flatMap];exact ⟨_,hx',by simp[aO.sl]⟩)
  simp only[bn,hev,sL ho hon]
 ·rfl
 ·split at hm
  ·rename_i hc;exact jN hc.1
  ·cases hm
theorem yl{L:ec}{A:ai}{g:aH}{p:Nat→Bool}(hi:cU L A)(h:sh L g p=true):∃ xs,mR g.op=some xs∧∀ s∈xs,(A.t s).only p=true:=by
 unfold sh at h;split at h
 case h_2=>cases h
 rename_i xs hm;refine ⟨xs,hm,fun s hs' =>?_⟩;have J:=zy1.1 h s hs';split at J
 case h_2=>cases J
 rename_i ns hn;exact iK (fun n U=>zy1.1 J n (by simpa using U)) _ (hi s ns hn)
theorem gv.wm{A A':ai}{g:aH}{v:I}{xs:List Nat}{p:Nat→Bool}(h:gv g A v)(hm:mR g.op=some xs)(ha:eg A A' g.c7)(hx:∀ s∈xs,(A.t s).only p=true)(ho:∀ n,p n=true→A'.o n=A.o n):gv g A' v:=by
 rcases h with ⟨h,rfl⟩ | ⟨h,k⟩
 ·exact .inl ⟨px ha h,rfl⟩
 ·exact .inr ⟨mW ha h,by rw[Yq hm (aH.jV ha) hx ho];exact k⟩
theorem gv.sW{L:ec}{A:ai}{g:aH}{v:I}(hi:cU L A)(hg:hP L g=true)(h:gv g A v):cU L (A.aT g.dst v):=by
 rcases h with ⟨_,rfl⟩ | ⟨_,k⟩
 ·exact hi.put (fun _=>rfl) fun _ _ _ _=>rfl
 ·exact hi.put (fun _=>rfl) (CG hi hg k)
theorem gv.cR{A A':ai}{g:aH}{v:I}(h:gv g A v)(hu:er A A')(ha:eg A A' g.c7):gv g A' v:=by
 rcases h with ⟨h,rfl⟩ | ⟨h,k⟩
 ·exact .inl ⟨px ha h,rfl⟩
 ·exact .inr ⟨mW ha h,C4 hu (aH.jV ha) k⟩
theorem BO{L:ec}{g h:aH}(hi:mK ab L g h=true):iS g.op=true∧nZ ab L g h=true∧(∀ d,g.dst=some d→d∉h.c7)∧(∀ d,g.dst=some d→h.dst≠some d)∧(∀ d,h.dst=some d→d∉g.c7):=by
 simp only[mK,t8] at hi;obtain ⟨J,U,ah,au⟩:=hi;refine ⟨J,U,fun d af =>?_,fun d af =>?_,fun d af =>?_⟩
 ·rw[af] at ah;simp at ah;exact ah.1
 ·rw[af] at ah;simp at ah;exact ah.2
 ·rw[af] at au;simpa using au
theorem yp{aN:Bool}{A A':ai}{ρ:List (Nat×Nat)}{os:List (Nat×aq)}(hu:er A A'):∀ {xs cs:List I},gR aN A ρ os xs cs→gR aN A' ρ os xs cs
 | [],[],_=>trivial
 |x::xs,c::cs,h=>⟨h.1.imp id fun h=>A2 hu h,yp hu h.2⟩
 | [],_::_,h=>h.elim
 |_::_,[],h=>h.elim
theorem WZ{A:ai}{d:Option Nat}{v:I}{ts:List (Nat×I)}{os:List (Nat×aq)}(h:A.aT d v=av ts os):∃ ts2,A=av ts2 os∧∀ X:List (Nat×aq),(av ts2 X).aT d v=av ts X:=by
 cases d with
 |none=>exact ⟨ts,h,fun _=>rfl⟩
 |some d =>
  have ht:∀ k,(A.aT (some d) v).t k=bW ts k:=fun k=>by rw[h];rfl
  have ho:A.o=aj os:=by
   have:(A.aT (some d) v).o=aj os:=by rw[h];rfl
   rwa [il] at this
  refine ⟨(d,A.t d)::ts,?_,fun X =>?_⟩
  ·cases A with
   |mk t o =>
    simp only[av,ai.mk.injEq];refine ⟨funext fun k =>?_,ho⟩;have:=ht k;simp only[ai.aT,ai.put] at this;simp only[bW];by_cases hk:k=d
    ·subst hk;simp
    ·rw[if_neg hk] at this;have hk':¬ d=k:=fun e=>hk e.symm;simp only[hk,if_false];exact this
  ·simp only[ai.aT,ai.put,av,ai.mk.injEq,and_true]
   funext k
   have:=ht k;simp only[ai.aT,ai.put] at this;by_cases hk:k=d
   ·subst hk;simp at this ⊢;exact this
   ·have hk':¬ d=k:=fun e=>hk e.symm;simp only[bW,hk,if_false]
theorem Yp{ρ:List (Nat×Nat)}{os0 os':List (Nat×aq)}{r:I}(hb:gG false ρ [] os0 r os'){n:Nat}{x:aq}(hx:aj os0 n=some x):aj (dF ρ os'++os0) n=some x:=by
 rw[qL];cases hp:pre ρ os' n with
 |none=>exact hx
 |some m =>
  obtain ⟨J,U⟩:=lf hp;have:=(hb.pq m J (by simp[aw,aj])).1;rw[U,hx] at this;cases this
theorem bN.I1{A B:ai}{j:aH}{v:I}{f:FuncId}{args:List aO}{dst:Option Nat}{rest:List aH}(hj:iS j.op=true)(hv:gv j A v)(hB:B=A.aT j.dst v)(hf:ab.contains f=false)(hag:eg A B (jF args))(af:∀ d,j.dst=some d→dst≠some d)(hr:∀ d,dst=some d→d∉j.c7)
  (h:bN P Y ab K (.call f (args.map (ak B)) (b7 true B (args.map (ak B))) (b7 false B (args.map (ak B))) dst rest B)):bN P Y ab K (.call f (args.map (ak A)) (b7 true A (args.map (ak A))) (b7 false A (args.map (ak A))) dst (j::rest) A):=by
 have eo:B.o=A.o:=by rw[hB,il]
 have cR:er B A:=fun n x hx=>by rwa [←eo]
 have up':er A B:=fun n x hx=>by rwa [eo]
 have eav:args.map (ak B)=args.map (ak A):=lK hag;rw[eav] at h;have cont:∀ r:I,bN P Y ab K (az rest (B.aT dst r))→bN P Y ab K (az (j::rest) (A.aT dst r)):=fun r hw=>by
  have J:gv j (A.aT dst r) v:=hv.cR (fun n x hx=>by rwa [il]) (l6 hr);rw[J.to hj,pE (fun d hd'=>fun e=>af d e hd'),←hB];exact hw
 generalize e1:b7 true B (args.map (ak A))=a1 at h;generalize e2:b7 false B (args.map (ak A))=a2 at h;generalize hBm:B=B0 at h;cases h with
 |flat r hc hfl hw =>
  subst hBm;rw[kW cR e1];exact .flat r hc hfl (cont r hw)
 |lead r hc hw =>
  subst hBm;rw[kW cR e2];exact .lead r hc (cont r hw)
 |bO ρ cargs post hc hg ha hb hw =>
  rename_i ts os0;rw[hB] at hBm;obtain ⟨ts2,hA,hts⟩:=WZ hBm;have hA':=hA;clear cont;subst hA;refine .bO ρ cargs post hc hg (yp (A:=av ts os0) (A':=av ts2 os0) (fun n x hx=>hx) ha) hb fun r os' hp =>?_;have J:gv j ((av ts2 (dF ρ os'++os0)).aT dst (r.bm (bI ρ))) v:=hv.cR (fun n x hx=>by
   rw[il];exact Yp (hb r os' hp) hx) (fun k hk=>by
    have:=l6 (A:=av ts2 (dF ρ os'++os0)) (v:=r.bm (bI ρ)) hr k hk;rw[this];rfl)
  rw[J.to hj,pE (fun d hd'=>fun e=>af d e hd'),hts];exact hw r os' hp
 |wL aN ρ os cargs post hfs =>
  rw[hf] at hfs;cases hfs
theorem bN.rK{L:ec}{A:ai}{j g:aH}{rest:List aH}(hinv:cU L A)(hi:mK ab L j g=true)(hw:bN P Y ab K (az (j::g::rest) A)):bN P Y ab K (az (g::j::rest) A):=by
 obtain ⟨hj,ao,i1,i2,i3⟩:=BO hi;obtain ⟨v,hv,hw⟩:=bN.xI hj hw;have ag:eg (A.aT j.dst v) A g.c7:=(l6 i1).symm;have ag':eg A (A.aT j.dst v) g.c7:=l6 i1;have cR:er (A.aT j.dst v) A:=fun n x hx=>by rwa [il] at hx
 have up':∀ (d:Option Nat) (u:I),er A (A.aT d u):=fun d u n x hx=>by rwa [il]
 by_cases hsg:iS g.op=true
 ·obtain ⟨u,hu,hw⟩:=bN.xI hsg hw;rw[(hu.cR cR ag).to hsg,(hv.cR (up' _ _) (l6 i3)).to hj,←pE i2];exact hw
 ·-- the guard
  have guard:(gz (A.aT j.dst v) g∧az (g::rest) (A.aT j.dst v)=az rest ((A.aT j.dst v).aT g.dst .undef))∨(pass (A.aT j.dst v) g∧az (g::rest) (A.aT j.dst v)=bl (A.aT j.dst v) g.dst g.op rest (az rest))∨az (g::rest) (A.aT j.dst v)=.fail:=by
   cases hg:g.guard with
   |none=>exact .inr (.inl ⟨by simp only[pass,hg],by simp only[az,hg]⟩)
   |some tb =>
    obtain ⟨t,b⟩:=tb;cases ht:(A.aT j.dst v).t t with
    |bool b' =>
     by_cases hbb:b'=b
     ·subst hbb;have hp:pass (A.aT j.dst v) g:=by simp only[pass,hg,ht]
      exact .inr (.inl ⟨hp,nz hp⟩)
     ·have hn:gz (A.aT j.dst v) g:=by simp only[gz,hg];exact .inl (by rw[ht,uL hbb])
      exact .inl ⟨hn,sg hn⟩
    |undef =>
     have hn:gz (A.aT j.dst v) g:=by simp only[gz,hg];exact .inr ht
     exact .inl ⟨hn,sg hn⟩
    |_=>exact .inr (.inr (by simp only[az,hg,ht]))
  rcases guard with ⟨hn,he⟩ | ⟨hp,he⟩ | he
  ·rw[he] at hw;rw[sg (px ag hn),(hv.cR (up' _ _) (l6 i3)).to hj,←pE i2];exact hw
  ·rw[he] at hw;rw[nz (mW ag hp)];obtain ⟨dst,op,gd⟩:=g;simp only at hw hsg i2 i3 ⊢;cases op with
   |alloc z =>
    cases dst with
    |none=>simp only[bl] at hw;cases hw
    |some d =>
    simp only[bl] at hw ⊢;split at hw
    case h_2=>cases hw
    rename_i ho;rw[il] at ho;simp only[ho];have J:gv j ((A.aS d (.box z)).put d (.ptr d [])) v:=hv.cR (fun n y hy=>by
     have:n≠d:=fun he=>by rw[he,ho] at hy;cases hy
     simp only[ai.put,ai.aS,this,if_false];exact hy) (fun k hk=>by
     have:k≠d:=fun he=>i3 d rfl (he▸hk);simp only[ai.put,ai.aS,this,if_false])
    rw[J.to hj];have e:((A.aT j.dst v).aS d (.box z)).put d (.ptr d [])=((A.aS d (.box z)).put d (.ptr d [])).aT j.dst v:=by
     cases hgd:j.dst with
     |none=>rfl
     |some e =>
      have hne:e≠d:=fun he=>i2 e hgd (by rw[he]);simp only[ai.aT,ai.put,ai.aS,ai.mk.injEq,and_true]
      funext k
      by_cases J:k=e <;>by_cases U:k=d <;>simp_all
    rw[←e];exact hw
   |box x =>
    have ex:ak (A.aT j.dst v) x=ak A x:=de (aH.jV ag');cases dst with
    |none=>simp only[bl] at hw;cases hw
    |some d =>
    simp only[bl] at hw ⊢;split at hw
    case h_2=>cases hw
    rename_i ho;rw[il] at ho;simp only[ho];rw[ex] at hw;split at hw
    case isFalse=>cases hw
    rename_i hval;rw[if_pos hval];have J:gv j ((A.aS d (.box (ak A x))).put d (.ptr d [])) v:=hv.cR (fun n y hy=>by
     have:n≠d:=fun he=>by rw[he,ho] at hy;cases hy
     simp only[ai.put,ai.aS,this,if_false];exact hy) (fun k hk=>by
     have:k≠d:=fun he=>i3 d rfl (he▸hk);simp only[ai.put,ai.aS,this,if_false])
    rw[J.to hj];have e:((A.aT j.dst v).aS d (.box (ak A x))).put d (.ptr d [])=((A.aS d (.box (ak A x))).put d (.ptr d [])).aT j.dst v:=by
     cases hgd:j.dst with
     |none=>rfl
     |some e =>
      have hne:e≠d:=fun he=>i2 e hgd (by rw[he]);simp only[ai.aT,ai.put,ai.aS,ai.mk.injEq,and_true]
      funext k
      by_cases J:k=e <;>by_cases U:k=d <;>simp_all
    rw[←e];exact hw
   |call f args =>
    simp only[bl] at hw ⊢;refine bN.I1 hj hv rfl (by simpa[nZ,ph] using ao) (aH.jV ag') i2 i3 hw
   |aU s y u =>
    cases dst with
    |some d=>simp only[bl] at hw;cases hw
    |none =>
    have ey:ak (A.aT j.dst v) y=ak A y:=de (aH.jV ag').l;have eu:ak (A.aT j.dst v) u=ak A u:=de (aH.jV ag').r;simp only[bl] at hw ⊢;rw[ey,eu,il] at hw;cases hx:ak A y <;>simp only[hx] at hw ⊢ <;>try (cases hw;done)
    rename_i n q;cases ho:A.o n with
    |none=>rw[ho] at hw;cases hw
    |some ob =>
    rw[ho] at hw;cases ob <;>simp only at hw ⊢ <;>try (cases hw;done)
    rename_i b;cases hb:b.at q with
    |none=>rw[hb] at hw;cases hw
    |some old =>
    rw[hb] at hw;simp only at hw ⊢;split at hw
    case isFalse=>cases hw
    rename_i hok;rw[if_pos hok];have J:gv j (A.aS n (.box (b.ez q (ak A u)))) v:=by
     have none0:mR j.op=some []→gv j (A.aS n (.box (b.ez q (ak A u)))) v:=fun hm=>hv.wm (p:=fun _=>false) hm (fun _ _=>rfl) (fun s hs'=>by cases hs') (fun m hm=>by cases hm);cases y with
     |c y =>
      simp only[nZ,ph,iS,Bool.false_or] at ao;split at ao
      ·rename_i hm;exact none0 hm
      ·cases ao
     |t y =>
      simp only[nZ,ph,iS,Bool.false_or] at ao;split at ao
      ·rename_i hm;exact none0 hm
      ·split at ao
       case h_2=>cases ao
       rename_i ms hms;obtain ⟨xs,hm,hx2⟩:=yl hinv ao;refine hv.wm hm (fun _ _=>rfl) hx2 fun m hm2 =>?_;have hn:=hinv y ms hms;simp only[ak] at hx;rw[hx] at hn;have:m≠n:=fun e=>by subst e;simp[I.only] at hn hm2;exact hm2 hn
       simp only[ai.aS,if_neg this]
    rw[J.to hj];have e:(A.aT j.dst v).aS n (.box (b.ez q (ak A u)))=(A.aS n (.box (b.ez q (ak A u)))).aT j.dst v:=by cases j.dst <;>rfl
    rw[←e];exact hw
   |c9 e esz bytes z s x =>
    have hag:eg A (A.aT j.dst v) (s.sl++x.sl):=aH.jV ag';have he2:bl (A.aT j.dst v) dst (.c9 e esz bytes z s x) rest (az rest)=bl A dst (.c9 e esz bytes z s x) (j::rest) fun B=>az rest (B.aT j.dst v):=by
     cases hjd:j.dst with
     |none=>rfl
     |some d =>
      rw[hjd] at hag;exact Hd (fun e=>i2 d hjd e) hag rest (j::rest) (az rest)
    rw[he2] at hw;have iC:∀ B,gu A dst (ak A s) B→az (j::rest) B=az rest (B.aT j.dst v):=fun B hB=>by
     have hagB:eg A B j.c7:=fun k hk=>hB.1 k fun e=>i3 k e hk;have:gv j B v:=by
      simp only[nZ,ph,iS,Bool.false_or,Bool.or_eq_true] at ao;rcases ao with ao | ao
      ·obtain ⟨xs,hm,hx2⟩:=yl hinv ao;exact hv.wm hm hagB hx2 fun m hm2=>by cases hm2
      ·have:=rI hinv ao;exact hv.cR (hB.2 (by simpa using this)) hagB
     rw[this.to hj]
    rcases yn A dst e esz bytes z s x (j::rest) with J | ⟨B,J,U⟩ | ⟨p,bE,J,U⟩
    ·rw[J] at hw;cases hw
    ·rw[J] at hw ⊢;rw[iC B U];exact hw
    ·rw[J] at hw ⊢;exact .any fun m hm=>by rw[iC _ (U m)];exact hw.yk m hm
   |_=>first | exact absurd rfl hsg | (simp[nZ,ph,iS] at ao)
  ·rw[he] at hw;cases hw
theorem bN.nC{L:ec}{g:aH} : ∀ {l:List aH} {r:List aH} {A:ai},cU L A→(∀ j∈l,mK ab L j g=true∧hP L j=true)→bN P Y ab K (az (l++g::r) A)→bN P Y ab K (az (g::(l++r)) A)
 | [],r,A,_,_,h=>h
 |j::l,r,A,hinv,hi,h=>by
  have hj:=(BO (hi j (by simp)).1).1;obtain ⟨v,hv,U⟩:=bN.xI (g:=j) (rest:=l++g::r) hj h;have ah:=bN.nC (l:=l) (r:=r) (hv.sW hinv (hi j (by simp)).2) (fun k hk=>hi k (by simp[hk])) U;refine bN.rK hinv (hi j (by simp)).1 ?_;rw[hv.to hj];exact ah
end
def qT:List Nat→Bool
 | []=>true
 |a::l => !l.contains a&&qT l
def pY(ab:List FuncId)(L:ec)(gs:List aH)(cl:List Nat):List Nat→List Nat→Bool
 |_,[]=>true
 |before,i::σ=>(before.all fun j=>(cl.getD i 0).testBit j||mK ab L (gs.getD j default) (gs.getD i default))&&pY ab L gs cl (i::before) σ
def tz(ab:List FuncId)(L:ec)(on:List (List Nat))(gs:List aH)(cl:List Nat)(σ:List Nat):Bool :=
 (Nat.beq σ.length gs.length&&(qT σ&&(σ.all (fun i=>decide (i<gs.length))&&((List.range gs.length).all (fun i=>σ.contains i)&&gs.all fun g=>mU g.op&&hP L g))))&&(pY ab L gs cl [] σ&&(List.range gs.length).all fun i=>(on.getD i []).all (fun k=>decide (k<i))&&Nat.beq (cl.getD i 0) (lz cl (on.getD i [])))
theorem wI:∀ {l:List Nat},qT l=true→l.Nodup
 | [],_=>List.nodup_nil
 |a::l,h=>by
  simp only[qT,t8,Bool.not_eq_true',List.contains_eq_mem,decide_eq_false_iff_not] at h;exact List.nodup_cons.2 ⟨h.1,wI h.2⟩
theorem uB{ab:List FuncId}{L:ec}{gs:List aH}{cl:List Nat} : ∀ {σ before:List Nat},pY ab L gs cl before σ=true→∀ s1 i s2,σ=s1++i::s2→∀ j,j∈before∨j∈s1→(cl.getD i 0).testBit j=true∨mK ab L (gs.getD j default) (gs.getD i default)=true
 | [],_,_,s1,i,s2,e,_,_=>by cases s1 <;>cases e
 |a::σ,before,h,s1,i,s2,e,j,hj=>by
  simp only[pY,t8,zy1,Bool.or_eq_true] at h;cases s1 with
  |nil =>
   simp only[zx6,zw2] at e;obtain ⟨rfl,rfl⟩:=e;rcases hj with hj | hj
   ·exact h.1 j hj
   ·cases hj
  |cons b s1 =>
   simp only[Z7,zw2] at e;obtain ⟨rfl,rfl⟩:=e;refine uB h.2 s1 i s2 rfl j ?_;rcases hj with hj | hj
   ·exact .inl (List.mem_cons_of_mem _ hj)
   ·rcases zx3.1 hj with hj | hj
    ·exact .inl (by rw[hj];exact List.mem_cons_self)
    ·exact .inr hj
def eb(σ:List Nat)(listed:Array Bool):List Nat:=σ.filter fun i => !listed.getD i true
def gB(gs:List aH)(σ:List Nat)(listed:Array Bool):List aH:=(eb σ listed).map fun i=>gs.getD i default
theorem xg{σ:List Nat}{listed:Array Bool}{i:Nat}(hn:σ.Nodup)(hi:i∈σ)(ao:i<listed.size)(hu:listed.getD i true=false):∃ s1 s2,σ=s1++i::s2∧eb σ listed=(s1.filter fun j => !listed.getD j true)++i::(s2.filter fun j => !listed.getD j true) ∧
  eb σ (listed.setIfInBounds i true)=(s1.filter fun j => !listed.getD j true)++(s2.filter fun j => !listed.getD j true):=by
 obtain ⟨s1,s2,rfl⟩:=List.append_of_mem hi;have same:∀ j,j≠i→(listed.setIfInBounds i true).getD j true=listed.getD j true:=fun j hj=>getD_set_ne true (Ne.symm hj);have hit:(listed.setIfInBounds i true).getD i true=true:=by simp[ao]
 have hnd:=List.nodup_append.1 hn;have J:∀ j∈s1,j≠i:=fun j hj=>hnd.2.2 j hj i List.mem_cons_self;have U:∀ j∈s2,j≠i:=fun j hj e=>(List.nodup_cons.1 hnd.2.1).1 (e▸hj);refine ⟨s1,s2,rfl,?_,?_⟩
 ·simp only[eb,List.filter_append,List.filter_cons,hu,Bool.not_false,if_true]
 ·simp only[eb,List.filter_append,List.filter_cons,hit,Bool.not_true,Z2,if_false]
  congr 1
  ·exact List.filter_congr fun j hj=>by rw[same j (J j hj)]
  ·exact List.filter_congr fun j hj=>by rw[same j (U j hj)]
structure ye (ab:List FuncId) (L:ec) (l:List Oper) (gs:List aH) (σ:List Nat):Prop where
 nV:σ.Nodup
 lt:∀ i∈σ,i<gs.length
 all:∀ i,i<gs.length→i∈σ
 ok:∀ g∈gs,mU g.op=true∧hP L g=true
 len:σ.length=gs.length
 iv:∀ i o,l[i]?=some o→∀ k∈cj o,k<i
 o8:∀ (S:Nat→Prop),(∀ i o,l[i]?=some o→S i→∀ k∈cj o,S k)→∀ s1 i s2 o,σ=s1++i::s2→l[i]?=some o→(∀ k∈cj o,S k)→∀ j∈s1,¬ S j→mK ab L (gs.getD j default) (gs.getD i default)=true
theorem Yf{ab:List FuncId}{L:ec}{l:List Oper}{gs:List aH}{cl σ:List Nat}(hlen:gs.length=l.length)(h:tz ab L (l.map cj) gs cl σ=true):ye ab L l gs σ:=by
 simp only[tz,t8,zy1,decide_eq_true_eq,zw0,List.contains_eq_mem] at h;obtain ⟨⟨J,U,ah,au,h5⟩,h6,h7⟩:=h;have fD:∀ i o,l[i]?=some o→(∀ k∈cj o,k<i)∧(∀ j,(cl.getD i 0).testBit j=true→j∈cj o∨∃ k∈cj o,(cl.getD k 0).testBit j=true):=by
  intro i o ho;have hi:i<l.length:=(Z5.1 ho).1;have h8:=h7 i (by omega);have hon:(l.map cj).getD i []=cj o:=by simp[Z0,ho]
  rw[hon] at h8;have hb:=Nat.eq_of_beq_eq_true h8.2;exact ⟨h8.1,fun j hj=>rP (by rw[←hb];exact hj)⟩
 refine ⟨wI U,ah,au,h5,Nat.eq_of_beq_eq_true J,fun i o ho=>(fD i o ho).1,?_⟩;intro S hS s1 i s2 o e ho hon j hj hnj;have key:∀ n i o,i≤n→l[i]?=some o→(∀ k∈cj o,S k)→∀ j,(cl.getD i 0).testBit j=true→S j:=by
  intro n
  induction n with
  |zero =>
   intro i o hi ho hon j hj;obtain ⟨h8,h9⟩:=fD i o ho;rcases h9 j hj with h | ⟨k,hk,_⟩
   ·exact hon j h
   ·have:=h8 k hk;omega
  |succ n ih =>
   intro i o hi ho hon j hj;obtain ⟨h8,h9⟩:=fD i o ho;rcases h9 j hj with h | ⟨k,hk,hjk⟩
   ·exact hon j h
   ·have hki:=h8 k hk;have hkl:k<l.length:=Nat.lt_trans hki (Z5.1 ho).1;obtain ⟨ok,hok⟩:∃ ok,l[k]?=some ok:=⟨l[k],zz4 hkl⟩
    exact ih k ok (by omega) hok (hS k ok hok (hon k hk)) j hjk
 rcases uB h6 s1 i s2 e j (.inr hj) with h | h
 ·exact absurd (key i i o (Z3 _) ho hon j h) hnj
 ·exact h
section
variable {c:cT}
theorem sO{K:ai→Prop}{ab:List FuncId}{L:ec}{aW:Array Oper}{Q:Exit→Act→World→Prop}{o:Oper}{g:aH}{rest:List aH}{A:ai}{a:Act}{w:World}{Kw:Act→World→Prop}(hg:lG c.P c.n aW o=some g)(hi:cU L A)(ho:mU g.op=true∧hP L g=true)(hwp:bN c.P c.Y ab K (az (g::rest) A))(hs':bX c A a w)
  (hK:∀ B a' w',bN c.P c.Y ab K (az rest B)→cU L B→bX c B a' w'→Kw a' w'):if Region.wanted o (yielded aW a.tmps) then o.wpIn c.bE 9 c.P a w Kw Q else (∀ f,o.about c.P w a.eval=some f→c.bE.fn f)∧Kw (a.put o.dst undef) w:=by
 obtain ⟨J,U,ah,au⟩:=nE hg;have step:bN c.P c.Y ab K (bl A g.dst g.op rest (az rest))→o.wpIn c.bE 9 c.P a w Kw Q:=fun h =>
  sP J U.symm (by rw[U];exact ah) (bN.one (Y:=c.Y) hi ho.1 ho.2 h) hs' (fun B a' w' hw hs2=>by
   cases hw with
   |done hk=>exact hK B a' w' hk.1 hk.2 hs2)
 simp only[az] at hwp;rcases au with ⟨h5,h6⟩ | ⟨j,b,t,h5,h6,h7⟩
 ·rw[h6] at hwp;have hw:Region.wanted o (yielded aW a.tmps)=true:=by simp[Region.wanted,h5]
  rw[hw,if_pos rfl];exact step hwp
 ·rw[h7] at hwp;simp only at hwp;split at hwp
  ·rename_i b' hb';rw[sT hs' h5 h6 hb'];split at hwp
   ·rename_i hbb;subst hbb;simp only[BEq.rfl,if_true];exact step hwp
   ·rename_i hbb;have:(b'==b)=false:=by simpa using hbb
    rw[this];simp only[Z2,if_false];exact ⟨fun f _=>lO c f,hK _ _ _ hwp (hi.put (fun _=>rfl) fun _ _ _ _=>rfl) (by rw[U];exact hs'.nc ah)⟩
  ·rename_i hb';rw[sU hs' h5 h6 hb'];simp only[Z2,if_false];exact ⟨fun f _=>lO c f,hK _ _ _ hwp (hi.put (fun _=>rfl) fun _ _ _ _=>rfl) (by rw[U];exact hs'.nc ah)⟩
  ·cases hwp
theorem G0{K:ai→Prop}{fs:List FuncId}{L:ec}{aW:Array Oper}{gs:List aH}{σ:List Nat}{Q:Exit→Act→World→Prop}(hQ:∀ B a w,K B→bX c B a w→Q .normal a w)(hgs:fK c.P c.n aW aW.toList=some gs)(af:ye fs L aW.toList gs σ) :
  ∀ (fuel:Nat) (listed:Array Bool) (A:ai) (a:Act) (w:World),listed.size=aW.size→(∀ i o,aW.toList[i]?=some o→listed.getD i false=true→∀ k∈cj o,listed.getD k false=true)→(eb σ listed).length≤fuel →
   cU L A→bN c.P c.Y fs K (az (gB gs σ listed) A)→bX c A a w→wpAnyIn c.bE 9 c.P .any aW Q fuel listed a w:=by
 obtain ⟨hlen,hat⟩:=iy hgs;have onOf_mem:∀ (o:Oper) (e:Edge),e∈o.after→Region.binds .any e=true→e.on∈cj o:=fun o e he hb=>by
  simp only[cj,zy0,zx2];exact ⟨e,⟨by simpa using he,hb⟩,rfl⟩
 have of_onOf:∀ (o:Oper) (k:Nat),k∈cj o→∃ e∈o.after,Region.binds .any e=true∧e.on=k:=fun o k hk=>by
  simp only[cj,zy0,zx2] at hk;obtain ⟨e,⟨J,U⟩,ah⟩:=hk;exact ⟨e,by simpa using J,U,ah⟩
 have hgl:gs.length=aW.size:=by rw[hlen,zy2]
 have last:∀ (listed:Array Bool) (A:ai) (a:Act) (w:World),listed.size=aW.size→Region.ready .any aW listed=[]→bN c.P c.Y fs K (az (gB gs σ listed) A)→bX c A a w→Q .normal a w:=by
  intro listed A a w hsz hr hwp ab;have hnone:eb σ listed=[]:=by
   have all:∀ n,∀ i,i<n→i<aW.size→listed.getD i true=true:=by
    intro n
    induction n with
    |zero=>intro i hi;omega
    |succ n ih =>
     intro i hi his;cases hb:listed.getD i true with
     |true=>rfl
     |false =>
      exfalso
      have ho:aW[i]?=some aW[i]:=zx8 his;have:i∈Region.ready .any aW listed:=mem_ready.2 ⟨hb,aW[i],ho,fun e he hbd=>by
       have hlt:=af.iv i aW[i] (by simp) e.on (onOf_mem _ e he hbd);have J:=ih e.on (by omega) (by omega);have U:e.on<listed.size:=by omega
       simpa[Array.getD_eq_getD_getElem?,U] using J⟩
      rw[hr] at this;cases this
   simp only[eb];refine List.filter_eq_nil_iff.2 fun i hi =>?_;have:=all (i+1) i (by omega) (by rw[←hgl];exact af.lt i hi);simp only[this,Bool.not_true,Z2,not_false_eq_true]
  simp only[gB,hnone,zy6,az] at hwp;cases hwp with
  |done hk=>exact hQ A a w hk ab
 intro fuel
 induction fuel with
 |zero =>
  intro listed A a w hsz hcl hcnt hinv hwp ab;have hnone:eb σ listed=[]:=List.length_eq_zero_iff.1 (by omega);have hr:Region.ready .any aW listed=[]:=by
   refine List.eq_nil_iff_forall_not_mem.2 fun i hi =>?_;obtain ⟨J,o,ho,_⟩:=mem_ready.1 hi;have:i∈eb σ listed:=by
    simp only[eb,zx2,J,Bool.not_false,and_true];exact af.all i (by rw[hgl];exact (zz1.1 ho).1)
   rw[hnone] at this;cases this
  exact ⟨hr,last listed A a w hsz hr hwp ab⟩
 |succ fuel ih =>
  intro listed A a w hsz hcl hcnt hinv hwp ab;refine ⟨fun hr=>last listed A a w hsz hr hwp ab,fun i hi =>?_⟩;obtain ⟨hun,o,ho,hall⟩:=mem_ready.1 hi;have hin:i<aW.size:=(zz1.1 ho).1;obtain ⟨s1,s2,hσ,e1,e2⟩:=xg af.nV (af.all i (by omega)) (by omega) hun;have hol:aW.toList[i]?=some o:=by simpa using ho
  obtain ⟨g,hgi,hcg⟩:=hat i o hol;have hon:∀ k∈cj o,listed.getD k false=true:=fun k hk=>by
   obtain ⟨e,J,U,ah⟩:=of_onOf o k hk;exact ah▸hall e J U
  have hgd:gs.getD i default=g:=by simp[Z0,hgi]
  have hwp':bN c.P c.Y fs K (az (g::gB gs σ (listed.setIfInBounds i true)) A):=by
   simp only[gB,e1,zz2,Z4,hgd] at hwp;simp only[gB,e2,zz2];refine bN.nC hinv (fun j hj =>?_) hwp;obtain ⟨k,hk,rfl⟩:=zy0.1 hj;obtain ⟨hk1,hk2⟩:=zx2.1 hk;have:=af.o8 (fun k=>listed.getD k false=true) hcl s1 i s2 o hσ hol hon k hk1 (by
    have hks:k<listed.size:=by
     have:=af.lt k (by rw[hσ];exact List.mem_append_left _ hk1);omega
    simp[Array.getD_eq_getD_getElem?,hks] at hk2 ⊢;exact hk2)
   rw[hgd] at this;refine ⟨this,(af.ok _ ?_).2⟩;have hkl:=af.lt k (by rw[hσ];exact List.mem_append_left _ hk1);rw[Z0,zz4 hkl];exact List.getElem_mem _
  unfold wpOpIn;rw[ho];refine sO hcg hinv (af.ok g (List.mem_of_getElem? hgi)) hwp' ab fun B a' w' hw hiB hs'=>ih _ B a' w' (by simpa using hsz) ?_ ?_ hiB hw hs'
  ·intro m om hom hm k hk;by_cases hmi:m=i
   ·subst hmi;rw[hol,v6] at hom;subst hom;exact getD_set_true (hon k hk)
   ·rw[getD_set_ne false (Ne.symm hmi)] at hm;exact getD_set_true (hcl m om hom hm k hk)
  ·have:(eb σ listed).length=(eb σ (listed.setIfInBounds i true)).length+1:=by
    rw[e1,e2];simp;omega
   omega
def eU(σ:List Nat)(gs:List aH):List aH:=σ.map fun i=>gs.getD i default
theorem ae.YJ{Q:Exit→ai→Prop}{A:ai}{on:List (List Nat)}{gs:List aH}(ab:List FuncId)(L:ec)(cl σ:List Nat)(af:tz ab L on gs cl σ=true)(hi:cU L A)(h:∀ K:ai→Prop,(∀ B,Q .normal B→K B)→bN c.P c.Y ab K (az (eU σ gs) A)):ae c (.cd (some on) gs) Q A:=by
 intro code hc a w hs';cases code <;>simp only[eB] at hc <;>try (first | (cases hc;done) | ((repeat' split at hc) <;>cases hc;done))
 rename_i id aW draw;split at hc
 ·rename_i gs' hgs;split at hc
  case isFalse=>cases hc
  rename_i hok;simp only[v6,bq.cd.injEq] at hc;obtain ⟨he,rfl⟩:=hc;cases draw with
  |false=>cases he
  |true =>
   simp only[cond_true,v6] at he;subst he;simp only[Bool.not_true,Bool.false_or] at hok;have hp:=Yf (iy hgs).1 af;refine wpIn_region_any hok (G0 (K:=Q .normal) (fun B a w hk ab=>⟨B,hk,ab⟩) hgs hp aW.size (Array.replicate aW.size false) A a _ (by simp) ?_ ?_ hi ?_ ?_)
   ·intro i o _ h
    exfalso
    simp only[Array.getD_eq_getD_getElem?,Array.getElem?_replicate] at h;split at h <;>simp at h
   ·refine zw3 (List.length_filter_le _ _) ?_;rw[hp.len,(iy hgs).1,zy2];exact Z3 _
   ·have hall:eb σ (Array.replicate aW.size false)=σ:=by
     simp only[eb];refine List.filter_eq_self.2 fun i hi =>?_;have J:=hp.lt i hi;rw[(iy hgs).1,zy2] at J;simp[J]
    simp only[gB,hall];exact h _ fun _ hb=>hb
   ·obtain ⟨D,E,hs'⟩:=hs';exact ⟨D,E,hs'.grow (w' := { w with drawn:=w.drawn+1 }) ⟨rfl,rfl,rfl,Z3 _,fun _ _=>rfl⟩ (fun _ _ h=>h) (fun _ _ h _=>h) (fun b o h=>hs'.aQ b o h)⟩
 ·cases hc
def fi(ts:List (Nat×I)):ec→Prop
 | []=>True
 |(s,ns)::L=>(bW ts s).only (fun n=>ns.contains n)=true∧fi ts L
theorem cU.of{ts:List (Nat×I)}{os:List (Nat×aq)}{L:ec}(h:fi ts L):cU L (av ts os):=by
 intro s ns hn;simp only[av]
 induction L with
 |nil=>cases hn
 |cons q L ih =>
  obtain ⟨s',ns'⟩:=q;simp only[fi] at h;simp only[hJ,List.find?_cons] at hn;split at hn
  ·rename_i e;simp only[Z8,v6] at hn;simp only[beq_iff_eq] at e;subst e hn;exact h.1
  ·exact ih h.2 hn
end
end Go.Abs
namespace Go.Abs
open Go Go.RowKit
open Enc (enc)
section
variable {α:Type} [Enc α] {P:Program} {Y:Value→List I→List (Nat×aq)→cG→Prop} {K:ai→Prop} {A:ai} {rest:List aH} {esz bytes:Nat}
theorem tR{n lo k:Nat}{xs:List α}(ho:A.o n=some (.box (.agg (xs.map enc))))(h:lo+k≤xs.length):eK A esz (.view n [] esz lo k)=some (((xs.drop lo).take k).map enc):=by
 have J:cK A (.ptr n [])=some (.agg (xs.map enc)):=by simp only[cK,ho];rfl
 simp only[eK,J,Z9];rw[if_pos ⟨h,trivial⟩,List.map_take,List.map_drop]
theorem Zg{xs ys:List α}(h:xs.length=ys.length):I.cV (xs.map enc)=I.cV (ys.map enc):=by
 rw[xG,xG,h]
theorem ym{d:Option Nat}{e:Nat}(z:I)(ab:Enc.sz α=esz){n l:Nat}{xs ys:List α}(hy:ys≠[])(ho:A.o n=some (.box (.agg (xs.map enc))))(hr:l+ys.length≤xs.length) :
  fJ A d e esz bytes z (enc ys) rest (.view n [] esz 0 l)=az rest ((A.aS n (.box (.agg ((xs.take l++(ys++xs.drop (l+ys.length))).map enc)))).aT d (.view n [] esz 0 (l+ys.length))):=by
 have J:=tR (A:=A) (esz:=esz) (lo:=0) (k:=l) ho (by omega);have U:(I.agg (xs.map (enc (α:=α)))).at []=some (.agg (xs.map enc)):=rfl;have ah:I.cV (ys.map (enc (α:=α)))=I.cV (((xs.map (enc (α:=α))).drop l).take ys.length):=by
  rw[←List.map_drop,←List.map_take];exact Zg (by rw[zy4,List.length_drop];omega)
 simp only[fJ,J,np A esz ys ab,e7];rw[if_neg (by simpa using hy)];simp only[ho,U,Z9,Z1];rw[if_pos hr,if_pos ⟨rfl,by rw[Z9,Z1];exact ah⟩];simp only[jh,ot,Z9,zz2,List.map_take,List.map_drop]
theorem aR.G5{d e:Nat}(z:α)(ab:Enc.sz α=esz){n l:Nat}{xs ys:List α}(hy:ys≠[])(ho:A.o n=some (.box (.agg (xs.map enc))))(ao:l≤xs.length)(hr:xs.length<l+ys.length)(hf:A.o d=none)(hb:(l+ys.length)*bytes≤140737488355328)(hml:l+ys.length≤maxLen)
  (h:∀ q,aR P Y false K (az rest ((A.aS d (.box (.agg ((xs.take l++(ys++List.replicate q z)).map enc)))).aT (some d) (.view d [] esz 0 (l+ys.length))))):aR P Y false K (fJ A (some d) e esz bytes (enc z) (enc ys) rest (.view n [] esz 0 l)):=by
 have J:=tR (A:=A) (esz:=esz) (lo:=0) (k:=l) ho (by omega);have U:(I.agg (xs.map (enc (α:=α)))).at []=some (.agg (xs.map enc)):=rfl;have au:(xs.take l).length=l:=by rw[zy4];omega
 simp only[fJ,J,List.drop_zero,np A esz ys ab,e7];rw[if_neg (by simpa using hy)];simp only[ho,U,Z9,Z1];rw[if_neg (by omega)];simp only[fX,hf,Z9,au];rw[if_pos ⟨hb,hml⟩];refine .any rfl fun q _ =>?_;have:=h q;simp only[zz2,List.map_replicate] at this;exact this
theorem aR.G7{d e q0:Nat}(z:α){l:List α}(ab:Enc.sz α=esz)(ao:l≠[])(hf:A.o d=none)(hb:l.length*bytes≤140737488355328)(hml:l.length≤maxLen)
  (h:∀ m,aR P Y false K (az rest ((A.aS d (.box (.agg ((l++List.replicate m z).map enc)))).aT (some d) (.view d [] esz 0 l.length)))):aR P Y false K (fJ A (some d) e esz bytes (enc z) (enc l) rest (.nils q0)):=by
 have hne:l.map (enc (α:=α))≠[]:=by simpa using ao
 have J:eK A esz (.nils q0)=some []:=rfl;simp only[fJ,J,np A esz l ab,e7,if_neg hne,fX,hf,List.length_nil,Z1,Z9,if_pos (y6 hb hml),zx6];refine .any rfl fun m _ =>?_;have:=h m;simp only[zz2,List.map_replicate] at this;exact this
end
theorem pn(k:Nat):bW [] k=.dv:=rfl
def gY(L:List Nat):List (Nat×I)→List (Nat×I)
 | []=>[]
 |(s,v)::ts=>if L.contains s=true then (s,v)::gY L ts else gY L ts
theorem Wr(L:List Nat):gY L []=[]:=rfl
theorem Wq(L:List Nat)(s:Nat)(v:I)(ts:List (Nat×I)):gY L ((s,v)::ts)=if L.contains s=true then (s,v)::gY L ts else gY L ts:=rfl
theorem Ci(L:List Nat)(t:Nat):∀ ts,bW (gY L ts) t=.dv∨bW (gY L ts) t=bW ts t
 | []=>.inl rfl
 |(s,v)::ts=>by
  simp only[gY];have ih:=Ci L t ts;by_cases ab:L.contains s=true
  ·rw[if_pos ab];simp only[bW];split
   ·exact .inr rfl
   ·exact ih
  ·rw[if_neg ab];simp only[bW];split
   ·rename_i e;subst e
    left
    have:∀ ts,bW (gY L ts) t=.dv:=by
     intro ts
     induction ts with
     |nil=>rfl
     |cons q ts ih2 =>
      obtain ⟨s',v'⟩:=q;simp only[gY];split
      ·rename_i h';simp only[bW];have:t≠s':=fun e=>ab (e▸h');rw[if_neg this];exact ih2
      ·exact ih2
    exact this ts
   ·exact ih
theorem ae.dj(L:List Nat){c:cT}{x:bq}{Q:Exit→ai→Prop}{ts:List (Nat×I)}{os:List (Nat×aq)}(h:ae c x Q (av (gY L ts) os)):ae c x Q (av ts os):=by
 refine ae.sub ?_ h;rintro cc a w ⟨D,E,ab⟩;refine ⟨D,E,ab.sz,ab.eD,fun t =>?_,ab.dQ,ab.cZ,ab.aQ,ab.bO,ab.cN,ab.dV,ab.eP,ab.cR,ab.eX,ab.fx⟩;simp only[av];rcases Ci L t ts with e | e
 ·rw[e];simp[a8]
 ·rw[e];exact ab.dU t
theorem BY:(∀ L,gY L []=[])∧(∀ L s v ts,gY L ((s,v)::ts)=if L.contains s=true then (s,v)::gY L ts else gY L ts)∧(∀ (a:Nat) l b,(a::l).contains b=(b==a||l.contains b))∧(∀ b:Nat,([]:List Nat).contains b=false)∧(∀ b,(false||b)=b)∧(∀ b,(true||b)=true)∧(∀ b,(b||true)=true)∧(∀ b,(b||false)=b)∧((false=true)=False) :=
 ⟨Wr,Wq,fun _ _ _=>List.contains_cons,fun _=>rfl,fun _=>rfl,fun _=>rfl,fun b=>by cases b <;>rfl,fun b=>by cases b <;>rfl,by simp⟩
end Go.Abs
namespace Go.Abs
open Go Go.RowKit
open Enc (enc)
def wo:Option aq→Option (List I×List I)
 |some (.bt ks vs)=>some (ks,vs)
 |_=>none
noncomputable def qO(A:ai)(n:Nat)(rest:List aH):Option (List I×List I)→cM
 |some (ks,vs)=>az rest (A.aS n (.bt ks vs))
 |none=>.fail
noncomputable def wD(A:ai)(n:Nat)(ty:cF)(k v:I)(rest:List aH):Option aq→cM
 |some (.bt ks vs)=>qO A n rest (ft ty k v ks vs)
 |_=>.fail
noncomputable def wC(A:ai)(ty:cF)(k v:I)(rest:List aH):I→cM
 | .mref n=>wD A n ty k v rest (A.o n)
 |_=>.fail
noncomputable def wy(A:ai)(n:Nat)(ty:cF)(k:I)(rest:List aH):Option aq→cM
 |some (.bt ks vs)=>qO A n rest (lV ty k ks vs)
 |_=>.fail
noncomputable def wv(A:ai)(ty:cF)(k:I)(rest:List aH):I→cM
 | .mref n=>wy A n ty k rest (A.o n)
 |_=>.fail
noncomputable def wB(A:ai)(d:Nat)(rest:List aH):Option aq→cM
 |none=>az rest ((A.aS d (.bt [] [])).put d (.mref d))
 |some _=>.fail
open Classical in
noncomputable def Cw(A:ai)(d bytes:Nat)(z:I)(rest:List aH):I→cM
 | .int _ n=>if 0≤n∧n.toNat*bytes≤281474976710656∧n.toNat≤maxLen then az rest ((A.aS d (.box (.agg (List.replicate n.toNat z)))).put d (.view d [] 1 0 n.toNat)) else .fail
 |_=>.fail
noncomputable def th(A:ai)(d bytes:Nat)(z n:I)(rest:List aH):Option aq→cM
 |none=>Cw A d bytes z rest n
 |some _=>.fail
noncomputable def tN(A:ai)(d:Nat)(rest:List aH):I→cM
 | .dm ks vs=>az rest ((A.aS d (.it ks vs (List.range ks.length) none)).put d (.dq d))
 |_=>.fail
noncomputable def tM(A:ai)(d:Nat)(x:I)(rest:List aH):Option aq→cM
 |none=>tN A d rest x
 |some _=>.fail
def vl:Option aq→Option I
 |some (.it ks vs _ cur)=>mH ks vs cur
 |_=>none
def vk(A:ai):I→Option I
 | .dq n=>vl (A.o n)
 |_=>none
open Classical in
noncomputable def py(A:ai)(d:Option Nat)(n:Nat)(rest:List aH):Option aq→cM
 |some (.it ks vs left _)=>if left=[] then az rest (A.aT d (.tuple [.bool false])) else
   .any (fun i=>i∈left) fun i=>match ks[i]?,vs[i]? with
    |some kk,some x=>az rest ((A.aS n (.it ks vs (left.filter (· != i)) (some i))).aT d (.tuple [.bool true,kk,x]))
    |_,_=>.fail
 |_=>.fail
noncomputable def wK(A:ai)(d:Option Nat)(rest:List aH):I→cM
 | .dq n=>py A d n rest (A.o n)
 |_=>.fail
section
variable (d:Option Nat) (rest:List aH) (A:ai)
theorem XJ(x:aO):bJ A d (.nilC x) rest=cP (lW (ak A x)) (dk d rest A):=rfl
theorem XN(neg:Bool)(x y:aO):bJ A d (.ptrE neg x y) rest=cP (na neg (iF (ak A x)) (iF (ak A y))) (dk d rest A):=rfl
theorem XC(ty:cF)(z:I)(ok:Bool)(m k:aO):bJ A d (.lk ty z ok m k) rest=cP (qI ty z ok (ak A k) (fZ A (ak A m))) (dk d rest A):=rfl
theorem WR(n:Nat):fZ A (.mref n)=wo (A.o n):=by
 simp only[fZ];cases A.o n with
 |none=>rfl
 |some y=>cases y <;>rfl
theorem XH(ty:cF)(m k v:aO):bJ A none (.eT ty m k v) rest=wC A ty (ak A k) (ak A v) rest (ak A m):=by
 simp only[bJ,bl];cases ak A m <;>rfl
theorem XD(ty:cF)(m k:aO):bJ A none (.iG ty m k) rest=wv A ty (ak A k) rest (ak A m):=by
 simp only[bJ,bl];cases ak A m <;>rfl
theorem XF(d:Nat):bJ A (some d) .iH rest=wB A d rest (A.o d):=by
 simp only[bJ,bl];cases A.o d <;>rfl
theorem XG(d e bytes:Nat)(z:I)(n:aO):bJ A (some d) (.ki e bytes z n) rest=th A d bytes z (ak A n) rest (A.o d):=by
 simp only[bJ,bl];cases A.o d with
 |some _=>rfl
 |none=>simp only[th];cases ak A n <;>rfl
theorem XO(d:Nat)(x:aO):bJ A (some d) (.jD x) rest=tM A d (ak A x) rest (A.o d):=by
 simp only[bJ,bl];cases A.o d with
 |some _=>rfl
 |none=>simp only[tM];cases ak A x <;>rfl
theorem Xr(x:aO):bJ A d (.ent x) rest=cP (vk A (ak A x)) (dk d rest A):=by
 simp only[bJ,bl,bn];cases ak A x <;>rfl
theorem XL(x:aO):bJ A d (.ib x) rest=wK A d rest (ak A x):=by
 simp only[bJ,bl];cases ak A x <;>rfl
end
theorem Co:(∀ rest A ty m k,bJ A none (.iG ty m k) rest=wv A ty (ak A k) rest (ak A m))∧(∀ A ty k rest n,wv A ty k rest (.mref n)=wy A n ty k rest (A.o n))∧(∀ A n ty k rest ks vs,wy A n ty k rest (some (.bt ks vs))=qO A n rest (lV ty k ks vs)) ∧
  (∀ d rest A x y,bJ A d (.max2 x y) rest=cP (qP (ak A x) (ak A y)) (dk d rest A))∧(∀ a b,qP (.int .i64 a) (.int .i64 b)=some (.int .i64 (if b>a then b else a)))∧((I.any).bw=true) :=
 ⟨fun rest A=>XD rest A,fun _ _ _ _ _=>rfl,fun _ _ _ _ _ _ _=>rfl,fun _ _ _ _ _=>rfl,fun _ _=>rfl,rfl⟩
theorem mQ :
  (∀ d rest A x,bJ A d (.nilC x) rest=cP (lW (ak A x)) (dk d rest A))∧(∀ n p,lW (.ptr n p)=some (.ptr n p))∧(∀ x,lW (.ref x)=some (.ref x)) ∧
  (∀ d rest A neg x y,bJ A d (.ptrE neg x y) rest=cP (na neg (iF (ak A x)) (iF (ak A y))) (dk d rest A))∧(iF .nilp=some true)∧(∀ n p,iF (.ptr n p)=some false)∧(∀ x,iF (.ref x)=some false) ∧
  (na false (some true) (some true)=some (.bool true))∧(na false (some false) (some true)=some (.bool false))∧(na true (some true) (some true)=some (.bool false))∧(na true (some false) (some true)=some (.bool true)) ∧
  (∀ d rest A ty z ok m k,bJ A d (.lk ty z ok m k) rest=cP (qI ty z ok (ak A k) (fZ A (ak A m))) (dk d rest A))∧(∀ A n,fZ A (.mref n)=wo (A.o n))∧(∀ A ks vs,fZ A (.dm ks vs)=some (ks,vs))∧(∀ ks vs,wo (some (.bt ks vs))=some (ks,vs)) ∧
  (∀ ty z ok k ks vs,qI ty z ok k (some (ks,vs))=qJ ok (fp ty z k ks vs))∧(∀ v b,qJ false (some (v,b))=some v)∧(∀ v b,qJ true (some (v,b))=some (.tuple [v,.bool b])) ∧
  (∀ rest A ty m k v,bJ A none (.eT ty m k v) rest=wC A ty (ak A k) (ak A v) rest (ak A m))∧(∀ A ty k v rest n,wC A ty k v rest (.mref n)=wD A n ty k v rest (A.o n))∧(∀ A n ty k v rest ks vs,wD A n ty k v rest (some (.bt ks vs))=qO A n rest (ft ty k v ks vs)) ∧
  (∀ A n rest ks vs,qO A n rest (some (ks,vs))=az rest (A.aS n (.bt ks vs))) ∧
  (∀ rest A d,bJ A (some d) .iH rest=wB A d rest (A.o d))∧(∀ A d rest,wB A d rest none=az rest ((A.aS d (.bt [] [])).put d (.mref d))) ∧
  (∀ rest A d e bytes z n,bJ A (some d) (.ki e bytes z n) rest=th A d bytes z (ak A n) rest (A.o d))∧(∀ A d bytes z n rest,th A d bytes z n rest none=Cw A d bytes z rest n) ∧
  (∀ rest A d x,bJ A (some d) (.jD x) rest=tM A d (ak A x) rest (A.o d))∧(∀ A d x rest,tM A d x rest none=tN A d rest x)∧(∀ A d rest ks vs,tN A d rest (.dm ks vs)=az rest ((A.aS d (.it ks vs (List.range ks.length) none)).put d (.dq d))) ∧
  (∀ d rest A x,bJ A d (.ent x) rest=cP (vk A (ak A x)) (dk d rest A))∧(∀ A n,vk A (.dq n)=vl (A.o n))∧(∀ ks vs l cur,vl (some (.it ks vs l cur))=mH ks vs cur) ∧
  (∀ d rest A x,bJ A d (.ib x) rest=wK A d rest (ak A x))∧(∀ A d rest n,wK A d rest (.dq n)=py A d n rest (A.o n)) :=
 ⟨XJ,fun _ _=>rfl,fun _=>rfl,XN,rfl,fun _ _=>rfl,fun _=>rfl,rfl,rfl,rfl,rfl,XC,WR,fun _ _ _=>rfl,fun _ _=>rfl,fun _ _ _ _ _ _=>rfl,fun _ _=>rfl,fun _ _=>rfl,
  fun rest A ty m k v=>XH rest A ty m k v,fun _ _ _ _ _ _=>rfl,fun _ _ _ _ _ _ _ _=>rfl,fun _ _ _ _ _=>rfl,fun rest A d=>XF rest A d,fun _ _ _=>rfl,fun rest A d e bytes z n=>XG rest A d e bytes z n,fun _ _ _ _ _ _=>rfl,
  fun rest A d x=>XO rest A d x,fun _ _ _ _=>rfl,fun _ _ _ _ _=>rfl,Xr,fun _ _=>rfl,fun _ _ _ _=>rfl,XL,fun _ _ _ _=>rfl⟩
theorem bA:(∀ n p z lo k,bY none (.view n p z lo k)=true)∧(∀ n,bY none (.mref n)=true)∧(∀ n p,bY none (.ptr n p)=true)∧(∀ x,bY none (.ref x)=true)∧bY none .nilp=true∧bY none .dC=true∧bY none (.raw (.map none))=true∧(∀ ks vs,bY none (.dm ks vs)=true)∧(∀ {α:Type} [Enc α] (l:List α),bY none (enc l)=true) :=
 ⟨fun _ _ _ _ _=>rfl,fun _=>rfl,fun _ _=>rfl,fun _=>rfl,rfl,rfl,rfl,fun _ _=>rfl,fun l=>by simp[kS,kR]⟩
section
variable {α:Type} [Enc α] [DecidableEq α] {ty:cF}
theorem sJ(aA:∀ x y:α,b5 ty (enc x) (enc y)=some (decide (x=y)))(k:α):∀ (ks:List α) (i:Nat),eE ty (enc k) (ks.map enc) i=some ((ks.findIdx? fun x=>decide (k=x)).map (· + i))
 | [],i=>rfl
 |x::ks,i=>by
  simp only[Z4,eE,aA,List.findIdx?_cons];by_cases h:k=x
  ·simp[h]
  ·simp only[h,decide_false,Z2,if_false];rw[sJ aA k ks (i+1)];cases ks.findIdx? fun x=>decide (k=x) with
   |none=>rfl
   |some j=>simp;omega
theorem s9(aA:∀ x y:α,b5 ty (enc x) (enc y)=some (decide (x=y)))(z:I)(k:α)(ks:List α)(vs:List I) :
  fp ty z (enc k) (ks.map enc) vs=match ks.findIdx? fun x=>decide (k=x) with
   |some i=>(vs[i]?).map fun v=>(v,true)
   |none=>some (z,false):=by
 simp only[fp,aA,Option.isSome_some,if_true,sJ aA];cases ks.findIdx? fun x=>decide (k=x) <;>rfl
theorem wE(aA:∀ x y:α,b5 ty (enc x) (enc y)=some (decide (x=y)))(k:α)(v:I)(hv:v.bR=true)(ks:List α)(vs:List I) :
  ft ty (enc k) v (ks.map enc) vs=match ks.findIdx? fun x=>decide (k=x) with
   |some i=>some (ks.map enc,vs.set i v)
   |none=>some ((ks++[k]).map enc,vs++[v]):=by
 simp only[ft,aA,Option.isSome_some,hv,BS (kQ k),and_self,if_true,sJ aA];cases ks.findIdx? fun x=>decide (k=x) with
 |none=>simp
 |some i=>rfl
omit [Enc α] in
theorem qi{k:α}{ks:List α} : (ks.findIdx? fun x=>decide (k=x)).isSome=decide (k∈ks):=by
 induction ks with
 |nil=>rfl
 |cons x ks ih =>
  simp only[List.findIdx?_cons,zx3];by_cases h:k=x
  ·simp[h]
  ·simp only[h,decide_false,Z2,if_false,Option.isSome_map,ih,false_or]
theorem gn(aA:∀ x y:α,b5 ty (enc x) (enc y)=some (decide (x=y)))(k:α)(ks:List α):fp ty (.bool false) (enc k) (ks.map enc) (List.replicate ks.length (.bool true))=some (.bool (decide (k∈ks)),decide (k∈ks)):=by
 rw[s9 aA,←qi];cases h:ks.findIdx? fun x=>decide (k=x) with
 |none=>rfl
 |some i =>
  have:=(List.findIdx?_eq_some_iff_getElem.1 h).1;simp[this]
def gI{α:Type}[DecidableEq α](ks:List α)(k:α):List α:=if k∈ks then ks else ks++[k]
theorem wF(aA:∀ x y:α,b5 ty (enc x) (enc y)=some (decide (x=y)))(k:α)(ks:List α):ft ty (enc k) (.bool true) (ks.map enc) (List.replicate ks.length (.bool true))=some ((gI ks k).map enc,List.replicate (gI ks k).length (.bool true)):=by
 rw[wE aA k _ rfl];have hm:=qi (k:=k) (ks:=ks);cases h:ks.findIdx? fun x=>decide (k=x) with
 |none =>
  rw[h] at hm;have:k∉ks:=by simpa using hm.symm
  simp only[gI,if_neg this]
  congr 2
  rw[Z6,zx1,List.replicate_succ']
 |some i =>
  rw[h] at hm;have:k∈ks:=by simpa using hm.symm
  simp only[gI,if_pos this]
  congr 2
  have:=(List.findIdx?_eq_some_iff_getElem.1 h).1;exact List.ext_getElem (by simp) fun j J U=>by
   simp only[List.getElem_set,List.getElem_replicate];split <;>rfl
end
theorem Wo{m sz lo l i:Nat}{fs:List I}(h:i<l):mM m [] sz lo l sz (i:Int) (some fs)=some (.ptr m [lo+i]):=by rw[Wn h];rfl
theorem Aq:(∀ {α:Type} [Enc α] (x:α),(enc x).bw=true)∧(∀ n p z lo k,(I.view n p z lo k).bw=false)∧(∀ n,(I.mref n).bw=false)∧(∀ n p,(I.ptr n p).bw=false)∧(∀ n k,(I.own n k).bw=false) :=
 ⟨@kQ,fun _ _ _ _ _=>rfl,fun _=>rfl,fun _ _=>rfl,fun _ _=>rfl⟩
end Go.Abs
namespace Go.Abs
open Go Go.RowKit
open Enc (enc)
theorem bx.GS{A:ai}{d n T z:Nat}(af:A.t d=.nils z)(hn:A.o n=none)(hlt:n<1000000):bx A ((A.aS n (.dL T [])).put d (.own n 0)):=by
 rintro c a w ⟨D,E,h⟩;have aA:E n=none:=by have:=h.bO n;rw[hn] at this;exact this
 have ao:dY w D E w D (fun m=>if m=n then some (.rw none 0) else E m):=by
  have eN:∀ {m:Nat} {e:bL},E m=some e→(if m=n then some (.rw none 0) else E m)=some e:=fun {m e} he=>by
   have:m≠n:=fun e=>by rw[e,aA] at he;cases he
   rw[if_neg this];exact he
  refine ⟨fun _ _ h=>h,fun _ _ _ _ h=>h,fun m b aX he=>eN he,fun m aJ l he =>?_,fun m b he=>eN he,fun m b he=>eN he,fun _ _ _ _ h=>h⟩
  ·have:m≠n:=fun e=>by rw[e,aA] at he;cases he
   exact ⟨aJ,l,by simp only[if_neg this];exact he,Z3 _,fun _=>rfl⟩
 refine ⟨D,fun m=>if m=n then some (.rw none 0) else E m,h.sz,h.eD,fun t =>?_,h.dQ,h.cZ,h.aQ,fun m =>?_,fun m m' e e' b J U ah au =>?_,fun m e hm =>?_,h.eP,h.cR,h.eX,h.fx⟩
 ·simp only[ai.put,ai.aS];by_cases ht:t=d
  ·subst ht;simp only[if_true];have hv:=h.dU t;rw[af] at hv;obtain ⟨cs,q1,q2⟩:=hv;simp only[al] at q2;subst q2;refine ⟨[.slice none 0 0],by simpa[bB,I.isAgg] using q1,?_⟩;simp only[al,if_true];exact ⟨none,0,rfl,Z3 _,⟨_,_,_,rfl⟩,fun _=>trivial⟩
  ·simp only[if_neg ht];exact a8.later ao (h.dU t)
 ·simp only[ai.put,ai.aS];by_cases hm:m=n
  ·subst hm;simp only[if_true,cX];exact ⟨none,by simp,by simp,trivial⟩
  ·simp only[if_neg hm];exact (h.bO m).later ao (by simp only[if_neg hm]) fun _ _ _ _=>⟨rfl,fun _ ho=>ho⟩
 ·by_cases hm:m=n <;>by_cases hm':m'=n
  ·rw[hm,hm']
  ·simp only[if_pos hm,v6] at J;subst J;simp[bL.aJ] at ah
  ·simp only[if_pos hm',v6] at U;subst U;simp[bL.aJ] at au
  ·simp only[if_neg hm] at J;simp only[if_neg hm'] at U;exact h.cN m m' e e' b J U ah au
 ·have hmn:m≠n:=fun e=>by rw[e,h.kg (.inr hlt)] at hm;cases hm
  simp only[if_neg hmn];exact h.dV m e hm
theorem bx.GU{ts:List (Nat×I)}{os:List (Nat×aq)}(d n T z:Nat)(af:bW ts d=.nils z)(hn:aj os n=none){B:ai}(h:bx (av ((d,.own n 0)::ts) ((n,.dL T [])::os)) B)(hlt:n<1000000:=by decide):bx (av ts os) B :=
 ((bx.GS (A:=av ts os) (T:=T) af hn hlt).trans (by rw[qN,te];exact bx.refl _)).trans h
theorem G6{A:ai}{d:Option Nat}{e bytes n l:Nat}{xs:List Int}{y:Int}{rest:List aH}(ao:l=xs.length)(J:xs.length+1≤maxLen)(U:(xs.length+1)*bytes≤140737488355328) :
  oL A d e 1 bytes (.int .i64 0) n l e xs rest (enc [y])=az rest ((A.aS n (.dL e (xs++[y]))).aT d (.own n (xs.length+1))):=by
 show oL A d e 1 bytes (.int .i64 0) n l e xs rest (.slice 1 [.int .i64 y])=_
 simp only[oL];rw[if_pos ⟨ao,rfl,rfl,rfl,rfl,by simp,J,U⟩];rfl
def iV(n k:Nat):I→I
 | .own n' k'=>if n'=n∧k'=k then .view n [] 1 0 k else .own n' k'
 |v=>v
def iU(n:Nat):I→I
 | .own n' k'=>if n'=n∧k'=0 then .nils 1 else .own n' k'
 |v=>v
def jG(f:I→I):aq→aq
 | .box v=>.box (f v)
 |y=>y
def qV(n k:Nat)(v:I):Prop:=v=.own n k∨v.only (fun j=>j != n)=true
def XW(n k:Nat)(y:aq):Prop:=y=.box (.own n k)∨y.only (fun j=>j != n)=true
theorem ua{n k:Nat}{v:I}(h:v.only (fun j=>j != n)=true):iV n k v=v:=by
 cases v <;>try rfl
 rename_i n' k';simp only[I.only,bne_iff_ne,ne_eq] at h;simp only[iV,h,false_and,if_false]
theorem Fi{n:Nat}{v:I}(h:v.only (fun j=>j != n)=true):iU n v=v:=by
 cases v <;>try rfl
 rename_i n' k';simp only[I.only,bne_iff_ne,ne_eq] at h;simp only[iU,h,false_and,if_false]
theorem po(f:I→I)(hf:f .dv=.dv)(ts:List (Nat×I))(t:Nat):bW (ts.map fun q=>(q.1,f q.2)) t=f (bW ts t):=by
 induction ts with
 |nil=>exact hf.symm
 |cons q ts ih =>
  obtain ⟨k,v⟩:=q;simp only[Z4,bW];split
  ·rfl
  ·exact ih
theorem ta(f:aq→aq)(os:List (Nat×aq))(t:Nat):aj (os.map fun q=>(q.1,f q.2)) t=(aj os t).map f:=by
 induction os with
 |nil=>rfl
 |cons q os ih =>
  obtain ⟨k,v⟩:=q;simp only[Z4,aj];split
  ·rfl
  ·exact ih
theorem cX.da{M:Nat→Prop}{w:World}{D:aP}{E E':aZ}{p:Nat→Bool}(hp:∀ n,p n=true→E' n=E n){m:Nat}(aA:E' m=E m){y:aq}(hon:y.only p=true)(ho:cX M w D E m (some y)):cX M w D E' m (some y):=by
 cases y with
 |box x =>
  obtain ⟨b,cs,T,k1,k2,k3,k4,k5⟩:=ho;exact ⟨b,cs,T,aA.trans k1,k2,k3,al.da hp _ _ (by simpa[aq.only] using hon) k4,k5⟩
 |bU T sz es =>
  obtain ⟨aJ,k1,k2,k3⟩:=ho;refine ⟨aJ,aA.trans k1,k2,?_⟩;cases aJ with
  |none=>exact k3
  |some bc =>
   obtain ⟨b,cap⟩:=bc;obtain ⟨cs,pre,rest,q1,q2,q3,q4,q5⟩:=k3;exact ⟨cs,pre,rest,q1,q2,q3,aM.da hp _ _ (by simpa[aq.only] using hon) q4,q5⟩
 |dL T xs =>
  obtain ⟨aJ,k1,k2,k3⟩:=ho;exact ⟨aJ,aA.trans k1,k2,k3⟩
 |dK x =>
  obtain ⟨b,k1,k2⟩:=ho;exact ⟨b,aA.trans k1,k2⟩
 |bt ks vs =>
  obtain ⟨b,es,ck,k1,k2,k3,k4,k5,k6,k7⟩:=ho;simp only[aq.only,t8] at hon;exact ⟨b,es,ck,aA.trans k1,k2,k3,k4,aI.da hp _ _ hon.1 k5,aI.da hp _ _ hon.2 k6,k7⟩
 |it ks vs left cur =>
  obtain ⟨r,b,es,ck,si,se,la,k1,k2,k3,k4,k5,k6,k7⟩:=ho;simp only[aq.only,t8] at hon;exact ⟨r,b,es,ck,si,se,la,aA.trans k1,k2,k3,k4,aI.da hp _ _ hon.1 k5,aI.da hp _ _ hon.2 k6,k7⟩
theorem rD(xs:List Int):(I.agg (xs.map enc)).aX=.eJ (List.replicate xs.length .one):=by
 show cO.eJ (I.cV _)=_
 congr 1
 induction xs with
 |nil=>rfl
 |cons x xs ih=>simp only[Z4,I.cV,ih,zx5,List.replicate_succ];rfl
theorem rh{w:World}{D:aP}{E:aZ} : ∀ {xs:List Int},(∀ x∈xs,IntKind.i64.min≤x∧x≤IntKind.i64.max)→aM w D E (xs.map enc) (xs.map (Value.int .i64))
 | [],_=>rfl
 |x::xs,h=>⟨[.int .i64 x],xs.map (Value.int .i64),rfl,⟨rfl,h x (by simp)⟩,rh fun y hy=>h y (by simp[hy])⟩
theorem bx.ZE{ts:List (Nat×I)}{os:List (Nat×aq)}{n T:Nat}{B:ai}(hn:aj os n=some (.dL T []))
  (h:bx (av (ts.map fun q=>(q.1,iU n q.2)) (os.map fun q=>(q.1,jG (iU n) q.2))) B):bx (av ts os) B:=by
 refine bx.trans ?_ h;rintro c a w ⟨D,E,ab⟩;obtain ⟨aJ,aA,-,hblk⟩:=ab.rN (n:=n) (T:=T) (xs:=[]) hn;have hnone:aJ=none:=by
  cases aJ with
  |none=>rfl
  |some bc=>obtain ⟨b,cap⟩:=bc;obtain ⟨_,_,_,_,_,h,_⟩:=hblk;exact absurd rfl h
 subst hnone;have conv:∀ (v:I) (cs:List Value),al w D E v cs→al w D E (iU n v) cs:=fun v cs hr=>by
  cases v <;>try exact hr
  rename_i n' k';simp only[iU];split
  ·rename_i bK;obtain ⟨rfl,rfl⟩:=bK;obtain ⟨blk',l,q3,q4,q5,q6⟩:=hr;rw[aA] at q3;simp only[v6,bL.rw.injEq,List.length_nil] at q3;obtain ⟨rfl,rfl⟩:=q3;exact q6 rfl
  ·exact hr
 refine ⟨D,E,ab.sz,ab.eD,fun t =>?_,ab.dQ,ab.cZ,ab.aQ,fun m =>?_,ab.cN,ab.dV,ab.eP,ab.cR,ab.eX,ab.fx⟩
 ·show a8 w D E (bW _ t) _
  rw[po _ rfl];have:=ab.dU t;simp only[av] at this;revert this;generalize bW ts t=v;intro hv;cases v <;>try exact hv
  rename_i n' k';obtain ⟨cs,q1,q2⟩:=hv;have:=conv _ _ q2
  revert this;simp only[iU];split
  ·intro this;exact ⟨cs,q1,this⟩
  ·intro this;exact ⟨cs,q1,this⟩
 ·show cX _ w D E m (aj _ m)
  rw[ta];have:=ab.bO m;simp only[av] at this;revert this;cases aj os m with
  |none=>exact id
  |some y =>
   cases y <;>try exact id
   rename_i x;rintro ⟨b,cs,T,k1,k2,k3,k4,k5⟩;refine ⟨b,cs,T,?_,k2,k3,conv _ _ k4,k5⟩;rw[k1];have:(iU n x).aX=x.aX:=by
    cases x <;>try rfl
    simp only[iU];split <;>rfl
   rw[this]
theorem ae.ZD{c:cT}{x:bq}{Q:Exit→ai→Prop}{ts:List (Nat×I)}{os:List (Nat×aq)}{n T:Nat}{xs:List Int}(hn:aj os n=some (.dL T xs))(hne:xs≠[])(hlt:n<1000000)
  (ht:∀ t,qV n xs.length (bW ts t)) (ho:∀ m y,aj os m=some y→m≠n→XW n xs.length y)
  (h:∀ q:Nat,ae c x Q (av (ts.map fun p=>(p.1,iV n xs.length p.2)) ((n,.box (.agg ((xs++List.replicate q 0).map enc)))::os.map fun p=>(p.1,jG (iV n xs.length) p.2)))):ae c x Q (av ts os):=by
 rintro code hc a w ⟨D,E,ab⟩;obtain ⟨aJ,aA,hr,hblk⟩:=ab.rN (n:=n) hn;cases aJ with
 |none=>exact absurd hblk hne
 |some bc =>
 obtain ⟨b,cap⟩:=bc;obtain ⟨cs,q,hM,hb,hcs,-,hcap,hmax,hD⟩:=hblk;have hp:∀ j,(fun j=>j != n) j=true→(fun j=>if j=n then some (bL.aN b (.eJ (List.replicate (xs.length+q) .one))) else E j) j=E j:=fun j hj=>by
  have:j≠n:=by simpa using hj
  simp only[if_neg this]
 have conv:∀ cs0,al w D E (.own n xs.length) cs0→al w D (fun j=>if j=n then some (bL.aN b (.eJ (List.replicate (xs.length+q) .one))) else E j) (.view n [] 1 0 xs.length) cs0:=fun cs0 hr=>by
  obtain ⟨blk',l,q3,q4,q5,q6⟩:=hr;rw[aA] at q3;simp only[v6,bL.rw.injEq] at q3;obtain ⟨rfl,rfl⟩:=q3;have:=q6 rfl;refine ⟨b,_,0,List.replicate (xs.length+q) .one,if_pos rfl,rfl,rfl,?_,by rw[List.length_replicate];omega,by rw[List.length_replicate];omega,fun s ab =>?_⟩
  ·rw[this,List.length_replicate];simp only[Nat.zero_mul,Nat.add_zero,Nat.sub_zero,hcap]
  ·rw[List.eq_of_mem_replicate ab];rfl
 refine h q code hc a w ⟨D,fun j=>if j=n then some (.aN b (.eJ (List.replicate (xs.length+q) .one))) else E j,ab.sz,ab.eD,fun t =>?_,ab.dQ,ab.cZ,ab.aQ,fun m =>?_,fun m m' e e' b1 J U ah au =>?_,fun m e hm =>?_,ab.eP,ab.cR,ab.eX,ab.fx⟩
 ·show a8 w D _ (bW _ t) _
  rw[po _ rfl];have hv:=ab.dU t;simp only[av] at hv;rcases ht t with J | J
  ·rw[J] at hv ⊢;simp only[iV,and_self,if_true];obtain ⟨cs0,q1,q2⟩:=hv;exact ⟨cs0,q1,conv _ q2⟩
  ·rw[ua J];exact a8.da hp J hv
 ·show cX _ w D _ m (aj _ m)
  simp only[aj];by_cases hm:m=n
  ·subst hm;simp only[if_true];refine ⟨b,cs,T,?_,hM,hb,?_,hD⟩
   ·simp only[if_true];rw[rD,Z6,List.length_replicate]
   ·show aM w D _ _ _
    rw[hcs];refine rh fun y hy =>?_;rcases zy7.1 hy with hy | hy
    ·exact hr y hy
    ·rw[List.eq_of_mem_replicate hy];decide
  ·simp only[if_neg hm];rw[ta];have hob:=ab.bO m;simp only[av] at hob;cases hy:aj os m with
   |none=>rw[hy] at hob;simp only[cX,Option.map_none] at hob ⊢;rw[if_neg hm];exact hob
   |some y =>
    rw[hy] at hob;rcases ho m y hy hm with rfl | J
    ·obtain ⟨b1,cs1,r8,k1,k2,k3,k4,k5⟩:=hob;refine ⟨b1,cs1,r8,?_,k2,k3,?_,k5⟩
     ·simp only[if_neg hm];rw[k1];simp only[iV,and_self,if_true];rfl
     ·simp only[iV,and_self,if_true];exact conv _ k4
    ·have e:jG (iV n xs.length) y=y:=by
      cases y <;>try rfl
      simp only[aq.only] at J;simp only[jG,ua J]
     simp only[Z8,e];exact hob.da hp (if_neg hm) J
 ·have cut:∀ m e,(if m=n then some (bL.aN b (.eJ (List.replicate (xs.length+q) .one))) else E m)=some e→∃ e2,E m=some e2∧e2.aJ=e.aJ:=fun m e he=>by
   by_cases hm:m=n
   ·subst hm;rw[if_pos rfl] at he;cases he;exact ⟨_,aA,rfl⟩
   ·rw[if_neg hm] at he;exact ⟨e,he,rfl⟩
  obtain ⟨e2,k1,k2⟩:=cut m e J;obtain ⟨e3,k3,k4⟩:=cut m' e' U;exact ab.cN m m' e2 e3 b1 k1 k3 (k2.trans ah) (k4.trans au)
 ·have hmn:m≠n:=fun e=>by rw[e,ab.kg (.inr hlt)] at hm;cases hm
  simp only[if_neg hmn];exact ab.dV m e hm
end Go.Abs
namespace Go.Abs
open Go Go.RowKit
def sY(n:Nat)(cl:List Nat)(i:Nat):Bool:=(List.range n).all fun j=>j==i||(cl.getD i 0).testBit j
def pD(ab:List FuncId)(L:ec)(on:List (List Nat))(gs:List aH)(cl:List Nat)(σ:List Nat):Bool :=
 (Nat.beq σ.length gs.length&&(qT σ&&(σ.all (fun i=>decide (i<gs.length))&&((List.range gs.length).all (fun i=>σ.contains i)&&(List.range gs.length).all fun i=>mU (gs.getD i default).op&&(hP L (gs.getD i default)||(sY gs.length cl i&&σ.getLast?==some i))))))&&(pY ab L gs cl [] σ&&(List.range gs.length).all fun i=>(on.getD i []).all (fun k=>decide (k<i))&&Nat.beq (cl.getD i 0) (lz cl (on.getD i [])))
structure uv (ab:List FuncId) (L:ec) (l:List Oper) (gs:List aH) (σ:List Nat):Prop where
 nV:σ.Nodup
 lt:∀ i∈σ,i<gs.length
 all:∀ i,i<gs.length→i∈σ
 ok:∀ i,i<gs.length→mU (gs.getD i default).op=true
 qF:∀ i o,l[i]?=some o→hP L (gs.getD i default)=true∨(σ.getLast?=some i∧∀ (S:Nat→Prop),(∀ i o,l[i]?=some o→S i→∀ k∈cj o,S k)→(∀ k∈cj o,S k)→∀ j,j<gs.length→j≠i→S j)
 len:σ.length=gs.length
 iv:∀ i o,l[i]?=some o→∀ k∈cj o,k<i
 o8:∀ (S:Nat→Prop),(∀ i o,l[i]?=some o→S i→∀ k∈cj o,S k)→∀ s1 i s2 o,σ=s1++i::s2→l[i]?=some o→(∀ k∈cj o,S k)→∀ j∈s1,¬ S j→mK ab L (gs.getD j default) (gs.getD i default)=true
theorem CX{ab:List FuncId}{L:ec}{l:List Oper}{gs:List aH}{cl σ:List Nat}(hlen:gs.length=l.length)(h:pD ab L (l.map cj) gs cl σ=true):uv ab L l gs σ:=by
 simp only[pD,t8,zy1,decide_eq_true_eq,zw0,List.contains_eq_mem] at h;obtain ⟨⟨J,U,ah,au,h5⟩,h6,h7⟩:=h;have fD:∀ i o,l[i]?=some o→(∀ k∈cj o,k<i)∧(∀ j,(cl.getD i 0).testBit j=true→j∈cj o∨∃ k∈cj o,(cl.getD k 0).testBit j=true):=by
  intro i o ho;have hi:i<l.length:=(Z5.1 ho).1;have h8:=h7 i (by omega);have hon:(l.map cj).getD i []=cj o:=by simp[Z0,ho]
  rw[hon] at h8;have hb:=Nat.eq_of_beq_eq_true h8.2;exact ⟨h8.1,fun j hj=>rP (by rw[←hb];exact hj)⟩
 have keyS:∀ (S:Nat→Prop),(∀ i o,l[i]?=some o→S i→∀ k∈cj o,S k)→∀ n i o,i≤n→l[i]?=some o→(∀ k∈cj o,S k)→∀ j,(cl.getD i 0).testBit j=true→S j:=by
  intro S hS n
  induction n with
  |zero =>
   intro i o hi ho hon j hj;obtain ⟨h8,h9⟩:=fD i o ho;rcases h9 j hj with h | ⟨k,hk,_⟩
   ·exact hon j h
   ·have:=h8 k hk;omega
  |succ n ih =>
   intro i o hi ho hon j hj;obtain ⟨h8,h9⟩:=fD i o ho;rcases h9 j hj with h | ⟨k,hk,hjk⟩
   ·exact hon j h
   ·have hki:=h8 k hk;have hkl:k<l.length:=Nat.lt_trans hki (Z5.1 ho).1;obtain ⟨ok,hok⟩:∃ ok,l[k]?=some ok:=⟨l[k],zz4 hkl⟩
    exact ih k ok (by omega) hok (hS k ok hok (hon k hk)) j hjk
 refine ⟨wI U,ah,au,fun i hi=>(h5 i hi).1,fun i o ho =>?_,Nat.eq_of_beq_eq_true J,fun i o ho=>(fD i o ho).1,?_⟩
 ·have hi:i<gs.length:=by rw[hlen];exact (Z5.1 ho).1
  have h5o:=(h5 i hi).2;rw[Bool.or_eq_true] at h5o;rcases h5o with h | h
  ·exact .inl h
  ·rw[t8] at h;obtain ⟨h,hla⟩:=h;refine .inr ⟨by simpa using hla,fun S hS hon j hj hji =>?_⟩;simp only[sY,zy1,zw0,Bool.or_eq_true,beq_iff_eq] at h;rcases h j hj with e | e
   ·exact absurd e hji
   ·exact keyS S hS i i o (Z3 _) ho hon j e
 intro S hS s1 i s2 o e ho hon j hj hnj;have key:=keyS S hS;rcases uB h6 s1 i s2 e j (.inr hj) with h | h
 ·exact absurd (key i i o (Z3 _) ho hon j h) hnj
 ·exact h
section
variable {c:cT}
theorem G1{K:ai→Prop}{fs:List FuncId}{L:ec}{aW:Array Oper}{gs:List aH}{σ:List Nat}{Q:Exit→Act→World→Prop}(hQ:∀ B a w,K B→bX c B a w→Q .normal a w)(hgs:fK c.P c.n aW aW.toList=some gs)(af:uv fs L aW.toList gs σ) :
  ∀ (fuel:Nat) (listed:Array Bool) (A:ai) (a:Act) (w:World),listed.size=aW.size→(∀ i o,aW.toList[i]?=some o→listed.getD i false=true→∀ k∈cj o,listed.getD k false=true)→(eb σ listed).length≤fuel →
   (eb σ listed=[]∨cU L A)→bN c.P c.Y fs K (az (gB gs σ listed) A)→bX c A a w→wpAnyIn c.bE 9 c.P .any aW Q fuel listed a w:=by
 obtain ⟨hlen,hat⟩:=iy hgs;have onOf_mem:∀ (o:Oper) (e:Edge),e∈o.after→Region.binds .any e=true→e.on∈cj o:=fun o e he hb=>by
  simp only[cj,zy0,zx2];exact ⟨e,⟨by simpa using he,hb⟩,rfl⟩
 have of_onOf:∀ (o:Oper) (k:Nat),k∈cj o→∃ e∈o.after,Region.binds .any e=true∧e.on=k:=fun o k hk=>by
  simp only[cj,zy0,zx2] at hk;obtain ⟨e,⟨J,U⟩,ah⟩:=hk;exact ⟨e,by simpa using J,U,ah⟩
 have hgl:gs.length=aW.size:=by rw[hlen,zy2]
 have last:∀ (listed:Array Bool) (A:ai) (a:Act) (w:World),listed.size=aW.size→Region.ready .any aW listed=[]→bN c.P c.Y fs K (az (gB gs σ listed) A)→bX c A a w→Q .normal a w:=by
  intro listed A a w hsz hr hwp ab;have hnone:eb σ listed=[]:=by
   have all:∀ n,∀ i,i<n→i<aW.size→listed.getD i true=true:=by
    intro n
    induction n with
    |zero=>intro i hi;omega
    |succ n ih =>
     intro i hi his;cases hb:listed.getD i true with
     |true=>rfl
     |false =>
      exfalso
      have ho:aW[i]?=some aW[i]:=zx8 his;have:i∈Region.ready .any aW listed:=mem_ready.2 ⟨hb,aW[i],ho,fun e he hbd=>by
       have hlt:=af.iv i aW[i] (by simp) e.on (onOf_mem _ e he hbd);have J:=ih e.on (by omega) (by omega);have U:e.on<listed.size:=by omega
       simpa[Array.getD_eq_getD_getElem?,U] using J⟩
      rw[hr] at this;cases this
   simp only[eb];refine List.filter_eq_nil_iff.2 fun i hi =>?_;have:=all (i+1) i (by omega) (by rw[←hgl];exact af.lt i hi);simp only[this,Bool.not_true,Z2,not_false_eq_true]
  simp only[gB,hnone,zy6,az] at hwp;cases hwp with
  |done hk=>exact hQ A a w hk ab
 intro fuel
 induction fuel with
 |zero =>
  intro listed A a w hsz hcl hcnt hinv hwp ab;have hnone:eb σ listed=[]:=List.length_eq_zero_iff.1 (by omega);have hr:Region.ready .any aW listed=[]:=by
   refine List.eq_nil_iff_forall_not_mem.2 fun i hi =>?_;obtain ⟨J,o,ho,_⟩:=mem_ready.1 hi;have:i∈eb σ listed:=by
    simp only[eb,zx2,J,Bool.not_false,and_true];exact af.all i (by rw[hgl];exact (zz1.1 ho).1)
   rw[hnone] at this;cases this
  exact ⟨hr,last listed A a w hsz hr hwp ab⟩
 |succ fuel ih =>
  intro listed A a w hsz hcl hcnt hinv hwp ab;refine ⟨fun hr=>last listed A a w hsz hr hwp ab,fun i hi =>?_⟩;obtain ⟨hun,o,ho,hall⟩:=mem_ready.1 hi;have hin:i<aW.size:=(zz1.1 ho).1;obtain ⟨s1,s2,hσ,e1,e2⟩:=xg af.nV (af.all i (by omega)) (by omega) hun;have hinv:cU L A:=by
   rcases hinv with h | h
   ·rw[e1] at h;simp at h
   ·exact h
  have hol:aW.toList[i]?=some o:=by simpa using ho
  obtain ⟨g,hgi,hcg⟩:=hat i o hol;have hon:∀ k∈cj o,listed.getD k false=true:=fun k hk=>by
   obtain ⟨e,J,U,ah⟩:=of_onOf o k hk;exact ah▸hall e J U
  have hgd:gs.getD i default=g:=by simp[Z0,hgi]
  have hwp':bN c.P c.Y fs K (az (g::gB gs σ (listed.setIfInBounds i true)) A):=by
   simp only[gB,e1,zz2,Z4,hgd] at hwp;simp only[gB,e2,zz2];refine bN.nC hinv (fun j hj =>?_) hwp;obtain ⟨k,hk,rfl⟩:=zy0.1 hj;obtain ⟨hk1,hk2⟩:=zx2.1 hk;have:=af.o8 (fun k=>listed.getD k false=true) hcl s1 i s2 o hσ hol hon k hk1 (by
    have hks:k<listed.size:=by
     have:=af.lt k (by rw[hσ];exact List.mem_append_left _ hk1);omega
    simp[Array.getD_eq_getD_getElem?,hks] at hk2 ⊢;exact hk2)
   rw[hgd] at this;have hkl:=af.lt k (by rw[hσ];exact List.mem_append_left _ hk1);have hks:k<aW.size:=by omega
   refine ⟨this,?_⟩;rcases af.qF k aW[k] (by simp) with h | h
   ·exact h
   ·exfalso
    have h9:=h.1;rw[hσ,List.getLast?_append] at h9;have hne:(i::s2).getLast?=some k:=by
     cases h10:(i::s2).getLast? with
     |none=>simp at h10
     |some q=>rw[h10] at h9;simpa using h9
    have hk2:k∈i::s2:=List.mem_of_getLast? hne;have hnd:=af.nV;rw[hσ] at hnd;exact (List.nodup_append.1 hnd).2.2 k hk1 k hk2 rfl
  unfold wpOpIn;rw[ho];have hgm:g∈gs:=List.mem_of_getElem? hgi;have hokg:mU g.op=true:=by
   have:=af.ok i (by omega)
   rwa [hgd] at this
  have hcl':∀ m om,aW.toList[m]?=some om→(listed.setIfInBounds i true).getD m false=true→∀ k∈cj om,(listed.setIfInBounds i true).getD k false=true:=by
   intro m om hom hm k hk;by_cases hmi:m=i
   ·subst hmi;rw[hol,v6] at hom;subst hom;exact getD_set_true (hon k hk)
   ·rw[getD_set_ne false (Ne.symm hmi)] at hm;exact getD_set_true (hcl m om hom hm k hk)
  have hfu:(eb σ (listed.setIfInBounds i true)).length≤fuel:=by
   have:(eb σ listed).length=(eb σ (listed.setIfInBounds i true)).length+1:=by
    rw[e1,e2];simp;omega
   omega
  rcases af.qF i o hol with hlb | ⟨hla,hlb⟩
  ·rw[hgd] at hlb;exact sO hcg hinv ⟨hokg,hlb⟩ hwp' ab fun B a' w' hw hiB hs'=>ih _ B a' w' (by simpa using hsz) hcl' hfu (.inr hiB) hw hs'
  ·have hnil:eb σ (listed.setIfInBounds i true)=[]:=by
    simp only[eb];refine List.filter_eq_nil_iff.2 fun j hj =>?_;have hjl:=af.lt j hj;by_cases hji:j=i
    ·subst hji;have:j<listed.size:=by omega
     simp[this]
    ·have h5:=hlb (fun k=>listed.getD k false=true) hcl hon j hjl hji;have hjs:j<listed.size:=by omega
     have h6:(listed.setIfInBounds i true).getD j true=listed.getD j true:=getD_set_ne true (Ne.symm hji);rw[h6];simp[Array.getD_eq_getD_getElem?,hjs] at h5 ⊢;exact h5
   have hin0:cU [] A:=fun s ns h=>by cases h
   exact sO (L:=[]) hcg hin0 ⟨hokg,by simp[hP,hJ];cases g.dst <;>rfl⟩ hwp' ab fun B a' w' hw hiB hs'=>ih _ B a' w' (by simpa using hsz) hcl' hfu (.inl hnil) hw hs'
theorem ae.YK{Q:Exit→ai→Prop}{A:ai}{on:List (List Nat)}{gs:List aH}(ab:List FuncId)(L:ec)(cl σ:List Nat)(af:pD ab L on gs cl σ=true)(hi:cU L A)(h:∀ K:ai→Prop,(∀ B,Q .normal B→K B)→bN c.P c.Y ab K (az (eU σ gs) A)):ae c (.cd (some on) gs) Q A:=by
 intro code hc a w hs';cases code <;>simp only[eB] at hc <;>try (first | (cases hc;done) | ((repeat' split at hc) <;>cases hc;done))
 rename_i id aW draw;split at hc
 ·rename_i gs' hgs;split at hc
  case isFalse=>cases hc
  rename_i hok;simp only[v6,bq.cd.injEq] at hc;obtain ⟨he,rfl⟩:=hc;cases draw with
  |false=>cases he
  |true =>
   simp only[cond_true,v6] at he;subst he;simp only[Bool.not_true,Bool.false_or] at hok;have hp:=CX (iy hgs).1 af;refine wpIn_region_any hok (G1 (K:=Q .normal) (fun B a w hk ab=>⟨B,hk,ab⟩) hgs hp aW.size (Array.replicate aW.size false) A a _ (by simp) ?_ ?_ (.inr hi) ?_ ?_)
   ·intro i o _ h
    exfalso
    simp only[Array.getD_eq_getD_getElem?,Array.getElem?_replicate] at h;split at h <;>simp at h
   ·refine zw3 (List.length_filter_le _ _) ?_;rw[hp.len,(iy hgs).1,zy2];exact Z3 _
   ·have hall:eb σ (Array.replicate aW.size false)=σ:=by
     simp only[eb];refine List.filter_eq_self.2 fun i hi =>?_;have J:=hp.lt i hi;rw[(iy hgs).1,zy2] at J;simp[J]
    simp only[gB,hall];exact h _ fun _ hb=>hb
   ·obtain ⟨D,E,hs'⟩:=hs';exact ⟨D,E,hs'.grow (w' := { w with drawn:=w.drawn+1 }) ⟨rfl,rfl,rfl,Z3 _,fun _ _=>rfl⟩ (fun _ _ h=>h) (fun _ _ h _=>h) (fun b o h=>hs'.aQ b o h)⟩
 ·cases hc
end
def ka(on:List (List Nat)):List Nat:=on.foldl (fun acc ks=>acc++[lz acc ks]) []
def vg(d:Option (List (List Nat)))(gs:List aH):Bool:=match d with
 |none=>true
 |some on=>sC on gs (ka on)
section
variable {c:cT} {Q:Exit→ai→Prop} {A:ai} {d:Option (List (List Nat))} {on:List (List Nat)} {gs:List aH}
theorem ae.kq(af:vg d gs=true)(h:∀ K:ai→Prop,(∀ B,Q .normal B→K B)→aR c.P c.Y d.isSome K (az gs A)):ae c (.cd d gs) Q A:=by
 cases d with
 |none=>exact ae.cd (cl:=[]) rfl h
 |some on=>exact ae.cd (cl:=ka on) af h
theorem ae.gC{y:bq}(af:vg d gs=true)(h:∀ K:ai→Prop,(∀ B,ae c y Q B→K B)→aR c.P c.Y d.isSome K (az gs A)):ae c (.seq (.cd d gs) y) Q A :=
 ae.seq (ae.kq af h)
theorem ae.rl(ab:List FuncId)(L:ec)(σ:List Nat)(af:tz ab L on gs (ka on) σ=true)(hi:cU L A)(h:∀ K:ai→Prop,(∀ B,Q .normal B→K B)→bN c.P c.Y ab K (az (eU σ gs) A)):ae c (.cd (some on) gs) Q A :=
 ae.YJ ab L (ka on) σ af hi h
theorem ae.pG(ab:List FuncId)(L:ec)(σ:List Nat)(af:pD ab L on gs (ka on) σ=true)(hi:cU L A)(h:∀ K:ai→Prop,(∀ B,Q .normal B→K B)→bN c.P c.Y ab K (az (eU σ gs) A)):ae c (.cd (some on) gs) Q A :=
 ae.YK ab L (ka on) σ af hi h
def gH(c:cT):bq→(Exit→ai→Prop)→ai→Prop
 | .seq x y,Q,A=>gH c x (eA (fun B=>ae c y Q B) Q) A
 | .block id x,Q,A=>gH c x (jK id Q) A
 | .skip,Q,A=>Q .normal A
 | .exit id,Q,A=>Q (.exit id) A
 | .ret,Q,A=>Q .ret A
 | .cond b x y,Q,A=>aB (ak A b) (ae c x Q A) (ae c y Q A)
 |x,Q,A=>ae c x Q A
def Wm:bq→Bool
 | .seq _ _ | .block _ _ | .skip | .exit _ | .ret | .cond _ _ _=>true
 |_=>false
theorem gH.uG:∀ (x:bq) {Q:Exit→ai→Prop} {A:ai},gH c x Q A→ae c x Q A
 | .seq x y,_,_,h=>ae.seq (gH.uG x h)
 | .block id x,_,_,h=>ae.block (gH.uG x h)
 | .skip,_,_,h=>ae.skip h
 | .exit _,_,_,h=>ae.exit h
 | .ret,_,_,h=>ae.ret h
 | .cond _ _ _,_,_,h=>ae.jQ h
 | .cd _ _,_,_,h | .loop _,_,_,h | .scope _,_,_,h | .label,_,_,h | .uH,_,_,h | .mf _ _ _ _,_,_,h=>h
theorem ae.of{x:bq}(_:Wm x=true)(h:gH c x Q A):ae c x Q A:=gH.uG x h
theorem aG :
  (∀ c x y Q A,gH c (.seq x y) Q A=gH c x (eA (fun B=>ae c y Q B) Q) A)∧(∀ c id x Q A,gH c (.block id x) Q A=gH c x (jK id Q) A)∧(∀ c Q A,gH c .skip Q A=Q .normal A)∧(∀ c id Q A,gH c (.exit id) Q A=Q (.exit id) A)∧(∀ c Q A,gH c .ret Q A=Q .ret A) ∧
  (∀ c b x y Q A,gH c (.cond b x y) Q A=aB (ak A b) (ae c x Q A) (ae c y Q A))∧(∀ c d gs Q A,gH c (.cd d gs) Q A=ae c (.cd d gs) Q A)∧(∀ c x Q A,gH c (.loop x) Q A=ae c (.loop x) Q A)∧(∀ c f ps x y Q A,gH c (.mf f ps x y) Q A=ae c (.mf f ps x y) Q A) ∧
  (∀ k Q A,eA k Q .normal A=k A)∧(∀ k Q A,eA k Q .ret A=Q .ret A)∧(∀ k Q A i,eA k Q (.exit i) A=Q (.exit i) A)∧(∀ i Q A,jK i Q .normal A=Q .normal A)∧(∀ i Q A,jK i Q .ret A=Q .ret A)∧(∀ i Q A j,jK i Q (.exit j) A=if j=i then Q .normal A else Q (.exit j) A) ∧
  (∀ p q,aB (.bool true) p q=p)∧(∀ p q,aB (.bool false) p q=q)∧(type_of% @BY) :=
 ⟨fun _ _ _ _ _=>rfl,fun _ _ _ _ _=>rfl,fun _ _ _=>rfl,fun _ _ _ _=>rfl,fun _ _ _=>rfl,fun _ _ _ _ _ _=>rfl,fun _ _ _ _ _=>rfl,fun _ _ _ _=>rfl,fun _ _ _ _ _ _ _=>rfl,fun _ _ _=>rfl,fun _ _ _=>rfl,fun _ _ _ _=>rfl,fun _ _ _=>rfl,fun _ _ _=>rfl,fun _ _ _ _=>rfl,
  fun p q=>by simp[aB],fun p q=>by simp[aB],BY⟩
theorem aB.aE{t:Bool}{p q:Prop}(J:t=true→p)(U:t=false→q):aB (.bool t) p q:=⟨J,U⟩
theorem ae.aF{g:aH}{r:List aH}(af:vg d gs=true)(e:gs=g::r)(h:∀ K:ai→Prop,(∀ B,Q .normal B→K B)→aR c.P c.Y d.isSome K (az (g::r) A)):ae c (.cd d gs) Q A :=
 ae.kq af (e▸h)
theorem aR.ay(L:List Nat){P:Program}{Y:Value→List I→List (Nat×aq)→cG→Prop}{dr:Bool}{x:bq}{K:ai→Prop}{ts:List (Nat×I)}{os:List (Nat×aq)}(hK:∀ B,ae c x Q B→K B)(h:ae c x Q (av (gY L ts) os)):aR P Y dr K (.done (av ts os)) :=
 .done (hK _ (ae.dj L h))
theorem bN.ay(L:List Nat){P:Program}{Y:Value→List I→List (Nat×aq)→cG→Prop}{ab:List FuncId}{x:bq}{K:ai→Prop}{ts:List (Nat×I)}{os:List (Nat×aq)}(hK:∀ B,ae c x Q B→K B)(h:ae c x Q (av (gY L ts) os)):bN P Y ab K (.done (av ts os)) :=
 .done (hK _ (ae.dj L h))
end
section
variable {c:cT} {A:ai} {o:Oper}
theorem zK{P:Program}{m:Nat}{aW:Array Oper}{l:List Oper}{gs:List aH}(h:fK P m aW (o::l)=some gs):∃ g gs',gs=g::gs'∧lG P m aW o=some g∧fK P m aW l=some gs':=by
 simp only[fK] at h;split at h
 ·rename_i g gs' J U;simp only[v6] at h;exact ⟨g,gs',h.symm,J,U⟩
 ·cases h
end
def tP(P:Program)(f:FuncId)(ch:List PanicEntry)(vs:Array Value)(w:World)(R:Ending→World→Prop):Prop :=
 Calls P f vs w fun e w'=>e=.panicked ch∧R (.returned (.tuple #[])) w'
theorem tP.mono{P:Program}{f:FuncId}{ch:List PanicEntry}{vs:Array Value}{w:World}{R R':Ending→World→Prop}(h:tP P f ch vs w R)(hr:∀ e w',R e w'→R' e w'):tP P f ch vs w R' :=
 Calls.mono h fun _ _ q=>⟨q.1,hr _ _ q.2⟩
def pC(post:List (Nat×aq)→Prop):cG:=fun r os'=>r=.tuple []∧post os'
def ff(P:Program)(f:FuncId)(ch:List PanicEntry)(args:List I)(os:List (Nat×aq))(post:List (Nat×aq)→Prop):Prop :=
 e9 P f=true∧nv (tP P f ch) (fun w _ E=>gP P w (cI E)) args os (pC post)
def wX(ch:List PanicEntry)(post:List (Nat×aq)→Prop):Exit→ai→Prop
 | .panic ch',A=>ch'=ch∧iY [] (pC post) A
 |_,_=>False
theorem B4{P:Program}{n:Nat}{w:World}{D:aP}{E:aZ}{Y:Value→List I→List (Nat×aq)→cG→Prop}{post:List (Nat×aq)→Prop}{fn:Func}{A:ai}{D':aP}{E':aZ}{ch:List PanicEntry}(h:iY [] (pC post) A){R:World→Prop}(hR:∀ v w',lC w D E (pC post) v w'→R w') :
  ∀ (ds:List Deferred) (a:Act) (w':World),a.defers=ds→aV ⟨P,w,D,n,cI E,E,Y,none,none⟩ A a w' D' E'→LeavesInM Fence.wide 9 P fn a.tmps (fun e w'=>e=.panicked ch∧R w') ds (.panicking ch) w'
 | [],a,w',_,ab=>by
  obtain ⟨v,J,U⟩:=ab.s7 (fn := { fn with results := #[] }) (rs:=[]) rfl h;exact ⟨rfl,hR v w' U⟩
 |d::ds,a,w',af,ab=>by
  obtain ⟨Bs,J,_⟩:=ab.eD;rw[af] at J;cases Bs with
  |nil=>cases J
  |cons B Bs =>
   simp only[Z4,zw2] at J;obtain ⟨rfl,rfl⟩:=J;obtain ⟨k1,k2⟩:=ab.Ar rfl af;exact ⟨by simp,.inl ⟨B,_,rfl,run_takeDeferred k1,B4 h hR _ { a with defers:=Bs.map _ } _ rfl k2⟩⟩
theorem B7{w:World}{D:aP}{E:aZ}{post:List (Nat×aq)→Prop}{v:Value}{w':World}(h:lC w D E (pC post) v w'):∃ v' D' E' r os',Ending.returned (.tuple #[])=.returned v'∧pC post r os'∧a8 w' D' E' r v'∧jI (fun b=>w.heap.size≤b∨cI E b) w' D' E' (aj os') ∧
   eZ (fun b=>w.heap.size≤b∨cI E b) w w'∧(∀ b o,D b o→D' b o)∧(∀ b o,D' b o→b<w'.heap.size)∧(∀ b o,D' b o→b<w.heap.size→¬ cI E b→D b o) ∧
   (∀ n e,E n=some e→aw os' n=true→∃ e',E' n=some e'∧e.le e')∧gQ w D w':=by
 obtain ⟨D',E',r,os',J,U,ah⟩:=h;refine ⟨_,D',E',r,os',rfl,J,?_,ah⟩;obtain ⟨rfl,_⟩:=J;simp only[a8];exact ⟨[],by simp,by simp[aI]⟩
theorem ff.mk{P:Program}{f:FuncId}{fn:Func}{x:bq}{ch:List PanicEntry}{args:List I}{os:List (Nat×aq)}{post:List (Nat×aq)→Prop}(hf:P.funcs[f]?=some fn)(hcall:e9 P f=true)(hc:(fn.body.bind (eB P fn.ntmps))=some x)
  (hn:args.length≤fn.ntmps) (hn2:fn.ntmps≤1000000) (hos:∀ m,aw os m=true→1000000≤m) (h:I.gi args→∀ (w:World) (D:aP) (E:aZ),ae ⟨P,w,D,fn.ntmps,cI E,E,dy,none,none⟩ x (wX ch post) (av (bH 0 args) os)):ff P f ch args os post:=by
 obtain ⟨body,hb,hc'⟩:=zx7.1 hc;refine ⟨hcall,fun w D E vs ao hD ho hv =>?_⟩;have hlen:=rB hv;have hsim:=xN (P:=P) (n:=fn.ntmps) (Y:=dy) hD ho hv (by omega) (fun m hm=>⟨zw3 hn2 (hos m hm),hos m hm⟩) (pR ao);refine (callsIn_wide (n:=9)).1 (callsIn_of_wp_marks hf hb trivial ?_);refine wpIn_mono (((h (pM _ _ hv) w D E).sub (tX args os)) body hc' _ w ⟨D,E,hsim⟩) ?_;rintro e a w' ⟨A,hq,D',E',ab⟩;cases e <;>simp only[wX] at hq
 obtain ⟨rfl,hq⟩:=hq;exact B4 hq (fun v w' h=>B7 h) a.defers a w' rfl ab
theorem ff.Yj{P:Program}{f:FuncId}{ch:List PanicEntry}{args:List I}(hcall:e9 P f=true)(h:∀ (w:World) (D:aP) (vs:List Value),aI w D dh args vs→Calls P f vs.toArray w fun e w'=>e=.panicked ch∧w'=w)(hfl:I.nI args=true):ff P f ch args [] (fun os'=>os'=[]):=by
 refine ⟨hcall,fun w D E vs _ hD ho hv =>?_⟩;refine Calls.mono (h w D vs (aI.flat _ _ hfl hv)) ?_;rintro e w' ⟨rfl,rfl⟩;refine ⟨rfl,B7 (v:=.tuple #[]) ⟨D,E,.tuple [],[],⟨rfl,rfl⟩,by simp only[a8];exact ⟨[],by simp,by simp[aI]⟩,?_,eZ.refl _ _,fun _ _ h=>h,hD,fun _ _ h _ _=>h,fun n e h hn=>by simp[aw,aj] at hn,.refl _ _⟩⟩;exact ⟨fun n=>ho.bO n,fun n m e e' b J U ah au=>ho.cN n m e e' b J U ah au⟩
section
variable {c:cT} {A:ai} {Q:Exit→ai→Prop}
theorem sR{dr:Bool}{K:ai→Prop}{aW:Array Oper}{Q:Exit→Act→World→Prop}{l2:List Oper}(hQ:∀ B a w,K B→bX c B a w→wpListIn c.bE 9 c.P aW Q l2 a w):∀ (l:List Oper) (gs:List aH) (A:ai) (a:Act) (w:World),fK c.P c.n aW l=some gs→aR c.P c.Y dr K (az gs A) →
  bX c A a w→wpListIn c.bE 9 c.P aW Q (l++l2) a w
 | [],gs,A,a,w,hc,hwp,ab=>by
  simp only[fK,v6] at hc;subst hc;simp only[az] at hwp;cases hwp with
  |done hk=>exact hQ A a w hk ab
 |o::l,gs,A,a,w,hc,hwp,ab=>by
  simp only[fK] at hc;split at hc
  case h_2=>cases hc
  rename_i g gs' hg hgs;simp only[v6] at hc;subst hc;obtain ⟨J,U,ah,au⟩:=nE hg;have step:aR c.P c.Y dr K (bl A g.dst g.op gs' (az gs'))→o.wpIn c.bE 9 c.P a w (wpListIn c.bE 9 c.P aW Q (l++l2)) Q:=fun h =>
   sP J U.symm (by rw[U];exact ah) h ab (fun B a' w' hw hs'=>sR hQ l gs' B a' w' hgs hw hs')
  simp only[Z7,wpListIn];simp only[az] at hwp;rcases au with ⟨h5,h6⟩ | ⟨j,b,t,h5,h6,h7⟩
  ·rw[h6] at hwp;have hw:Region.wanted o (yielded aW a.tmps)=true:=by simp[Region.wanted,h5]
   rw[hw,if_pos rfl];exact step hwp
  ·rw[h7] at hwp;simp only at hwp;split at hwp
   ·rename_i b' hb';rw[sT ab h5 h6 hb'];split at hwp
    ·rename_i hbb;subst hbb;simp only[BEq.rfl,if_true];exact step hwp
    ·rename_i hbb;have:(b'==b)=false:=by simpa using hbb
     rw[this];simp only[Z2,if_false];exact ⟨fun f _=>lO c f,sR hQ l gs' _ _ w hgs hwp (by rw[U];exact ab.nc ah)⟩
   ·rename_i hb';rw[sU ab h5 h6 hb'];simp only[Z2,if_false];exact ⟨fun f _=>lO c f,sR hQ l gs' _ _ w hgs hwp (by rw[U];exact ab.nc ah)⟩
   ·cases hwp
theorem zJ{P:Program}{m:Nat}{aW:Array Oper}{g:aH}{gs2:List aH} : ∀ {l:List Oper} {gs1:List aH},fK P m aW l=some (gs1++g::gs2)→∃ l1 o l2,l=l1++o::l2∧fK P m aW l1=some gs1∧lG P m aW o=some g
 | [],gs1,h=>by simp[fK] at h
 |o::l,[],h=>by
  obtain ⟨g',gs',e,J,U⟩:=zK h;simp only[zx6,zw2] at e;obtain ⟨rfl,rfl⟩:=e;exact ⟨[],o,l,rfl,rfl,J⟩
 |o::l,k::gs1,h=>by
  obtain ⟨g',gs',e,J,U⟩:=zK h;simp only[Z7,zw2] at e;obtain ⟨rfl,rfl⟩:=e;obtain ⟨l1,o',l2,rfl,q1,q2⟩:=zJ U;exact ⟨o::l1,o',l2,rfl,by simp only[fK,J,q1],q2⟩
inductive nx (P:Program) (Q:Exit→ai→Prop) (f:FuncId) (avs:List I):ai→Prop where
 |mk {ts:List (Nat×I)} {os0:List (Nat×aq)} (aN:Bool) (ρ:List (Nat×Nat)) (os:List (Nat×aq)) (cargs:List I) (ch:List PanicEntry) (post:List (Nat×aq)→Prop):ff P f ch cargs os post→gl ρ os os0→gR aN (av ts (eL (iI ρ os) os0)) ρ os avs cargs →
  (∀ os',post os'→gG aN ρ os os0 (.tuple []) os')→(∀ os',post os'→Q (.panic ch) (av ts (dF ρ os'++os0)))→nx P Q f avs (av ts os0)
inductive my (P:Program) (Q:Exit→ai→Prop):bQ→ai→Prop where
 |call {f:FuncId} {args:List aO} {A:ai} : nx P Q f (args.map (ak A)) A→my P Q (.call f args) A
 |fL {x:aO} {args:List aO} {f:Nat} {caps:List I} {A:ai} : ak A x=.func f caps→nx P Q (kV f) (h3 f (args.map (ak A)) caps) A→my P Q (.fL x args) A
theorem wZ{o:Oper}{g:bQ}{f:FuncId}{avs:List I}{vs:List Value}{a:Act}{w:World}{D:aP}{E:aZ}{Kw:Act→World→Prop}(hop0:di c.P o=some g)(h:nx c.P Q f avs A)(ab:aV c A a w D E)(hall:fA (a8 w D E) avs vs)
  (hrun:e9 c.P f=true→(execOp a.eval o).run c.P w=.ok (.enter f vs.toArray) w):o.wpIn c.bE 9 c.P a w Kw (s8 c Q):=by
 cases h with
 |mk aN ρ os cargs ch post hspec hgv ha hb hrest =>
  have hu:=hspec.2.use ab aN (fun h=>h.mono) ⟨fun _ _=>ab.pf,fun _=>ab.pf⟩ hgv ha (fun r os' hp=>by obtain ⟨rfl,hp⟩:=hp;exact hb os' hp) hall;refine ⟨kI,?_⟩;rw[lq hop0,hrun hspec.1,Oper.uponIn_enter];refine ⟨vd c,Ac (Calls.mono hu ?_)⟩;rintro e w' ⟨rfl,v,r,os',D2,E2,he,⟨rfl,hp⟩,hs',hv,_⟩;exact ⟨_,hrest os' hp,D2,E2,hs'⟩
theorem CU{o:Oper}{g:bQ}{a:Act}{w:World}{Kw:Act→World→Prop}(hop:di c.P o=some g)(h:my c.P Q g A)(hsim:bX c A a w):o.wpIn c.bE 9 c.P a w Kw (s8 c Q):=by
 have hop0:=hop;obtain ⟨D,E,ab⟩:=hsim;cases h with
 |call h =>
  unfold di at hop;split at hop <;>try (first | (simp at hop;done) | ((repeat' split at hop) <;>simp at hop;done))
  rename_i f' xs ts ho;split at hop
  case isFalse=>simp at hop
  simp only[t7,bQ.call.injEq] at hop;obtain ⟨ys,hys,rfl,rfl⟩:=hop;have e:xs.map a.eval=(xs.toList.map a.eval).toArray:=by apply Array.ext';simp
  refine wZ (vs:=xs.toList.map a.eval) hop0 h ab (kK ab xs.toList ts.toList ys hys) fun hc =>?_;simp only[execOp,ho,resolve,Act.eval,Deferred.ofValue,Sem.run_bind,Sem.run_pure,Result.andThen_ok,invoke,Array.append_empty,Array.empty_append,nh hc];rw[←e]
 |fL hx h =>
  rename_i x args f caps;unfold di at hop;split at hop <;>try (first | (simp at hop;done) | ((repeat' split at hop) <;>simp at hop;done))
  rename_i y xs ts _ ho;split at hop
  case h_2=>cases hop
  rename_i y' ys J U;simp only[v6,bQ.fL.injEq] at hop;obtain ⟨rfl,rfl⟩:=hop;have hv:=bV ab J;rw[hx] at hv;obtain ⟨cs,q1,q2⟩:=hv;simp only[al] at q2;obtain ⟨vs,q3,q4⟩:=q2;have hval:a.eval y=ju f vs:=by simpa[bB,I.isAgg,q3] using q1.symm
  have e:xs.map a.eval=(xs.toList.map a.eval).toArray:=by apply Array.ext';simp
  have hargs:=kK ab xs.toList ts.toList ys U;rcases Nat.lt_or_ge f 1000000 with hf | hf
  ·rw[vz hf,vy hf] at h;rw[mI hf] at hval;refine wZ (vs:=xs.toList.map a.eval++vs) hop0 h ab (hargs.append (rA q4)) fun hc =>?_;simp only[execOp,ho,resolve,hval,Deferred.ofValue,Sem.run_bind,Sem.run_pure,Result.andThen_ok,invoke,Array.empty_append,nh hc];rw[e];simp
  ·obtain ⟨g,rfl⟩:∃ g:Nat,f=g+1000000:=⟨Nat.sub f 1000000,(Nat.sub_add_cancel hf).symm⟩
   rw[sE,vx] at h;rw[ql] at hval;refine wZ (vs:=vs++xs.toList.map a.eval) hop0 h ab ((rA q4).append hargs) fun hc =>?_;simp only[execOp,ho,resolve,hval,Deferred.ofValue,Sem.run_bind,Sem.run_pure,Result.andThen_ok,invoke,Array.append_empty,nh hc];rw[e];simp
theorem ae.YI{gs:List aH}(k:Nat){g:bQ}{dst:Option Nat}(hk:gs=gs.take k++⟨dst,g,none⟩::gs.drop (k+1))(h:∀ K:ai→Prop,(∀ B,my c.P Q g B→K B)→aR c.P c.Y false K (az (gs.take k) A)):ae c (.cd none gs) Q A:=by
 intro code hc a w ab;cases code <;>simp only[eB] at hc <;>try (first | (cases hc;done) | ((repeat' split at hc) <;>cases hc;done))
 rename_i id aW draw;split at hc
 case h_2=>cases hc
 rename_i gs' hgs;split at hc
 case isFalse=>cases hc
 simp only[v6,bq.cd.injEq] at hc;obtain ⟨hdr,rfl⟩:=hc;cases draw with
 |true=>simp at hdr
 |false =>
  refine wpIn_region_list ?_;rw[hk] at hgs;obtain ⟨l1,o,l2,ao,J,U⟩:=zJ hgs;rw[ao];refine sR (K:=my c.P Q g) (fun B a' w' hp hs' =>?_) l1 _ A a w J (h _ fun _ hb=>hb) ab;obtain ⟨q1,q2,q3,q4⟩:=nE U;have wn:Region.wanted o (yielded aW a'.tmps)=true:=by
   rcases q4 with ⟨a5,_⟩ | ⟨_,_,_,_,_,a5⟩
   ·simp[Region.wanted,a5]
   ·simp at a5
  simp only[wpListIn,wn,if_true];exact CU q1 hp hs'
theorem ae.od{gs gs1 gs2:List aH}{g:bQ}{dst:Option Nat}(e:gs=gs1++⟨dst,g,none⟩::gs2)(h:∀ K:ai→Prop,(∀ B,my c.P Q g B→K B)→aR c.P c.Y false K (az gs1 A)):ae c (.cd none gs) Q A:=by
 subst e;refine ae.YI gs1.length (g:=g) (dst:=dst) ?_ fun K hK =>?_
 ·simp
 ·simpa using h K hK
end
theorem Ze{w:World}{b:Nat}{cs:Array Value}{T:TypeId}{fr:Nat×Nat}{v:Value}(h:w.heap[b]?=some (.cells cs T fr)):w.setCell ⟨b,0,none⟩ v=w.setRow b (cs.setIfInBounds 0 v):=by
 unfold World.setCell World.setRow
 congr 1
 apply Array.ext
 ·simp
 ·intro i J U;simp only[Array.getElem_modify];split
  ·rename_i e;subst e;obtain ⟨_,hv⟩:=zz1.1 h;simp[hv]
  ·rfl
def r4(P:Program)(f:FuncId):Prop:=e9 P f=true∧∀ (b:Nat) (T:TypeId) (w:World) (x:Bool),w.heap[b]?=some (.cells #[.bool x] T (0,0))→CallsDIn Fence.wide 8 P f #[.pointer (some ⟨b,0,none⟩)] .returning w fun e u' w'=>(∃ v,e=.returned v)∧u'=.returning∧w'=w
def rV(P:Program)(f:FuncId)(ch:List PanicEntry):Prop:=e9 P f=true∧∀ (b:Nat) (T:TypeId) (w:World) (x:Bool),w.heap[b]?=some (.cells #[.bool x] T (0,0)) →
 CallsDIn Fence.wide 8 P f #[.pointer (some ⟨b,0,none⟩)] (.panicking ch) w fun e u' w'=>(∃ v,e=.returned v)∧settle u'=.returning∧∃ w2,Below w.heap.size w w2∧w'=w2.setCell ⟨b,0,none⟩ (.bool false)
def kc(f:FuncId)(v:Value):Deferred := { target:=.fn (.func f) #[v],args := #[] }
def rj(rs:List bM)(post:cG)(ch:List PanicEntry)(N:Nat):Exit→ai→Prop
 | .ret,A=>(∃ x,A.o N=some (.box (.bool x)))∧iY rs post A
 | .panic ch',A=>ch'=ch∧(∃ x,A.o N=some (.box (.bool x)))∧iY rs post (A.aS N (.box (.bool false)))
 |_,_=>False
section
variable {P:Program} {n:Nat} {w:World} {D:aP} {E:aZ} {rs:List bM} {post:cG} {fn:Func} {ch:List PanicEntry} {f:FuncId} {N b:Nat}
theorem B5(hrs:gS P fn.results.toList=some rs)(hEN:E N=some (.aN b .one)){A:ai}{D':aP}{E':aZ}{u:FrameMode}(hx:∃ x,A.o N=some (.box (.bool x)))
  (hcase:(u=.returning∧iY rs post A∧r4 P f)∨(u=.panicking ch∧iY rs post (A.aS N (.box (.bool false)))∧rV P f ch)) :
  ∀ (ds:List Deferred) (a:Act) (w':World),a.defers=ds→aV ⟨P,w,D,n,cI E,E,dy,none,some [kc f (.pointer (some ⟨b,0,none⟩))]⟩ A a w' D' E'→LeavesInM Fence.wide 9 P fn a.tmps (fun e w'=>∃ v,e=.returned v∧lC w D E post v w') ds u w'
 | [],a,w',af,ab=>by
  have J:a.defers=[kc f (.pointer (some ⟨b,0,none⟩))]:=ab.eD;rw[af] at J;cases J
 |d::ds,a,w',af,ab=>by
  have J:a.defers=[kc f (.pointer (some ⟨b,0,none⟩))]:=ab.eD;rw[af] at J;simp only[zw2] at J;obtain ⟨rfl,rfl⟩:=J
  ·skip
   obtain ⟨x,hx⟩:=hx;obtain ⟨b',cs,T,e1,e2,e3,e4,e5⟩:cX _ w' D' E' N (some (.box (.bool x))):=hx▸ab.bO N;have hfx:E' N=none∨E' N=some (.aN b .one):=ab.vI (n:=N) (e:=.aN b .one) hEN rfl;have hE':E' N=some (.aN b .one):=by
    rcases hfx with h | h
    ·rw[h] at e1;cases e1
    ·exact h
   rw[hE'] at e1;simp only[v6,bL.aN.injEq] at e1;obtain ⟨rfl,_⟩:=e1;have hcs:cs = #[.bool x]:=by
    simp only[al] at e4;apply Array.ext';simpa using e4
   subst hcs;refine ⟨by rcases hcase with ⟨rfl,_⟩ | ⟨rfl,_⟩ <;>simp,.inr ⟨fun _=>by decide,.func f,#[.pointer (some ⟨b,0,none⟩)],f,#[.pointer (some ⟨b,0,none⟩)],rfl,?_,fun _ _=>trivial,?_⟩⟩
   ·have hcb:e9 P f=true:=by rcases hcase with ⟨_,_,h⟩ | ⟨_,_,h⟩ <;>exact h.1
    simp only[kc,invoke,nh hcb,Array.empty_append]
   ·rcases hcase with ⟨rfl,hr,hi⟩ | ⟨rfl,hr,hc⟩
    ·refine (hi.2 b T w' x e3).mono ?_;rintro e u' w'' ⟨⟨v,rfl⟩,rfl,rfl⟩;obtain ⟨v,J,U⟩:=ab.s7 hrs hr;exact ⟨v,J,v,rfl,U⟩
    ·refine (hc.2 b T w' x e3).mono ?_;rintro e u' w'' ⟨⟨v,rfl⟩,hu,w2,hb2,rfl⟩;have hs1:=ab.grow (D':=D') hb2 (fun _ _ h=>h) (fun _ _ h _=>h) (fun b o af=>Nat.lt_of_lt_of_le (ab.aQ b o af) hb2.size);have e3':w2.heap[b]?=some (.cells #[.bool x] T (0,0)):=(hb2.block b (fG e3)).trans e3;have hs2:=hs1.xC (y:=.bool false) (cs' := #[.bool false]) hx hE' rfl (by simp[al]);have hw:w2.setCell ⟨b,0,none⟩ (.bool false)=w2.setRow b #[.bool false]:=by
      rw[Ze e3'];rfl
     rw[←hw] at hs2;obtain ⟨v,J,U⟩:=hs2.s7 hrs hr;simp only[hu];exact ⟨v,J,v,rfl,U⟩
theorem pg{bE:Fence}{m:Nat}{tmps:Array Value}{R R':Ending→World→Prop}(hr:∀ e w,R e w→R' e w):∀ (ds:List Deferred) (u:FrameMode) (w:World),LeavesInM bE m P fn tmps R ds u w→LeavesInM bE m P fn tmps R' ds u w
 | [],u,w,h=>by
  cases u with
  |run=>exact h
  |returning=>obtain ⟨v,J,U⟩:=h;exact ⟨v,J,hr _ _ U⟩
  |panicking c=>exact hr _ _ h
 |d::ds,u,w,h=>by
  obtain ⟨J,U⟩:=h;refine ⟨J,?_⟩;rcases U with ⟨r,w',k1,k2,k3⟩ | ⟨k1,fv,cap,g,args,k2,k3,k4,k5⟩
  ·exact .inl ⟨r,w',k1,k2,pg hr ds u w' k3⟩
  ·refine .inr ⟨k1,fv,cap,g,args,k2,k3,k4,k5.mono fun e u' w' h =>?_⟩;cases e with
   |returned v=>exact pg hr ds _ w' h
   |panicked c=>exact pg hr ds _ w' h
   |outgrown=>exact hr _ _ h
def rz(P:Program)(fn:Func)(rest:Code)(slots:List Nat)(a:Act)(vs:Array Value)(w:World)(R:Ending→World→Prop):Prop :=
 vs.toList=slots.map (fun t=>a.tmps.getD t undef)→rest.wpIn Fence.wide 9 P (bodyPostM Fence.wide 9 P fn R) a w
theorem rz.mono{rest:Code}{slots:List Nat}{a:Act}{vs:Array Value}{w:World}{R R':Ending→World→Prop}(h:rz P fn rest slots a vs w R)(hr:∀ e w,R e w→R' e w):rz P fn rest slots a vs w R':=fun hv=>by
 refine wpIn_mono (h hv) fun e a' w' q =>?_;cases e <;>simp only[bodyPostM] at q ⊢ <;>first
  |exact pg hr _ _ _ q
  |exact hr _ _ q
  |exact q
theorem Fo{w:World}{D:aP}{E:aZ}(g:Nat→Value):∀ (slots:List Nat) (args:List I),aI w D E args (slots.map g)→∀ t,a8 w D E (bW (slots.zip args) t) (g t)
 | [],args,h,t=>by simp[bW,a8]
 |s::slots,[],h,t=>by simp[bW,a8]
 |s::slots,x::args,h,t=>by
  simp only[aI,Z4] at h;obtain ⟨v,rest,cs,e,J,U,ah⟩:=h;simp only[zw2] at e;obtain ⟨rfl,rfl⟩:=e;simp only[List.zip_cons_cons,bW];split
  ·rename_i hk;subst hk;exact jx J U
  ·exact Fo g slots args ah t
theorem YU{rest:Code}{x:bq}{slots:List Nat}{a:Act}{args:List I}{os:List (Nat×aq)}{ts:Nat}(hrs:gS P fn.results.toList=some rs)(hx:eB P n rest=some x)(hsz:a.tmps.size=n)(af:a.defers=[kc f (a.tmps.getD ts undef)])(hos:∀ m,aw os m=true→n≤m∧1000000≤m)
  (hts:bW (slots.zip args) ts=.ptr N []) {y:Bool} (hN:aj os N=some (.box (.bool y))) (hi:r4 P f) (hc:rV P f ch)
  (hAW:∀ (w:World) (D:aP) (E:aZ) (d:Deferred),ae ⟨P,w,D,n,cI E,E,dy,none,some [d]⟩ x (rj rs post ch N) (av (slots.zip args) os)):nv (rz P fn rest slots a) (fun w _ E=>gP P w (cI E)) args os post:=by
 intro w D E vs ao hD ho hv hvs;have hvs':vs=slots.map (fun t=>a.tmps.getD t undef):=by simpa using hvs
 subst hvs';have htm:=Fo (fun t=>a.tmps.getD t undef) slots args hv;have hp:=htm ts;rw[hts] at hp;obtain ⟨b,aX,off,p1,p2,p3⟩:=ln hp;have hob:cX _ w D E N (some (.box (.bool y))):=hN▸ho.bO N;obtain ⟨b',cs,T,e1,_⟩:=hob;have hsh:aX=.one:=by
  rw[p1] at e1;simp only[v6,bL.aN.injEq] at e1;rw[e1.2];rfl
 subst hsh;have hoff:off=0:=by simpa[cO.off] using p2.symm
 subst hoff;simp only[p3] at af;have hsim:aV ⟨P,w,D,n,cI E,E,dy,none,some [kc f (.pointer (some ⟨b,0,none⟩))]⟩ (av (slots.zip args) os) a w D E:=by
  refine ⟨hsz,af,htm,eZ.refl _ _,fun _ _ h _=>h,hD,fun m =>?_,ho.cN,fun m e h=>.inr ⟨e,h,.refl e⟩,fun m hm =>?_,fun _ _ h=>h,pR ao,.refl _ _⟩
  ·have h:=ho.bO m;simp only[av];cases hx:aj os m with
   |none=>rw[hx] at h;exact h
   |some x=>rw[hx] at h;exact cX.h4 h fun e b he hb=>.inr ⟨m,e,he,hb⟩
  ·refine hos m ?_;cases hx:aj os m with
   |none=>have h:=ho.bO m;rw[hx] at h;exact absurd h hm
   |some x=>simp[aw,hx]
 refine wpIn_mono ((hAW w D E _) rest hx a w ⟨D,E,hsim⟩) ?_;rintro e a' w' ⟨A,hq,D',E',ab⟩;have bh:∀ e w',(∃ v,e=Ending.returned v∧lC w D E post v w')→∃ v D' E' r os',e=.returned v∧post r os'∧a8 w' D' E' r v∧jI (fun b=>w.heap.size≤b∨cI E b) w' D' E' (aj os') ∧
   eZ (fun b=>w.heap.size≤b∨cI E b) w w'∧(∀ b o,D b o→D' b o)∧(∀ b o,D' b o→b<w'.heap.size)∧(∀ b o,D' b o→b<w.heap.size→¬ cI E b→D b o) ∧
   (∀ n e,E n=some e→aw os' n=true→∃ e',E' n=some e'∧e.le e')∧gQ w D w':=fun e w' ⟨v,J,D',E',r,os',U⟩=>⟨v,D',E',r,os',J,U⟩
 cases e <;>simp only[rj] at hq
 ·obtain ⟨J,U⟩:=hq;exact pg bh _ _ _ (B5 (ch:=ch) hrs p1 J (.inl ⟨rfl,U,hi⟩) a'.defers a' w' rfl ab)
 ·obtain ⟨rfl,J,U⟩:=hq;exact pg bh _ _ _ (B5 hrs p1 J (.inr ⟨rfl,U,hc⟩) a'.defers a' w' rfl ab)
end
def vc(P:Program)(n:Nat):Code→Option (bq×FuncId×Nat×Nat×bq)
 | .seq lg (.seq (.region _ aW false) rest)=>match aW.toList with
  | [o1,o2]=>match lG P n aW o1,o2.op with
   |some ⟨some t5,.mk g [.t ts],none⟩,.defer { callee:=.value (.tmp t),args,.. } =>if t=t5∧args = #[]∧o2.guard=none∧o2.dst=none then (match eB P n lg,eB P n rest with
     |some x0,some x=>some (x0,g,ts,t5,x)
     |_,_=>none)
    else none
   |_,_=>none
  |_=>none
 |_=>none
structure GH (P:Program) (n:Nat) (x:bq) (rs:List bM) (post:cG) (ch:List PanicEntry) (g:FuncId) (ts t5:Nat) (tsl:List (Nat×I)) (os0:List (Nat×aq)) (ρ:List (Nat×Nat)) (os1:List (Nat×aq)) (slots:List Nat) (cargs:List I) (N:Nat) (y:Bool) (post1:cG):Prop where
 fD:bW tsl ts=.ptr (bI ρ N) []
 BJ:gl ρ os1 os0
 arg:gR false (av ((t5,.func g [.ptr (bI ρ N) []])::tsl) (eL (iI ρ os1) os0)) ρ os1 (slots.map (bW ((t5,.func g [.ptr (bI ρ N) []])::tsl))) cargs
 yu:∀ r os',post1 r os'→gG false ρ os1 os0 r os'
 E7:bW (slots.zip cargs) ts=.ptr N []
 box:aj os1 N=some (.box (.bool y))
 lP:∀ m,aw os1 m=true→n≤m∧1000000≤m
 rest:∀ (w:World) (D:aP) (E:aZ) (d:Deferred),ae ⟨P,w,D,n,cI E,E,dy,none,some [d]⟩ x (rj rs post1 ch N) (av (slots.zip cargs) os1)
 iv:∀ r os',post1 r os'→∃ osF,r.flat=true∧r.bm (bI ρ)=r∧(∀ m z,aj osF m=some z→aj (dF ρ os'++os0) m=some z∧z.only (aw osF)=true∧z.ej=true)∧post r osF
abbrev sB(P:Program)(w:World)(D:aP)(n:Nat)(E:aZ)(b:Option (List Deferred)):cT:=⟨P,w,D,n,cI E,E,dy,none,b⟩
theorem aV.WD{P:Program}{n:Nat}{w:World}{D:aP}{E:aZ}{e8:Option (List Deferred)}{post:cG}{A:ai}{a:Act}{w':World}{D':aP}{E':aZ}{r:I}{v:Value}{os:List (Nat×aq)}
  (ab:aV (sB P w D n E e8) A a w' D' E') (J:∀ m z,aj os m=some z→A.o m=some z∧z.only (aw os)=true∧z.ej=true) (hf:r.flat=true) (hv:a8 w' D' E' r v) (hp:post r os):lC w D E post v w':=by
 obtain ⟨D2,E2,hw,e2,e2n,q1,q2,q3,q4,q5,q6⟩:=ab.wj J;exact ⟨D2,E2,r,os,hp,a8.flat hf hv,q1,q2,q3,q4,q5,q6⟩
theorem cS.XU{P:Program}{f:FuncId}{fn:Func}{x0 x:bq}{g:FuncId}{ts t5:Nat}{rs:List bM}{args:List I}{os:List (Nat×aq)}{post:cG}{ch:List PanicEntry}(hf:P.funcs[f]?=some fn)(hcall:e9 P f=true)(hc:(fn.body.bind (vc P fn.ntmps))=some (x0,g,ts,t5,x))
  (hrs:gS P fn.results.toList=some rs) (hn:args.length≤fn.ntmps) (hn2:fn.ntmps≤1000000) (hos:∀ m,aw os m=true→1000000≤m) (hi:r4 P g) (hca:rV P g ch) (hts:ts≠t5)
  (h:I.gi args→∀ (w:World) (D:aP) (E:aZ),ae ⟨P,w,D,fn.ntmps,cI E,E,dy,none,some []⟩ x0 (eA (fun B=>∃ tsl os0 ρ os1 slots cargs N y post1,B=av tsl os0∧GH P fn.ntmps x rs post ch g ts t5 tsl os0 ρ os1 slots cargs N y post1) (fun _ _=>False)) (av (bH 0 args) os)):cS P f args os post:=by
 obtain ⟨body,hb,hc⟩:=zx7.1 hc;refine ⟨hcall,fun w D E vs ao hD ho hv =>?_⟩;have hlen:=rB hv;have s0:=xN (P:=P) (n:=fn.ntmps) (Y:=dy) hD ho hv (by omega) (fun m hm=>⟨zw3 hn2 (hos m hm),hos m hm⟩) (pR ao);have hsim:aV (sB P w D fn.ntmps E (some [])) (oD args os) { tmps:=vs.toArray++Array.replicate (fn.ntmps-vs.toArray.size) undef,defers:=[] } w D E :=
  ⟨s0.sz,rfl,s0.dU,s0.dQ,s0.cZ,s0.aQ,s0.bO,s0.cN,s0.dV,s0.eP,s0.cR,pR ao,s0.fx⟩
 obtain ⟨RR,hRR⟩:∃ RR:Ending→World→Prop,RR=fun e w'=>∃ v,e=.returned v∧lC w D E post v w':=⟨_,rfl⟩
 refine Calls.mono (R:=RR) ?_ (fun e w' q=>by rw[hRR] at q;obtain ⟨v,he,D',E',r,os',k⟩:=q;exact ⟨v,D',E',r,os',he,k⟩);refine (callsIn_wide (n:=9)).1 (callsIn_of_wp_marks hf hb trivial ?_);unfold vc at hc;split at hc
 case h_2=>cases hc
 rename_i lg id aW rest;split at hc
 case h_2=>cases hc
 rename_i o1 o2 hops;split at hc
 case h_2=>cases hc
 rename_i t5' g' ts' t dargs _ hg1 ho2;split at hc
 case isFalse=>cases hc
 rename_i hok;obtain ⟨rfl,rfl,hgd,hdst⟩:=hok;split at hc
 case h_2=>cases hc
 rename_i y0 y hx0 hx;simp only[v6,Prod.mk.injEq] at hc;obtain ⟨rfl,rfl,rfl,rfl,rfl⟩:=hc;refine wpIn_seq ?_;have hw0:=((h (pM _ _ hv) w D E).sub (tX args os)) lg hx0 _ w ⟨D,E,hsim⟩;refine wpIn_mono hw0 ?_;rintro e a1 w1 ⟨B,hq,D1,E1,hs1⟩;cases e <;>simp only[eA] at hq
 obtain ⟨tsl,os0,ρ,os1,slots,cargs,N,yb,post1,rfl,R⟩:=hq;simp only[Exit.then];refine wpIn_seq (wpIn_region_list ?_);rw[hops];obtain ⟨q1,q2,q3,q4⟩:=nE hg1;simp only at q1 q2;have wn1:∀ a:Act,Region.wanted o1 (yielded aW a.tmps)=true:=fun a=>by
  rcases q4 with ⟨a5,_⟩ | ⟨_,_,_,_,_,a5⟩
  ·simp[Region.wanted,a5]
  ·simp at a5
 have wn2:∀ a:Act,Region.wanted o2 (yielded aW a.tmps)=true:=fun a=>by simp[Region.wanted,hgd]
 simp only[wpListIn,wn1,if_true];have hmk:bn (av tsl os0) (.mk g' [.t ts'])=some (.func g' [.ptr (bI ρ N) []]):=by
  simp[bn,ak,av,R.fD,I.bR]
 have d1:=(C5 (c:=sB P w D fn.ntmps E (some [])) q1 hmk).does q3;rw[←q2] at d1;refine d1.wp q1 ⟨D1,E1,hs1⟩ fun a2 w2 hs2 =>?_;obtain ⟨D2,E2,hs2⟩:=hs2;simp only[wn2,if_true];rw[Ct] at hs2
 -- the deferred call
 have hglt:=Ab hi.1;have hfv:=hs2.dU t;simp only[av,bW,if_true] at hfv;obtain ⟨fc,f1,f2⟩:=hfv;simp only[al] at f2;obtain ⟨fvs,f3,f4⟩:=f2;have hval:a2.tmps.getD t undef=.func (.func g') #[] fvs.toArray:=by
  rw[←mI hglt];simpa[bB,I.isAgg,f3] using f1.symm
 simp only[aI] at f4;obtain ⟨pv,prest,pcs,rfl,p1,p2,rfl⟩:=f4;have hpv:=hs2.dU ts';simp only[av,bW,if_neg hts,R.fD] at hpv;obtain ⟨pb,psh,poff,b1,b2,b3⟩:=ln hpv;obtain ⟨pb',psh',poff',b1',b2',b3'⟩:=ln (jx p1 p2);have hpeq:pv=a2.tmps.getD ts' undef:=by
  rw[b1] at b1';simp only[v6,bL.aN.injEq] at b1';obtain ⟨rfl,rfl⟩:=b1';rw[b2] at b2';simp only[v6] at b2';subst b2';rw[b3,b3']
 have hdf:a2.defers=[]:=hs2.eD;obtain ⟨a3,ha3⟩:∃ a3:Act,a3 = { a2 with defers:=[kc g' (a2.tmps.getD ts' undef)] } :=⟨_,rfl⟩
 have hrun:(o2.semAt Fence.wide.round a2.eval).run P w2=.ok (.defer (kc g' (a2.tmps.getD ts' undef))) w2:=by
  show (execOp a2.eval o2).run P w2=_
  have he:a2.eval (.tmp t)=.func (.func g') #[] #[pv]:=hval;simp[execOp,ho2,resolve,he,Deferred.ofValue,kc,hpeq]
 refine ⟨fun _ _=>trivial,?_⟩;rw[hrun,Oper.uponIn_defer,hdf,hdst];simp only[Exit.then];have hput:({ tmps:=a2.tmps,defers:=[kc g' (a2.tmps.getD ts' undef)] } : Act).put none undef=a3:=by rw[ha3];rfl
 rw[hput]
 -- the rest
 have hand:=YU (P:=P) (n:=fn.ntmps) (fn:=fn) (f:=g') (N:=N) (ch:=ch) (slots:=slots) (a:=a3) (args:=cargs) (os:=os1) (ts:=ts') hrs hx (by rw[ha3];exact hs2.sz) (by rw[ha3]) R.lP R.E7 R.box hi hca R.rest;have hs3:aV (sB P w D fn.ntmps E (some [kc g' (a2.tmps.getD ts' undef)])) (av ((t,.func g' [.ptr (bI ρ N) []])::tsl) os0) a3 w2 D2 E2:=by
  rw[ha3];exact ⟨hs2.sz,rfl,hs2.dU,hs2.dQ,hs2.cZ,hs2.aQ,hs2.bO,hs2.cN,hs2.dV,hs2.eP,hs2.cR,pR ao,hs2.fx⟩
 have hall:∀ l:List Nat,fA (a8 w2 D2 E2) (l.map (bW ((t,.func g' [.ptr (bI ρ N) []])::tsl))) (l.map fun k=>a3.tmps.getD k undef):=fun l=>by
  induction l with
  |nil=>exact .nil
  |cons k l ih=>exact .cons (hs3.dU k) ih
 have hus:=hand.use hs3 false (fun h hr=>h.mono hr) ⟨(fun h=>by cases h),fun _=>hs3.pf⟩ R.BJ R.arg R.yu (hall slots);refine rz.mono hus ?_ (by simp);rintro e w' ⟨v,r,os',D4,E4,rfl,hp,hs4,hv4,_⟩;rw[hRR];obtain ⟨osF,g1,g2,g3,g4⟩:=R.iv r os' hp;rw[g2] at hv4;exact ⟨v,rfl,hs4.WD g3 g1 hv4 g4⟩
def gy:aH:=⟨none,.mv (.c (.bool true)),none⟩
theorem HJ{l:List Oper}{cl:List Nat}(h7:∀ i,i<l.length→(((l.map cj).getD i []).all (fun k=>decide (k<i))&&Nat.beq (cl.getD i 0) (lz cl ((l.map cj).getD i [])))=true)
  {S:Nat→Prop} (hS:∀ i o,l[i]?=some o→S i→∀ k∈cj o,S k):∀ n i o,i≤n→l[i]?=some o→(∀ k∈cj o,S k)→∀ j,(cl.getD i 0).testBit j=true→S j:=by
 have fD:∀ i o,l[i]?=some o→(∀ k∈cj o,k<i)∧(∀ j,(cl.getD i 0).testBit j=true→j∈cj o∨∃ k∈cj o,(cl.getD k 0).testBit j=true):=by
  intro i o ho;have hi:i<l.length:=(Z5.1 ho).1;have h8:=h7 i hi;have hon:(l.map cj).getD i []=cj o:=by simp[Z0,ho]
  rw[hon] at h8;simp only[t8,zy1,decide_eq_true_eq] at h8;have hb:=Nat.eq_of_beq_eq_true h8.2;exact ⟨h8.1,fun j hj=>rP (by rw[←hb];exact hj)⟩
 intro n
 induction n with
 |zero =>
  intro i o hi ho hon j hj;obtain ⟨h8,h9⟩:=fD i o ho;rcases h9 j hj with h | ⟨k,hk,_⟩
  ·exact hon j h
  ·have:=h8 k hk;omega
 |succ n ih =>
  intro i o hi ho hon j hj;obtain ⟨h8,h9⟩:=fD i o ho;rcases h9 j hj with h | ⟨k,hk,hjk⟩
  ·exact hon j h
  ·have hki:=h8 k hk;have hkl:k<l.length:=Nat.lt_trans hki (Z5.1 ho).1;obtain ⟨ok,hok⟩:∃ ok,l[k]?=some ok:=⟨l[k],zz4 hkl⟩
   exact ih k ok (by omega) hok (hS k ok hok (hon k hk)) j hjk
def CT(ab:List FuncId)(L:ec)(on:List (List Nat))(gs:List aH)(σ:List Nat)(m:Nat):Bool :=
 pD ab L on (gs.take m++[gy]) (ka on) (σ++[m])&&(sY (m+1) (ka on) m&&Nat.beq gs.length (m+1))
section
variable {c:cT}
theorem GY{K:ai→Prop}{fs:List FuncId}{L:ec}{aW:Array Oper}{gs0 gs:List aH}{σ:List Nat}{Q:Exit→Act→World→Prop}{m:Nat}(hm:m<aW.size)(hQ:∀ (B:ai) (a:Act) (w:World) (Kw:Act→World→Prop),K B→bX c B a w→wpOpIn c.bE 9 c.P aW Q m Kw a w)
  (hgs:fK c.P c.n aW aW.toList=some gs0) (hsame:∀ i,i≠m→gs[i]?=gs0[i]?) (hgm:gs[m]?=some gy) (hgl:gs.length=aW.size) (af:uv fs L aW.toList gs σ)
  (hlast:∀ (S:Nat→Prop),(∀ i o,aW.toList[i]?=some o→S i→∀ k∈cj o,S k)→∀ o,aW.toList[m]?=some o→(∀ k∈cj o,S k)→∀ j,j<gs.length→j≠m→S j) :
  ∀ (fuel:Nat) (listed:Array Bool) (A:ai) (a:Act) (w:World),listed.size=aW.size→(∀ i o,aW.toList[i]?=some o→listed.getD i false=true→∀ k∈cj o,listed.getD k false=true)→(eb σ listed).length≤fuel →
   cU L A→listed.getD m true=false→bN c.P c.Y fs K (az (gB gs σ listed) A)→bX c A a w→wpAnyIn c.bE 9 c.P .any aW Q fuel listed a w:=by
 obtain ⟨hlen,hat⟩:=iy hgs;have onOf_mem:∀ (o:Oper) (e:Edge),e∈o.after→Region.binds .any e=true→e.on∈cj o:=fun o e he hb=>by
  simp only[cj,zy0,zx2];exact ⟨e,⟨by simpa using he,hb⟩,rfl⟩
 have of_onOf:∀ (o:Oper) (k:Nat),k∈cj o→∃ e∈o.after,Region.binds .any e=true∧e.on=k:=fun o k hk=>by
  simp only[cj,zy0,zx2] at hk;obtain ⟨e,⟨J,U⟩,ah⟩:=hk;exact ⟨e,by simpa using J,U,ah⟩
 have last:∀ (listed:Array Bool),listed.size=aW.size→Region.ready .any aW listed=[]→listed.getD m true=false→False:=by
  intro listed hsz hr hml;have all:∀ n,∀ i,i<n→i<aW.size→listed.getD i true=true:=by
   intro n
   induction n with
   |zero=>intro i hi;omega
   |succ n ih =>
    intro i hi his;cases hb:listed.getD i true with
    |true=>rfl
    |false =>
     exfalso
     have ho:aW[i]?=some aW[i]:=zx8 his;have:i∈Region.ready .any aW listed:=mem_ready.2 ⟨hb,aW[i],ho,fun e he hbd=>by
      have hlt:=af.iv i aW[i] (by simp) e.on (onOf_mem _ e he hbd);have J:=ih e.on (by omega) (by omega);have U:e.on<listed.size:=by omega
      simpa[Array.getD_eq_getD_getElem?,U] using J⟩
     rw[hr] at this;cases this
  have:=all (m+1) m (by omega) hm;rw[hml] at this;cases this
 intro fuel
 induction fuel with
 |zero =>
  intro listed A a w hsz hcl hcnt hinv hml hwp ab;have hnone:eb σ listed=[]:=List.length_eq_zero_iff.1 (by omega);have:m∈eb σ listed:=by
   simp only[eb,zx2,hml,Bool.not_false,and_true];exact af.all m (by omega)
  rw[hnone] at this;cases this
 |succ fuel ih =>
  intro listed A a w hsz hcl hcnt hinv hml hwp ab;refine ⟨fun hr=>(last listed hsz hr hml).elim,fun i hi =>?_⟩;obtain ⟨hun,o,ho,hall⟩:=mem_ready.1 hi;have hin:i<aW.size:=(zz1.1 ho).1;obtain ⟨s1,s2,hσ,e1,e2⟩:=xg af.nV (af.all i (by omega)) (by omega) hun;have hol:aW.toList[i]?=some o:=by simpa using ho
  obtain ⟨g,hgi0,hcg⟩:=hat i o hol;have hon:∀ k∈cj o,listed.getD k false=true:=fun k hk=>by
   obtain ⟨e,J,U,ah⟩:=of_onOf o k hk;exact ah▸hall e J U
  by_cases him:i=m
  ·subst him;have hnil:eb σ listed=[i]:=by
    have hz:∀ j∈s1++s2,(!listed.getD j true)=false:=fun j hj=>by
     have hjσ:j∈σ:=by rw[hσ];rcases zy7.1 hj with h | h <;>simp[h]
     have hjl:=af.lt j hjσ;have hji:j≠i:=fun e=>by
      subst e;have hnd:=af.nV;rw[hσ] at hnd;rcases zy7.1 hj with h | h
      ·exact (List.nodup_append.1 hnd).2.2 j h j (by simp) rfl
      ·exact (List.nodup_cons.1 (List.nodup_append.1 hnd).2.1).1 h
     have h5:=hlast (fun k=>listed.getD k false=true) hcl o hol hon j hjl hji;have hjs:j<listed.size:=by omega
     simp[Array.getD_eq_getD_getElem?,hjs] at h5 ⊢;exact h5
    rw[e1];have f1:(s1.filter fun j => !listed.getD j true)=[]:=List.filter_eq_nil_iff.2 fun j hj=>by rw[hz j (List.mem_append_left _ hj)];simp
    have f2:(s2.filter fun j => !listed.getD j true)=[]:=List.filter_eq_nil_iff.2 fun j hj=>by rw[hz j (List.mem_append_right _ hj)];simp
    rw[f1,f2];rfl
   have hgd:gs.getD i default=gy:=by simp[Z0,hgm]
   simp only[gB,hnil,Z4,zy6,hgd] at hwp;have e:az [gy] A=.done A:=rfl;rw[e] at hwp;cases hwp with
   |done hk=>exact hQ A a w _ hk ab
  have hgi:gs[i]?=some g:=by rw[hsame i him];exact hgi0
  have hgd:gs.getD i default=g:=by simp[Z0,hgi]
  have hwp':bN c.P c.Y fs K (az (g::gB gs σ (listed.setIfInBounds i true)) A):=by
   simp only[gB,e1,zz2,Z4,hgd] at hwp;simp only[gB,e2,zz2];refine bN.nC hinv (fun j hj =>?_) hwp;obtain ⟨k,hk,rfl⟩:=zy0.1 hj;obtain ⟨hk1,hk2⟩:=zx2.1 hk;have:=af.o8 (fun k=>listed.getD k false=true) hcl s1 i s2 o hσ hol hon k hk1 (by
    have hks:k<listed.size:=by
     have:=af.lt k (by rw[hσ];exact List.mem_append_left _ hk1);omega
    simp[Array.getD_eq_getD_getElem?,hks] at hk2 ⊢;exact hk2)
   rw[hgd] at this;have hkl:=af.lt k (by rw[hσ];exact List.mem_append_left _ hk1);have hks:k<aW.size:=by omega
   refine ⟨this,?_⟩;rcases af.qF k aW[k] (by simp) with h | h
   ·exact h
   ·exfalso
    have h9:=h.1;rw[hσ,List.getLast?_append] at h9;have hne:(i::s2).getLast?=some k:=by
     cases h10:(i::s2).getLast? with
     |none=>simp at h10
     |some q=>rw[h10] at h9;simpa using h9
    have hk2:k∈i::s2:=List.mem_of_getLast? hne;have hnd:=af.nV;rw[hσ] at hnd;exact (List.nodup_append.1 hnd).2.2 k hk1 k hk2 rfl
  unfold wpOpIn;rw[ho];have hokg:mU g.op=true:=by
   have:=af.ok i (by omega)
   rwa [hgd] at this
  have hcl':∀ m om,aW.toList[m]?=some om→(listed.setIfInBounds i true).getD m false=true→∀ k∈cj om,(listed.setIfInBounds i true).getD k false=true:=by
   intro m om hom hm k hk;by_cases hmi:m=i
   ·subst hmi;rw[hol,v6] at hom;subst hom;exact getD_set_true (hon k hk)
   ·rw[getD_set_ne false (Ne.symm hmi)] at hm;exact getD_set_true (hcl m om hom hm k hk)
  have hfu:(eb σ (listed.setIfInBounds i true)).length≤fuel:=by
   have:(eb σ listed).length=(eb σ (listed.setIfInBounds i true)).length+1:=by
    rw[e1,e2];simp;omega
   omega
  have hml':(listed.setIfInBounds i true).getD m true=false:=by rw[getD_set_ne true him];exact hml
  rcases af.qF i o hol with hlb | ⟨hla,hlb⟩
  ·rw[hgd] at hlb;exact sO hcg hinv ⟨hokg,hlb⟩ hwp' ab fun B a' w' hw hiB hs'=>ih _ B a' w' (by simpa using hsz) hcl' hfu hiB hml' hw hs'
  ·exfalso
   have h5:=hlb (fun k=>listed.getD k false=true) hcl hon m (by omega) (Ne.symm him);have hms:m<listed.size:=by omega
   simp[Array.getD_eq_getD_getElem?,hms] at h5 hml;rw[hml] at h5;cases h5
theorem ae.jA{Q:Exit→ai→Prop}{A:ai}{on:List (List Nat)}{gs:List aH}(m:Nat)(ab:List FuncId)(L:ec)(σ:List Nat){g:bQ}{dst:Option Nat}(af:CT ab L on gs σ m=true)(hk:gs[m]?=some ⟨dst,g,none⟩)(hi:cU L A)
  (h:∀ K:ai→Prop,(∀ B,my c.P Q g B→K B)→bN c.P c.Y ab K (az (eU (σ++[m]) (gs.take m++[gy])) A)):ae c (.cd (some on) gs) Q A:=by
 intro code hc a w hs';cases code <;>simp only[eB] at hc <;>try (first | (cases hc;done) | ((repeat' split at hc) <;>cases hc;done))
 rename_i id aW draw;split at hc
 case h_2=>cases hc
 rename_i gs' hgs;split at hc
 case isFalse=>cases hc
 rename_i hok;simp only[v6,bq.cd.injEq] at hc;obtain ⟨he,rfl⟩:=hc;cases draw with
 |false=>cases he
 |true =>
  simp only[cond_true,v6] at he;subst he;simp only[Bool.not_true,Bool.false_or] at hok;simp only[CT,t8] at af;obtain ⟨hd1,hd2,hd3⟩:=af;have hglen:=Nat.eq_of_beq_eq_true hd3;have hops:gs'.length=aW.size:=by rw[(iy hgs).1,zy2]
  have hXl:(gs'.take m++[gy]).length=aW.size:=by simp;omega
  have hp:=CX (l:=aW.toList) (by rw[hXl,zy2]) hd1;have h7:∀ i,i<aW.toList.length→(((aW.toList.map cj).getD i []).all (fun k=>decide (k<i))&&Nat.beq ((ka (aW.toList.map cj)).getD i 0) (lz (ka (aW.toList.map cj)) ((aW.toList.map cj).getD i [])))=true:=by
   simp only[pD,t8,zy1,zw0] at hd1;intro i hi;have:=hd1.2.2 i (by rw[hXl];simpa using hi);simpa only[t8,zy1] using this
  have hmlt:m<aW.size:=by omega
  refine wpIn_region_any hok (GY (K:=my c.P Q g) (m:=m) hmlt (fun B a' w' Kw hpn hs2 =>?_) hgs (gs:=gs'.take m++[gy]) (fun i him =>?_) ?_ hXl hp (fun S hS o ho hon j hj hjm =>?_) aW.size (Array.replicate aW.size false) A a _ (by simp) ?_ ?_ hi (by simp[Array.getD_eq_getD_getElem?,hmlt]) ?_ ?_)
  ·obtain ⟨g1,hg1,hg2⟩:=(iy hgs).2 m aW[m] (by simp[hmlt]);rw[hk,v6] at hg1;subst hg1;obtain ⟨q1,q2,q3,q4⟩:=nE hg2;have wn:Region.wanted aW[m] (yielded aW a'.tmps)=true:=by
    rcases q4 with ⟨a5,_⟩ | ⟨_,_,_,_,_,a5⟩
    ·simp[Region.wanted,a5]
    ·simp at a5
   unfold wpOpIn;rw[zx8 hmlt];simp only[wn,if_true];exact CU q1 hpn hs2
  ·rcases Nat.lt_or_ge i m with ao | ao
   ·rw[zz5 (by simp;omega),List.getElem?_take,if_pos ao]
   ·rw[zx9 (by rw[hXl];omega),zx9 (by omega)]
  ·rw[zx4 (by simp;omega)];simp[show min m gs'.length=m by omega]
  ·have hb:(ka (aW.toList.map cj)).getD m 0 |>.testBit j:=by
    simp only[sY,zy1,zw0,Bool.or_eq_true,beq_iff_eq] at hd2;rcases hd2 j (by omega) with e | e
    ·exact absurd e hjm
    ·exact e
   exact HJ h7 hS m m o (Z3 _) ho hon j hb
  ·intro i o _ h
   exfalso
   simp only[Array.getD_eq_getD_getElem?,Array.getElem?_replicate] at h;split at h <;>simp at h
  ·refine zw3 (List.length_filter_le _ _) ?_;rw[hp.len,hXl];exact Z3 _
  ·have hall:eb (σ++[m]) (Array.replicate aW.size false)=σ++[m]:=by
    simp only[eb];refine List.filter_eq_self.2 fun i hi =>?_;have J:=hp.lt i hi;rw[hXl] at J;simp[J]
   simp only[gB,hall];exact h _ fun _ hb=>hb
  ·obtain ⟨D,E,hs'⟩:=hs';exact ⟨D,E,hs'.grow (w' := { w with drawn:=w.drawn+1 }) ⟨rfl,rfl,rfl,Z3 _,fun _ _=>rfl⟩ (fun _ _ h=>h) (fun _ _ h _=>h) (fun b o h=>hs'.aQ b o h)⟩
end
end Go.Abs
