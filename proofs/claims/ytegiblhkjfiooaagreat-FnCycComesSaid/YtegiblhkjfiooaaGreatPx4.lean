/- Texts laid together by a program: rules, contracts and the walk that leads to the law. -/
import Derived.Test.YtegiblhkjfiooaaGreatPx3
set_option linter.unusedVariables false
set_option linter.unusedSimpArgs false
set_option linter.unusedSectionVars false
section
namespace Go.Proofs.YtegiblhkjfiooaaGreat
open Go Go.AM
set_option maxRecDepth 100000
def oT:AC:=
 (.seq (.region [rq 0 2 (.move (.kv (.pointer none)))] 1 [0])
 (.seq (.seq (.region [RM 0 3 0,
 rq 1 4 (.len false (.tm 3)),
 rq 2 5 (.bin .gtr (.tm 4) (ki 2000))] 3 [0,5])
 (.cond (.tm 5)
 (.region [RM 0 6 0,
 rq 1 7 (.slc 1 (.tm 6) none (some (ki 2000)) none),
 RM 2 0 7] 3 [0])
 .skip))
 (.seq (.region [RM 0 8 0,
 rq 1 9 (.build [OZ,VZ] [(0,1,(.tm 8))]),
 rq 2 10 (.box true (.tm 9)),
 RM 3 2 10] 4 [2])
 .ret)))
def N1:List Cert:=[⟨[],[0]⟩,⟨[],[0,5]⟩,⟨[],[0]⟩,⟨[],[2]⟩]
def DN:List aW:=[.tm 2]
theorem OT:aO Tryz.prog Tryz.f55 N1=some (oT,DN):=by kernel_rfl
theorem DY:aN Tryz.prog kN Tryz.f55 oT DN:=
 aN.mk Tryz.func55 (by kernel_rfl) OT
def qQ:AC:=
 (.seq (.region [rq 0 4 (.alloc [OZ,OZ,OZ])] 1 [0,1,4])
 (.seq (.region [RM 0 11 0,
 rq 1 12 (.call tN [(.tm 11),(ki 99999)]),
 rq 2 13 (.build [OZ,OZ,OZ] [(0,1,(.tm 12))]),
 rq 3 5 (.alloc [OZ,OZ,OZ]),
 rn 4 (.store 3 true (.tm 5) (.tm 13))] 5 [0,1,4,5])
 (.seq (.seq (.region [rq 0 6 (.move (ki 0))] 1 [0,1,4,5,6])
 (.block 0
 (.loop
 (.seq (.seq (.region [RM 0 14 6,
 rq 1 15 (.bin .leq (.tm 14) (ki 3))] 2 [0,1,4,5,6,15])
 (.cond (.tm 15)
 .skip
 (.exit 0)))
 (.seq (.block 1
 (.region [RF 0 18 1 5,
 ⟨1,(some 19),.load 1 false (.tm 18),none,[4],[],true⟩,
 RM 2 20 0,
 ⟨3,(some 21),.call aD [(.tm 20),(ki 4)],none,[],[1],false⟩,
 rq 4 22 (.bC 1 1 [VZ] [(0,1,(.tm 21))]),
 rq 5 23 (.append 1 (.tm 19) (.tm 22)),
 RF 6 24 1 5,
 rn 7 (.store 1 false (.tm 24) (.tm 23))] 8 [0,1,4,5,6]))
 (.region [RM 0 16 6,
 rq 1 17 (.bin .add (.tm 16) (ki 1)),
 RM 2 6 17] 3 [0,1,4,5,6]))))))
 (.seq (.seq (.region [rq 0 7 (.move (ki 0))] 1 [0,1,4,5,7])
 (.block 2
 (.loop
 (.seq (.seq (.region [RM 0 25 7,
 rq 1 26 (.bin .lss (.tm 25) (ki 3))] 2 [0,1,4,5,7,26])
 (.cond (.tm 26)
 .skip
 (.exit 2)))
 (.seq (.block 3
 (.seq (.region [rq 0 29 (.bC 7 0 [VZ,VZ,VZ,VZ,(.v (.bool false)),OZ,OZ] []),
 RM 1 8 29] 2 [0,1,4,5,7,8])
 (.seq (.seq (.region [RM 0 30 0,
 RM 1 31 1,
 rq 2 32 (.bin .add (.tm 31) (ki 1)),
 rq 3 33 (.call aD [(.tm 30),(.tm 32)]),
 RM 4 9 33] 5 [0,1,4,5,7,8,9])
 (.block 4
 (.loop
 (.seq (.seq (.region [RM 0 34 9,
 rq 1 35 (.bin .gtr (.tm 34) (ki 0))] 2 [0,1,4,5,7,8,9,35])
 (.cond (.tm 35)
 .skip
 (.exit 4)))
 (.seq (.block 5
 (.seq (.region [RM 0 38 0,
 rq 1 39 (.call tS [(.tm 38),(ki 99999)]),
 rq 2 10 (.alloc [VZ,VZ,VZ,VZ,(.v (.bool false)),OZ,OZ]),
 rn 3 (.store 7 true (.tm 10) (.tm 39))] 4 [0,1,4,5,7,8,9,10])
 (.seq (.seq (.region [RF 0 40 1 10,
 RL 1 41 40,
 rq 2 42 (.bin .eql (.tm 41) (ki 4)),
 RM 3 43 42,
 GQ 4 44 (.move (.tm 8)) 43 true,
 GQ 5 45 (.len false (.tm 44)) 43 true,
 GQ 6 46 (.bin .gtr (.tm 45) (ki 0)) 43 true,
 rq 7 47 (.pick (.tm 43) (.tm 46) (.kv (.bool false))),
 RM 8 48 47,
 GQ 9 49 (.move (.tm 0)) 48 true,
 GQ 10 50 (.call aD [(.tm 49),(ki 2)]) 48 true,
 GQ 11 51 (.bin .eql (.tm 50) (ki 0)) 48 true,
 rq 12 52 (.pick (.tm 48) (.tm 51) (.kv (.bool false)))] 13 [0,1,4,5,7,8,9,10,52])
 (.cond (.tm 52)
 (.region [RM 0 53 8,
 RF 1 54 0 10,
 RL 2 55 54,
 RF 3 56 2 10,
 RL 4 57 56,
 rq 5 58 (.build [VZ,VZ,VZ,VZ,(.v (.bool false)),OZ,OZ] [(0,1,(.tm 55)),(1,1,(ki 3)),(2,1,(.tm 57)),(3,1,(ki 1))]),
 rq 6 59 (.bC 7 1 [VZ,VZ,VZ,VZ,(.v (.bool false)),OZ,OZ] [(0,7,(.tm 58))]),
 rq 7 60 (.append 7 (.tm 53) (.tm 59)),
 RM 8 8 60] 9 [0,1,4,5,7,8,9,10])
 .skip))
 (.region [RM 0 61 8,
 rq 1 62 (.load 7 true (.tm 10)),
 rq 2 63 (.bC 7 1 [VZ,VZ,VZ,VZ,(.v (.bool false)),OZ,OZ] [(0,7,(.tm 62))]),
 rq 3 64 (.append 7 (.tm 61) (.tm 63)),
 RM 4 8 64] 5 [0,1,4,5,7,8,9]))))
 (.region [RM 0 36 9,
 rq 1 37 (.bin .sub (.tm 36) (ki 1)),
 RM 2 9 37] 3 [0,1,4,5,7,8,9]))))))
 (.region [RF 0 65 2 5,
 ⟨1,(some 66),.load 1 false (.tm 65),none,[7],[],false⟩,
 RM 2 67 8,
 RM 3 68 8,
 rq 4 69 (.len false (.tm 68)),
 rq 5 70 (.mmx true (.tm 69) (ki 12)),
 rq 6 71 (.slc 7 (.tm 67) none (some (.tm 70)) none),
 rq 7 72 (.bC 1 1 [OZ] [(0,1,(.tm 71))]),
 rq 8 73 (.append 1 (.tm 66) (.tm 72)),
 RF 9 74 2 5,
 rn 10 (.store 1 false (.tm 74) (.tm 73))] 11 [0,1,4,5,7]))))
 (.region [RM 0 27 7,
 rq 1 28 (.bin .add (.tm 27) (ki 1)),
 RM 2 7 28] 3 [0,1,4,5,7]))))))
 (.seq (.region [rq 0 75 (.load 3 true (.tm 5)),
 rn 1 (.store 3 true (.tm 4) (.tm 75))] 2 [4])
 .ret)))))
def QI:List Cert:=[⟨[],[0,1,4]⟩,⟨[],[0,1,4,5]⟩,⟨[],[0,1,4,5,6]⟩,⟨[],[0,1,4,5,6,15]⟩,⟨[cz 0,(1,[4],[],true),cz 2,(3,[],[1],false),cz 4,cz 5,cz 6,cz 7],[0,1,4,5,6]⟩,⟨[],[0,1,4,5,6]⟩,⟨[],[0,1,4,5,7]⟩,⟨[],[0,1,4,5,7,26]⟩,⟨[],[0,1,4,5,7,8]⟩,⟨[],[0,1,4,5,7,8,9]⟩,⟨[],[0,1,4,5,7,8,9,35]⟩,⟨[],[0,1,4,5,7,8,9,10]⟩,⟨[],[0,1,4,5,7,8,9,10,52]⟩,⟨[],[0,1,4,5,7,8,9,10]⟩,⟨[],[0,1,4,5,7,8,9]⟩,⟨[],[0,1,4,5,7,8,9]⟩,⟨[cz 0,(1,[7],[],false),cz 2,cz 3,cz 4,cz 5,cz 6,cz 7,cz 8,cz 9,cz 10],[0,1,4,5,7]⟩,⟨[],[0,1,4,5,7]⟩,⟨[],[4]⟩]
def FY:List aW:=[.cell 4 3 true]
theorem QV:aO Tryz.prog Tryz.f56 QI=some (qQ,FY):=by kernel_rfl
theorem FC:aN Tryz.prog lJ Tryz.f56 qQ FY:=
 aN.mk Tryz.func56 (by kernel_rfl) QV
def z4:AC:=
 (.seq (.region [rq 0 1 (.box true (.tm 0)),
 rq 1 2 (.move (.kv (.bool false)))] 2 [1])
 (.seq (.region [RF 0 3 0 1,
 RL 1 4 3,
 rq 2 5 (.call wR [(.tm 4)]),
 RM 3 6 5,
 GQ 4 7 (.fld 1 (.tm 1)) 6 true,
 GQ 5 8 (.load 1 false (.tm 7)) 6 true,
 GQ 6 9 (.len false (.tm 8)) 6 true,
 GQ 7 10 (.bin .eql (.tm 9) (ki 4)) 6 true,
 rq 8 11 (.pick (.tm 6) (.tm 10) (.kv (.bool false))),
 RM 9 12 11,
 GQ 10 13 (.fld 1 (.tm 1)) 12 true,
 GQ 11 14 (.load 1 false (.tm 13)) 12 true,
 GQ 12 15 (.call bN [(.tm 14),(.fn qK)]) 12 true,
 GQ 13 16 (.un .not (.tm 15)) 12 true,
 rq 14 17 (.pick (.tm 12) (.tm 16) (.kv (.bool false))),
 RM 15 18 17,
 GQ 16 19 (.fld 2 (.tm 1)) 18 true,
 GQ 17 20 (.load 1 false (.tm 19)) 18 true,
 GQ 18 21 (.len false (.tm 20)) 18 true,
 GQ 19 22 (.bin .eql (.tm 21) (ki 3)) 18 true,
 rq 20 23 (.pick (.tm 18) (.tm 22) (.kv (.bool false))),
 RM 21 24 23,
 GQ 22 25 (.fld 2 (.tm 1)) 24 true,
 GQ 23 26 (.load 1 false (.tm 25)) 24 true,
 GQ 24 27 (.call cF [(.tm 26),(.fn rR)]) 24 true,
 GQ 25 28 (.un .not (.tm 27)) 24 true,
 rq 26 29 (.pick (.tm 24) (.tm 28) (.kv (.bool false))),
 RM 27 2 29] 28 [2])
 .ret))
def UE:List Cert:=[⟨[],[1]⟩,⟨[],[2]⟩]
def H7:List aW:=[.tm 2]
theorem T6:aO Tryz.prog Tryz.f58 UE=some (z4,H7):=by kernel_rfl
theorem T9:aN Tryz.prog wF Tryz.f58 z4 H7:=
 aN.mk Tryz.func58 (by kernel_rfl) T6
def sZ:AC:=
 (.seq (.region [rq 0 2 (.move (.kv (.bool false)))] 1 [0])
 (.seq (.region [RM 0 3 0,
 rq 1 4 (.call cQ [(.tm 3),(ki 0),(ki 2)]),
 RM 2 2 4] 3 [2])
 .ret))
def MG:List Cert:=[⟨[],[0]⟩,⟨[],[2]⟩]
def A0:List aW:=[.tm 2]
theorem MB:aO Tryz.prog Tryz.f59 MG=some (sZ,A0):=by kernel_rfl
theorem MZ:aN Tryz.prog jA Tryz.f59 sZ A0:=
 aN.mk Tryz.func59 (by kernel_rfl) MB
def xV:AC:=
 (.seq (.region [rq 0 0 (.alloc [OZ,OZ])] 1 [0])
 (.seq (.region [rq 0 1 (.call oC []),
 rq 1 2 (.bC 1 1 [VZ] [(0,1,(.kv (.int .i64 (-1))))]),
 rq 2 3 (.call eJ [(.tm 2),(ki 6)]),
 rq 3 4 (.build [OZ,OZ] [(0,1,(.tm 1)),(1,1,(.tm 3))]),
 rn 4 (.store 2 true (.tm 0) (.tm 4))] 5 [0])
 .ret))
def SQ:List Cert:=[⟨[],[0]⟩,⟨[],[0]⟩]
def E4:List aW:=[.cell 0 2 true]
theorem S1:aO Tryz.prog Tryz.f62 SQ=some (xV,E4):=by kernel_rfl
theorem SY:aN Tryz.prog n8 Tryz.f62 xV E4:=
 aN.mk Tryz.func62 (by kernel_rfl) S1
def z3:AC:=
 (.seq (.region [rq 0 1 (.box true (.tm 0)),
 rq 1 2 (.move (.kv (.bool false)))] 2 [1])
 (.seq (.region [RF 0 3 0 1,
 rq 1 4 (.load 1 true (.tm 3)),
 rq 2 5 (.call wP [(.tm 4)]),
 RM 3 6 5,
 GQ 4 7 (.fld 1 (.tm 1)) 6 true,
 GQ 5 8 (.load 1 false (.tm 7)) 6 true,
 GQ 6 9 (.len false (.tm 8)) 6 true,
 GQ 7 10 (.bin .eql (.tm 9) (ki 6)) 6 true,
 rq 8 11 (.pick (.tm 6) (.tm 10) (.kv (.bool false))),
 RM 9 12 11,
 GQ 10 13 (.fld 1 (.tm 1)) 12 true,
 GQ 11 14 (.load 1 false (.tm 13)) 12 true,
 GQ 12 15 (.call bN [(.tm 14),(.fn rC)]) 12 true,
 GQ 13 16 (.un .not (.tm 15)) 12 true,
 rq 14 17 (.pick (.tm 12) (.tm 16) (.kv (.bool false))),
 RM 15 2 17] 16 [2])
 .ret))
def TN:List Cert:=[⟨[],[1]⟩,⟨[],[2]⟩]
def H9:List aW:=[.tm 2]
theorem U4:aO Tryz.prog Tryz.f64 TN=some (z3,H9):=by kernel_rfl
theorem UK:aN Tryz.prog rG Tryz.f64 z3 H9:=
 aN.mk Tryz.func64 (by kernel_rfl) U4
def mC:AC:=
 (.seq (.region [rq 0 2 (.box true (.tm 0)),
 rq 1 3 (.box true (.tm 1)),
 rq 2 4 (.move (.kv (.bool false)))] 3 [2,3])
 (.seq (.seq (.region [RF 0 13 0 3,
 rq 1 14 (.load 2 true (.tm 13)),
 rq 2 15 (.call rG [(.tm 14)]),
 rq 3 16 (.un .not (.tm 15)),
 RM 4 17 16,
 GQ 5 18 (.fld 2 (.tm 3)) 17 false,
 GQ 6 19 (.load 1 false (.tm 18)) 17 false,
 GQ 7 20 (.len false (.tm 19)) 17 false,
 GQ 8 21 (.bin .neq (.tm 20) (ki 3)) 17 false,
 rq 9 22 (.pick (.tm 17) (.kv (.bool true)) (.tm 21)),
 RM 10 23 22,
 GQ 11 24 (.fld 3 (.tm 3)) 23 false,
 GQ 12 25 (.load 1 false (.tm 24)) 23 false,
 GQ 13 26 (.call oI [(.tm 25)]) 23 false,
 GQ 14 27 (.un .not (.tm 26)) 23 false,
 rq 15 28 (.pick (.tm 23) (.kv (.bool true)) (.tm 27)),
 RM 16 29 28,
 GQ 17 30 (.fld 4 (.tm 3)) 29 false,
 GQ 18 31 (.load 1 false (.tm 30)) 29 false,
 GQ 19 32 (.call oI [(.tm 31)]) 29 false,
 GQ 20 33 (.un .not (.tm 32)) 29 false,
 rq 21 34 (.pick (.tm 29) (.kv (.bool true)) (.tm 33))] 22 [2,3,34])
 (.cond (.tm 34)
 (.seq (.region [rq 0 4 (.move (.kv (.bool false)))] 1 [4])
 .ret)
 .skip))
 (.seq (.region [rq 0 5 (.move (ki 0))] 1 [2,3,5])
 (.seq (.seq (.region [RF 0 35 2 3,
 RL 1 36 35,
 rq 2 37 (.len false (.tm 36)),
 rq 3 38 (.move (ki 0))] 4 [2,3,5,36,37,38])
 (.block 0
 (.loop
 (.seq (.region [rq 0 39 (.bin .lss (.tm 38) (.tm 37))] 1 [2,3,5,36,37,38,39])
 (.seq (.cond (.tm 39)
 .skip
 (.exit 0))
 (.seq (.block 1
 (.seq (.region [RM 0 40 38,
 rq 1 41 (.idx 1 (.tm 36) (.tm 38)),
 RL 2 42 41,
 RM 3 6 40,
 RM 4 7 42] 5 [2,3,5,6,7,36,37,38])
 (.seq (.seq (.region [RM 0 43 7,
 RF 1 44 2 2,
 RL 2 45 44,
 RM 3 46 6,
 rq 4 47 (.idx 1 (.tm 45) (.tm 46)),
 RL 5 48 47,
 rq 6 49 (.len false (.tm 48)),
 rq 7 50 (.call cQ [(.tm 43),(ki 0),(.tm 49)]),
 rq 8 51 (.un .not (.tm 50))] 9 [2,3,5,7,36,37,38,51])
 (.cond (.tm 51)
 (.seq (.region [rq 0 4 (.move (.kv (.bool false)))] 1 [4])
 .ret)
 .skip))
 (.region [RM 0 52 5,
 RM 1 53 7,
 rq 2 54 (.bin .add (.tm 52) (.tm 53)),
 RM 3 5 54] 4 [2,3,5,36,37,38]))))
 (.region [rq 0 55 (.bin .add (.tm 38) (ki 1)),
 RM 1 38 55] 2 [2,3,5,36,37,38])))))))
 (.seq (.region [rq 0 56 (.xop (.DS 2 true) []),
 RM 1 8 56] 2 [2,3,5,8])
 (.seq (.seq (.region [RF 0 57 3 3,
 RL 1 58 57,
 RF 2 59 4 3,
 RL 3 60 59,
 RF 4 61 5 3,
 RL 5 62 61,
 rq 6 63 (.bC 1 3 [OZ] [(0,1,(.tm 58)),(1,1,(.tm 60)),(2,1,(.tm 62))]),
 rq 7 64 (.len false (.tm 63)),
 rq 8 65 (.move (ki 0))] 9 [2,3,5,8,63,64,65])
 (.block 2
 (.loop
 (.seq (.region [rq 0 66 (.bin .lss (.tm 65) (.tm 64))] 1 [2,3,5,8,63,64,65,66])
 (.seq (.cond (.tm 66)
 .skip
 (.exit 2))
 (.seq (.block 3
 (.seq (.region [RM 0 67 65,
 rq 1 68 (.idx 1 (.tm 63) (.tm 65)),
 RL 2 69 68,
 RM 3 9 67,
 RM 4 10 69] 5 [2,3,5,8,9,10,63,64,65])
 (.seq (.region [RM 0 70 10,
 rq 1 71 (.len false (.tm 70)),
 rq 2 72 (.move (ki 0))] 3 [2,3,5,8,9,63,64,65,70,71,72])
 (.block 4
 (.loop
 (.seq (.region [rq 0 73 (.bin .lss (.tm 72) (.tm 71))] 1 [2,3,5,8,9,63,64,65,70,71,72,73])
 (.seq (.cond (.tm 73)
 .skip
 (.exit 4))
 (.seq (.block 5
 (.seq (.region [rq 0 74 (.idx 5 (.tm 70) (.tm 72)),
 rq 1 75 (.load 5 true (.tm 74)),
 rq 2 12 (.alloc [VZ,VZ,VZ,VZ,OZ]),
 rn 3 (.store 5 true (.tm 12) (.tm 75))] 4 [2,3,5,8,9,12,63,64,65,70,71,72])
 (.seq (.seq (.region [RF 0 76 0 12,
 RL 1 77 76,
 rq 2 78 (.call jA [(.tm 77)]),
 rq 3 79 (.un .not (.tm 78)),
 RM 4 80 79,
 GQ 5 81 (.fld 1 (.tm 12)) 80 false,
 GQ 6 82 (.load 1 false (.tm 81)) 80 false,
 GQ 7 83 (.fld 2 (.tm 3)) 80 false,
 GQ 8 84 (.load 1 false (.tm 83)) 80 false,
 GQ 9 85 (.fld 0 (.tm 12)) 80 false,
 GQ 10 86 (.load 1 false (.tm 85)) 80 false,
 GQ 11 87 (.idx 1 (.tm 84) (.tm 86)) 80 false,
 GQ 12 88 (.load 1 false (.tm 87)) 80 false,
 GQ 13 89 (.bin .sub (.tm 88) (ki 1)) 80 false,
 GQ 14 90 (.call cQ [(.tm 82),(ki 0),(.tm 89)]) 80 false,
 GQ 15 91 (.un .not (.tm 90)) 80 false,
 rq 16 92 (.pick (.tm 80) (.kv (.bool true)) (.tm 91)),
 RM 17 93 92,
 GQ 18 94 (.move (.tm 8)) 93 false,
 GQ 19 95 (.fld 0 (.tm 12)) 93 false,
 GQ 20 96 (.load 1 false (.tm 95)) 93 false,
 GQ 21 97 (.fld 1 (.tm 12)) 93 false,
 GQ 22 98 (.load 1 false (.tm 97)) 93 false,
 GQ 23 99 (.build [VZ,VZ] [(0,1,(.tm 96)),(1,1,(.tm 98))]) 93 false,
 GQ 24 100 (.xop (.rA 2 true false) [(.tm 94),(.tm 99)]) 93 false,
 rq 25 101 (.pick (.tm 93) (.kv (.bool true)) (.tm 100))] 26 [2,3,5,8,9,12,63,64,65,70,71,72,101])
 (.cond (.tm 101)
 (.seq (.region [rq 0 4 (.move (.kv (.bool false)))] 1 [4])
 .ret)
 .skip))
 (.seq (.region [RM 0 102 8,
 RF 1 103 0 12,
 RL 2 104 103,
 RF 3 105 1 12,
 RL 4 106 105,
 rq 5 107 (.build [VZ,VZ] [(0,1,(.tm 104)),(1,1,(.tm 106))]),
 rn 6 (.xop (.vM 2 true) [(.tm 102),(.tm 107),(.kv (.bool true))])] 7 [2,3,5,8,9,12,63,64,65,70,71,72])
 (.seq (.region [RM 0 108 9,
 rq 1 109 (.bin .eql (.tm 108) (ki 0)),
 RM 2 110 109,
 GQ 3 111 (.fld 2 (.tm 12)) 110 true,
 GQ 4 112 (.load 3 true (.tm 111)) 110 true,
 GQ 5 113 (.call iT [(.tm 112)]) 110 true,
 GQ 6 114 (.un .not (.tm 113)) 110 true,
 rq 7 115 (.pick (.tm 110) (.tm 114) (.kv (.bool false))),
 RM 8 116 115,
 GQ 9 117 (.move (.tm 9)) 116 false,
 GQ 10 118 (.bin .gtr (.tm 117) (ki 0)) 116 false,
 GQ 11 119 (.move (.tm 118)) 116 false,
 GQ 12 120 (.fld 2 (.tm 12)) 119 true,
 GQ 13 121 (.load 3 true (.tm 120)) 119 true,
 GQ 14 122 (.call m6 [(.tm 121)]) 119 true,
 GQ 15 123 (.un .not (.tm 122)) 119 true,
 GQ 16 124 (.move (.tm 123)) 119 true,
 GQ 17 125 (.fld 2 (.tm 12)) 124 false,
 GQ 18 126 (.fld 0 (.tm 125)) 124 false,
 ⟨19,(some 127),.load 1 false (.tm 126),(some (124,false)),[],[],true⟩,
 GQ 20 128 (.load 3 true (.tm 2)) 124 false,
 GQ 21 129 (.fld 0 (.tm 12)) 124 false,
 GQ 22 130 (.load 1 false (.tm 129)) 124 false,
 GQ 23 131 (.fld 1 (.tm 12)) 124 false,
 GQ 24 132 (.load 1 false (.tm 131)) 124 false,
 ⟨25,(some 133),.call fB [(.tm 128),(.tm 130),(.tm 132)],(some (124,false)),[],[19],false⟩,
 GQ 26 134 (.bin .neq (.tm 127) (.tm 133)) 124 false,
 GQ 27 135 (.pick (.tm 124) (.kv (.bool true)) (.tm 134)) 119 true,
 GQ 28 136 (.pick (.tm 119) (.tm 135) (.kv (.bool false))) 116 false,
 rq 29 137 (.pick (.tm 116) (.kv (.bool true)) (.tm 136))] 30 [2,3,5,8,9,63,64,65,70,71,72,137])
 (.cond (.tm 137)
 (.seq (.region [rq 0 4 (.move (.kv (.bool false)))] 1 [4])
 .ret)
 .skip))))))
 (.region [rq 0 138 (.bin .add (.tm 72) (ki 1)),
 RM 1 72 138] 2 [2,3,5,8,9,63,64,65,70,71,72])))))))))
 (.region [rq 0 139 (.bin .add (.tm 65) (ki 1)),
 RM 1 65 139] 2 [2,3,5,8,63,64,65])))))))
 (.seq (.region [RM 0 140 8,
 rq 1 141 (.xop .sS [(.tm 140)]),
 RM 2 142 5,
 rq 3 143 (.bin .eql (.tm 141) (.tm 142)),
 RM 4 4 143] 5 [4])
 .ret)))))))
def GR:List Cert:=[⟨[],[2,3]⟩,⟨[],[2,3,34]⟩,⟨[],[4]⟩,⟨[],[2,3,5]⟩,⟨[],[2,3,5,36,37,38]⟩,⟨[],[2,3,5,36,37,38,39]⟩,⟨[],[2,3,5,6,7,36,37,38]⟩,⟨[],[2,3,5,7,36,37,38,51]⟩,⟨[],[4]⟩,⟨[],[2,3,5,36,37,38]⟩,⟨[],[2,3,5,36,37,38]⟩,⟨[],[2,3,5,8]⟩,⟨[],[2,3,5,8,63,64,65]⟩,⟨[],[2,3,5,8,63,64,65,66]⟩,⟨[],[2,3,5,8,9,10,63,64,65]⟩,⟨[],[2,3,5,8,9,63,64,65,70,71,72]⟩,⟨[],[2,3,5,8,9,63,64,65,70,71,72,73]⟩,⟨[],[2,3,5,8,9,12,63,64,65,70,71,72]⟩,⟨[cz 0,cz 1,cz 2,cz 3,cz 4,cz 5,cz 6,cz 7,cz 8,cz 9,cz 10,cz 11,cz 12,cz 13,cz 14,cz 15,cz 16,cz 17,cz 18,cz 19,cz 20,cz 21,cz 22,cz 23,cz 24,cz 25],[2,3,5,8,9,12,63,64,65,70,71,72,101]⟩,⟨[],[4]⟩,⟨[],[2,3,5,8,9,12,63,64,65,70,71,72]⟩,⟨[cz 0,cz 1,cz 2,cz 3,cz 4,cz 5,cz 6,cz 7,cz 8,cz 9,cz 10,cz 11,cz 12,cz 13,cz 14,cz 15,cz 16,cz 17,cz 18,(19,[],[],true),cz 20,cz 21,cz 22,cz 23,cz 24,(25,[],[19],false),cz 26,cz 27,cz 28,cz 29],[2,3,5,8,9,63,64,65,70,71,72,137]⟩,⟨[],[4]⟩,⟨[],[2,3,5,8,9,63,64,65,70,71,72]⟩,⟨[],[2,3,5,8,63,64,65]⟩,⟨[],[4]⟩]
def uT:List aW:=[.tm 4]
theorem FR:aO Tryz.prog Tryz.f67 GR=some (mC,uT):=by kernel_rfl
theorem GV:aN Tryz.prog j9 Tryz.f67 mC uT:=
 aN.mk Tryz.func67 (by kernel_rfl) FR
def z5:AC:=
 (.seq (.region [rq 0 6 (.move (.kv (.bool false)))] 1 [0,1,2])
 (.seq (.region [RM 0 7 1,
 rq 1 8 (.bin .eql (.tm 7) (ki 1)),
 RM 2 9 8,
 GQ 3 10 (.move (.tm 1)) 9 false,
 GQ 4 11 (.bin .eql (.tm 10) (ki 2)) 9 false,
 rq 5 12 (.pick (.tm 9) (.kv (.bool true)) (.tm 11)),
 RM 6 13 12,
 GQ 7 14 (.move (.tm 1)) 13 false,
 GQ 8 15 (.bin .eql (.tm 14) (ki 4)) 13 false,
 rq 9 16 (.pick (.tm 13) (.kv (.bool true)) (.tm 15)),
 RM 10 17 16,
 GQ 11 18 (.move (.tm 0)) 17 true,
 GQ 12 19 (.call cQ [(.tm 18),(ki 0),(ki 63)]) 17 true,
 rq 13 20 (.pick (.tm 17) (.tm 19) (.kv (.bool false))),
 RM 14 21 20,
 GQ 15 22 (.move (.tm 2)) 21 true,
 GQ 16 23 (.move (.tm 22)) 21 true,
 GQ 17 24 (.move (.tm 0)) 23 false,
 GQ 18 25 (.move (.tm 1)) 23 false,
 GQ 19 26 (.bin .add (.tm 24) (.tm 25)) 23 false,
 GQ 20 27 (.bin .sub (.tm 26) (ki 1)) 23 false,
 GQ 21 28 (.bin .leq (.tm 27) (ki 63)) 23 false,
 GQ 22 29 (.pick (.tm 23) (.kv (.bool true)) (.tm 28)) 21 true,
 rq 23 30 (.pick (.tm 21) (.tm 29) (.kv (.bool false))),
 RM 24 6 30] 25 [6])
 .ret))
def TH:List Cert:=[⟨[],[0,1,2]⟩,⟨[],[6]⟩]
def IN:List aW:=[.tm 6]
theorem VH:aO Tryz.prog Tryz.f71 TH=some (z5,IN):=by kernel_rfl
theorem VQ:aN Tryz.prog nI Tryz.f71 z5 IN:=
 aN.mk Tryz.func71 (by kernel_rfl) VH
def dX:AC:=
 (.seq (.region [rq 0 4 (.move (.kv (.bool false)))] 1 [0,1])
 (.seq (.region [RM 0 5 0,
 RM 1 6 1,
 rq 2 7 (.call dC [(.tm 5),(.tm 6)]),
 rq 3 8 (.bin .geq (.tm 7) (ki 0)),
 RM 4 4 8] 5 [4])
 .ret))
def m8:List Cert:=[⟨[],[0,1]⟩,⟨[],[4]⟩]
def gQ:List aW:=[.tm 4]
theorem nA:aO Tryz.prog Tryz.f74 m8=some (dX,gQ):=by kernel_rfl
theorem m7:aN Tryz.prog cN Tryz.f74 dX gQ:=
 aN.mk Tryz.func74 (by kernel_rfl) nA
def aBW:AC:=
 (.seq (.region [rq 0 6 (.move (.kv (.bool false)))] 1 [0,1,2])
 (.seq (.region [RM 0 7 0,
 RM 1 8 1,
 rq 2 9 (.bin .geq (.tm 7) (.tm 8)),
 RM 3 10 9,
 GQ 4 11 (.move (.tm 0)) 10 true,
 GQ 5 12 (.move (.tm 2)) 10 true,
 GQ 6 13 (.bin .leq (.tm 11) (.tm 12)) 10 true,
 rq 7 14 (.pick (.tm 10) (.tm 13) (.kv (.bool false))),
 RM 8 6 14] 9 [6])
 .ret))
def aD4:List Cert:=[⟨[],[0,1,2]⟩,⟨[],[6]⟩]
def aCD:List aW:=[.tm 6]
theorem aD3:aO Tryz.prog Tryz.f77 aD4=some (aBW,aCD):=by kernel_rfl
theorem aD6:aN Tryz.prog y2 Tryz.f77 aBW aCD:=
 aN.mk Tryz.func77 (by kernel_rfl) aD3
def tD:AC:=
 (.seq (.region [rq 0 2 (.move (.kv (.slice none 0 0)))] 1 [0])
 (.seq (.region [RM 0 6 0,
 rq 1 7 (.call gG [(.tm 6)]),
 RM 2 3 7] 3 [3])
 (.seq (.seq (.region [RM 0 8 3,
 rq 1 9 (.len false (.tm 8)),
 rq 2 10 (.move (ki 0))] 3 [3,8,9,10])
 (.block 0
 (.loop
 (.seq (.region [rq 0 11 (.bin .lss (.tm 10) (.tm 9))] 1 [3,8,9,10,11])
 (.seq (.cond (.tm 11)
 .skip
 (.exit 0))
 (.seq (.block 1
 (.seq (.region [RM 0 12 10,
 rq 1 13 (.idx 5 (.tm 8) (.tm 10)),
 rq 2 14 (.load 5 true (.tm 13)),
 rq 3 5 (.alloc [VZ,VZ,VZ,VZ,OZ]),
 RM 4 4 12,
 rn 5 (.store 5 true (.tm 5) (.tm 14))] 6 [3,4,5,8,9,10])
 (.region [RM 0 15 3,
 RM 1 16 4,
 RF 2 17 2 5,
 RF 3 18 2 17,
 RL 4 19 18,
 rq 5 20 (.call eX [(.tm 19)]),
 rq 6 21 (.idx 5 (.tm 15) (.tm 16)),
 RF 7 22 2 21,
 RF 8 23 2 22,
 rn 9 (.store 1 false (.tm 23) (.tm 20))] 10 [3,8,9,10])))
 (.region [rq 0 24 (.bin .add (.tm 10) (ki 1)),
 RM 1 10 24] 2 [3,8,9,10])))))))
 (.seq (.region [RM 0 25 3,
 RM 1 2 25] 2 [2])
 .ret))))
def MF:List Cert:=[⟨[],[0]⟩,⟨[],[3]⟩,⟨[],[3,8,9,10]⟩,⟨[],[3,8,9,10,11]⟩,⟨[],[3,4,5,8,9,10]⟩,⟨[],[3,8,9,10]⟩,⟨[],[3,8,9,10]⟩,⟨[],[2]⟩]
def BL:List aW:=[.tm 2]
theorem MI:aO Tryz.prog Tryz.f80 MF=some (tD,BL):=by kernel_rfl
theorem MD:aN Tryz.prog eO Tryz.f80 tD BL:=
 aN.mk Tryz.func80 (by kernel_rfl) MI
def kD:AC:=
 (.seq (.region [rq 0 1 (.box true (.tm 0)),
 rq 1 2 (.alloc [OZ,OZ,OZ,OZ,OZ,OZ])] 2 [1,2])
 (.seq (.region [RF 0 3 0 1,
 rq 1 4 (.load 2 true (.tm 3)),
 RF 3 6 2 1,
 ⟨4,(some 7),.load 1 false (.tm 6),none,[],[],true⟩,
 RF 6 9 3 1,
 ⟨7,(some 10),.load 1 false (.tm 9),none,[],[],true⟩,
 RF 9 12 4 1,
 ⟨10,(some 13),.load 1 false (.tm 12),none,[],[],true⟩,
 RF 12 15 5 1,
 ⟨13,(some 16),.load 1 false (.tm 15),none,[],[],true⟩,
 ⟨2,(some 5),.call fL [(.tm 4)],none,[],[4,7,10,13],false⟩,
 ⟨5,(some 8),.call eX [(.tm 7)],none,[],[7,10,13],false⟩,
 ⟨8,(some 11),.call eO [(.tm 10)],none,[],[10,13],false⟩,
 ⟨11,(some 14),.call eO [(.tm 13)],none,[],[13],false⟩,
 rq 14 17 (.call eO [(.tm 16)]),
 rq 15 18 (.build [OZ,OZ,OZ,OZ,OZ,OZ] [(0,2,(.tm 5)),(2,1,(.tm 8)),(3,1,(.tm 11)),(4,1,(.tm 14)),(5,1,(.tm 17))]),
 rn 16 (.store 6 true (.tm 2) (.tm 18))] 17 [2])
 .ret))
def BO:List Cert:=[⟨[],[1,2]⟩,⟨[cz 0,cz 1,cz 3,(4,[],[],true),cz 6,(7,[],[],true),cz 9,(10,[],[],true),cz 12,(13,[],[],true),(2,[],[4,7,10,13],false),(5,[],[7,10,13],false),(8,[],[10,13],false),(11,[],[13],false),cz 14,cz 15,cz 16],[2]⟩]
def pT:List aW:=[.cell 2 6 true]
theorem A3:aO Tryz.prog Tryz.f85 BO=some (kD,pT):=by kernel_rfl
theorem AY:aN Tryz.prog iG Tryz.f85 kD pT:=
 aN.mk Tryz.func85 (by kernel_rfl) A3
def nP:AC:=
 (.seq (.region [rq 0 2 (.box true (.tm 0)),
 rq 1 3 (.box true (.tm 1)),
 rq 2 4 (.move (ki 0))] 3 [2,3])
 (.seq (.region [RF 0 5 0 2,
 RL 1 6 5,
 RF 2 7 0 3,
 RL 3 8 7,
 RF 5 10 1 2,
 ⟨6,(some 11),.load 1 false (.tm 10),none,[10],[],true⟩,
 RF 7 12 1 3,
 ⟨8,(some 13),.load 1 false (.tm 12),none,[10],[],true⟩,
 ⟨4,(some 9),.call jC [(.tm 6),(.tm 8)],none,[],[6,8],false⟩,
 rq 9 14 (.call jC [(.tm 11),(.tm 13)]),
 rq 10 15 (.bC 1 2 [VZ] [(0,1,(.tm 9)),(1,1,(.tm 14))]),
 rq 11 16 (.call wC [(.tm 15)]),
 RM 12 4 16] 13 [4])
 .ret))
def HO:List Cert:=[⟨[],[2,3]⟩,⟨[cz 0,cz 1,cz 2,cz 3,cz 5,(6,[10],[],true),cz 7,(8,[10],[],true),(4,[],[6,8],false),cz 9,cz 10,cz 11,cz 12],[4]⟩]
def vV:List aW:=[.tm 4]
theorem HE:aO Tryz.prog Tryz.f87 HO=some (nP,vV):=by kernel_rfl
theorem HI:aN Tryz.prog bJ Tryz.f87 nP vV:=
 aN.mk Tryz.func87 (by kernel_rfl) HE
def nS:AC:=
 (.seq (.region [rq 0 7 (.box true (.tm 3)),
 rq 1 8 (.alloc [VZ,VZ,OZ])] 2 [0,1,2,7,8])
 (.seq (.region [RM 0 19 1,
 rq 1 20 (.load 7 true (.tm 7)),
 rq 2 21 (.call mZ [(.tm 19),(.tm 20)]),
 RM 3 9 21] 4 [0,1,2,7,8,9])
 (.seq (.region [RF 0 22 0 7,
 RL 1 23 22,
 rq 2 24 (.build [VZ,VZ,OZ] [(0,1,(.tm 23)),(1,1,(ki 1))]),
 rq 3 10 (.alloc [VZ,VZ,OZ]),
 rn 4 (.store 3 true (.tm 10) (.tm 24))] 5 [0,1,2,7,8,9,10])
 (.seq (.region [RM 0 25 0,
 RK 1 26 25,
 RF 2 27 1 26,
 RL 3 28 27,
 RM 4 29 2,
 rq 5 30 (.bin .mul (.tm 29) (ki 2)),
 RF 6 31 0 7,
 RL 7 32 31,
 rq 8 33 (.bin .add (.tm 30) (.tm 32)),
 rq 9 34 (.idx 1 (.tm 28) (.tm 33)),
 RM 10 11 34] 11 [0,1,7,8,9,10,11])
 (.seq (.block 0
 (.seq (.region [RM 0 36 9,
 rq 1 37 (.bin .lss (.tm 36) (ki 0)),
 RM 2 35 37] 3 [0,1,7,8,9,10,11,35])
 (.cond (.tm 35)
 (.seq (.region [RF 0 38 1 10,
 rn 1 (.store 1 false (.tm 38) (ki 4))] 2 [8,10])
 (.seq (.region [rq 0 39 (.load 3 true (.tm 10)),
 rn 1 (.store 3 true (.tm 8) (.tm 39))] 2 [8])
 .ret))
 (.seq (.region [rq 0 41 (.load 7 true (.tm 7)),
 rq 1 42 (.call eY [(.tm 41)]),
 RM 2 43 42,
 GQ 3 44 (.move (.tm 1)) 43 true,
 GQ 4 45 (.move (.tm 9)) 43 true,
 GQ 5 46 (.idx 4 (.tm 44) (.tm 45)) 43 true,
 GQ 6 47 (.fld 3 (.tm 46)) 43 true,
 GQ 7 48 (.load 1 false (.tm 47)) 43 true,
 rq 8 49 (.pick (.tm 43) (.tm 48) (.kv (.bool false))),
 RM 9 40 49] 10 [0,7,8,10,11,40])
 (.cond (.tm 40)
 (.seq (.region [RF 0 50 1 10,
 rn 1 (.store 1 false (.tm 50) (ki 3))] 2 [8,10])
 (.seq (.region [rq 0 51 (.load 3 true (.tm 10)),
 rn 1 (.store 3 true (.tm 8) (.tm 51))] 2 [8])
 .ret))
 (.seq (.region [RF 0 53 1 7,
 RL 1 54 53,
 rq 2 55 (.bin .eql (.tm 54) (ki 4)),
 RM 3 56 55,
 GQ 4 57 (.move (.tm 11)) 56 true,
 GQ 5 58 (.tF (.tm 57)) 56 true,
 GQ 6 59 (.load 1 false (.tm 58)) 56 true,
 GQ 7 60 (.fld 2 (.tm 7)) 56 true,
 GQ 8 61 (.load 1 false (.tm 60)) 56 true,
 GQ 9 62 (.bin .neq (.tm 59) (.tm 61)) 56 true,
 rq 10 63 (.pick (.tm 56) (.tm 62) (.kv (.bool false))),
 RM 11 52 63] 12 [0,7,8,10,11,52])
 (.cond (.tm 52)
 (.seq (.region [rq 0 64 (.load 3 true (.tm 10)),
 rn 1 (.store 3 true (.tm 8) (.tm 64))] 2 [8])
 .ret)
 .skip)))))))
 (.seq (.region [rq 0 65 (.load 7 true (.tm 7)),
 rq 1 66 (.call fP [(.tm 65)]),
 RM 2 12 66] 3 [0,7,8,10,11,12])
 (.seq (.seq (.region [rq 0 67 (.load 7 true (.tm 7)),
 rq 1 68 (.call eY [(.tm 67)]),
 rq 2 69 (.un .not (.tm 68))] 3 [0,7,8,10,11,12,69])
 (.cond (.tm 69)
 (.seq (.region [RM 0 70 12,
 rq 1 71 (.len false (.tm 70)),
 rq 2 72 (.kY 1 [VZ] (.tm 71) (.tm 71)),
 RF 3 73 2 10,
 rn 4 (.store 1 false (.tm 73) (.tm 72))] 5 [0,7,8,10,11,12])
 (.seq (.seq (.region [RM 0 74 12,
 rq 1 75 (.len false (.tm 74)),
 rq 2 76 (.move (ki 0))] 3 [0,7,8,10,11,74,75,76])
 (.block 1
 (.loop
 (.seq (.region [rq 0 77 (.bin .lss (.tm 76) (.tm 75))] 1 [0,7,8,10,11,74,75,76,77])
 (.seq (.cond (.tm 77)
 .skip
 (.exit 1))
 (.seq (.block 2
 (.seq (.region [RM 0 78 76,
 rq 1 79 (.idx 1 (.tm 74) (.tm 76)),
 RL 2 80 79,
 RM 3 13 78,
 RM 4 14 80] 5 [0,7,8,10,11,13,14,74,75,76])
 (.region [RF 0 81 2 10,
 RL 1 82 81,
 RM 2 83 13,
 RM 3 84 0,
 RK 4 85 84,
 RF 5 86 0 85,
 RF 6 87 0 86,
 RL 7 88 87,
 RM 8 89 14,
 rq 9 90 (.idx 1 (.tm 88) (.tm 89)),
 RL 10 91 90,
 rq 11 92 (.idx 1 (.tm 82) (.tm 83)),
 rn 12 (.store 1 false (.tm 92) (.tm 91))] 13 [0,7,8,10,11,74,75,76])))
 (.region [rq 0 93 (.bin .add (.tm 76) (ki 1)),
 RM 1 76 93] 2 [0,7,8,10,11,74,75,76])))))))
 (.seq (.seq (.region [RF 0 94 1 7,
 RL 1 95 94,
 rq 2 96 (.bin .eql (.tm 95) (ki 3))] 3 [7,8,10,11,96])
 (.cond (.tm 96)
 (.seq (.region [RF 0 97 1 10,
 rn 1 (.store 1 false (.tm 97) (ki 2))] 2 [7,8,10,11])
 (.region [RM 0 98 11,
 RF 1 99 2 7,
 RL 2 100 99,
 RK 3 101 98,
 rn 4 (.store 1 false (.tm 101) (.tm 100))] 5 [8,10]))
 .skip))
 (.seq (.region [rq 0 102 (.load 3 true (.tm 10)),
 rn 1 (.store 3 true (.tm 8) (.tm 102))] 2 [8])
 .ret))))
 .skip))
 (.seq (.seq (.region [RF 0 103 1 7,
 RL 1 104 103,
 rq 2 105 (.bin .eql (.tm 104) (ki 4))] 3 [0,7,8,10,12,105])
 (.cond (.tm 105)
 (.region [RF 0 106 1 10,
 rn 1 (.store 1 false (.tm 106) (ki 2))] 2 [0,7,8,10,12])
 .skip))
 (.seq (.seq (.region [RM 0 107 12,
 rq 1 108 (.len false (.tm 107)),
 rq 2 109 (.move (ki 0))] 3 [0,7,8,10,12,107,108,109])
 (.block 3
 (.loop
 (.seq (.region [rq 0 110 (.bin .lss (.tm 109) (.tm 108))] 1 [0,7,8,10,12,107,108,109,110])
 (.seq (.cond (.tm 110)
 .skip
 (.exit 3))
 (.seq (.block 4
 (.seq (.region [RM 0 111 109,
 rq 1 112 (.idx 1 (.tm 107) (.tm 109)),
 RL 2 113 112,
 RM 3 15 111,
 RM 4 16 113] 5 [0,7,8,10,12,15,16,107,108,109])
 (.region [RM 0 114 0,
 RK 1 115 114,
 RF 2 116 0 115,
 RF 3 117 0 116,
 ⟨4,(some 118),.load 1 false (.tm 117),none,[],[],true⟩,
 RM 5 119 16,
 RM 6 120 0,
 RK 7 121 120,
 RF 8 122 0 121,
 RF 9 123 0 122,
 RL 10 124 123,
 RM 11 125 16,
 rq 12 126 (.idx 1 (.tm 124) (.tm 125)),
 RL 13 127 126,
 RF 14 128 5 7,
 RL 15 129 128,
 RM 16 130 15,
 rq 17 131 (.idx 1 (.tm 129) (.tm 130)),
 RL 18 132 131,
 RF 19 133 6 7,
 RL 20 134 133,
 RM 21 135 15,
 rq 22 136 (.idx 1 (.tm 134) (.tm 135)),
 RL 23 137 136,
 ⟨24,(some 138),.call DA [(.tm 127),(.tm 132),(.tm 137)],none,[],[4],false⟩,
 rq 25 139 (.idx 1 (.tm 118) (.tm 119)),
 rn 26 (.store 1 false (.tm 139) (.tm 138))] 27 [0,7,8,10,12,107,108,109])))
 (.region [rq 0 140 (.bin .add (.tm 109) (ki 1)),
 RM 1 109 140] 2 [0,7,8,10,12,107,108,109])))))))
 (.seq (.seq (.region [RM 0 141 0,
 RK 1 142 141,
 RF 2 143 1 142,
 RL 3 144 143,
 rq 4 145 (.len false (.tm 144)),
 rq 5 146 (.move (ki 0))] 6 [0,8,10,12,144,145,146])
 (.block 5
 (.loop
 (.seq (.region [rq 0 147 (.bin .lss (.tm 146) (.tm 145))] 1 [0,8,10,12,144,145,146,147])
 (.seq (.cond (.tm 147)
 .skip
 (.exit 5))
 (.seq (.block 6
 (.seq (.region [RM 0 148 146,
 rq 1 149 (.idx 1 (.tm 144) (.tm 146)),
 RL 2 150 149,
 RM 3 17 148,
 RM 4 18 150] 5 [0,8,10,12,17,18,144,145,146])
 (.seq (.region [RM 0 151 12,
 RM 1 152 18,
 rq 2 153 (.call fK [(.tm 151),(.tm 152)])] 3 [0,8,10,12,17,144,145,146,153])
 (.cond (.tm 153)
 (.region [RM 0 154 0,
 RK 1 155 154,
 RF 2 156 1 155,
 RL 3 157 156,
 RM 4 158 17,
 rq 5 159 (.idx 1 (.tm 157) (.tm 158)),
 rn 6 (.store 1 false (.tm 159) (.kv (.int .i64 (-1))))] 7 [0,8,10,12,144,145,146])
 .skip))))
 (.region [rq 0 160 (.bin .add (.tm 146) (ki 1)),
 RM 1 146 160] 2 [0,8,10,12,144,145,146])))))))
 (.seq (.region [rq 0 161 (.load 3 true (.tm 10)),
 rn 1 (.store 3 true (.tm 8) (.tm 161))] 2 [8])
 .ret)))))))))))
def HP:List Cert:=[⟨[],[0,1,2,7,8]⟩,⟨[],[0,1,2,7,8,9]⟩,⟨[],[0,1,2,7,8,9,10]⟩,⟨[cz 0,cz 1,cz 2,cz 3,cz 4,cz 5,cz 6,cz 7,cz 8,cz 9,cz 10],[0,1,7,8,9,10,11]⟩,⟨[],[0,1,7,8,9,10,11,35]⟩,⟨[],[8,10]⟩,⟨[],[8]⟩,⟨[],[0,7,8,10,11,40]⟩,⟨[],[8,10]⟩,⟨[],[8]⟩,⟨[cz 0,cz 1,cz 2,cz 3,cz 4,cz 5,cz 6,cz 7,cz 8,cz 9,cz 10,cz 11],[0,7,8,10,11,52]⟩,⟨[],[8]⟩,⟨[],[0,7,8,10,11,12]⟩,⟨[],[0,7,8,10,11,12,69]⟩,⟨[],[0,7,8,10,11,12]⟩,⟨[],[0,7,8,10,11,74,75,76]⟩,⟨[],[0,7,8,10,11,74,75,76,77]⟩,⟨[],[0,7,8,10,11,13,14,74,75,76]⟩,⟨[cz 0,cz 1,cz 2,cz 3,cz 4,cz 5,cz 6,cz 7,cz 8,cz 9,cz 10,cz 11,cz 12],[0,7,8,10,11,74,75,76]⟩,⟨[],[0,7,8,10,11,74,75,76]⟩,⟨[],[7,8,10,11,96]⟩,⟨[],[7,8,10,11]⟩,⟨[],[8,10]⟩,⟨[],[8]⟩,⟨[],[0,7,8,10,12,105]⟩,⟨[],[0,7,8,10,12]⟩,⟨[],[0,7,8,10,12,107,108,109]⟩,⟨[],[0,7,8,10,12,107,108,109,110]⟩,⟨[],[0,7,8,10,12,15,16,107,108,109]⟩,⟨[cz 0,cz 1,cz 2,cz 3,(4,[],[],true),cz 5,cz 6,cz 7,cz 8,cz 9,cz 10,cz 11,cz 12,cz 13,cz 14,cz 15,cz 16,cz 17,cz 18,cz 19,cz 20,cz 21,cz 22,cz 23,(24,[],[4],false),cz 25,cz 26],[0,7,8,10,12,107,108,109]⟩,⟨[],[0,7,8,10,12,107,108,109]⟩,⟨[],[0,8,10,12,144,145,146]⟩,⟨[],[0,8,10,12,144,145,146,147]⟩,⟨[],[0,8,10,12,17,18,144,145,146]⟩,⟨[],[0,8,10,12,17,144,145,146,153]⟩,⟨[],[0,8,10,12,144,145,146]⟩,⟨[],[0,8,10,12,144,145,146]⟩,⟨[],[8]⟩]
def vR:List aW:=[.cell 8 3 true]
theorem HL:aO Tryz.prog Tryz.f89 HP=some (nS,vR):=by kernel_rfl
def gI:AC:=
 (.seq (.region [rq 0 2 (.move (.kv (.slice none 0 0)))] 1 [0])
 (.seq (.region [RM 0 3 0,
 RM 1 4 0,
 rq 2 5 (.len false (.tm 4)),
 RM 3 6 0,
 rq 4 7 (.len false (.tm 6)),
 rq 5 8 (.slc 5 (.tm 3) none (some (.tm 5)) (some (.tm 7))),
 RM 6 2 8] 7 [2])
 .ret))
def t9:List Cert:=[⟨[],[0]⟩,⟨[],[2]⟩]
def kU:List aW:=[.tm 2]
theorem uF:aO Tryz.prog Tryz.f90 t9=some (gI,kU):=by kernel_rfl
theorem uU:aN Tryz.prog eS Tryz.f90 gI kU:=
 aN.mk Tryz.func90 (by kernel_rfl) uF
end Go.Proofs.YtegiblhkjfiooaaGreat
end
section
namespace Go.Proofs.YtegiblhkjfiooaaGreat
open Go Go.AM
set_option maxRecDepth 100000
def aJR:AC:=
 (.seq (.region [rq 0 6 (.move (ki 0))] 1 [0,1,2])
 (.seq (.seq (.region [rq 0 7 (.move (ki 0))] 1 [0,1,2,7])
 (.block 0
 (.loop
 (.seq (.seq (.region [RM 0 8 7,
 RM 1 9 0,
 rq 2 10 (.len false (.tm 9)),
 rq 3 11 (.bin .lss (.tm 8) (.tm 10))] 4 [0,1,2,7,11])
 (.cond (.tm 11)
 .skip
 (.exit 0)))
 (.seq (.block 1
 (.seq (.region [RM 0 14 0,
 RM 1 15 7,
 rq 2 16 (.idx 5 (.tm 14) (.tm 15)),
 RF 3 17 0 16,
 RL 4 18 17,
 RM 5 19 1,
 rq 6 20 (.bin .eql (.tm 18) (.tm 19)),
 RM 7 21 20,
 GQ 8 22 (.move (.tm 0)) 21 true,
 GQ 9 23 (.move (.tm 7)) 21 true,
 GQ 10 24 (.idx 5 (.tm 22) (.tm 23)) 21 true,
 GQ 11 25 (.fld 1 (.tm 24)) 21 true,
 GQ 12 26 (.load 1 false (.tm 25)) 21 true,
 GQ 13 27 (.move (.tm 2)) 21 true,
 GQ 14 28 (.bin .eql (.tm 26) (.tm 27)) 21 true,
 rq 15 29 (.pick (.tm 21) (.tm 28) (.kv (.bool false)))] 16 [0,1,2,7,29])
 (.cond (.tm 29)
 (.seq (.region [RM 0 30 7,
 RM 1 6 30] 2 [6])
 .ret)
 .skip)))
 (.region [RM 0 12 7,
 rq 1 13 (.bin .add (.tm 12) (ki 1)),
 RM 2 7 13] 3 [0,1,2,7]))))))
 (.seq (.region [rq 0 6 (.move (.kv (.int .i64 (-1))))] 1 [6])
 .ret)))
def aMU:List Cert:=[⟨[],[0,1,2]⟩,⟨[],[0,1,2,7]⟩,⟨[],[0,1,2,7,11]⟩,⟨[],[0,1,2,7,29]⟩,⟨[],[6]⟩,⟨[],[0,1,2,7]⟩,⟨[],[6]⟩]
def aKI:List aW:=[.tm 6]
theorem aMV:aO Tryz.prog Tryz.f93 aMU=some (aJR,aKI):=by kernel_rfl
theorem aM1:aN Tryz.prog aIN Tryz.f93 aJR aKI:=
 aN.mk Tryz.func93 (by kernel_rfl) aMV
def rH:AC:=
 (.seq (.region [rq 0 4 (.move (.kv (.bool false)))] 1 [0,1])
 (.seq (.region [RM 0 5 1,
 rq 1 6 (.bin .lss (.tm 5) (ki 9000)),
 RM 2 7 6,
 GQ 3 8 (.move (.tm 0)) 7 true,
 GQ 4 9 (.move (.tm 1)) 7 true,
 GQ 5 10 (.call aD [(.tm 8),(.tm 9)]) 7 true,
 GQ 6 11 (.move (.tm 1)) 7 true,
 GQ 7 12 (.bin .sub (.tm 11) (ki 1)) 7 true,
 GQ 8 13 (.bin .eql (.tm 10) (.tm 12)) 7 true,
 rq 9 14 (.pick (.tm 7) (.tm 13) (.kv (.bool false))),
 RM 10 4 14] 11 [4])
 .ret))
def LN:List Cert:=[⟨[],[0,1]⟩,⟨[],[4]⟩]
def zF:List aW:=[.tm 4]
theorem KV:aO Tryz.prog Tryz.f97 LN=some (rH,zF):=by kernel_rfl
theorem LF:aN Tryz.prog kE Tryz.f97 rH zF:=
 aN.mk Tryz.func97 (by kernel_rfl) KV
def aJB:AC:=
 (.seq (.region [rq 0 1 (.box true (.tm 0)),
 rq 1 2 (.alloc [OZ,OZ,OZ,OZ,OZ,OZ])] 2 [1,2])
 (.seq (.region [RF 0 3 0 1,
 ⟨1,(some 4),.load 2 true (.tm 3),none,[3],[],false⟩,
 rq 3 6 (.bC 1 0 [VZ] []),
 RF 4 7 2 1,
 ⟨5,(some 8),.load 1 false (.tm 7),none,[3],[],true⟩,
 RF 7 10 3 1,
 ⟨8,(some 11),.load 1 false (.tm 10),none,[3],[],true⟩,
 RF 10 13 4 1,
 ⟨11,(some 14),.load 1 false (.tm 13),none,[3],[],true⟩,
 RF 13 16 5 1,
 ⟨14,(some 17),.load 1 false (.tm 16),none,[3],[],true⟩,
 ⟨2,(some 5),.call aIR [(.tm 4)],none,[3],[5,8,11,14],false⟩,
 ⟨6,(some 9),.append 1 (.tm 6) (.tm 8),none,[],[8,11,14],false⟩,
 ⟨9,(some 12),.call aIM [(.tm 11)],none,[],[11,14],false⟩,
 ⟨12,(some 15),.call aIM [(.tm 14)],none,[],[14],false⟩,
 rq 15 18 (.call aIM [(.tm 17)]),
 rq 16 19 (.build [OZ,OZ,OZ,OZ,OZ,OZ] [(0,2,(.tm 5)),(2,1,(.tm 9)),(3,1,(.tm 12)),(4,1,(.tm 15)),(5,1,(.tm 18))]),
 rn 17 (.store 6 true (.tm 2) (.tm 19))] 18 [2])
 .ret))
def aLE:List Cert:=[⟨[],[1,2]⟩,⟨[cz 0,(1,[3],[],false),cz 3,cz 4,(5,[3],[],true),cz 7,(8,[3],[],true),cz 10,(11,[3],[],true),cz 13,(14,[3],[],true),(2,[3],[5,8,11,14],false),(6,[],[8,11,14],false),(9,[],[11,14],false),(12,[],[14],false),cz 15,cz 16,cz 17],[2]⟩]
def aJW:List aW:=[.cell 2 6 true]
theorem aLD:aO Tryz.prog Tryz.f100 aLE=some (aJB,aJW):=by kernel_rfl
theorem aK9:aN Tryz.prog aI0 Tryz.f100 aJB aJW:=
 aN.mk Tryz.func100 (by kernel_rfl) aLD
def pG:AC:=
 (.seq (.region [rq 0 4 (.move (ki 0))] 1 [0,1])
 (.seq (.region [RM 0 7 0,
 RM 1 8 0,
 RK 2 9 8,
 RF 3 10 1 9,
 RL 4 11 10,
 rq 5 12 (.bin .add (.tm 11) (ki 1)),
 RK 6 13 7,
 RF 7 14 1 13,
 rn 8 (.store 1 false (.tm 14) (.tm 12))] 9 [0,1])
 (.seq (.seq (.region [RM 0 15 1,
 rq 1 16 (.bin .lss (.tm 15) (ki 1)),
 RM 2 17 16,
 GQ 3 18 (.move (.tm 0)) 17 false,
 GQ 4 19 (.tF (.tm 18)) 17 false,
 GQ 5 20 (.fld 0 (.tm 19)) 17 false,
 GQ 6 21 (.load 1 false (.tm 20)) 17 false,
 GQ 7 22 (.len false (.tm 21)) 17 false,
 GQ 8 23 (.bin .eql (.tm 22) (ki 0)) 17 false,
 rq 9 24 (.pick (.tm 17) (.kv (.bool true)) (.tm 23))] 10 [0,1,24])
 (.cond (.tm 24)
 (.seq (.region [rq 0 4 (.move (ki 0))] 1 [4])
 .ret)
 .skip))
 (.seq (.region [RM 0 25 0,
 RK 1 26 25,
 RF 2 27 1 26,
 RL 3 28 27,
 rq 4 29 (.bin .sub (.tm 28) (ki 1)),
 RM 5 5 29] 6 [0,1,5])
 (.seq (.seq (.region [RM 0 30 5,
 RM 1 31 0,
 RK 2 32 31,
 RF 3 33 0 32,
 RL 4 34 33,
 rq 5 35 (.len false (.tm 34)),
 rq 6 36 (.bin .lss (.tm 30) (.tm 35))] 7 [0,1,5,36])
 (.cond (.tm 36)
 (.seq (.region [RM 0 37 0,
 RK 1 38 37,
 RF 2 39 0 38,
 RL 3 40 39,
 RM 4 41 5,
 rq 5 42 (.idx 1 (.tm 40) (.tm 41)),
 RL 6 43 42,
 rq 7 44 (.conv .i64 (.tm 43)),
 RM 8 45 1,
 rq 9 46 (.bin .rem (.tm 44) (.tm 45)),
 RM 10 4 46] 11 [4])
 .ret)
 .skip))
 (.seq (.region [RM 0 47 0,
 RK 1 48 47,
 RF 2 49 0 48,
 RL 3 50 49,
 RM 4 51 5,
 RM 5 52 0,
 RK 6 53 52,
 RF 7 54 0 53,
 RL 8 55 54,
 rq 9 56 (.len false (.tm 55)),
 rq 10 57 (.bin .rem (.tm 51) (.tm 56)),
 rq 11 58 (.idx 1 (.tm 50) (.tm 57)),
 RL 12 59 58,
 rq 13 60 (.conv .i64 (.tm 59)),
 rq 14 61 (.bin .mul (.tm 60) (ki 131)),
 RM 15 62 0,
 RK 16 63 62,
 RF 17 64 0 63,
 RL 18 65 64,
 RM 19 66 5,
 rq 20 67 (.bin .mul (.tm 66) (ki 7)),
 rq 21 68 (.bin .add (.tm 67) (ki 3)),
 RM 22 69 0,
 RK 23 70 69,
 RF 24 71 0 70,
 RL 25 72 71,
 rq 26 73 (.len false (.tm 72)),
 rq 27 74 (.bin .rem (.tm 68) (.tm 73)),
 rq 28 75 (.idx 1 (.tm 65) (.tm 74)),
 RL 29 76 75,
 rq 30 77 (.conv .i64 (.tm 76)),
 rq 31 78 (.bin .mul (.tm 77) (ki 1117)),
 rq 32 79 (.bin .add (.tm 61) (.tm 78)),
 RM 33 80 5,
 rq 34 81 (.bin .mul (.tm 80) (ki 29)),
 rq 35 82 (.bin .add (.tm 79) (.tm 81)),
 RM 36 83 5,
 RM 37 84 0,
 RK 38 85 84,
 RF 39 86 0 85,
 RL 40 87 86,
 rq 41 88 (.len false (.tm 87)),
 rq 42 89 (.bin .quo (.tm 83) (.tm 88)),
 rq 43 90 (.bin .mul (.tm 89) (ki 53)),
 rq 44 91 (.bin .add (.tm 82) (.tm 90)),
 RM 45 6 91] 46 [1,6])
 (.seq (.region [RM 0 92 6,
 RM 1 93 6,
 rq 2 94 (.bin .quo (.tm 93) (ki 64)),
 rq 3 95 (.bin .xor (.tm 92) (.tm 94)),
 RM 4 6 95] 5 [1,6])
 (.seq (.region [RM 0 96 6,
 RM 1 97 1,
 rq 2 98 (.bin .rem (.tm 96) (.tm 97)),
 RM 3 4 98] 4 [4])
 .ret))))))))
def JC:List Cert:=[⟨[],[0,1]⟩,⟨[],[0,1]⟩,⟨[],[0,1,24]⟩,⟨[],[4]⟩,⟨[],[0,1,5]⟩,⟨[],[0,1,5,36]⟩,⟨[],[4]⟩,⟨[cz 0,cz 1,cz 2,cz 3,cz 4,cz 5,cz 6,cz 7,cz 8,cz 9,cz 10,cz 11,cz 12,cz 13,cz 14,cz 15,cz 16,cz 17,cz 18,cz 19,cz 20,cz 21,cz 22,cz 23,cz 24,cz 25,cz 26,cz 27,cz 28,cz 29,cz 30,cz 31,cz 32,cz 33,cz 34,cz 35,cz 36,cz 37,cz 38,cz 39,cz 40,cz 41,cz 42,cz 43,cz 44,cz 45],[1,6]⟩,⟨[],[1,6]⟩,⟨[],[4]⟩]
def wZ:List aW:=[.tm 4]
theorem JJ:aO Tryz.prog Tryz.f104 JC=some (pG,wZ):=by kernel_rfl
theorem JN:aN Tryz.prog aD Tryz.f104 pG wZ:=
 aN.mk Tryz.func104 (by kernel_rfl) JJ
def w9:AC:=
 (.seq (.region [rq 0 4 (.move (.kv (.slice none 0 0)))] 1 [0,1])
 (.seq (.region [rq 0 7 (.build [VZ,VZ,VZ,(.v (.bool false))] [(0,1,(ki 0)),(1,1,(ki 15))]),
 rq 1 8 (.build [VZ,VZ,VZ,(.v (.bool false))] [(0,1,(ki 16)),(1,1,(ki 31)),(2,1,(ki 1))]),
 RM 2 9 0,
 rq 3 10 (.call aD [(.tm 9),(ki 3)]),
 rq 4 11 (.bin .eql (.tm 10) (ki 0)),
 rq 5 12 (.build [VZ,VZ,VZ,(.v (.bool false))] [(0,1,(ki 32)),(1,1,(ki 47)),(2,1,(ki 2)),(3,1,(.tm 11))]),
 rq 6 13 (.bC 4 3 [VZ,VZ,VZ,(.v (.bool false))] [(0,4,(.tm 7)),(4,4,(.tm 8)),(8,4,(.tm 12))]),
 RM 7 5 13] 8 [0,1,5])
 (.seq (.seq (.region [RM 0 14 0,
 rq 1 15 (.call aD [(.tm 14),(ki 4)])] 2 [0,1,5,15])
 (.block 0
 (.seq (.region [rq 0 17 (.bin .eql (.tm 15) (ki 0)),
 RM 1 16 17] 2 [0,1,5,15,16])
 (.cond (.tm 16)
 (.region [rq 0 18 (.build [VZ,VZ,VZ,(.v (.bool false))] [(0,1,(ki 0)),(1,1,(ki 7))]),
 rq 1 19 (.build [VZ,VZ,VZ,(.v (.bool false))] [(0,1,(ki 8)),(1,1,(ki 15)),(2,1,(ki 1))]),
 RM 2 20 0,
 rq 3 21 (.call aD [(.tm 20),(ki 3)]),
 rq 4 22 (.build [VZ,VZ,VZ,(.v (.bool false))] [(0,1,(ki 20)),(1,1,(ki 40)),(2,1,(.tm 21))]),
 RM 5 23 0,
 rq 6 24 (.call aD [(.tm 23),(ki 2)]),
 rq 7 25 (.bin .eql (.tm 24) (ki 0)),
 rq 8 26 (.build [VZ,VZ,VZ,(.v (.bool false))] [(0,1,(ki 41)),(1,1,(ki 63)),(2,1,(ki 2)),(3,1,(.tm 25))]),
 rq 9 27 (.bC 4 4 [VZ,VZ,VZ,(.v (.bool false))] [(0,4,(.tm 18)),(4,4,(.tm 19)),(8,4,(.tm 22)),(12,4,(.tm 26))]),
 RM 10 5 27] 11 [0,1,5])
 (.seq (.region [rq 0 29 (.bin .eql (.tm 15) (ki 1)),
 RM 1 28 29] 2 [0,1,5,28])
 (.cond (.tm 28)
 (.region [RM 0 30 5,
 RM 1 31 0,
 rq 2 32 (.call aD [(.tm 31),(ki 3)]),
 rq 3 33 (.bin .add (ki 1) (.tm 32)),
 rq 4 34 (.slc 4 (.tm 30) none (some (.tm 33)) none),
 RM 5 5 34] 6 [0,1,5])
 .skip))))))
 (.seq (.seq (.region [RM 0 35 0,
 RM 1 36 1,
 rq 2 37 (.call kE [(.tm 35),(.tm 36)])] 3 [0,5,37])
 (.cond (.tm 37)
 (.seq (.region [RM 0 38 0,
 RM 1 39 5,
 rq 2 40 (.len false (.tm 39)),
 rq 3 41 (.call aD [(.tm 38),(.tm 40)]),
 RM 4 6 41] 5 [0,5,6])
 (.seq (.region [RM 0 42 0,
 rq 1 43 (.call aD [(.tm 42),(ki 4)])] 2 [0,5,6,43])
 (.block 1
 (.seq (.region [rq 0 51 (.bin .eql (.tm 43) (ki 0)),
 RM 1 50 51] 2 [0,5,6,43,50])
 (.cond (.tm 50)
 (.region [RM 0 52 5,
 RM 1 53 6,
 RM 2 54 5,
 RM 3 55 6,
 rq 4 56 (.idx 4 (.tm 54) (.tm 55)),
 RF 5 57 1 56,
 ⟨6,(some 58),.load 1 false (.tm 57),none,[8],[],true⟩,
 rq 7 59 (.bin .add (.tm 58) (ki 1)),
 rq 8 60 (.bC 1 3 [VZ] [(0,1,(.kv (.int .i64 (-1)))),(1,1,(.tm 59)),(2,1,(ki 5))]),
 RM 9 61 0,
 ⟨10,(some 62),.call aD [(.tm 61),(ki 3)],none,[8],[6],false⟩,
 rq 11 63 (.idx 1 (.tm 60) (.tm 62)),
 RL 12 64 63,
 rq 13 65 (.idx 4 (.tm 52) (.tm 53)),
 RF 14 66 0 65,
 rn 15 (.store 1 false (.tm 66) (.tm 64))] 16 [5])
 (.seq (.region [rq 0 68 (.bin .eql (.tm 43) (ki 1)),
 RM 1 67 68] 2 [0,5,6,43,67])
 (.cond (.tm 67)
 (.region [RM 0 69 5,
 RM 1 70 6,
 RM 2 71 5,
 RM 3 72 6,
 rq 4 73 (.idx 4 (.tm 71) (.tm 72)),
 RF 5 74 0 73,
 ⟨6,(some 75),.load 1 false (.tm 74),none,[8],[],true⟩,
 rq 7 76 (.bin .sub (.tm 75) (ki 1)),
 rq 8 77 (.bC 1 3 [VZ] [(0,1,(ki 64)),(1,1,(.tm 76)),(2,1,(ki 40))]),
 RM 9 78 0,
 ⟨10,(some 79),.call aD [(.tm 78),(ki 3)],none,[8],[6],false⟩,
 rq 11 80 (.idx 1 (.tm 77) (.tm 79)),
 RL 12 81 80,
 rq 13 82 (.idx 4 (.tm 69) (.tm 70)),
 RF 14 83 1 82,
 rn 15 (.store 1 false (.tm 83) (.tm 81))] 16 [5])
 (.seq (.region [rq 0 85 (.bin .eql (.tm 43) (ki 2)),
 RM 1 84 85] 2 [0,5,6,84])
 (.cond (.tm 84)
 (.region [RM 0 86 5,
 RM 1 87 6,
 rq 2 88 (.bC 1 2 [VZ] [(0,1,(.kv (.int .i64 (-1)))),(1,1,(ki 3))]),
 RM 3 89 0,
 rq 4 90 (.call aD [(.tm 89),(ki 2)]),
 rq 5 91 (.idx 1 (.tm 88) (.tm 90)),
 RL 6 92 91,
 rq 7 93 (.idx 4 (.tm 86) (.tm 87)),
 RF 8 94 2 93,
 rn 9 (.store 1 false (.tm 94) (.tm 92))] 10 [5])
 (.region [RM 0 44 5,
 rq 1 45 (.build [VZ,VZ,VZ,(.v (.bool false))] [(0,1,(ki 60)),(1,1,(ki 61))]),
 rq 2 46 (.build [VZ,VZ,VZ,(.v (.bool false))] [(0,1,(ki 62)),(1,1,(ki 62))]),
 rq 3 47 (.build [VZ,VZ,VZ,(.v (.bool false))] [(0,1,(ki 63)),(1,1,(ki 63))]),
 rq 4 48 (.bC 4 3 [VZ,VZ,VZ,(.v (.bool false))] [(0,4,(.tm 45)),(4,4,(.tm 46)),(8,4,(.tm 47))]),
 rq 5 49 (.append 4 (.tm 44) (.tm 48)),
 RM 6 5 49] 7 [5]))))))))))
 .skip))
 (.seq (.region [RM 0 95 5,
 RM 1 4 95] 2 [4])
 .ret)))))
def R5:List Cert:=[⟨[],[0,1]⟩,⟨[],[0,1,5]⟩,⟨[],[0,1,5,15]⟩,⟨[],[0,1,5,15,16]⟩,⟨[],[0,1,5]⟩,⟨[],[0,1,5,28]⟩,⟨[],[0,1,5]⟩,⟨[],[0,5,37]⟩,⟨[],[0,5,6]⟩,⟨[],[0,5,6,43]⟩,⟨[],[0,5,6,43,50]⟩,⟨[cz 0,cz 1,cz 2,cz 3,cz 4,cz 5,(6,[8],[],true),cz 7,cz 8,cz 9,(10,[8],[6],false),cz 11,cz 12,cz 13,cz 14,cz 15],[5]⟩,⟨[],[0,5,6,43,67]⟩,⟨[cz 0,cz 1,cz 2,cz 3,cz 4,cz 5,(6,[8],[],true),cz 7,cz 8,cz 9,(10,[8],[6],false),cz 11,cz 12,cz 13,cz 14,cz 15],[5]⟩,⟨[],[0,5,6,84]⟩,⟨[],[5]⟩,⟨[],[5]⟩,⟨[],[4]⟩]
def GO:List aW:=[.tm 4]
theorem TD:aO Tryz.prog Tryz.f107 R5=some (w9,GO):=by kernel_rfl
theorem RN:aN Tryz.prog tN Tryz.f107 w9 GO:=
 aN.mk Tryz.func107 (by kernel_rfl) TD
def xW:AC:=
 (.seq (.region [rq 0 4 (.alloc [VZ,VZ,VZ,VZ,(.v (.bool false)),OZ,OZ])] 1 [0,1,4])
 (.seq (.region [RM 0 7 0,
 RM 2 9 0,
 RM 5 12 0,
 rq 7 14 (.bC 1 4 [VZ] [(0,1,(ki 1)),(1,1,(ki 1)),(2,1,(ki 2)),(3,1,(ki 4))]),
 RM 8 15 0,
 RM 12 19 0,
 rq 16 5 (.alloc [VZ,VZ,VZ,VZ,(.v (.bool false)),OZ,OZ]),
 ⟨1,(some 8),.call aD [(.tm 7),(ki 2)],none,[7,16],[],false⟩,
 ⟨3,(some 10),.call aD [(.tm 9),(ki 4)],none,[7,16],[],false⟩,
 rq 4 11 (.bin .add (ki 1) (.tm 10)),
 ⟨6,(some 13),.call qM [(.tm 12)],none,[7,16],[],false⟩,
 ⟨9,(some 16),.call aD [(.tm 15),(ki 4)],none,[7,16],[],false⟩,
 rq 10 17 (.idx 1 (.tm 14) (.tm 16)),
 ⟨11,(some 18),.load 1 false (.tm 17),none,[16],[],true⟩,
 ⟨13,(some 20),.call aD [(.tm 19),(ki 3)],none,[7,16],[11],false⟩,
 rq 14 21 (.bin .eql (.tm 20) (ki 0)),
 rq 15 22 (.build [VZ,VZ,VZ,VZ,(.v (.bool false)),OZ,OZ] [(0,1,(.tm 8)),(1,1,(.tm 11)),(2,1,(.tm 13)),(3,1,(.tm 18)),(4,1,(.tm 21))]),
 rn 17 (.store 7 true (.tm 5) (.tm 22))] 18 [0,1,4,5])
 (.seq (.seq (.region [RF 0 23 1 5,
 RL 1 24 23,
 rq 2 25 (.bin .geq (.tm 24) (ki 3))] 3 [0,1,4,5,25])
 (.cond (.tm 25)
 (.seq (.region [RF 0 26 3 5,
 rn 1 (.store 1 false (.tm 26) (ki 1))] 2 [0,1,4,5])
 (.region [rq 0 27 (.bC 1 4 [VZ] [(0,1,(ki 0)),(1,1,(ki 1)),(2,1,(ki 16)),(3,1,(ki 32))]),
 RM 1 28 0,
 rq 2 29 (.call aD [(.tm 28),(ki 4)]),
 rq 3 30 (.idx 1 (.tm 27) (.tm 29)),
 RL 4 31 30,
 RF 5 32 2 5,
 rn 6 (.store 1 false (.tm 32) (.tm 31))] 7 [0,1,4,5]))
 .skip))
 (.seq (.seq (.region [RF 0 33 4 5,
 RL 1 34 33,
 rq 2 35 (.un .not (.tm 34)),
 RM 3 36 35,
 GQ 4 37 (.fld 2 (.tm 5)) 36 true,
 GQ 5 38 (.load 1 false (.tm 37)) 36 true,
 GQ 6 39 (.fld 3 (.tm 5)) 36 true,
 GQ 7 40 (.load 1 false (.tm 39)) 36 true,
 GQ 8 41 (.bin .add (.tm 38) (.tm 40)) 36 true,
 GQ 9 42 (.bin .sub (.tm 41) (ki 1)) 36 true,
 GQ 10 43 (.bin .gtr (.tm 42) (ki 63)) 36 true,
 rq 11 44 (.pick (.tm 36) (.tm 43) (.kv (.bool false)))] 12 [0,1,4,5,44])
 (.cond (.tm 44)
 (.region [RF 0 45 3 5,
 RL 1 46 45,
 rq 2 47 (.bin .sub (ki 63) (.tm 46)),
 rq 3 48 (.bin .add (.tm 47) (ki 1)),
 RF 4 49 2 5,
 rn 5 (.store 1 false (.tm 49) (.tm 48))] 6 [0,1,4,5])
 .skip))
 (.seq (.seq (.region [RF 0 50 1 5,
 RL 1 51 50,
 rq 2 52 (.bin .eql (.tm 51) (ki 2)),
 RM 3 53 52,
 GQ 4 54 (.fld 1 (.tm 5)) 53 false,
 GQ 5 55 (.load 1 false (.tm 54)) 53 false,
 GQ 6 56 (.bin .eql (.tm 55) (ki 4)) 53 false,
 rq 7 57 (.pick (.tm 53) (.kv (.bool true)) (.tm 56))] 8 [0,1,4,5,57])
 (.cond (.tm 57)
 (.seq (.region [rq 0 6 (.move (ki 0))] 1 [0,1,4,5,6])
 (.block 0
 (.loop
 (.seq (.seq (.region [RM 0 58 6,
 RF 1 59 3 5,
 RL 2 60 59,
 rq 3 61 (.bin .lss (.tm 58) (.tm 60))] 4 [0,1,4,5,6,61])
 (.cond (.tm 61)
 .skip
 (.exit 0)))
 (.seq (.block 1
 (.seq (.region [RF 0 64 5 5,
 ⟨1,(some 65),.load 1 false (.tm 64),none,[7,12],[],true⟩,
 RM 2 66 0,
 RM 5 69 0,
 RM 8 72 0,
 ⟨3,(some 67),.call aD [(.tm 66),(ki 256)],none,[],[1],false⟩,
 rq 4 68 (.bin .mul (.tm 67) (ki 257)),
 ⟨6,(some 70),.call aD [(.tm 69),(ki 10)],none,[],[1],false⟩,
 rq 7 71 (.bC 1 4 [VZ] [(0,1,(.tm 68)),(1,1,(.tm 70)),(2,1,(ki 65535)),(3,1,(ki 0))]),
 ⟨9,(some 73),.call aD [(.tm 72),(ki 4)],none,[7],[1],false⟩,
 rq 10 74 (.idx 1 (.tm 71) (.tm 73)),
 RL 11 75 74,
 rq 12 76 (.bC 1 1 [VZ] [(0,1,(.tm 75))]),
 rq 13 77 (.append 1 (.tm 65) (.tm 76)),
 RF 14 78 5 5,
 rn 15 (.store 1 false (.tm 78) (.tm 77))] 16 [0,1,4,5,6])
 (.region [RF 0 79 6 5,
 ⟨1,(some 80),.load 1 false (.tm 79),none,[2,7],[],true⟩,
 rq 2 81 (.bC 1 5 [VZ] [(0,1,(ki 3)),(1,1,(ki 3)),(2,1,(ki 1)),(3,1,(ki 2)),(4,1,(ki 0))]),
 RM 3 82 0,
 ⟨4,(some 83),.call aD [(.tm 82),(ki 5)],none,[2],[1],false⟩,
 rq 5 84 (.idx 1 (.tm 81) (.tm 83)),
 RL 6 85 84,
 rq 7 86 (.bC 1 1 [VZ] [(0,1,(.tm 85))]),
 rq 8 87 (.append 1 (.tm 80) (.tm 86)),
 RF 9 88 6 5,
 rn 10 (.store 1 false (.tm 88) (.tm 87))] 11 [0,1,4,5,6])))
 (.region [RM 0 62 6,
 rq 1 63 (.bin .add (.tm 62) (ki 1)),
 RM 2 6 63] 3 [0,1,4,5,6]))))))
 .skip))
 (.seq (.seq (.region [RM 0 89 0,
 RM 1 90 1,
 rq 2 91 (.call kE [(.tm 89),(.tm 90)])] 3 [0,4,5,91])
 (.cond (.tm 91)
 (.seq (.region [RM 0 92 0,
 rq 1 93 (.call aD [(.tm 92),(ki 7)])] 2 [0,4,5,93])
 (.block 2
 (.seq (.region [rq 0 107 (.bin .eql (.tm 93) (ki 0)),
 RM 1 106 107] 2 [0,4,5,93,106])
 (.cond (.tm 106)
 (.region [rq 0 108 (.bC 1 2 [VZ] [(0,1,(.kv (.int .i64 (-1)))),(1,1,(ki 2))]),
 RM 1 109 0,
 rq 2 110 (.call aD [(.tm 109),(ki 2)]),
 rq 3 111 (.idx 1 (.tm 108) (.tm 110)),
 RL 4 112 111,
 RF 5 113 0 5,
 rn 6 (.store 1 false (.tm 113) (.tm 112))] 7 [4,5])
 (.seq (.region [rq 0 115 (.bin .eql (.tm 93) (ki 1)),
 RM 1 114 115] 2 [0,4,5,93,114])
 (.cond (.tm 114)
 (.region [rq 0 116 (.bC 1 2 [VZ] [(0,1,(ki 0)),(1,1,(ki 5))]),
 RM 1 117 0,
 rq 2 118 (.call aD [(.tm 117),(ki 2)]),
 rq 3 119 (.idx 1 (.tm 116) (.tm 118)),
 RL 4 120 119,
 RF 5 121 1 5,
 rn 6 (.store 1 false (.tm 121) (.tm 120))] 7 [4,5])
 (.seq (.region [rq 0 123 (.bin .eql (.tm 93) (ki 2)),
 RM 1 122 123] 2 [0,4,5,93,122])
 (.cond (.tm 122)
 (.region [rq 0 124 (.bC 1 3 [VZ] [(0,1,(.kv (.int .i64 (-1)))),(1,1,(ki 64)),(2,1,(ki 63))]),
 RM 1 125 0,
 rq 2 126 (.call aD [(.tm 125),(ki 3)]),
 rq 3 127 (.idx 1 (.tm 124) (.tm 126)),
 RL 4 128 127,
 RF 5 129 2 5,
 rn 6 (.store 1 false (.tm 129) (.tm 128))] 7 [4,5])
 (.seq (.region [rq 0 131 (.bin .eql (.tm 93) (ki 3)),
 RM 1 130 131] 2 [0,4,5,93,130])
 (.cond (.tm 130)
 (.region [rq 0 132 (.bC 1 4 [VZ] [(0,1,(ki 0)),(1,1,(ki 3)),(2,1,(ki 8)),(3,1,(ki 4))]),
 RM 1 133 0,
 rq 2 134 (.call aD [(.tm 133),(ki 4)]),
 rq 3 135 (.idx 1 (.tm 132) (.tm 134)),
 RL 4 136 135,
 RF 5 137 3 5,
 rn 6 (.store 1 false (.tm 137) (.tm 136))] 7 [4,5])
 (.seq (.region [rq 0 139 (.bin .eql (.tm 93) (ki 4)),
 RM 1 138 139] 2 [0,4,5,93,138])
 (.cond (.tm 138)
 (.region [RF 0 140 5 5,
 RL 1 141 140,
 rq 2 142 (.bC 1 1 [VZ] [(0,1,(ki 5))]),
 rq 3 143 (.append 1 (.tm 141) (.tm 142)),
 RF 4 144 5 5,
 rn 5 (.store 1 false (.tm 144) (.tm 143))] 6 [4,5])
 (.seq (.region [rq 0 146 (.bin .eql (.tm 93) (ki 5)),
 RM 1 145 146] 2 [0,4,5,145])
 (.cond (.tm 145)
 (.region [RF 0 147 6 5,
 RL 1 148 147,
 rq 2 149 (.bC 1 1 [VZ] [(0,1,(ki 1))]),
 rq 3 150 (.append 1 (.tm 148) (.tm 149)),
 RF 4 151 6 5,
 rn 5 (.store 1 false (.tm 151) (.tm 150))] 6 [4,5])
 (.seq (.region [RF 0 94 5 5,
 RL 1 95 94,
 rq 2 96 (.len false (.tm 95)),
 rq 3 97 (.bin .gtr (.tm 96) (ki 0))] 4 [0,4,5,97])
 (.cond (.tm 97)
 (.region [RF 0 98 5 5,
 ⟨1,(some 99),.load 1 false (.tm 98),none,[2],[],true⟩,
 rq 2 100 (.bC 1 2 [VZ] [(0,1,(.kv (.int .i64 (-1)))),(1,1,(ki 65536))]),
 RM 3 101 0,
 ⟨4,(some 102),.call aD [(.tm 101),(ki 2)],none,[2],[1],false⟩,
 rq 5 103 (.idx 1 (.tm 100) (.tm 102)),
 RL 6 104 103,
 rq 7 105 (.idx 1 (.tm 99) (ki 0)),
 rn 8 (.store 1 false (.tm 105) (.tm 104))] 9 [4,5])
 .skip))))))))))))))))
 .skip))
 (.seq (.region [rq 0 152 (.load 7 true (.tm 5)),
 rn 1 (.store 7 true (.tm 4) (.tm 152))] 2 [4])
 .ret)))))))
def S8:List Cert:=[⟨[],[0,1,4]⟩,⟨[cz 0,cz 2,cz 5,cz 7,cz 8,cz 12,cz 16,(1,[7,16],[],false),(3,[7,16],[],false),cz 4,(6,[7,16],[],false),(9,[7,16],[],false),cz 10,(11,[16],[],true),(13,[7,16],[11],false),cz 14,cz 15,cz 17],[0,1,4,5]⟩,⟨[],[0,1,4,5,25]⟩,⟨[],[0,1,4,5]⟩,⟨[],[0,1,4,5]⟩,⟨[],[0,1,4,5,44]⟩,⟨[],[0,1,4,5]⟩,⟨[],[0,1,4,5,57]⟩,⟨[],[0,1,4,5,6]⟩,⟨[],[0,1,4,5,6,61]⟩,⟨[cz 0,(1,[7,12],[],true),cz 2,cz 5,cz 8,(3,[],[1],false),cz 4,(6,[],[1],false),cz 7,(9,[7],[1],false),cz 10,cz 11,cz 12,cz 13,cz 14,cz 15],[0,1,4,5,6]⟩,⟨[cz 0,(1,[2,7],[],true),cz 2,cz 3,(4,[2],[1],false),cz 5,cz 6,cz 7,cz 8,cz 9,cz 10],[0,1,4,5,6]⟩,⟨[],[0,1,4,5,6]⟩,⟨[],[0,4,5,91]⟩,⟨[],[0,4,5,93]⟩,⟨[],[0,4,5,93,106]⟩,⟨[],[4,5]⟩,⟨[],[0,4,5,93,114]⟩,⟨[],[4,5]⟩,⟨[],[0,4,5,93,122]⟩,⟨[],[4,5]⟩,⟨[],[0,4,5,93,130]⟩,⟨[],[4,5]⟩,⟨[],[0,4,5,93,138]⟩,⟨[],[4,5]⟩,⟨[],[0,4,5,145]⟩,⟨[],[4,5]⟩,⟨[],[0,4,5,97]⟩,⟨[cz 0,(1,[2],[],true),cz 2,cz 3,(4,[2],[1],false),cz 5,cz 6,cz 7,cz 8],[4,5]⟩,⟨[],[4]⟩]
def E5:List aW:=[.cell 4 7 true]
theorem TG:aO Tryz.prog Tryz.f108 S8=some (xW,E5):=by kernel_rfl
theorem QN:aN Tryz.prog tS Tryz.f108 xW E5:=
 aN.mk Tryz.func108 (by kernel_rfl) TG
def zQ:AC:=
 (.seq (.region [rq 0 2 (.move (.kv (.bool false)))] 1 [0])
 (.seq (.seq (.region [RM 0 5 0,
 rq 1 6 (.len false (.tm 5)),
 rq 2 7 (.move (ki 0))] 3 [0,5,6,7])
 (.block 0
 (.loop
 (.seq (.region [rq 0 8 (.bin .lss (.tm 7) (.tm 6))] 1 [0,5,6,7,8])
 (.seq (.cond (.tm 8)
 .skip
 (.exit 0))
 (.seq (.block 1
 (.seq (.region [RM 0 9 7,
 rq 1 10 (.idx 4 (.tm 5) (.tm 7)),
 rq 2 11 (.load 4 true (.tm 10)),
 rq 3 4 (.alloc [VZ,VZ,VZ,(.v (.bool false))]),
 RM 4 3 9,
 rn 5 (.store 4 true (.tm 4) (.tm 11))] 6 [0,3,4,5,6,7])
 (.seq (.region [RF 0 12 0 4,
 RL 1 13 12,
 rq 2 14 (.call cQ [(.tm 13),(ki 0),(ki 63)]),
 rq 3 15 (.un .not (.tm 14)),
 RM 4 16 15,
 GQ 5 17 (.fld 1 (.tm 4)) 16 false,
 GQ 6 18 (.load 1 false (.tm 17)) 16 false,
 GQ 7 19 (.fld 0 (.tm 4)) 16 false,
 GQ 8 20 (.load 1 false (.tm 19)) 16 false,
 GQ 9 21 (.call cQ [(.tm 18),(.tm 20),(ki 63)]) 16 false,
 GQ 10 22 (.un .not (.tm 21)) 16 false,
 rq 11 23 (.pick (.tm 16) (.kv (.bool true)) (.tm 22)),
 RM 12 24 23,
 GQ 13 25 (.fld 2 (.tm 4)) 24 false,
 GQ 14 26 (.load 1 false (.tm 25)) 24 false,
 GQ 15 27 (.call cQ [(.tm 26),(ki 0),(ki 2)]) 24 false,
 GQ 16 28 (.un .not (.tm 27)) 24 false,
 rq 17 29 (.pick (.tm 24) (.kv (.bool true)) (.tm 28)),
 RM 18 30 29,
 GQ 19 31 (.move (.tm 0)) 30 false,
 GQ 20 32 (.move (.tm 3)) 30 false,
 GQ 21 33 (.slc 4 (.tm 31) none (some (.tm 32)) none) 30 false,
 GQ 22 34 (.xop (.zI rE) [(.tm 4)]) 30 false,
 GQ 23 35 (.call bX [(.tm 33),(.tm 34)]) 30 false,
 rq 24 36 (.pick (.tm 30) (.kv (.bool true)) (.tm 35))] 25 [0,5,6,7,36])
 (.cond (.tm 36)
 (.seq (.region [rq 0 2 (.move (.kv (.bool false)))] 1 [2])
 .ret)
 .skip))))
 (.region [rq 0 37 (.bin .add (.tm 7) (ki 1)),
 RM 1 7 37] 2 [0,5,6,7])))))))
 (.seq (.region [RM 0 38 0,
 rq 1 39 (.len false (.tm 38)),
 rq 2 40 (.bin .leq (.tm 39) (ki 4)),
 RM 3 2 40] 4 [2])
 .ret)))
def VE:List Cert:=[⟨[],[0]⟩,⟨[],[0,5,6,7]⟩,⟨[],[0,5,6,7,8]⟩,⟨[],[0,3,4,5,6,7]⟩,⟨[],[0,5,6,7,36]⟩,⟨[],[2]⟩,⟨[],[0,5,6,7]⟩,⟨[],[2]⟩]
def I5:List aW:=[.tm 2]
theorem VT:aO Tryz.prog Tryz.f110 VE=some (zQ,I5):=by kernel_rfl
theorem VB:aN Tryz.prog wR Tryz.f110 zQ I5:=
 aN.mk Tryz.func110 (by kernel_rfl) VT
def fX:AC:=
 (.seq (.region [rq 0 4 (.move (.kv (.bool false)))] 1 [0,1])
 (.seq (.region [RM 0 5 0,
 RM 1 6 1,
 rq 2 7 (.call fF [(.tm 5),(.tm 6)]),
 rq 3 8 (.bin .geq (.tm 7) (ki 0)),
 RM 4 4 8] 5 [4])
 .ret))
def sD:List Cert:=[⟨[],[0,1]⟩,⟨[],[4]⟩]
def jY:List aW:=[.tm 4]
theorem rV:aO Tryz.prog Tryz.f111 sD=some (fX,jY):=by kernel_rfl
theorem r8:aN Tryz.prog bN Tryz.f111 fX jY:=
 aN.mk Tryz.func111 (by kernel_rfl) rV
def vK:AC:=
 (.seq (.region [rq 0 2 (.move (.kv (.bool false)))] 1 [0])
 (.seq (.region [RM 0 3 0,
 rq 1 4 (.call cQ [(.tm 3),(ki 0),(ki 3)]),
 rq 2 5 (.un .not (.tm 4)),
 RM 3 2 5] 4 [2])
 .ret))
def OR:List Cert:=[⟨[],[0]⟩,⟨[],[2]⟩]
def DT:List aW:=[.tm 2]
theorem OL:aO Tryz.prog Tryz.f112 OR=some (vK,DT):=by kernel_rfl
theorem PF:aN Tryz.prog qK Tryz.f112 vK DT:=
 aN.mk Tryz.func112 (by kernel_rfl) OL
def JX:AC:=
 (.seq (.region [rq 0 6 (.move (.kv (.bool false)))] 1 [0,1,2])
 (.seq (.region [RM 0 7 0,
 RM 1 8 1,
 rq 2 9 (.bin .geq (.tm 7) (.tm 8)),
 RM 3 10 9,
 GQ 4 11 (.move (.tm 0)) 10 true,
 GQ 5 12 (.move (.tm 2)) 10 true,
 GQ 6 13 (.bin .leq (.tm 11) (.tm 12)) 10 true,
 rq 7 14 (.pick (.tm 10) (.tm 13) (.kv (.bool false))),
 RM 8 6 14] 9 [6])
 .ret))
def afB:List Cert:=[⟨[],[0,1,2]⟩,⟨[],[6]⟩]
def SP:List aW:=[.tm 6]
theorem acJ:aO Tryz.prog Tryz.f113 afB=some (JX,SP):=by kernel_rfl
theorem ae0:aN Tryz.prog cQ Tryz.f113 JX SP:=
 aN.mk Tryz.func113 (by kernel_rfl) acJ
def dG:AC:=
 (.seq (.region [rq 0 4 (.move (.kv (.bool false)))] 1 [0,1])
 (.seq (.region [RM 0 5 0,
 RM 1 6 1,
 rq 2 7 (.call cT [(.tm 5),(.tm 6)]),
 rq 3 8 (.bin .geq (.tm 7) (ki 0)),
 RM 4 4 8] 5 [4])
 .ret))
def l5:List Cert:=[⟨[],[0,1]⟩,⟨[],[4]⟩]
def gE:List aW:=[.tm 4]
theorem l6:aO Tryz.prog Tryz.f114 l5=some (dG,gE):=by kernel_rfl
theorem l7:aN Tryz.prog cF Tryz.f114 dG gE:=
 aN.mk Tryz.func114 (by kernel_rfl) l6
def u6:AC:=
 (.seq (.region [rq 0 2 (.move (.kv (.bool false)))] 1 [0])
 (.seq (.region [RM 0 3 0,
 rq 1 4 (.len false (.tm 3)),
 rq 2 5 (.bin .gtr (.tm 4) (ki 12)),
 RM 3 6 5,
 GQ 4 7 (.move (.tm 0)) 6 false,
 GQ 5 8 (.call cN [(.tm 7),(.fn nH)]) 6 false,
 rq 6 9 (.pick (.tm 6) (.kv (.bool true)) (.tm 8)),
 RM 7 2 9] 8 [2])
 .ret))
def OE:List Cert:=[⟨[],[0]⟩,⟨[],[2]⟩]
def DW:List aW:=[.tm 2]
theorem OD:aO Tryz.prog Tryz.f115 OE=some (u6,DW):=by kernel_rfl
theorem OS:aN Tryz.prog rR Tryz.f115 u6 DW:=
 aN.mk Tryz.func115 (by kernel_rfl) OD
def rM:AC:=
 (.seq (.region [rq 0 1 (.box true (.tm 0)),
 rq 1 2 (.move (.kv (.bool false)))] 2 [1])
 (.seq (.region [rq 0 3 (.load 7 true (.tm 1)),
 rq 1 4 (.call wD [(.tm 3)]),
 rq 2 5 (.un .not (.tm 4)),
 RM 3 2 5] 4 [2])
 .ret))
def K9:List Cert:=[⟨[],[1]⟩,⟨[],[2]⟩]
def y9:List aW:=[.tm 2]
theorem J8:aO Tryz.prog Tryz.f116 K9=some (rM,y9):=by kernel_rfl
theorem KW:aN Tryz.prog nH Tryz.f116 rM y9:=
 aN.mk Tryz.func116 (by kernel_rfl) J8
def zP:AC:=
 (.seq (.region [rq 0 1 (.box true (.tm 0)),
 rq 1 2 (.move (.kv (.bool false)))] 2 [1])
 (.seq (.region [rq 0 3 (.move (ki 0))] 1 [1,3])
 (.seq (.seq (.region [rq 0 4 (.load 7 true (.tm 1)),
 rq 1 5 (.call eY [(.tm 4)])] 2 [1,3,5])
 (.cond (.tm 5)
 (.region [RF 0 6 3 1,
 RL 1 7 6,
 RM 2 3 7] 3 [1,3])
 .skip))
 (.seq (.region [RF 0 8 0 1,
 RL 1 9 8,
 rq 2 10 (.call cQ [(.tm 9),(ki 0),(ki 1)]),
 RM 3 11 10,
 GQ 4 12 (.fld 1 (.tm 1)) 11 true,
 GQ 5 13 (.load 1 false (.tm 12)) 11 true,
 GQ 6 14 (.call cQ [(.tm 13),(ki 1),(ki 4)]) 11 true,
 rq 7 15 (.pick (.tm 11) (.tm 14) (.kv (.bool false))),
 RM 8 16 15,
 GQ 9 17 (.fld 2 (.tm 1)) 16 true,
 GQ 10 18 (.load 1 false (.tm 17)) 16 true,
 GQ 11 19 (.fld 3 (.tm 1)) 16 true,
 GQ 12 20 (.load 1 false (.tm 19)) 16 true,
 GQ 13 21 (.fld 4 (.tm 1)) 16 true,
 GQ 14 22 (.load 1 false (.tm 21)) 16 true,
 GQ 15 23 (.call nI [(.tm 18),(.tm 20),(.tm 22)]) 16 true,
 rq 16 24 (.pick (.tm 16) (.tm 23) (.kv (.bool false))),
 RM 17 25 24,
 GQ 18 26 (.fld 5 (.tm 1)) 25 true,
 GQ 19 27 (.load 1 false (.tm 26)) 25 true,
 GQ 20 28 (.len false (.tm 27)) 25 true,
 GQ 21 29 (.move (.tm 3)) 25 true,
 GQ 22 30 (.bin .eql (.tm 28) (.tm 29)) 25 true,
 rq 23 31 (.pick (.tm 25) (.tm 30) (.kv (.bool false))),
 RM 24 32 31,
 GQ 25 33 (.fld 6 (.tm 1)) 32 true,
 GQ 26 34 (.load 1 false (.tm 33)) 32 true,
 GQ 27 35 (.len false (.tm 34)) 32 true,
 GQ 28 36 (.move (.tm 3)) 32 true,
 GQ 29 37 (.bin .eql (.tm 35) (.tm 36)) 32 true,
 rq 30 38 (.pick (.tm 32) (.tm 37) (.kv (.bool false))),
 RM 31 39 38,
 GQ 32 40 (.fld 5 (.tm 1)) 39 true,
 GQ 33 41 (.load 1 false (.tm 40)) 39 true,
 GQ 34 42 (.call jB [(.tm 41)]) 39 true,
 rq 35 43 (.pick (.tm 39) (.tm 42) (.kv (.bool false))),
 RM 36 44 43,
 GQ 37 45 (.fld 6 (.tm 1)) 44 true,
 GQ 38 46 (.load 1 false (.tm 45)) 44 true,
 GQ 39 47 (.call bN [(.tm 46),(.fn rT)]) 44 true,
 GQ 40 48 (.un .not (.tm 47)) 44 true,
 rq 41 49 (.pick (.tm 44) (.tm 48) (.kv (.bool false))),
 RM 42 50 49,
 GQ 43 51 (.fld 1 (.tm 1)) 50 true,
 GQ 44 52 (.load 1 false (.tm 51)) 50 true,
 GQ 45 53 (.bin .eql (.tm 52) (ki 1)) 50 true,
 GQ 46 54 (.move (.tm 53)) 50 true,
 GQ 47 55 (.fld 1 (.tm 1)) 54 false,
 GQ 48 56 (.load 1 false (.tm 55)) 54 false,
 GQ 49 57 (.bin .eql (.tm 56) (ki 2)) 54 false,
 GQ 50 58 (.pick (.tm 54) (.kv (.bool true)) (.tm 57)) 50 true,
 GQ 51 59 (.move (.tm 58)) 50 true,
 GQ 52 60 (.fld 3 (.tm 1)) 59 false,
 GQ 53 61 (.load 1 false (.tm 60)) 59 false,
 GQ 54 62 (.bin .eql (.tm 61) (ki 1)) 59 false,
 GQ 55 63 (.pick (.tm 59) (.kv (.bool true)) (.tm 62)) 50 true,
 rq 56 64 (.pick (.tm 50) (.tm 63) (.kv (.bool false))),
 RM 57 2 64] 58 [2])
 .ret))))
def U1:List Cert:=[⟨[],[1]⟩,⟨[],[1,3]⟩,⟨[],[1,3,5]⟩,⟨[],[1,3]⟩,⟨[],[2]⟩]
def I9:List aW:=[.tm 2]
theorem UO:aO Tryz.prog Tryz.f117 U1=some (zP,I9):=by kernel_rfl
theorem VJ:aN Tryz.prog wD Tryz.f117 zP I9:=
 aN.mk Tryz.func117 (by kernel_rfl) UO
end Go.Proofs.YtegiblhkjfiooaaGreat
end
