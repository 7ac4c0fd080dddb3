/- Texts laid together by a program: rules, contracts and the walk that leads to the law. -/
import Derived.Test.YtegiblhkjfiooaaGreatPu3
set_option linter.unusedVariables false
set_option linter.unusedSimpArgs false
set_option linter.unusedSectionVars false
namespace Go.Proofs.YtegiblhkjfiooaaGreat
open Go Go.AM
set_option maxRecDepth 100000
def rI:AC:=
 (.seq (.region [rq 0 2 (.move (.kv (.slice none 0 0)))] 1 [0])
 (.seq (.region [RM 0 3 0,
 rq 1 4 (.call gO [(.tm 3)]),
 rq 2 5 (.call iD [(.tm 4)]),
 RM 3 2 5] 4 [2])
 .ret))
def LQ:List Cert:=[⟨[],[0]⟩,⟨[],[2]⟩]
def zA:List aW:=[.tm 2]
theorem KH:aO Tryz.prog Tryz.f119 LQ=some (rI,zA):=by kernel_rfl
theorem LI:aN Tryz.prog eX Tryz.f119 rI zA:=
 aN.mk Tryz.func119 (by kernel_rfl) KH
def kI:AC:=
 (.seq (.region [rq 0 1 (.box true (.tm 0)),
 rq 1 2 (.alloc [OZ,OZ])] 2 [1,2])
 (.seq (.region [RF 0 3 0 1,
 RF 1 4 0 3,
 RL 2 5 4,
 RF 5 8 1 1,
 ⟨6,(some 9),.load 1 false (.tm 8),none,[],[],true⟩,
 ⟨3,(some 6),.call eX [(.tm 5)],none,[],[6],false⟩,
 rq 4 7 (.build [OZ] [(0,1,(.tm 6))]),
 rq 7 10 (.call eX [(.tm 9)]),
 rq 8 11 (.build [OZ,OZ] [(0,1,(.tm 7)),(1,1,(.tm 10))]),
 rn 9 (.store 2 true (.tm 2) (.tm 11))] 10 [2])
 .ret))
def BQ:List Cert:=[⟨[],[1,2]⟩,⟨[cz 0,cz 1,cz 2,cz 5,(6,[],[],true),(3,[],[6],false),cz 4,cz 7,cz 8,cz 9],[2]⟩]
def pS:List aW:=[.cell 2 2 true]
theorem BE:aO Tryz.prog Tryz.f125 BQ=some (kI,pS):=by kernel_rfl
theorem A9:aN Tryz.prog fL Tryz.f125 kI pS:=
 aN.mk Tryz.func125 (by kernel_rfl) BE
def AK:AC:=
 (.seq (.region [rq 0 1 (.box true (.tm 0)),
 rq 1 2 (.move (.kv (.bool false)))] 2 [1])
 (.seq (.region [RF 0 3 0 1,
 RL 1 4 3,
 rq 2 5 (.len false (.tm 4)),
 rq 3 6 (.bin .eql (.tm 5) (ki 64)),
 RM 4 7 6,
 GQ 5 8 (.fld 0 (.tm 1)) 7 true,
 GQ 6 9 (.load 1 false (.tm 8)) 7 true,
 GQ 7 10 (.call jB [(.tm 9)]) 7 true,
 rq 8 11 (.pick (.tm 7) (.tm 10) (.kv (.bool false))),
 RM 9 2 11] 10 [2])
 .ret))
def U7:List Cert:=[⟨[],[1]⟩,⟨[],[2]⟩]
def H8:List aW:=[.tm 2]
theorem T7:aO Tryz.prog Tryz.f129 U7=some (AK,H8):=by kernel_rfl
theorem T3:aN Tryz.prog wP Tryz.f129 AK H8:=
 aN.mk Tryz.func129 (by kernel_rfl) T7
def vO:AC:=
 (.seq (.region [rq 0 2 (.move (.kv (.bool false)))] 1 [0])
 (.seq (.region [RM 0 3 0,
 rq 1 4 (.call cQ [(.tm 3),(.kv (.int .i64 (-1))),(ki 63)]),
 rq 2 5 (.un .not (.tm 4)),
 RM 3 2 5] 4 [2])
 .ret))
def OY:List Cert:=[⟨[],[0]⟩,⟨[],[2]⟩]
def DZ:List aW:=[.tm 2]
theorem OJ:aO Tryz.prog Tryz.f130 OY=some (vO,DZ):=by kernel_rfl
theorem OW:aN Tryz.prog rC Tryz.f130 vO DZ:=
 aN.mk Tryz.func130 (by kernel_rfl) OJ
def rD:AC:=
 (.seq (.region [rq 0 3 (.box true (.tm 0)),
 rq 1 6 (.move (ki 0))] 2 [1,2,3])
 (.seq (.region [RF 0 7 2 3,
 RL 1 8 7,
 RM 2 9 1,
 rq 3 10 (.idx 1 (.tm 8) (.tm 9)),
 RL 4 11 10,
 RM 5 12 2,
 rq 6 13 (.idx 7 (.tm 11) (.tm 12)),
 RF 7 14 0 13,
 RL 8 15 14,
 RM 9 6 15] 10 [6])
 .ret))
def K8:List Cert:=[⟨[],[1,2,3]⟩,⟨[],[6]⟩]
def zC:List aW:=[.tm 6]
theorem KU:aO Tryz.prog Tryz.f131 K8=some (rD,zC):=by kernel_rfl
theorem KX:aN Tryz.prog fB Tryz.f131 rD zC:=
 aN.mk Tryz.func131 (by kernel_rfl) KU
def z8:AC:=
 (.seq (.region [rq 0 1 (.box true (.tm 0)),
 rq 1 2 (.move (.kv (.bool false)))] 2 [1])
 (.seq (.region [RF 0 3 0 1,
 RL 1 4 3,
 rq 2 5 (.call cQ [(.tm 4),(ki 0),(ki 1)]),
 RM 3 6 5,
 GQ 4 7 (.fld 1 (.tm 1)) 6 true,
 GQ 5 8 (.load 1 false (.tm 7)) 6 true,
 GQ 6 9 (.call cQ [(.tm 8),(ki 1),(ki 4)]) 6 true,
 rq 7 10 (.pick (.tm 6) (.tm 9) (.kv (.bool false))),
 RM 8 11 10,
 GQ 9 12 (.fld 2 (.tm 1)) 11 true,
 GQ 10 13 (.load 1 false (.tm 12)) 11 true,
 GQ 11 14 (.len false (.tm 13)) 11 true,
 GQ 12 15 (.bin .leq (.tm 14) (ki 4)) 11 true,
 rq 13 16 (.pick (.tm 11) (.tm 15) (.kv (.bool false))),
 RM 14 17 16,
 GQ 15 18 (.fld 2 (.tm 1)) 17 true,
 GQ 16 19 (.load 1 false (.tm 18)) 17 true,
 GQ 17 20 (.call jB [(.tm 19)]) 17 true,
 rq 18 21 (.pick (.tm 17) (.tm 20) (.kv (.bool false))),
 RM 19 2 21] 20 [2])
 .ret))
def T2:List Cert:=[⟨[],[1]⟩,⟨[],[2]⟩]
def I0:List aW:=[.tm 2]
theorem VO:aO Tryz.prog Tryz.f134 T2=some (z8,I0):=by kernel_rfl
theorem UX:aN Tryz.prog m6 Tryz.f134 z8 I0:=
 aN.mk Tryz.func134 (by kernel_rfl) VO
def x7:AC:=
 (.seq (.region [rq 0 2 (.move (.kv (.bool false)))] 1 [0])
 (.seq (.seq (.region [rq 0 3 (.move (ki 1))] 1 [0,3])
 (.block 0
 (.loop
 (.seq (.seq (.region [RM 0 4 3,
 RM 1 5 0,
 rq 2 6 (.len false (.tm 5)),
 rq 3 7 (.bin .lss (.tm 4) (.tm 6))] 4 [0,3,7])
 (.cond (.tm 7)
 .skip
 (.exit 0)))
 (.seq (.block 1
 (.seq (.region [RM 0 10 0,
 RM 1 11 3,
 rq 2 12 (.bin .sub (.tm 11) (ki 1)),
 rq 3 13 (.idx 5 (.tm 10) (.tm 12)),
 rq 4 14 (.load 5 true (.tm 13)),
 RM 5 15 0,
 RM 6 16 3,
 rq 7 17 (.idx 5 (.tm 15) (.tm 16)),
 rq 8 18 (.load 5 true (.tm 17)),
 rq 9 19 (.call bJ [(.tm 14),(.tm 18)]),
 rq 10 20 (.bin .geq (.tm 19) (ki 0))] 11 [0,3,20])
 (.cond (.tm 20)
 (.seq (.region [rq 0 2 (.move (.kv (.bool false)))] 1 [2])
 .ret)
 .skip)))
 (.region [RM 0 8 3,
 rq 1 9 (.bin .add (.tm 8) (ki 1)),
 RM 2 3 9] 3 [0,3]))))))
 (.seq (.region [rq 0 2 (.move (.kv (.bool true)))] 1 [2])
 .ret)))
def RQ:List Cert:=[⟨[],[0]⟩,⟨[],[0,3]⟩,⟨[],[0,3,7]⟩,⟨[cz 0,cz 1,cz 2,cz 3,cz 4,cz 5,cz 6,cz 7,cz 8,cz 9,cz 10],[0,3,20]⟩,⟨[],[2]⟩,⟨[],[0,3]⟩,⟨[],[2]⟩]
def FX:List aW:=[.tm 2]
theorem P5:aO Tryz.prog Tryz.f135 RQ=some (x7,FX):=by kernel_rfl
theorem Q2:aN Tryz.prog oI Tryz.f135 x7 FX:=
 aN.mk Tryz.func135 (by kernel_rfl) P5
def nO:AC:=
 (.seq (.region [rq 0 1 (.box true (.tm 0)),
 rq 1 2 (.move (.kv (.bool false)))] 2 [1])
 (.seq (.region [RF 0 3 0 1,
 RL 1 4 3,
 rq 2 5 (.bin .eql (.tm 4) (ki 0)),
 RM 3 6 5,
 GQ 4 7 (.fld 1 (.tm 1)) 6 true,
 GQ 5 8 (.load 1 false (.tm 7)) 6 true,
 GQ 6 9 (.bin .eql (.tm 8) (ki 0)) 6 true,
 rq 7 10 (.pick (.tm 6) (.tm 9) (.kv (.bool false))),
 RM 8 11 10,
 GQ 9 12 (.fld 2 (.tm 1)) 11 true,
 GQ 10 13 (.load 1 false (.tm 12)) 11 true,
 GQ 11 14 (.len false (.tm 13)) 11 true,
 GQ 12 15 (.bin .eql (.tm 14) (ki 0)) 11 true,
 rq 13 16 (.pick (.tm 11) (.tm 15) (.kv (.bool false))),
 RM 14 2 16] 15 [2])
 .ret))
def HS:List Cert:=[⟨[],[1]⟩,⟨[],[2]⟩]
def vS:List aW:=[.tm 2]
theorem HW:aO Tryz.prog Tryz.f136 HS=some (nO,vS):=by kernel_rfl
theorem HU:aN Tryz.prog iT Tryz.f136 nO vS:=
 aN.mk Tryz.func136 (by kernel_rfl) HW
def zZ:AC:=
 (.seq (.region [rq 0 3 (.box true (.tm 1)),
 rq 1 4 (.move (ki 0))] 2 [0,3])
 (.seq (.region [rq 0 5 (.move (.kv (.int .i64 (-1))))] 1 [0,3,5])
 (.seq (.seq (.region [rq 0 9 (.load 7 true (.tm 3)),
 rq 1 10 (.call fP [(.tm 9)]),
 rq 2 11 (.len false (.tm 10)),
 rq 3 12 (.move (ki 0))] 4 [0,5,10,11,12])
 (.block 0
 (.loop
 (.seq (.region [rq 0 13 (.bin .lss (.tm 12) (.tm 11))] 1 [0,5,10,11,12,13])
 (.seq (.cond (.tm 13)
 .skip
 (.exit 0))
 (.seq (.block 1
 (.seq (.region [RM 0 14 12,
 rq 1 15 (.idx 1 (.tm 10) (.tm 12)),
 RL 2 16 15,
 RM 3 6 14,
 RM 4 7 16] 5 [0,5,6,7,10,11,12])
 (.seq (.region [RM 0 17 0,
 RM 1 18 7,
 rq 2 19 (.call qX [(.tm 17),(.tm 18)]),
 RM 3 8 19] 4 [0,5,6,8,10,11,12])
 (.seq (.seq (.region [RM 0 20 8,
 rq 1 21 (.bin .lss (.tm 20) (ki 0)),
 RM 2 22 21,
 GQ 3 23 (.move (.tm 6)) 22 false,
 GQ 4 24 (.bin .gtr (.tm 23) (ki 0)) 22 false,
 GQ 5 25 (.move (.tm 24)) 22 false,
 GQ 6 26 (.move (.tm 8)) 25 true,
 GQ 7 27 (.move (.tm 5)) 25 true,
 GQ 8 28 (.bin .neq (.tm 26) (.tm 27)) 25 true,
 GQ 9 29 (.pick (.tm 25) (.tm 28) (.kv (.bool false))) 22 false,
 rq 10 30 (.pick (.tm 22) (.kv (.bool true)) (.tm 29))] 11 [0,8,10,11,12,30])
 (.cond (.tm 30)
 (.seq (.region [rq 0 4 (.move (.kv (.int .i64 (-1))))] 1 [4])
 .ret)
 .skip))
 (.region [RM 0 31 8,
 RM 1 5 31] 2 [0,5,10,11,12])))))
 (.region [rq 0 32 (.bin .add (.tm 12) (ki 1)),
 RM 1 12 32] 2 [0,5,10,11,12])))))))
 (.seq (.region [RM 0 33 5,
 RM 1 4 33] 2 [4])
 .ret))))
def U8:List Cert:=[⟨[],[0,3]⟩,⟨[],[0,3,5]⟩,⟨[],[0,5,10,11,12]⟩,⟨[],[0,5,10,11,12,13]⟩,⟨[],[0,5,6,7,10,11,12]⟩,⟨[],[0,5,6,8,10,11,12]⟩,⟨[],[0,8,10,11,12,30]⟩,⟨[],[4]⟩,⟨[],[0,5,10,11,12]⟩,⟨[],[0,5,10,11,12]⟩,⟨[],[4]⟩]
def IE:List aW:=[.tm 4]
theorem VF:aO Tryz.prog Tryz.f141 U8=some (zZ,IE):=by kernel_rfl
theorem TU:aN Tryz.prog mZ Tryz.f141 zZ IE:=
 aN.mk Tryz.func141 (by kernel_rfl) VF
def eV:AC:=
 (.seq (.region [rq 0 4 (.move (ki 0))] 1 [0,1])
 (.seq (.seq (.region [RM 0 6 0,
 rq 1 7 (.len false (.tm 6)),
 rq 2 8 (.move (ki 0))] 3 [0,1,7,8])
 (.block 0
 (.loop
 (.seq (.region [rq 0 9 (.bin .lss (.tm 8) (.tm 7))] 1 [0,1,7,8,9])
 (.seq (.cond (.tm 9)
 .skip
 (.exit 0))
 (.seq (.block 1
 (.seq (.region [RM 0 10 8,
 RM 1 5 10] 2 [0,1,5,7,8])
 (.seq (.region [RM 0 11 1,
 RM 1 12 0,
 RM 2 13 5,
 rq 3 14 (.idx 7 (.tm 12) (.tm 13)),
 rq 4 15 (.load 7 true (.tm 14)),
 rq 5 16 (.t5 (.tm 11) [(.tm 15)])] 6 [0,1,5,7,8,16])
 (.cond (.tm 16)
 (.seq (.region [RM 0 17 5,
 RM 1 4 17] 2 [4])
 .ret)
 .skip))))
 (.region [rq 0 18 (.bin .add (.tm 8) (ki 1)),
 RM 1 8 18] 2 [0,1,7,8])))))))
 (.seq (.region [rq 0 4 (.move (.kv (.int .i64 (-1))))] 1 [4])
 .ret)))
def pM:List Cert:=[⟨[],[0,1]⟩,⟨[],[0,1,7,8]⟩,⟨[],[0,1,7,8,9]⟩,⟨[],[0,1,5,7,8]⟩,⟨[],[0,1,5,7,8,16]⟩,⟨[],[4]⟩,⟨[],[0,1,7,8]⟩,⟨[],[4]⟩]
def iQ:List aW:=[.tm 4]
theorem pF:aO Tryz.prog Tryz.f142 pM=some (eV,iQ):=by kernel_rfl
theorem pO:aN Tryz.prog dC Tryz.f142 eV iQ:=
 aN.mk Tryz.func142 (by kernel_rfl) pF
def aBD:AC:=
 (.seq (.region [rq 0 4 (.move (ki 0))] 1 [0,1])
 (.seq (.seq (.region [RM 0 7 1,
 rq 1 8 (.len false (.tm 7)),
 rq 2 9 (.bin .eql (.tm 8) (ki 0))] 3 [0,1,9])
 (.cond (.tm 9)
 (.seq (.region [rq 0 4 (.move (.kv (.int .i64 (-1))))] 1 [4])
 .ret)
 .skip))
 (.seq (.region [RM 0 10 0,
 RM 1 11 1,
 rq 2 12 (.idx 1 (.tm 11) (ki 0)),
 RL 3 13 12,
 rq 4 14 (.call aAX [(.tm 10),(.tm 13)]),
 RM 5 5 14] 6 [0,1,5])
 (.seq (.seq (.region [rq 0 6 (.move (ki 1))] 1 [0,1,5,6])
 (.block 0
 (.loop
 (.seq (.seq (.region [RM 0 15 6,
 RM 1 16 1,
 rq 2 17 (.len false (.tm 16)),
 rq 3 18 (.bin .lss (.tm 15) (.tm 17))] 4 [0,1,5,6,18])
 (.cond (.tm 18)
 .skip
 (.exit 0)))
 (.seq (.block 1
 (.seq (.region [RM 0 21 0,
 RM 1 22 1,
 RM 2 23 6,
 rq 3 24 (.idx 1 (.tm 22) (.tm 23)),
 RL 4 25 24,
 rq 5 26 (.call aAX [(.tm 21),(.tm 25)]),
 RM 6 27 5,
 rq 7 28 (.bin .neq (.tm 26) (.tm 27))] 8 [0,1,5,6,28])
 (.cond (.tm 28)
 (.seq (.region [rq 0 4 (.move (.kv (.int .i64 (-1))))] 1 [4])
 .ret)
 .skip)))
 (.region [RM 0 19 6,
 rq 1 20 (.bin .add (.tm 19) (ki 1)),
 RM 2 6 20] 3 [0,1,5,6]))))))
 (.seq (.region [RM 0 29 5,
 RM 1 4 29] 2 [4])
 .ret)))))
def aC7:List Cert:=[⟨[],[0,1]⟩,⟨[],[0,1,9]⟩,⟨[],[4]⟩,⟨[],[0,1,5]⟩,⟨[],[0,1,5,6]⟩,⟨[],[0,1,5,6,18]⟩,⟨[],[0,1,5,6,28]⟩,⟨[],[4]⟩,⟨[],[0,1,5,6]⟩,⟨[],[4]⟩]
def aBX:List aW:=[.tm 4]
theorem aDB:aO Tryz.prog Tryz.f147 aC7=some (aBD,aBX):=by kernel_rfl
theorem aDA:aN Tryz.prog aA4 Tryz.f147 aBD aBX:=
 aN.mk Tryz.func147 (by kernel_rfl) aDB
def aBA:AC:=
 (.seq (.region [rq 0 6 (.move (.kv (.slice none 0 0)))] 1 [0,1,2])
 (.seq (.region [rq 0 10 (.bC 1 0 [VZ] []),
 RM 1 7 10] 2 [0,1,2,7])
 (.seq (.seq (.region [RM 0 11 0,
 RM 1 12 1,
 RM 2 13 2,
 rq 3 14 (.call aA6 [(.tm 11),(.tm 12),(.tm 13)]),
 rq 4 15 (.un .not (.tm 14))] 5 [0,1,2,7,15])
 (.cond (.tm 15)
 (.seq (.region [RM 0 16 7,
 RM 1 6 16] 2 [6])
 .ret)
 .skip))
 (.seq (.region [RM 0 17 0,
 RM 1 18 0,
 RM 2 19 1,
 rq 3 20 (.bin .rem (.tm 18) (.tm 19)),
 rq 4 21 (.bin .sub (.tm 17) (.tm 20)),
 RM 5 8 21] 6 [0,1,2,7,8])
 (.seq (.seq (.region [rq 0 9 (.move (ki 0))] 1 [0,1,2,7,8,9])
 (.block 0
 (.loop
 (.seq (.seq (.region [RM 0 22 9,
 RM 1 23 1,
 rq 2 24 (.bin .lss (.tm 22) (.tm 23))] 3 [0,1,2,7,8,9,24])
 (.cond (.tm 24)
 .skip
 (.exit 0)))
 (.seq (.block 1
 (.seq (.region [RM 0 27 2] 1 [0,1,2,7,8,9,27])
 (.cond (.tm 27)
 (.region [RM 0 28 7,
 RM 1 29 8,
 RM 2 30 0,
 RM 3 31 8,
 rq 4 32 (.bin .sub (.tm 30) (.tm 31)),
 RM 5 33 9,
 rq 6 34 (.bin .add (.tm 32) (.tm 33)),
 RM 7 35 1,
 rq 8 36 (.bin .rem (.tm 34) (.tm 35)),
 rq 9 37 (.bin .add (.tm 29) (.tm 36)),
 rq 10 38 (.bC 1 1 [VZ] [(0,1,(.tm 37))]),
 rq 11 39 (.append 1 (.tm 28) (.tm 38)),
 RM 12 7 39] 13 [0,1,2,7,8,9])
 (.region [RM 0 40 7,
 RM 1 41 0,
 RM 2 42 9,
 rq 3 43 (.bin .add (.tm 41) (.tm 42)),
 rq 4 44 (.bC 1 1 [VZ] [(0,1,(.tm 43))]),
 rq 5 45 (.append 1 (.tm 40) (.tm 44)),
 RM 6 7 45] 7 [0,1,2,7,8,9]))))
 (.region [RM 0 25 9,
 rq 1 26 (.bin .add (.tm 25) (ki 1)),
 RM 2 9 26] 3 [0,1,2,7,8,9]))))))
 (.seq (.region [RM 0 46 7,
 RM 1 6 46] 2 [6])
 .ret))))))
def aCV:List Cert:=[⟨[],[0,1,2]⟩,⟨[],[0,1,2,7]⟩,⟨[],[0,1,2,7,15]⟩,⟨[],[6]⟩,⟨[],[0,1,2,7,8]⟩,⟨[],[0,1,2,7,8,9]⟩,⟨[],[0,1,2,7,8,9,24]⟩,⟨[],[0,1,2,7,8,9,27]⟩,⟨[],[0,1,2,7,8,9]⟩,⟨[],[0,1,2,7,8,9]⟩,⟨[],[0,1,2,7,8,9]⟩,⟨[],[6]⟩]
def aBS:List aW:=[.tm 6]
theorem aCP:aO Tryz.prog Tryz.f148 aCV=some (aBA,aBS):=by kernel_rfl
theorem aCR:aN Tryz.prog aAY Tryz.f148 aBA aBS:=
 aN.mk Tryz.func148 (by kernel_rfl) aCP
def i6:AC:=
 (.seq (.region [rq 0 2 (.move (.kv (.slice none 0 0)))] 1 [0])
 (.seq (.region [RM 0 3 0,
 rq 1 4 (.call eG [(.tm 3)]),
 rq 2 5 (.call eS [(.tm 4)]),
 RM 3 2 5] 4 [2])
 .ret))
def yU:List Cert:=[⟨[],[0]⟩,⟨[],[2]⟩]
def nL:List aW:=[.tm 2]
theorem yR:aO Tryz.prog Tryz.f151 yU=some (i6,nL):=by kernel_rfl
theorem yQ:aN Tryz.prog gG Tryz.f151 i6 nL:=
 aN.mk Tryz.func151 (by kernel_rfl) yR
def av3:AC:=
 (.seq (.region [rq 0 4 (.box false (.tm 1)),
 rq 1 5 (.box false (.tm 2)),
 rq 2 6 (.move (ki 0))] 3 [0,4,5])
 (.seq (.region [RM 0 7 0,
 rq 1 8 (.xop (.zI avA) [(.tm 4),(.tm 5)]),
 rq 2 9 (.call hZ [(.tm 7),(.tm 8)]),
 RM 3 6 9] 4 [6])
 .ret))
def ayC:List Cert:=[⟨[],[0,4,5]⟩,⟨[],[6]⟩]
def aw1:List aW:=[.tm 6]
theorem ayJ:aO Tryz.prog Tryz.f152 ayC=some (av3,aw1):=by kernel_rfl
theorem ayD:aN Tryz.prog auK Tryz.f152 av3 aw1:=
 aN.mk Tryz.func152 (by kernel_rfl) ayJ
def auO:AC:=
 (.seq (.region [rq 0 3 (.box true (.tm 0)),
 rq 1 5 (.box true (.tm 2)),
 rq 2 6 (.move (.kv (.bool false)))] 3 [1,3,5])
 (.seq (.region [RM 0 7 1,
 rq 1 8 (.xop (.zI at5) [(.tm 5),(.tm 3)]),
 rq 2 9 (.call wB [(.tm 7),(.tm 8)]),
 RM 3 6 9] 4 [6])
 .ret))
def awQ:List Cert:=[⟨[],[1,3,5]⟩,⟨[],[6]⟩]
def avN:List aW:=[.tm 6]
theorem awR:aO Tryz.prog Tryz.f153 awQ=some (auO,avN):=by kernel_rfl
theorem awL:aN Tryz.prog atY Tryz.f153 auO avN:=
 aN.mk Tryz.func153 (by kernel_rfl) awR
def avZ:AC:=
 (.seq (.region [rq 0 3 (.box true (.tm 1)),
 rq 1 4 (.move (.kv (.slice none 0 0)))] 2 [0,3])
 (.seq (.region [RM 0 8 0,
 rq 1 9 (.load 5 true (.tm 3)),
 rq 2 10 (.call eR [(.tm 8),(.tm 9),(.fn bJ)]),
 RM 3 7 10,
 rq 4 11 (.ext (.tm 7) 0),
 rq 5 12 (.ext (.tm 7) 1),
 RM 6 5 11,
 RM 7 6 12] 8 [0,3,5])
 (.seq (.region [RM 0 13 0,
 RM 1 14 5,
 rq 2 15 (.load 5 true (.tm 3)),
 rq 3 16 (.bC 5 1 [VZ,VZ,VZ,VZ,OZ] [(0,5,(.tm 15))]),
 rq 4 17 (.call atU [(.tm 13),(.tm 14),(.tm 16)]),
 RM 5 4 17] 6 [4])
 .ret)))
def axZ:List Cert:=[⟨[],[0,3]⟩,⟨[],[0,3,5]⟩,⟨[],[4]⟩]
def awP:List aW:=[.tm 4]
theorem ax2:aO Tryz.prog Tryz.f154 axZ=some (avZ,awP):=by kernel_rfl
theorem ax5:aN Tryz.prog auE Tryz.f154 avZ awP:=
 aN.mk Tryz.func154 (by kernel_rfl) ax2
def at0:AC:=
 (.seq (.region [rq 0 6 (.move (.kv (.slice none 0 0)))] 1 [0,1,2])
 (.seq (.region [RM 0 8 0,
 RM 1 9 1,
 RM 2 10 2,
 RM 3 11 0,
 rq 4 12 (.len false (.tm 11)),
 rq 5 13 (.slc 5 (.tm 8) (some (.tm 9)) (some (.tm 10)) (some (.tm 12)))] 6 [0,1,2])
 (.seq (.seq (.region [RM 0 14 1,
 RM 1 15 2,
 rq 2 16 (.bin .eql (.tm 14) (.tm 15))] 3 [0,1,2,16])
 (.cond (.tm 16)
 (.seq (.region [RM 0 17 0,
 RM 1 6 17] 2 [6])
 .ret)
 .skip))
 (.seq (.region [RM 0 18 0,
 rq 1 19 (.len false (.tm 18)),
 RM 2 7 19] 3 [0,1,2,7])
 (.seq (.region [RM 0 20 0,
 RM 1 21 1,
 rq 2 22 (.slc 5 (.tm 20) none (some (.tm 21)) none),
 RM 3 23 0,
 RM 4 24 2,
 rq 5 25 (.slc 5 (.tm 23) (some (.tm 24)) none none),
 rq 6 26 (.append 5 (.tm 22) (.tm 25)),
 RM 7 0 26] 8 [0,7])
 (.seq (.region [RM 0 27 0,
 RM 1 28 0,
 rq 2 29 (.len false (.tm 28)),
 RM 3 30 7,
 rq 4 31 (.slc 5 (.tm 27) (some (.tm 29)) (some (.tm 30)) none),
 rn 5 (.xop (.clear 5 [VZ,VZ,VZ,VZ,OZ]) [(.tm 31)])] 6 [0])
 (.seq (.region [RM 0 32 0,
 RM 1 6 32] 2 [6])
 .ret)))))))
def avC:List Cert:=[⟨[],[0,1,2]⟩,⟨[],[0,1,2]⟩,⟨[],[0,1,2,16]⟩,⟨[],[6]⟩,⟨[],[0,1,2,7]⟩,⟨[cz 0,cz 1,cz 2,cz 3,cz 4,cz 5,cz 6,cz 7],[0,7]⟩,⟨[],[0]⟩,⟨[],[6]⟩]
def auG:List aW:=[.tm 6]
theorem avG:aO Tryz.prog Tryz.f155 avC=some (at0,auG):=by kernel_rfl
theorem avF:aN Tryz.prog x4 Tryz.f155 at0 auG:=
 aN.mk Tryz.func155 (by kernel_rfl) avG
def z6:AC:=
 (.seq (.region [rq 0 2 (.move (ki 0))] 1 [0])
 (.seq (.region [rq 0 3 (.move (ki 0))] 1 [0,3])
 (.seq (.seq (.region [RM 0 6 0,
 rq 1 7 (.len false (.tm 6)),
 rq 2 8 (.move (ki 0))] 3 [3,6,7,8])
 (.block 0
 (.loop
 (.seq (.region [rq 0 9 (.bin .lss (.tm 8) (.tm 7))] 1 [3,6,7,8,9])
 (.seq (.cond (.tm 9)
 .skip
 (.exit 0))
 (.seq (.block 1
 (.seq (.region [rq 0 10 (.idx 1 (.tm 6) (.tm 8)),
 RL 1 11 10,
 RM 2 5 11] 3 [3,5,6,7,8])
 (.seq (.region [RM 0 12 5,
 RM 1 13 3,
 rq 2 14 (.bin .neq (.tm 12) (.tm 13))] 3 [3,5,6,7,8,14])
 (.cond (.tm 14)
 (.seq (.region [RM 0 15 5,
 RM 1 2 15] 2 [2])
 .ret)
 .skip))))
 (.region [rq 0 16 (.bin .add (.tm 8) (ki 1)),
 RM 1 8 16] 2 [3,6,7,8])))))))
 (.seq (.region [RM 0 17 3,
 RM 1 2 17] 2 [2])
 .ret))))
def UF:List Cert:=[⟨[],[0]⟩,⟨[],[0,3]⟩,⟨[],[3,6,7,8]⟩,⟨[],[3,6,7,8,9]⟩,⟨[],[3,5,6,7,8]⟩,⟨[],[3,5,6,7,8,14]⟩,⟨[],[2]⟩,⟨[],[3,6,7,8]⟩,⟨[],[2]⟩]
def IP:List aW:=[.tm 2]
theorem UR:aO Tryz.prog Tryz.f157 UF=some (z6,IP):=by kernel_rfl
theorem T8:aN Tryz.prog wC Tryz.f157 z6 IP:=
 aN.mk Tryz.func157 (by kernel_rfl) UR
def pI:AC:=
 (.seq (.region [rq 0 4 (.move (ki 0))] 1 [0,1])
 (.seq (.region [RM 0 7 0,
 rq 1 8 (.call lG [(.tm 7)]),
 RM 2 5 8] 3 [0,1,5])
 (.seq (.region [RM 0 9 1,
 rq 1 10 (.call lG [(.tm 9)]),
 RM 2 6 10] 3 [0,1,5,6])
 (.seq (.seq (.region [RM 0 11 5] 1 [0,1,6,11])
 (.cond (.tm 11)
 (.seq (.seq (.region [RM 0 12 6] 1 [12])
 (.cond (.tm 12)
 (.seq (.region [rq 0 4 (.move (ki 0))] 1 [4])
 .ret)
 .skip))
 (.seq (.region [rq 0 4 (.move (.kv (.int .i64 (-1))))] 1 [4])
 .ret))
 .skip))
 (.seq (.seq (.region [RM 0 13 6] 1 [0,1,13])
 (.cond (.tm 13)
 (.seq (.region [rq 0 4 (.move (ki 1))] 1 [4])
 .ret)
 .skip))
 (.seq (.seq (.region [RM 0 14 0,
 RM 1 15 1,
 rq 2 16 (.bin .lss (.tm 14) (.tm 15))] 3 [0,1,16])
 (.cond (.tm 16)
 (.seq (.region [rq 0 4 (.move (.kv (.int .i64 (-1))))] 1 [4])
 .ret)
 .skip))
 (.seq (.seq (.region [RM 0 17 0,
 RM 1 18 1,
 rq 2 19 (.bin .gtr (.tm 17) (.tm 18))] 3 [19])
 (.cond (.tm 19)
 (.seq (.region [rq 0 4 (.move (ki 1))] 1 [4])
 .ret)
 .skip))
 (.seq (.region [rq 0 4 (.move (ki 0))] 1 [4])
 .ret))))))))
def JV:List Cert:=[⟨[],[0,1]⟩,⟨[],[0,1,5]⟩,⟨[],[0,1,5,6]⟩,⟨[],[0,1,6,11]⟩,⟨[],[12]⟩,⟨[],[4]⟩,⟨[],[4]⟩,⟨[],[0,1,13]⟩,⟨[],[4]⟩,⟨[],[0,1,16]⟩,⟨[],[4]⟩,⟨[],[19]⟩,⟨[],[4]⟩,⟨[],[4]⟩]
def x5:List aW:=[.tm 4]
theorem JD:aO Tryz.prog Tryz.f158 JV=some (pI,x5):=by kernel_rfl
theorem JR:aN Tryz.prog jC Tryz.f158 pI x5:=
 aN.mk Tryz.func158 (by kernel_rfl) JD
def lM:AC:=
 (.seq (.region [rq 0 1 (.box true (.tm 0)),
 rq 1 2 (.move (.kv (.bool false)))] 2 [1])
 (.seq (.region [RF 0 3 1 1,
 RL 1 4 3,
 rq 2 5 (.bin .eql (.tm 4) (ki 2)),
 RM 3 6 5,
 GQ 4 7 (.fld 1 (.tm 1)) 6 false,
 GQ 5 8 (.load 1 false (.tm 7)) 6 false,
 GQ 6 9 (.bin .eql (.tm 8) (ki 4)) 6 false,
 rq 7 10 (.pick (.tm 6) (.kv (.bool true)) (.tm 9)),
 RM 8 2 10] 9 [2])
 .ret))
def D8:List Cert:=[⟨[],[1]⟩,⟨[],[2]⟩]
def sE:List aW:=[.tm 2]
theorem D4:aO Tryz.prog Tryz.f159 D8=some (lM,sE):=by kernel_rfl
theorem EO:aN Tryz.prog eY Tryz.f159 lM sE:=
 aN.mk Tryz.func159 (by kernel_rfl) D4
def mQ:AC:=
 (.seq (.region [rq 0 1 (.box true (.tm 0)),
 rq 1 2 (.move (.kv (.slice none 0 0)))] 2 [1])
 (.seq (.region [RF 0 3 2 1,
 RL 1 4 3,
 RF 2 5 3 1,
 RL 3 6 5,
 RF 4 7 4 1,
 RL 5 8 7,
 rq 6 9 (.call oS [(.tm 4),(.tm 6),(.tm 8)]),
 RM 7 2 9] 8 [2])
 .ret))
def FU:List Cert:=[⟨[],[1]⟩,⟨[],[2]⟩]
def uP:List aW:=[.tm 2]
theorem GP:aO Tryz.prog Tryz.f160 FU=some (mQ,uP):=by kernel_rfl
theorem GL:aN Tryz.prog fP Tryz.f160 mQ uP:=
 aN.mk Tryz.func160 (by kernel_rfl) GP
def GM:AC:=
 (.seq (.region [rq 0 6 (.move (ki 0))] 1 [0,1,2])
 (.seq (.region [RM 0 8 2,
 rq 1 9 (.bin .and (.tm 8) (ki 1)),
 rq 2 10 (.bin .mul (.tm 9) (ki 255)),
 RM 3 11 2,
 rq 4 12 (.bin .shr (.tm 11) (.kv (.int .u64 1))),
 rq 5 13 (.bin .mul (.tm 12) (ki 65280)),
 rq 6 14 (.bin .or (.tm 10) (.tm 13)),
 RM 7 7 14] 8 [0,1,7])
 (.seq (.region [RM 0 15 0,
 RM 1 16 7,
 rq 2 17 (.bin .andNot (.tm 15) (.tm 16)),
 RM 3 18 1,
 RM 4 19 7,
 rq 5 20 (.bin .and (.tm 18) (.tm 19)),
 rq 6 21 (.bin .or (.tm 17) (.tm 20)),
 RM 7 6 21] 8 [6])
 .ret)))
def ZK:List Cert:=[⟨[],[0,1,2]⟩,⟨[],[0,1,7]⟩,⟨[],[6]⟩]
def NL:List aW:=[.tm 6]
theorem aaH:aO Tryz.prog Tryz.f161 ZK=some (GM,NL):=by kernel_rfl
theorem ZG:aN Tryz.prog DA Tryz.f161 GM NL:=
 aN.mk Tryz.func161 (by kernel_rfl) aaH
def iC:AC:=
 (.seq (.region [rq 0 4 (.move (.kv (.bool false)))] 1 [0,1])
 (.seq (.region [RM 0 5 0,
 RM 1 6 1,
 rq 2 7 (.call gN [(.tm 5),(.tm 6)]),
 rq 3 8 (.bin .geq (.tm 7) (ki 0)),
 RM 4 4 8] 5 [4])
 .ret))
def wA:List Cert:=[⟨[],[0,1]⟩,⟨[],[4]⟩]
def lV:List aW:=[.tm 4]
theorem wI:aO Tryz.prog Tryz.f162 wA=some (iC,lV):=by kernel_rfl
theorem wG:aN Tryz.prog fK Tryz.f162 iC lV:=
 aN.mk Tryz.func162 (by kernel_rfl) wI
def aN3:AC:=
 (.seq (.region [rq 0 3 (.box true (.tm 1)),
 rq 1 4 (.move (.kv (.slice none 0 0)))] 2 [0,3])
 (.seq (.region [rq 0 8 (.bC 5 0 [VZ,VZ,VZ,VZ,OZ] []),
 RM 1 5 8] 2 [0,3,5])
 (.seq (.region [rq 0 6 (.move (.kv (.bool false)))] 1 [0,3,5,6])
 (.seq (.seq (.region [rq 0 7 (.move (ki 0))] 1 [0,3,5,6,7])
 (.block 0
 (.loop
 (.seq (.seq (.region [RM 0 9 7,
 RM 1 10 0,
 rq 2 11 (.len false (.tm 10)),
 rq 3 12 (.bin .lss (.tm 9) (.tm 11))] 4 [0,3,5,6,7,12])
 (.cond (.tm 12)
 .skip
 (.exit 0)))
 (.seq (.block 1
 (.seq (.seq (.region [RM 0 15 6,
 rq 1 16 (.un .not (.tm 15)),
 RM 2 17 16,
 GQ 3 18 (.load 5 true (.tm 3)) 17 true,
 GQ 4 19 (.move (.tm 0)) 17 true,
 GQ 5 20 (.move (.tm 7)) 17 true,
 GQ 6 21 (.idx 5 (.tm 19) (.tm 20)) 17 true,
 GQ 7 22 (.load 5 true (.tm 21)) 17 true,
 GQ 8 23 (.call aKL [(.tm 18),(.tm 22)]) 17 true,
 rq 9 24 (.pick (.tm 17) (.tm 23) (.kv (.bool false)))] 10 [0,3,5,6,7,24])
 (.cond (.tm 24)
 (.seq (.region [RM 0 25 5,
 rq 1 26 (.load 5 true (.tm 3)),
 rq 2 27 (.bC 5 1 [VZ,VZ,VZ,VZ,OZ] [(0,5,(.tm 26))]),
 rq 3 28 (.append 5 (.tm 25) (.tm 27)),
 RM 4 5 28] 5 [0,3,5,7])
 (.region [rq 0 6 (.move (.kv (.bool true)))] 1 [0,3,5,6,7]))
 .skip))
 (.region [RM 0 29 5,
 RM 1 30 0,
 RM 2 31 7,
 rq 3 32 (.idx 5 (.tm 30) (.tm 31)),
 rq 4 33 (.load 5 true (.tm 32)),
 rq 5 34 (.bC 5 1 [VZ,VZ,VZ,VZ,OZ] [(0,5,(.tm 33))]),
 rq 6 35 (.append 5 (.tm 29) (.tm 34)),
 RM 7 5 35] 8 [0,3,5,6,7])))
 (.region [RM 0 13 7,
 rq 1 14 (.bin .add (.tm 13) (ki 1)),
 RM 2 7 14] 3 [0,3,5,6,7]))))))
 (.seq (.seq (.region [RM 0 36 6,
 rq 1 37 (.un .not (.tm 36))] 2 [3,5,37])
 (.cond (.tm 37)
 (.region [RM 0 38 5,
 rq 1 39 (.load 5 true (.tm 3)),
 rq 2 40 (.bC 5 1 [VZ,VZ,VZ,VZ,OZ] [(0,5,(.tm 39))]),
 rq 3 41 (.append 5 (.tm 38) (.tm 40)),
 RM 4 5 41] 5 [5])
 .skip))
 (.seq (.region [RM 0 42 5,
 RM 1 4 42] 2 [4])
 .ret))))))
def aR9:List Cert:=[⟨[],[0,3]⟩,⟨[],[0,3,5]⟩,⟨[],[0,3,5,6]⟩,⟨[],[0,3,5,6,7]⟩,⟨[],[0,3,5,6,7,12]⟩,⟨[cz 0,cz 1,cz 2,cz 3,cz 4,cz 5,cz 6,cz 7,cz 8,cz 9],[0,3,5,6,7,24]⟩,⟨[],[0,3,5,7]⟩,⟨[],[0,3,5,6,7]⟩,⟨[],[0,3,5,6,7]⟩,⟨[],[0,3,5,6,7]⟩,⟨[],[3,5,37]⟩,⟨[],[5]⟩,⟨[],[4]⟩]
def aO7:List aW:=[.tm 4]
theorem aSI:aO Tryz.prog Tryz.f168 aR9=some (aN3,aO7):=by kernel_rfl
theorem aSO:aN Tryz.prog aJS Tryz.f168 aN3 aO7:=
 aN.mk Tryz.func168 (by kernel_rfl) aSI
def aOF:AC:=
 (.seq (.region [rq 0 5 (.box true (.tm 1)),
 rq 1 7 (.box true (.tm 3)),
 rq 2 8 (.alloc [OZ,OZ]),
 rq 3 9 (.alloc [VZ,VZ,OZ])] 4 [0,2,5,7,8,9])
 (.seq (.region [RF 0 14 2 7,
 RL 1 15 14,
 RF 2 16 3 7,
 RL 3 17 16,
 RF 4 18 4 7,
 RL 5 19 18,
 rq 6 20 (.call aAY [(.tm 15),(.tm 17),(.tm 19)]),
 RM 7 10 20] 8 [0,2,5,7,8,9,10])
 (.seq (.region [RM 0 21 0,
 RM 1 22 10,
 rq 2 23 (.call aA4 [(.tm 21),(.tm 22)]),
 RM 3 11 23] 4 [0,2,5,7,8,9,10,11])
 (.seq (.region [RF 0 24 0 7,
 RL 1 25 24,
 rq 2 26 (.build [VZ,VZ,OZ] [(0,1,(.tm 25)),(1,1,(ki 1))]),
 rq 3 12 (.alloc [VZ,VZ,OZ]),
 rn 4 (.store 3 true (.tm 12) (.tm 26))] 5 [0,2,5,7,8,9,10,11,12])
 (.seq (.seq (.region [RM 0 27 11,
 rq 1 28 (.bin .lss (.tm 27) (ki 0))] 2 [0,2,5,7,8,9,10,11,12,28])
 (.cond (.tm 28)
 (.seq (.region [RF 0 29 1 12,
 rn 1 (.store 1 false (.tm 29) (ki 4))] 2 [5,8,9,12])
 (.seq (.region [rq 0 30 (.load 2 true (.tm 5)),
 ⟨1,(some 31),.load 3 true (.tm 12),none,[],[],true⟩,
 ⟨2,none,.store 2 true (.tm 8) (.tm 30),none,[],[1],false⟩,
 rn 3 (.store 3 true (.tm 9) (.tm 31))] 4 [8,9])
 .ret))
 .skip))
 (.seq (.seq (.region [rq 0 32 (.load 7 true (.tm 7)),
 rq 1 33 (.call aAZ [(.tm 32)]),
 RM 2 34 33,
 GQ 3 35 (.move (.tm 0)) 34 true,
 GQ 4 36 (.move (.tm 11)) 34 true,
 GQ 5 37 (.idx 4 (.tm 35) (.tm 36)) 34 true,
 GQ 6 38 (.fld 3 (.tm 37)) 34 true,
 GQ 7 39 (.load 1 false (.tm 38)) 34 true,
 rq 8 40 (.pick (.tm 34) (.tm 39) (.kv (.bool false)))] 9 [2,5,7,8,9,10,12,40])
 (.cond (.tm 40)
 (.seq (.region [RF 0 41 1 12,
 rn 1 (.store 1 false (.tm 41) (ki 3))] 2 [5,8,9,12])
 (.seq (.region [rq 0 42 (.load 2 true (.tm 5)),
 ⟨1,(some 43),.load 3 true (.tm 12),none,[],[],true⟩,
 ⟨2,none,.store 2 true (.tm 8) (.tm 42),none,[],[1],false⟩,
 rn 3 (.store 3 true (.tm 9) (.tm 43))] 4 [8,9])
 .ret))
 .skip))
 (.seq (.region [RM 0 44 2,
 rq 1 45 (.bin .mul (.tm 44) (ki 2)),
 RF 2 46 0 7,
 RL 3 47 46,
 rq 4 48 (.bin .add (.tm 45) (.tm 47)),
 RM 5 13 48] 6 [5,7,8,9,10,12,13])
 (.seq (.seq (.region [RF 0 49 1 7,
 RL 1 50 49] 2 [5,7,8,9,10,12,13,50])
 (.block 0
 (.seq (.region [rq 0 64 (.bin .eql (.tm 50) (ki 1)),
 RM 1 63 64] 2 [5,7,8,9,10,12,13,50,63])
 (.cond (.tm 63)
 (.region [RF 0 65 0 5,
 rq 1 66 (.load 1 true (.tm 65)),
 RM 2 67 10,
 rq 3 68 (.call W3 [(.tm 66),(.tm 67)]),
 RF 4 69 2 12,
 rn 5 (.store 1 false (.tm 69) (.tm 68))] 6 [5,8,9,12])
 (.seq (.region [rq 0 71 (.bin .eql (.tm 50) (ki 3)),
 RM 1 70 71] 2 [5,7,8,9,10,12,13,50,70])
 (.cond (.tm 70)
 (.seq (.region [RF 0 72 0 5,
 rq 1 73 (.load 1 true (.tm 72)),
 RM 2 74 10,
 rq 3 75 (.call W3 [(.tm 73),(.tm 74)]),
 RF 4 76 2 12,
 rn 5 (.store 1 false (.tm 76) (.tm 75))] 6 [5,7,8,9,12,13])
 (.seq (.region [RF 0 77 1 12,
 rn 1 (.store 1 false (.tm 77) (ki 2))] 2 [5,7,8,9,12,13])
 (.region [RF 0 78 1 5,
 RL 1 79 78,
 RM 2 80 13,
 RF 3 81 2 7,
 RL 4 82 81,
 rq 5 83 (.idx 1 (.tm 79) (.tm 80)),
 rn 6 (.store 1 false (.tm 83) (.tm 82))] 7 [5,8,9,12])))
 (.seq (.region [rq 0 85 (.bin .eql (.tm 50) (ki 4)),
 RM 1 84 85] 2 [5,7,8,9,10,12,13,84])
 (.cond (.tm 84)
 (.seq (.seq (.region [RF 0 86 1 5,
 RL 1 87 86,
 RM 2 88 13,
 rq 3 89 (.idx 1 (.tm 87) (.tm 88)),
 RL 4 90 89,
 RF 5 91 2 7,
 RL 6 92 91,
 rq 7 93 (.bin .neq (.tm 90) (.tm 92))] 8 [5,7,8,9,10,12,93])
 (.cond (.tm 93)
 (.seq (.region [rq 0 94 (.load 2 true (.tm 5)),
 ⟨1,(some 95),.load 3 true (.tm 12),none,[],[],true⟩,
 ⟨2,none,.store 2 true (.tm 8) (.tm 94),none,[],[1],false⟩,
 rn 3 (.store 3 true (.tm 9) (.tm 95))] 4 [8,9])
 .ret)
 .skip))
 (.seq (.region [RF 0 96 1 12,
 rn 1 (.store 1 false (.tm 96) (ki 2))] 2 [5,7,8,9,10,12])
 (.seq (.region [RF 0 97 0 5,
 rq 1 98 (.load 1 true (.tm 97)),
 RM 2 99 10,
 RF 3 100 5 7,
 RL 4 101 100,
 RF 5 102 6 7,
 RL 6 103 102,
 rq 7 104 (.call H5 [(.tm 98),(.tm 99),(.tm 101),(.tm 103)]),
 RF 8 105 0 5,
 rn 9 (.store 1 true (.tm 105) (.tm 104))] 10 [5,8,9,10,12])
 (.region [rq 0 106 (.load 2 true (.tm 5)),
 RM 1 107 10,
 rq 2 108 (.call v9 [(.tm 106),(.tm 107)]),
 rn 3 (.store 2 true (.tm 5) (.tm 108))] 4 [5,8,9,12]))))
 (.seq (.region [RF 0 51 0 5,
 rq 1 52 (.load 1 true (.tm 51)),
 RM 2 53 10,
 RF 3 54 5 7,
 RL 4 55 54,
 RF 5 56 6 7,
 RL 6 57 56,
 rq 7 58 (.call H5 [(.tm 52),(.tm 53),(.tm 55),(.tm 57)]),
 RF 8 59 0 5,
 rn 9 (.store 1 true (.tm 59) (.tm 58))] 10 [5,8,9,10,12])
 (.region [rq 0 60 (.load 2 true (.tm 5)),
 RM 1 61 10,
 rq 2 62 (.call v9 [(.tm 60),(.tm 61)]),
 rn 3 (.store 2 true (.tm 5) (.tm 62))] 4 [5,8,9,12]))))))))))
 (.seq (.region [rq 0 109 (.load 2 true (.tm 5)),
 ⟨1,(some 110),.load 3 true (.tm 12),none,[],[],true⟩,
 ⟨2,none,.store 2 true (.tm 8) (.tm 109),none,[],[1],false⟩,
 rn 3 (.store 3 true (.tm 9) (.tm 110))] 4 [8,9])
 .ret)))))))))
def aSS:List Cert:=[⟨[],[0,2,5,7,8,9]⟩,⟨[],[0,2,5,7,8,9,10]⟩,⟨[],[0,2,5,7,8,9,10,11]⟩,⟨[],[0,2,5,7,8,9,10,11,12]⟩,⟨[],[0,2,5,7,8,9,10,11,12,28]⟩,⟨[],[5,8,9,12]⟩,⟨[cz 0,(1,[],[],true),(2,[],[1],false),cz 3],[8,9]⟩,⟨[],[2,5,7,8,9,10,12,40]⟩,⟨[],[5,8,9,12]⟩,⟨[cz 0,(1,[],[],true),(2,[],[1],false),cz 3],[8,9]⟩,⟨[],[5,7,8,9,10,12,13]⟩,⟨[],[5,7,8,9,10,12,13,50]⟩,⟨[],[5,7,8,9,10,12,13,50,63]⟩,⟨[],[5,8,9,12]⟩,⟨[],[5,7,8,9,10,12,13,50,70]⟩,⟨[],[5,7,8,9,12,13]⟩,⟨[],[5,7,8,9,12,13]⟩,⟨[],[5,8,9,12]⟩,⟨[],[5,7,8,9,10,12,13,84]⟩,⟨[cz 0,cz 1,cz 2,cz 3,cz 4,cz 5,cz 6,cz 7],[5,7,8,9,10,12,93]⟩,⟨[cz 0,(1,[],[],true),(2,[],[1],false),cz 3],[8,9]⟩,⟨[],[5,7,8,9,10,12]⟩,⟨[],[5,8,9,10,12]⟩,⟨[],[5,8,9,12]⟩,⟨[],[5,8,9,10,12]⟩,⟨[],[5,8,9,12]⟩,⟨[cz 0,(1,[],[],true),(2,[],[1],false),cz 3],[8,9]⟩]
def aPI:List aW:=[.cell 8 2 true,.cell 9 3 true]
theorem aS3:aO Tryz.prog Tryz.f169 aSS=some (aOF,aPI):=by kernel_rfl
theorem aSX:aN Tryz.prog aN2 Tryz.f169 aOF aPI:=
 aN.mk Tryz.func169 (by kernel_rfl) aS3
def aN5:AC:=
 (.seq (.region [rq 0 4 (.move (.kv (.slice none 0 0)))] 1 [0,1])
 (.seq (.region [rq 0 7 (.bC 5 0 [VZ,VZ,VZ,VZ,OZ] []),
 RM 1 5 7] 2 [0,1,5])
 (.seq (.seq (.region [rq 0 6 (.move (ki 0))] 1 [0,1,5,6])
 (.block 0
 (.loop
 (.seq (.seq (.region [RM 0 8 6,
 RM 1 9 0,
 rq 2 10 (.len false (.tm 9)),
 rq 3 11 (.bin .lss (.tm 8) (.tm 10))] 4 [0,1,5,6,11])
 (.cond (.tm 11)
 .skip
 (.exit 0)))
 (.seq (.block 1
 (.seq (.region [RM 0 14 6,
 RM 1 15 1,
 rq 2 16 (.bin .neq (.tm 14) (.tm 15))] 3 [0,1,5,6,16])
 (.cond (.tm 16)
 (.region [RM 0 17 5,
 RM 1 18 0,
 RM 2 19 6,
 rq 3 20 (.idx 5 (.tm 18) (.tm 19)),
 rq 4 21 (.load 5 true (.tm 20)),
 rq 5 22 (.bC 5 1 [VZ,VZ,VZ,VZ,OZ] [(0,5,(.tm 21))]),
 rq 6 23 (.append 5 (.tm 17) (.tm 22)),
 RM 7 5 23] 8 [0,1,5,6])
 .skip)))
 (.region [RM 0 12 6,
 rq 1 13 (.bin .add (.tm 12) (ki 1)),
 RM 2 6 13] 3 [0,1,5,6]))))))
 (.seq (.region [RM 0 24 5,
 RM 1 4 24] 2 [4])
 .ret))))
def aR4:List Cert:=[⟨[],[0,1]⟩,⟨[],[0,1,5]⟩,⟨[],[0,1,5,6]⟩,⟨[],[0,1,5,6,11]⟩,⟨[],[0,1,5,6,16]⟩,⟨[],[0,1,5,6]⟩,⟨[],[0,1,5,6]⟩,⟨[],[4]⟩]
def aO2:List aW:=[.tm 4]
theorem aR0:aO Tryz.prog Tryz.f170 aR4=some (aN5,aO2):=by kernel_rfl
theorem aRY:aN Tryz.prog gR Tryz.f170 aN5 aO2:=
 aN.mk Tryz.func170 (by kernel_rfl) aR0
def aJH:AC:=
 (.seq (.region [rq 0 1 (.box true (.tm 0)),
 rq 1 2 (.alloc [OZ,OZ])] 2 [1,2])
 (.seq (.region [RF 0 3 0 1,
 ⟨1,(some 4),.load 1 true (.tm 3),none,[3],[],false⟩,
 rq 3 6 (.bC 1 0 [VZ] []),
 RF 4 7 1 1,
 ⟨5,(some 8),.load 1 false (.tm 7),none,[3],[],true⟩,
 ⟨2,(some 5),.call aIW [(.tm 4)],none,[3],[5],false⟩,
 rq 6 9 (.append 1 (.tm 6) (.tm 8)),
 rq 7 10 (.build [OZ,OZ] [(0,1,(.tm 5)),(1,1,(.tm 9))]),
 rn 8 (.store 2 true (.tm 2) (.tm 10))] 9 [2])
 .ret))
def aKX:List Cert:=[⟨[],[1,2]⟩,⟨[cz 0,(1,[3],[],false),cz 3,cz 4,(5,[3],[],true),(2,[3],[5],false),cz 6,cz 7,cz 8],[2]⟩]
def aJ4:List aW:=[.cell 2 2 true]
theorem aLG:aO Tryz.prog Tryz.f171 aKX=some (aJH,aJ4):=by kernel_rfl
theorem aKW:aN Tryz.prog aIR Tryz.f171 aJH aJ4:=
 aN.mk Tryz.func171 (by kernel_rfl) aLG
def aJF:AC:=
 (.seq (.region [rq 0 2 (.move (.kv (.slice none 0 0)))] 1 [0])
 (.seq (.region [rq 0 5 (.bC 5 0 [VZ,VZ,VZ,VZ,OZ] []),
 RM 1 3 5] 2 [0,3])
 (.seq (.seq (.region [rq 0 4 (.move (ki 0))] 1 [0,3,4])
 (.block 0
 (.loop
 (.seq (.seq (.region [RM 0 6 4,
 RM 1 7 0,
 rq 2 8 (.len false (.tm 7)),
 rq 3 9 (.bin .lss (.tm 6) (.tm 8))] 4 [0,3,4,9])
 (.cond (.tm 9)
 .skip
 (.exit 0)))
 (.seq (.block 1
 (.region [RM 0 12 3,
 RM 1 13 0,
 RM 2 14 4,
 rq 3 15 (.idx 5 (.tm 13) (.tm 14)),
 RF 4 16 0 15,
 ⟨5,(some 17),.load 1 false (.tm 16),none,[18],[],true⟩,
 RM 6 18 0,
 RM 7 19 4,
 rq 8 20 (.idx 5 (.tm 18) (.tm 19)),
 RF 9 21 1 20,
 ⟨10,(some 22),.load 1 false (.tm 21),none,[18],[],true⟩,
 RM 11 23 0,
 RM 12 24 4,
 rq 13 25 (.idx 5 (.tm 23) (.tm 24)),
 RF 14 26 2 25,
 rq 15 27 (.load 3 true (.tm 26)),
 ⟨16,(some 28),.call aI8 [(.tm 27)],none,[],[5,10],false⟩,
 rq 17 29 (.build [VZ,VZ,VZ,VZ,OZ] [(0,1,(.tm 17)),(1,1,(.tm 22)),(2,3,(.tm 28))]),
 rq 18 30 (.bC 5 1 [VZ,VZ,VZ,VZ,OZ] [(0,5,(.tm 29))]),
 rq 19 31 (.append 5 (.tm 12) (.tm 30)),
 RM 20 3 31] 21 [0,3,4]))
 (.region [RM 0 10 4,
 rq 1 11 (.bin .add (.tm 10) (ki 1)),
 RM 2 4 11] 3 [0,3,4]))))))
 (.seq (.region [RM 0 32 3,
 RM 1 2 32] 2 [2])
 .ret))))
def aLB:List Cert:=[⟨[],[0]⟩,⟨[],[0,3]⟩,⟨[],[0,3,4]⟩,⟨[],[0,3,4,9]⟩,⟨[cz 0,cz 1,cz 2,cz 3,cz 4,(5,[18],[],true),cz 6,cz 7,cz 8,cz 9,(10,[18],[],true),cz 11,cz 12,cz 13,cz 14,cz 15,(16,[],[5,10],false),cz 17,cz 18,cz 19,cz 20],[0,3,4]⟩,⟨[],[0,3,4]⟩,⟨[],[2]⟩]
def aJZ:List aW:=[.tm 2]
theorem aLH:aO Tryz.prog Tryz.f172 aLB=some (aJF,aJZ):=by kernel_rfl
theorem aLL:aN Tryz.prog aIM Tryz.f172 aJF aJZ:=
 aN.mk Tryz.func172 (by kernel_rfl) aLH
def ap2:AC:=
 (.seq (.region [rq 0 2 (.box true (.tm 0)),
 rq 1 3 (.box true (.tm 1)),
 rq 2 4 (.move (.kv (.bool false)))] 3 [2,3])
 (.seq (.region [RF 0 5 0 2,
 RL 1 6 5,
 RF 2 7 0 3,
 RL 3 8 7,
 rq 4 9 (.bin .lss (.tm 6) (.tm 8)),
 RM 5 10 9,
 GQ 6 11 (.fld 0 (.tm 2)) 10 false,
 GQ 7 12 (.load 1 false (.tm 11)) 10 false,
 GQ 8 13 (.fld 0 (.tm 3)) 10 false,
 GQ 9 14 (.load 1 false (.tm 13)) 10 false,
 GQ 10 15 (.bin .eql (.tm 12) (.tm 14)) 10 false,
 GQ 11 16 (.move (.tm 15)) 10 false,
 GQ 12 17 (.fld 1 (.tm 2)) 16 true,
 GQ 13 18 (.load 1 false (.tm 17)) 16 true,
 GQ 14 19 (.fld 1 (.tm 3)) 16 true,
 GQ 15 20 (.load 1 false (.tm 19)) 16 true,
 GQ 16 21 (.bin .lss (.tm 18) (.tm 20)) 16 true,
 GQ 17 22 (.pick (.tm 16) (.tm 21) (.kv (.bool false))) 10 false,
 rq 18 23 (.pick (.tm 10) (.kv (.bool true)) (.tm 22)),
 RM 19 4 23] 20 [4])
 .ret))
def aPO:List Cert:=[⟨[],[2,3]⟩,⟨[],[4]⟩]
def aOC:List aW:=[.tm 4]
theorem aPW:aO Tryz.prog Tryz.f174 aPO=some (ap2,aOC):=by kernel_rfl
theorem aPS:aN Tryz.prog aKL Tryz.f174 ap2 aOC:=
 aN.mk Tryz.func174 (by kernel_rfl) aPW
def aNO:AC:=
 (.seq (.region [rq 0 0 (.alloc [OZ,OZ])] 1 [0])
 (.seq (.region [rq 0 3 (.call v8 []),
 rq 1 4 (.build [OZ,OZ] [(0,1,(.tm 3))]),
 rq 2 1 (.alloc [OZ,OZ]),
 rn 3 (.store 2 true (.tm 1) (.tm 4))] 4 [0,1])
 (.seq (.seq (.region [rq 0 2 (.move (ki 0))] 1 [0,1,2])
 (.block 0
 (.loop
 (.seq (.seq (.region [RM 0 5 2,
 rq 1 6 (.bin .lss (.tm 5) (ki 6))] 2 [0,1,2,6])
 (.cond (.tm 6)
 .skip
 (.exit 0)))
 (.seq (.block 1
 (.region [RF 0 9 1 1,
 RL 1 10 9,
 rq 2 11 (.bC 1 1 [VZ] [(0,1,(.kv (.int .i64 (-1))))]),
 rq 3 12 (.append 1 (.tm 10) (.tm 11)),
 RF 4 13 1 1,
 rn 5 (.store 1 false (.tm 13) (.tm 12))] 6 [0,1,2]))
 (.region [RM 0 7 2,
 rq 1 8 (.bin .add (.tm 7) (ki 1)),
 RM 2 2 8] 3 [0,1,2]))))))
 (.seq (.region [rq 0 14 (.load 2 true (.tm 1)),
 rn 1 (.store 2 true (.tm 0) (.tm 14))] 2 [0])
 .ret))))
def aQ4:List Cert:=[⟨[],[0]⟩,⟨[],[0,1]⟩,⟨[],[0,1,2]⟩,⟨[],[0,1,2,6]⟩,⟨[],[0,1,2]⟩,⟨[],[0,1,2]⟩,⟨[],[0]⟩]
def aOU:List aW:=[.cell 0 2 true]
theorem aQF:aO Tryz.prog Tryz.f176 aQ4=some (aNO,aOU):=by kernel_rfl
theorem aQ1:aN Tryz.prog v7 Tryz.f176 aNO aOU:=
 aN.mk Tryz.func176 (by kernel_rfl) aQF
def vH:AC:=
 (.seq (.region [rq 0 2 (.move (ki 0))] 1 [0])
 (.seq (.region [RM 0 3 0,
 rq 1 4 (.call aD [(.tm 3),(ki 4)]),
 RM 2 5 0,
 rq 3 6 (.call aD [(.tm 5),(ki 4)]),
 rq 4 7 (.bin .add (ki 16) (.tm 6)),
 RM 5 8 0,
 rq 6 9 (.call aD [(.tm 8),(ki 4)]),
 rq 7 10 (.bin .add (ki 32) (.tm 9)),
 RM 8 11 0,
 rq 9 12 (.call aD [(.tm 11),(ki 64)]),
 RM 10 13 0,
 rq 11 14 (.call aD [(.tm 13),(ki 5)]),
 rq 12 15 (.bin .add (ki 13) (.tm 14)),
 RM 13 16 0,
 rq 14 17 (.call aD [(.tm 16),(ki 4)]),
 rq 15 18 (.bin .add (ki 60) (.tm 17)),
 rq 16 19 (.bC 1 6 [VZ] [(0,1,(.tm 4)),(1,1,(.tm 7)),(2,1,(.tm 10)),(3,1,(.tm 12)),(4,1,(.tm 15)),(5,1,(.tm 18))]),
 rq 17 20 (.bC 1 8 [VZ] [(0,1,(ki 0)),(1,1,(ki 0)),(2,1,(ki 1)),(3,1,(ki 1)),(4,1,(ki 2)),(5,1,(ki 3)),(6,1,(ki 4)),(7,1,(ki 5))]),
 RM 18 21 0,
 rq 19 22 (.call aD [(.tm 21),(ki 8)]),
 rq 20 23 (.idx 1 (.tm 20) (.tm 22)),
 RL 21 24 23,
 rq 22 25 (.idx 1 (.tm 19) (.tm 24)),
 RL 23 26 25,
 RM 24 2 26] 25 [2])
 .ret))
def PD:List Cert:=[⟨[],[0]⟩,⟨[],[2]⟩]
def DR:List aW:=[.tm 2]
theorem O8:aO Tryz.prog Tryz.f177 PD=some (vH,DR):=by kernel_rfl
theorem N4:aN Tryz.prog qM Tryz.f177 vH DR:=
 aN.mk Tryz.func177 (by kernel_rfl) O8
def cY:AC:=
 (.seq (.region [rq 0 4 (.move (.kv (.bool false)))] 1 [0,1])
 (.seq (.region [RM 0 5 0,
 RM 1 6 1,
 rq 2 7 (.call bR [(.tm 5),(.tm 6)]),
 rq 3 8 (.bin .geq (.tm 7) (ki 0)),
 RM 4 4 8] 5 [4])
 .ret))
def lC:List Cert:=[⟨[],[0,1]⟩,⟨[],[4]⟩]
def fT:List aW:=[.tm 4]
theorem lH:aO Tryz.prog Tryz.f179 lC=some (cY,fT):=by kernel_rfl
theorem lF:aN Tryz.prog bX Tryz.f179 cY fT:=
 aN.mk Tryz.func179 (by kernel_rfl) lH
end Go.Proofs.YtegiblhkjfiooaaGreat
