/- Texts laid together by a program: rules, contracts and the walk that leads to the law. -/
import Derived.Test.YtmccpdapaccnoaaGreatPF3
set_option linter.unusedVariables false
set_option linter.unusedSimpArgs false
set_option linter.unusedSectionVars false
section
namespace Go.Proofs.YtmccpdapaccnoaaGreat
open Go Go.AM
set_option maxRecDepth 100000
def JX:AC:=
 (.seq (.region [rq 0 6 (.move (.kv (.bool false)))] 1 [0,1,2])
 (.seq (.region [RM 0 7 0,
 RM 1 8 1,
 rq 2 9 (.bin .geq (.tm 7) (.tm 8)),
 RM 3 10 9,
 GQ 4 11 (.move (.tm 0)) 10 true,
 GQ 5 12 (.move (.tm 2)) 10 true,
 GQ 6 13 (.bin .leq (.tm 11) (.tm 12)) 10 true,
 rq 7 14 (.pick (.tm 10) (.tm 13) (.kv (.bool false))),
 RM 8 6 14] 9 [6])
 .ret))
def afB:List Cert:=[⟨[],[0,1,2]⟩,⟨[],[6]⟩]
def SP:List aW:=[.tm 6]
theorem acJ:aO Tryz.prog Tryz.f129 afB=some (JX,SP):=by kernel_rfl
theorem ae0:aN Tryz.prog cQ Tryz.f129 JX SP:=
 aN.mk Tryz.func129 (by kernel_rfl) acJ
def aBW:AC:=
 (.seq (.region [rq 0 6 (.move (.kv (.bool false)))] 1 [0,1,2])
 (.seq (.region [RM 0 7 0,
 RM 1 8 1,
 rq 2 9 (.bin .geq (.tm 7) (.tm 8)),
 RM 3 10 9,
 GQ 4 11 (.move (.tm 0)) 10 true,
 GQ 5 12 (.move (.tm 2)) 10 true,
 GQ 6 13 (.bin .leq (.tm 11) (.tm 12)) 10 true,
 rq 7 14 (.pick (.tm 10) (.tm 13) (.kv (.bool false))),
 RM 8 6 14] 9 [6])
 .ret))
def aD4:List Cert:=[⟨[],[0,1,2]⟩,⟨[],[6]⟩]
def aCD:List aW:=[.tm 6]
theorem aD3:aO Tryz.prog Tryz.f149 aD4=some (aBW,aCD):=by kernel_rfl
theorem aD6:aN Tryz.prog y2 Tryz.f149 aBW aCD:=
 aN.mk Tryz.func149 (by kernel_rfl) aD3
def aJR:AC:=
 (.seq (.region [rq 0 6 (.move (ki 0))] 1 [0,1,2])
 (.seq (.seq (.region [rq 0 7 (.move (ki 0))] 1 [0,1,2,7])
 (.block 0
 (.loop
 (.seq (.seq (.region [RM 0 8 7,
 RM 1 9 0,
 rq 2 10 (.len false (.tm 9)),
 rq 3 11 (.bin .lss (.tm 8) (.tm 10))] 4 [0,1,2,7,11])
 (.cond (.tm 11)
 .skip
 (.exit 0)))
 (.seq (.block 1
 (.seq (.region [RM 0 14 0,
 RM 1 15 7,
 rq 2 16 (.idx 5 (.tm 14) (.tm 15)),
 RF 3 17 0 16,
 RL 4 18 17,
 RM 5 19 1,
 rq 6 20 (.bin .eql (.tm 18) (.tm 19)),
 RM 7 21 20,
 GQ 8 22 (.move (.tm 0)) 21 true,
 GQ 9 23 (.move (.tm 7)) 21 true,
 GQ 10 24 (.idx 5 (.tm 22) (.tm 23)) 21 true,
 GQ 11 25 (.fld 1 (.tm 24)) 21 true,
 GQ 12 26 (.load 1 false (.tm 25)) 21 true,
 GQ 13 27 (.move (.tm 2)) 21 true,
 GQ 14 28 (.bin .eql (.tm 26) (.tm 27)) 21 true,
 rq 15 29 (.pick (.tm 21) (.tm 28) (.kv (.bool false)))] 16 [0,1,2,7,29])
 (.cond (.tm 29)
 (.seq (.region [RM 0 30 7,
 RM 1 6 30] 2 [6])
 .ret)
 .skip)))
 (.region [RM 0 12 7,
 rq 1 13 (.bin .add (.tm 12) (ki 1)),
 RM 2 7 13] 3 [0,1,2,7]))))))
 (.seq (.region [rq 0 6 (.move (.kv (.int .i64 (-1))))] 1 [6])
 .ret)))
def aMU:List Cert:=[⟨[],[0,1,2]⟩,⟨[],[0,1,2,7]⟩,⟨[],[0,1,2,7,11]⟩,⟨[],[0,1,2,7,29]⟩,⟨[],[6]⟩,⟨[],[0,1,2,7]⟩,⟨[],[6]⟩]
def aKI:List aW:=[.tm 6]
theorem aMV:aO Tryz.prog Tryz.f152 aMU=some (aJR,aKI):=by kernel_rfl
theorem aM1:aN Tryz.prog aIN Tryz.f152 aJR aKI:=
 aN.mk Tryz.func152 (by kernel_rfl) aMV
def aN3:AC:=
 (.seq (.region [rq 0 3 (.box true (.tm 1)),
 rq 1 4 (.move (.kv (.slice none 0 0)))] 2 [0,3])
 (.seq (.region [rq 0 8 (.bC 5 0 [VZ,VZ,VZ,VZ,OZ] []),
 RM 1 5 8] 2 [0,3,5])
 (.seq (.region [rq 0 6 (.move (.kv (.bool false)))] 1 [0,3,5,6])
 (.seq (.seq (.region [rq 0 7 (.move (ki 0))] 1 [0,3,5,6,7])
 (.block 0
 (.loop
 (.seq (.seq (.region [RM 0 9 7,
 RM 1 10 0,
 rq 2 11 (.len false (.tm 10)),
 rq 3 12 (.bin .lss (.tm 9) (.tm 11))] 4 [0,3,5,6,7,12])
 (.cond (.tm 12)
 .skip
 (.exit 0)))
 (.seq (.block 1
 (.seq (.seq (.region [RM 0 15 6,
 rq 1 16 (.un .not (.tm 15)),
 RM 2 17 16,
 GQ 3 18 (.load 5 true (.tm 3)) 17 true,
 GQ 4 19 (.move (.tm 0)) 17 true,
 GQ 5 20 (.move (.tm 7)) 17 true,
 GQ 6 21 (.idx 5 (.tm 19) (.tm 20)) 17 true,
 GQ 7 22 (.load 5 true (.tm 21)) 17 true,
 GQ 8 23 (.call aKL [(.tm 18),(.tm 22)]) 17 true,
 rq 9 24 (.pick (.tm 17) (.tm 23) (.kv (.bool false)))] 10 [0,3,5,6,7,24])
 (.cond (.tm 24)
 (.seq (.region [RM 0 25 5,
 rq 1 26 (.load 5 true (.tm 3)),
 rq 2 27 (.bC 5 1 [VZ,VZ,VZ,VZ,OZ] [(0,5,(.tm 26))]),
 rq 3 28 (.append 5 (.tm 25) (.tm 27)),
 RM 4 5 28] 5 [0,3,5,7])
 (.region [rq 0 6 (.move (.kv (.bool true)))] 1 [0,3,5,6,7]))
 .skip))
 (.region [RM 0 29 5,
 RM 1 30 0,
 RM 2 31 7,
 rq 3 32 (.idx 5 (.tm 30) (.tm 31)),
 rq 4 33 (.load 5 true (.tm 32)),
 rq 5 34 (.bC 5 1 [VZ,VZ,VZ,VZ,OZ] [(0,5,(.tm 33))]),
 rq 6 35 (.append 5 (.tm 29) (.tm 34)),
 RM 7 5 35] 8 [0,3,5,6,7])))
 (.region [RM 0 13 7,
 rq 1 14 (.bin .add (.tm 13) (ki 1)),
 RM 2 7 14] 3 [0,3,5,6,7]))))))
 (.seq (.seq (.region [RM 0 36 6,
 rq 1 37 (.un .not (.tm 36))] 2 [3,5,37])
 (.cond (.tm 37)
 (.region [RM 0 38 5,
 rq 1 39 (.load 5 true (.tm 3)),
 rq 2 40 (.bC 5 1 [VZ,VZ,VZ,VZ,OZ] [(0,5,(.tm 39))]),
 rq 3 41 (.append 5 (.tm 38) (.tm 40)),
 RM 4 5 41] 5 [5])
 .skip))
 (.seq (.region [RM 0 42 5,
 RM 1 4 42] 2 [4])
 .ret))))))
def aR9:List Cert:=[⟨[],[0,3]⟩,⟨[],[0,3,5]⟩,⟨[],[0,3,5,6]⟩,⟨[],[0,3,5,6,7]⟩,⟨[],[0,3,5,6,7,12]⟩,⟨[cz 0,cz 1,cz 2,cz 3,cz 4,cz 5,cz 6,cz 7,cz 8,cz 9],[0,3,5,6,7,24]⟩,⟨[],[0,3,5,7]⟩,⟨[],[0,3,5,6,7]⟩,⟨[],[0,3,5,6,7]⟩,⟨[],[0,3,5,6,7]⟩,⟨[],[3,5,37]⟩,⟨[],[5]⟩,⟨[],[4]⟩]
def aO7:List aW:=[.tm 4]
theorem aSI:aO Tryz.prog Tryz.f153 aR9=some (aN3,aO7):=by kernel_rfl
theorem aSO:aN Tryz.prog aJS Tryz.f153 aN3 aO7:=
 aN.mk Tryz.func153 (by kernel_rfl) aSI
def aJH:AC:=
 (.seq (.region [rq 0 1 (.box true (.tm 0)),
 rq 1 2 (.alloc [OZ,OZ])] 2 [1,2])
 (.seq (.region [RF 0 3 0 1,
 ⟨1,(some 4),.load 1 true (.tm 3),none,[3],[],false⟩,
 rq 3 6 (.bC 1 0 [VZ] []),
 RF 4 7 1 1,
 ⟨5,(some 8),.load 1 false (.tm 7),none,[3],[],true⟩,
 ⟨2,(some 5),.call aIW [(.tm 4)],none,[3],[5],false⟩,
 rq 6 9 (.append 1 (.tm 6) (.tm 8)),
 rq 7 10 (.build [OZ,OZ] [(0,1,(.tm 5)),(1,1,(.tm 9))]),
 rn 8 (.store 2 true (.tm 2) (.tm 10))] 9 [2])
 .ret))
def aKX:List Cert:=[⟨[],[1,2]⟩,⟨[cz 0,(1,[3],[],false),cz 3,cz 4,(5,[3],[],true),(2,[3],[5],false),cz 6,cz 7,cz 8],[2]⟩]
def aJ4:List aW:=[.cell 2 2 true]
theorem aLG:aO Tryz.prog Tryz.f157 aKX=some (aJH,aJ4):=by kernel_rfl
theorem aKW:aN Tryz.prog aIR Tryz.f157 aJH aJ4:=
 aN.mk Tryz.func157 (by kernel_rfl) aLG
def aJF:AC:=
 (.seq (.region [rq 0 2 (.move (.kv (.slice none 0 0)))] 1 [0])
 (.seq (.region [rq 0 5 (.bC 5 0 [VZ,VZ,VZ,VZ,OZ] []),
 RM 1 3 5] 2 [0,3])
 (.seq (.seq (.region [rq 0 4 (.move (ki 0))] 1 [0,3,4])
 (.block 0
 (.loop
 (.seq (.seq (.region [RM 0 6 4,
 RM 1 7 0,
 rq 2 8 (.len false (.tm 7)),
 rq 3 9 (.bin .lss (.tm 6) (.tm 8))] 4 [0,3,4,9])
 (.cond (.tm 9)
 .skip
 (.exit 0)))
 (.seq (.block 1
 (.region [RM 0 12 3,
 RM 1 13 0,
 RM 2 14 4,
 rq 3 15 (.idx 5 (.tm 13) (.tm 14)),
 RF 4 16 0 15,
 ⟨5,(some 17),.load 1 false (.tm 16),none,[18],[],true⟩,
 RM 6 18 0,
 RM 7 19 4,
 rq 8 20 (.idx 5 (.tm 18) (.tm 19)),
 RF 9 21 1 20,
 ⟨10,(some 22),.load 1 false (.tm 21),none,[18],[],true⟩,
 RM 11 23 0,
 RM 12 24 4,
 rq 13 25 (.idx 5 (.tm 23) (.tm 24)),
 RF 14 26 2 25,
 rq 15 27 (.load 3 true (.tm 26)),
 ⟨16,(some 28),.call aI8 [(.tm 27)],none,[],[5,10],false⟩,
 rq 17 29 (.build [VZ,VZ,VZ,VZ,OZ] [(0,1,(.tm 17)),(1,1,(.tm 22)),(2,3,(.tm 28))]),
 rq 18 30 (.bC 5 1 [VZ,VZ,VZ,VZ,OZ] [(0,5,(.tm 29))]),
 rq 19 31 (.append 5 (.tm 12) (.tm 30)),
 RM 20 3 31] 21 [0,3,4]))
 (.region [RM 0 10 4,
 rq 1 11 (.bin .add (.tm 10) (ki 1)),
 RM 2 4 11] 3 [0,3,4]))))))
 (.seq (.region [RM 0 32 3,
 RM 1 2 32] 2 [2])
 .ret))))
def aLB:List Cert:=[⟨[],[0]⟩,⟨[],[0,3]⟩,⟨[],[0,3,4]⟩,⟨[],[0,3,4,9]⟩,⟨[cz 0,cz 1,cz 2,cz 3,cz 4,(5,[18],[],true),cz 6,cz 7,cz 8,cz 9,(10,[18],[],true),cz 11,cz 12,cz 13,cz 14,cz 15,(16,[],[5,10],false),cz 17,cz 18,cz 19,cz 20],[0,3,4]⟩,⟨[],[0,3,4]⟩,⟨[],[2]⟩]
def aJZ:List aW:=[.tm 2]
theorem aLH:aO Tryz.prog Tryz.f158 aLB=some (aJF,aJZ):=by kernel_rfl
theorem aLL:aN Tryz.prog aIM Tryz.f158 aJF aJZ:=
 aN.mk Tryz.func158 (by kernel_rfl) aLH
def kI:AC:=
 (.seq (.region [rq 0 1 (.box true (.tm 0)),
 rq 1 2 (.alloc [OZ,OZ])] 2 [1,2])
 (.seq (.region [RF 0 3 0 1,
 RF 1 4 0 3,
 RL 2 5 4,
 RF 5 8 1 1,
 ⟨6,(some 9),.load 1 false (.tm 8),none,[],[],true⟩,
 ⟨3,(some 6),.call eX [(.tm 5)],none,[],[6],false⟩,
 rq 4 7 (.build [OZ] [(0,1,(.tm 6))]),
 rq 7 10 (.call eX [(.tm 9)]),
 rq 8 11 (.build [OZ,OZ] [(0,1,(.tm 7)),(1,1,(.tm 10))]),
 rn 9 (.store 2 true (.tm 2) (.tm 11))] 10 [2])
 .ret))
def BQ:List Cert:=[⟨[],[1,2]⟩,⟨[cz 0,cz 1,cz 2,cz 5,(6,[],[],true),(3,[],[6],false),cz 4,cz 7,cz 8,cz 9],[2]⟩]
def pS:List aW:=[.cell 2 2 true]
theorem BE:aO Tryz.prog Tryz.f163 BQ=some (kI,pS):=by kernel_rfl
theorem A9:aN Tryz.prog fL Tryz.f163 kI pS:=
 aN.mk Tryz.func163 (by kernel_rfl) BE
def rI:AC:=
 (.seq (.region [rq 0 2 (.move (.kv (.slice none 0 0)))] 1 [0])
 (.seq (.region [RM 0 3 0,
 rq 1 4 (.call gO [(.tm 3)]),
 rq 2 5 (.call iD [(.tm 4)]),
 RM 3 2 5] 4 [2])
 .ret))
def LQ:List Cert:=[⟨[],[0]⟩,⟨[],[2]⟩]
def zA:List aW:=[.tm 2]
theorem KH:aO Tryz.prog Tryz.f164 LQ=some (rI,zA):=by kernel_rfl
theorem LI:aN Tryz.prog eX Tryz.f164 rI zA:=
 aN.mk Tryz.func164 (by kernel_rfl) KH
def tD:AC:=
 (.seq (.region [rq 0 2 (.move (.kv (.slice none 0 0)))] 1 [0])
 (.seq (.region [RM 0 6 0,
 rq 1 7 (.call gG [(.tm 6)]),
 RM 2 3 7] 3 [3])
 (.seq (.seq (.region [RM 0 8 3,
 rq 1 9 (.len false (.tm 8)),
 rq 2 10 (.move (ki 0))] 3 [3,8,9,10])
 (.block 0
 (.loop
 (.seq (.region [rq 0 11 (.bin .lss (.tm 10) (.tm 9))] 1 [3,8,9,10,11])
 (.seq (.cond (.tm 11)
 .skip
 (.exit 0))
 (.seq (.block 1
 (.seq (.region [RM 0 12 10,
 rq 1 13 (.idx 5 (.tm 8) (.tm 10)),
 rq 2 14 (.load 5 true (.tm 13)),
 rq 3 5 (.alloc [VZ,VZ,VZ,VZ,OZ]),
 RM 4 4 12,
 rn 5 (.store 5 true (.tm 5) (.tm 14))] 6 [3,4,5,8,9,10])
 (.region [RM 0 15 3,
 RM 1 16 4,
 RF 2 17 2 5,
 RF 3 18 2 17,
 RL 4 19 18,
 rq 5 20 (.call eX [(.tm 19)]),
 rq 6 21 (.idx 5 (.tm 15) (.tm 16)),
 RF 7 22 2 21,
 RF 8 23 2 22,
 rn 9 (.store 1 false (.tm 23) (.tm 20))] 10 [3,8,9,10])))
 (.region [rq 0 24 (.bin .add (.tm 10) (ki 1)),
 RM 1 10 24] 2 [3,8,9,10])))))))
 (.seq (.region [RM 0 25 3,
 RM 1 2 25] 2 [2])
 .ret))))
def MF:List Cert:=[⟨[],[0]⟩,⟨[],[3]⟩,⟨[],[3,8,9,10]⟩,⟨[],[3,8,9,10,11]⟩,⟨[],[3,4,5,8,9,10]⟩,⟨[],[3,8,9,10]⟩,⟨[],[3,8,9,10]⟩,⟨[],[2]⟩]
def BL:List aW:=[.tm 2]
theorem MI:aO Tryz.prog Tryz.f165 MF=some (tD,BL):=by kernel_rfl
theorem MD:aN Tryz.prog eO Tryz.f165 tD BL:=
 aN.mk Tryz.func165 (by kernel_rfl) MI
def fX:AC:=
 (.seq (.region [rq 0 4 (.move (.kv (.bool false)))] 1 [0,1])
 (.seq (.region [RM 0 5 0,
 RM 1 6 1,
 rq 2 7 (.call fF [(.tm 5),(.tm 6)]),
 rq 3 8 (.bin .geq (.tm 7) (ki 0)),
 RM 4 4 8] 5 [4])
 .ret))
def sD:List Cert:=[⟨[],[0,1]⟩,⟨[],[4]⟩]
def jY:List aW:=[.tm 4]
theorem rV:aO Tryz.prog Tryz.f190 sD=some (fX,jY):=by kernel_rfl
theorem r8:aN Tryz.prog bN Tryz.f190 fX jY:=
 aN.mk Tryz.func190 (by kernel_rfl) rV
def vK:AC:=
 (.seq (.region [rq 0 2 (.move (.kv (.bool false)))] 1 [0])
 (.seq (.region [RM 0 3 0,
 rq 1 4 (.call cQ [(.tm 3),(ki 0),(ki 3)]),
 rq 2 5 (.un .not (.tm 4)),
 RM 3 2 5] 4 [2])
 .ret))
def OR:List Cert:=[⟨[],[0]⟩,⟨[],[2]⟩]
def DT:List aW:=[.tm 2]
theorem OL:aO Tryz.prog Tryz.f191 OR=some (vK,DT):=by kernel_rfl
theorem PF:aN Tryz.prog qK Tryz.f191 vK DT:=
 aN.mk Tryz.func191 (by kernel_rfl) OL
def dG:AC:=
 (.seq (.region [rq 0 4 (.move (.kv (.bool false)))] 1 [0,1])
 (.seq (.region [RM 0 5 0,
 RM 1 6 1,
 rq 2 7 (.call cT [(.tm 5),(.tm 6)]),
 rq 3 8 (.bin .geq (.tm 7) (ki 0)),
 RM 4 4 8] 5 [4])
 .ret))
def l5:List Cert:=[⟨[],[0,1]⟩,⟨[],[4]⟩]
def gE:List aW:=[.tm 4]
theorem l6:aO Tryz.prog Tryz.f192 l5=some (dG,gE):=by kernel_rfl
theorem l7:aN Tryz.prog cF Tryz.f192 dG gE:=
 aN.mk Tryz.func192 (by kernel_rfl) l6
def u6:AC:=
 (.seq (.region [rq 0 2 (.move (.kv (.bool false)))] 1 [0])
 (.seq (.region [RM 0 3 0,
 rq 1 4 (.len false (.tm 3)),
 rq 2 5 (.bin .gtr (.tm 4) (ki 12)),
 RM 3 6 5,
 GQ 4 7 (.move (.tm 0)) 6 false,
 GQ 5 8 (.call cN [(.tm 7),(.fn nH)]) 6 false,
 rq 6 9 (.pick (.tm 6) (.kv (.bool true)) (.tm 8)),
 RM 7 2 9] 8 [2])
 .ret))
def OE:List Cert:=[⟨[],[0]⟩,⟨[],[2]⟩]
def DW:List aW:=[.tm 2]
theorem OD:aO Tryz.prog Tryz.f193 OE=some (u6,DW):=by kernel_rfl
theorem OS:aN Tryz.prog rR Tryz.f193 u6 DW:=
 aN.mk Tryz.func193 (by kernel_rfl) OD
def dX:AC:=
 (.seq (.region [rq 0 4 (.move (.kv (.bool false)))] 1 [0,1])
 (.seq (.region [RM 0 5 0,
 RM 1 6 1,
 rq 2 7 (.call dC [(.tm 5),(.tm 6)]),
 rq 3 8 (.bin .geq (.tm 7) (ki 0)),
 RM 4 4 8] 5 [4])
 .ret))
def m8:List Cert:=[⟨[],[0,1]⟩,⟨[],[4]⟩]
def gQ:List aW:=[.tm 4]
theorem nA:aO Tryz.prog Tryz.f194 m8=some (dX,gQ):=by kernel_rfl
theorem m7:aN Tryz.prog cN Tryz.f194 dX gQ:=
 aN.mk Tryz.func194 (by kernel_rfl) nA
def rM:AC:=
 (.seq (.region [rq 0 1 (.box true (.tm 0)),
 rq 1 2 (.move (.kv (.bool false)))] 2 [1])
 (.seq (.region [rq 0 3 (.load 7 true (.tm 1)),
 rq 1 4 (.call wD [(.tm 3)]),
 rq 2 5 (.un .not (.tm 4)),
 RM 3 2 5] 4 [2])
 .ret))
def K9:List Cert:=[⟨[],[1]⟩,⟨[],[2]⟩]
def y9:List aW:=[.tm 2]
theorem J8:aO Tryz.prog Tryz.f195 K9=some (rM,y9):=by kernel_rfl
theorem KW:aN Tryz.prog nH Tryz.f195 rM y9:=
 aN.mk Tryz.func195 (by kernel_rfl) J8
def AK:AC:=
 (.seq (.region [rq 0 1 (.box true (.tm 0)),
 rq 1 2 (.move (.kv (.bool false)))] 2 [1])
 (.seq (.region [RF 0 3 0 1,
 RL 1 4 3,
 rq 2 5 (.len false (.tm 4)),
 rq 3 6 (.bin .eql (.tm 5) (ki 64)),
 RM 4 7 6,
 GQ 5 8 (.fld 0 (.tm 1)) 7 true,
 GQ 6 9 (.load 1 false (.tm 8)) 7 true,
 GQ 7 10 (.call jB [(.tm 9)]) 7 true,
 rq 8 11 (.pick (.tm 7) (.tm 10) (.kv (.bool false))),
 RM 9 2 11] 10 [2])
 .ret))
def U7:List Cert:=[⟨[],[1]⟩,⟨[],[2]⟩]
def H8:List aW:=[.tm 2]
theorem T7:aO Tryz.prog Tryz.f196 U7=some (AK,H8):=by kernel_rfl
theorem T3:aN Tryz.prog wP Tryz.f196 AK H8:=
 aN.mk Tryz.func196 (by kernel_rfl) T7
def vO:AC:=
 (.seq (.region [rq 0 2 (.move (.kv (.bool false)))] 1 [0])
 (.seq (.region [RM 0 3 0,
 rq 1 4 (.call cQ [(.tm 3),(.kv (.int .i64 (-1))),(ki 63)]),
 rq 2 5 (.un .not (.tm 4)),
 RM 3 2 5] 4 [2])
 .ret))
def OY:List Cert:=[⟨[],[0]⟩,⟨[],[2]⟩]
def DZ:List aW:=[.tm 2]
theorem OJ:aO Tryz.prog Tryz.f197 OY=some (vO,DZ):=by kernel_rfl
theorem OW:aN Tryz.prog rC Tryz.f197 vO DZ:=
 aN.mk Tryz.func197 (by kernel_rfl) OJ
end Go.Proofs.YtmccpdapaccnoaaGreat
end
section
namespace Go.Proofs.YtmccpdapaccnoaaGreat
open Go Go.AM
set_option maxRecDepth 100000
def rD:AC:=
 (.seq (.region [rq 0 3 (.box true (.tm 0)),
 rq 1 6 (.move (ki 0))] 2 [1,2,3])
 (.seq (.region [RF 0 7 2 3,
 RL 1 8 7,
 RM 2 9 1,
 rq 3 10 (.idx 1 (.tm 8) (.tm 9)),
 RL 4 11 10,
 RM 5 12 2,
 rq 6 13 (.idx 7 (.tm 11) (.tm 12)),
 RF 7 14 0 13,
 RL 8 15 14,
 RM 9 6 15] 10 [6])
 .ret))
def K8:List Cert:=[⟨[],[1,2,3]⟩,⟨[],[6]⟩]
def zC:List aW:=[.tm 6]
theorem KU:aO Tryz.prog Tryz.f198 K8=some (rD,zC):=by kernel_rfl
theorem KX:aN Tryz.prog fB Tryz.f198 rD zC:=
 aN.mk Tryz.func198 (by kernel_rfl) KU
def sZ:AC:=
 (.seq (.region [rq 0 2 (.move (.kv (.bool false)))] 1 [0])
 (.seq (.region [RM 0 3 0,
 rq 1 4 (.call cQ [(.tm 3),(ki 0),(ki 2)]),
 RM 2 2 4] 3 [2])
 .ret))
def MG:List Cert:=[⟨[],[0]⟩,⟨[],[2]⟩]
def A0:List aW:=[.tm 2]
theorem MB:aO Tryz.prog Tryz.f199 MG=some (sZ,A0):=by kernel_rfl
theorem MZ:aN Tryz.prog jA Tryz.f199 sZ A0:=
 aN.mk Tryz.func199 (by kernel_rfl) MB
def z8:AC:=
 (.seq (.region [rq 0 1 (.box true (.tm 0)),
 rq 1 2 (.move (.kv (.bool false)))] 2 [1])
 (.seq (.region [RF 0 3 0 1,
 RL 1 4 3,
 rq 2 5 (.call cQ [(.tm 4),(ki 0),(ki 1)]),
 RM 3 6 5,
 GQ 4 7 (.fld 1 (.tm 1)) 6 true,
 GQ 5 8 (.load 1 false (.tm 7)) 6 true,
 GQ 6 9 (.call cQ [(.tm 8),(ki 1),(ki 4)]) 6 true,
 rq 7 10 (.pick (.tm 6) (.tm 9) (.kv (.bool false))),
 RM 8 11 10,
 GQ 9 12 (.fld 2 (.tm 1)) 11 true,
 GQ 10 13 (.load 1 false (.tm 12)) 11 true,
 GQ 11 14 (.len false (.tm 13)) 11 true,
 GQ 12 15 (.bin .leq (.tm 14) (ki 4)) 11 true,
 rq 13 16 (.pick (.tm 11) (.tm 15) (.kv (.bool false))),
 RM 14 17 16,
 GQ 15 18 (.fld 2 (.tm 1)) 17 true,
 GQ 16 19 (.load 1 false (.tm 18)) 17 true,
 GQ 17 20 (.call jB [(.tm 19)]) 17 true,
 rq 18 21 (.pick (.tm 17) (.tm 20) (.kv (.bool false))),
 RM 19 2 21] 20 [2])
 .ret))
def T2:List Cert:=[⟨[],[1]⟩,⟨[],[2]⟩]
def I0:List aW:=[.tm 2]
theorem VO:aO Tryz.prog Tryz.f202 T2=some (z8,I0):=by kernel_rfl
theorem UX:aN Tryz.prog m6 Tryz.f202 z8 I0:=
 aN.mk Tryz.func202 (by kernel_rfl) VO
def x7:AC:=
 (.seq (.region [rq 0 2 (.move (.kv (.bool false)))] 1 [0])
 (.seq (.seq (.region [rq 0 3 (.move (ki 1))] 1 [0,3])
 (.block 0
 (.loop
 (.seq (.seq (.region [RM 0 4 3,
 RM 1 5 0,
 rq 2 6 (.len false (.tm 5)),
 rq 3 7 (.bin .lss (.tm 4) (.tm 6))] 4 [0,3,7])
 (.cond (.tm 7)
 .skip
 (.exit 0)))
 (.seq (.block 1
 (.seq (.region [RM 0 10 0,
 RM 1 11 3,
 rq 2 12 (.bin .sub (.tm 11) (ki 1)),
 rq 3 13 (.idx 5 (.tm 10) (.tm 12)),
 rq 4 14 (.load 5 true (.tm 13)),
 RM 5 15 0,
 RM 6 16 3,
 rq 7 17 (.idx 5 (.tm 15) (.tm 16)),
 rq 8 18 (.load 5 true (.tm 17)),
 rq 9 19 (.call bJ [(.tm 14),(.tm 18)]),
 rq 10 20 (.bin .geq (.tm 19) (ki 0))] 11 [0,3,20])
 (.cond (.tm 20)
 (.seq (.region [rq 0 2 (.move (.kv (.bool false)))] 1 [2])
 .ret)
 .skip)))
 (.region [RM 0 8 3,
 rq 1 9 (.bin .add (.tm 8) (ki 1)),
 RM 2 3 9] 3 [0,3]))))))
 (.seq (.region [rq 0 2 (.move (.kv (.bool true)))] 1 [2])
 .ret)))
def RQ:List Cert:=[⟨[],[0]⟩,⟨[],[0,3]⟩,⟨[],[0,3,7]⟩,⟨[cz 0,cz 1,cz 2,cz 3,cz 4,cz 5,cz 6,cz 7,cz 8,cz 9,cz 10],[0,3,20]⟩,⟨[],[2]⟩,⟨[],[0,3]⟩,⟨[],[2]⟩]
def FX:List aW:=[.tm 2]
theorem P5:aO Tryz.prog Tryz.f203 RQ=some (x7,FX):=by kernel_rfl
theorem Q2:aN Tryz.prog oI Tryz.f203 x7 FX:=
 aN.mk Tryz.func203 (by kernel_rfl) P5
def nO:AC:=
 (.seq (.region [rq 0 1 (.box true (.tm 0)),
 rq 1 2 (.move (.kv (.bool false)))] 2 [1])
 (.seq (.region [RF 0 3 0 1,
 RL 1 4 3,
 rq 2 5 (.bin .eql (.tm 4) (ki 0)),
 RM 3 6 5,
 GQ 4 7 (.fld 1 (.tm 1)) 6 true,
 GQ 5 8 (.load 1 false (.tm 7)) 6 true,
 GQ 6 9 (.bin .eql (.tm 8) (ki 0)) 6 true,
 rq 7 10 (.pick (.tm 6) (.tm 9) (.kv (.bool false))),
 RM 8 11 10,
 GQ 9 12 (.fld 2 (.tm 1)) 11 true,
 GQ 10 13 (.load 1 false (.tm 12)) 11 true,
 GQ 11 14 (.len false (.tm 13)) 11 true,
 GQ 12 15 (.bin .eql (.tm 14) (ki 0)) 11 true,
 rq 13 16 (.pick (.tm 11) (.tm 15) (.kv (.bool false))),
 RM 14 2 16] 15 [2])
 .ret))
def HS:List Cert:=[⟨[],[1]⟩,⟨[],[2]⟩]
def vS:List aW:=[.tm 2]
theorem HW:aO Tryz.prog Tryz.f204 HS=some (nO,vS):=by kernel_rfl
theorem HU:aN Tryz.prog iT Tryz.f204 nO vS:=
 aN.mk Tryz.func204 (by kernel_rfl) HW
def z6:AC:=
 (.seq (.region [rq 0 2 (.move (ki 0))] 1 [0])
 (.seq (.region [rq 0 3 (.move (ki 0))] 1 [0,3])
 (.seq (.seq (.region [RM 0 6 0,
 rq 1 7 (.len false (.tm 6)),
 rq 2 8 (.move (ki 0))] 3 [3,6,7,8])
 (.block 0
 (.loop
 (.seq (.region [rq 0 9 (.bin .lss (.tm 8) (.tm 7))] 1 [3,6,7,8,9])
 (.seq (.cond (.tm 9)
 .skip
 (.exit 0))
 (.seq (.block 1
 (.seq (.region [rq 0 10 (.idx 1 (.tm 6) (.tm 8)),
 RL 1 11 10,
 RM 2 5 11] 3 [3,5,6,7,8])
 (.seq (.region [RM 0 12 5,
 RM 1 13 3,
 rq 2 14 (.bin .neq (.tm 12) (.tm 13))] 3 [3,5,6,7,8,14])
 (.cond (.tm 14)
 (.seq (.region [RM 0 15 5,
 RM 1 2 15] 2 [2])
 .ret)
 .skip))))
 (.region [rq 0 16 (.bin .add (.tm 8) (ki 1)),
 RM 1 8 16] 2 [3,6,7,8])))))))
 (.seq (.region [RM 0 17 3,
 RM 1 2 17] 2 [2])
 .ret))))
def UF:List Cert:=[⟨[],[0]⟩,⟨[],[0,3]⟩,⟨[],[3,6,7,8]⟩,⟨[],[3,6,7,8,9]⟩,⟨[],[3,5,6,7,8]⟩,⟨[],[3,5,6,7,8,14]⟩,⟨[],[2]⟩,⟨[],[3,6,7,8]⟩,⟨[],[2]⟩]
def IP:List aW:=[.tm 2]
theorem UR:aO Tryz.prog Tryz.f221 UF=some (z6,IP):=by kernel_rfl
theorem T8:aN Tryz.prog wC Tryz.f221 z6 IP:=
 aN.mk Tryz.func221 (by kernel_rfl) UR
def pI:AC:=
 (.seq (.region [rq 0 4 (.move (ki 0))] 1 [0,1])
 (.seq (.region [RM 0 7 0,
 rq 1 8 (.call lG [(.tm 7)]),
 RM 2 5 8] 3 [0,1,5])
 (.seq (.region [RM 0 9 1,
 rq 1 10 (.call lG [(.tm 9)]),
 RM 2 6 10] 3 [0,1,5,6])
 (.seq (.seq (.region [RM 0 11 5] 1 [0,1,6,11])
 (.cond (.tm 11)
 (.seq (.seq (.region [RM 0 12 6] 1 [12])
 (.cond (.tm 12)
 (.seq (.region [rq 0 4 (.move (ki 0))] 1 [4])
 .ret)
 .skip))
 (.seq (.region [rq 0 4 (.move (.kv (.int .i64 (-1))))] 1 [4])
 .ret))
 .skip))
 (.seq (.seq (.region [RM 0 13 6] 1 [0,1,13])
 (.cond (.tm 13)
 (.seq (.region [rq 0 4 (.move (ki 1))] 1 [4])
 .ret)
 .skip))
 (.seq (.seq (.region [RM 0 14 0,
 RM 1 15 1,
 rq 2 16 (.bin .lss (.tm 14) (.tm 15))] 3 [0,1,16])
 (.cond (.tm 16)
 (.seq (.region [rq 0 4 (.move (.kv (.int .i64 (-1))))] 1 [4])
 .ret)
 .skip))
 (.seq (.seq (.region [RM 0 17 0,
 RM 1 18 1,
 rq 2 19 (.bin .gtr (.tm 17) (.tm 18))] 3 [19])
 (.cond (.tm 19)
 (.seq (.region [rq 0 4 (.move (ki 1))] 1 [4])
 .ret)
 .skip))
 (.seq (.region [rq 0 4 (.move (ki 0))] 1 [4])
 .ret))))))))
def JV:List Cert:=[⟨[],[0,1]⟩,⟨[],[0,1,5]⟩,⟨[],[0,1,5,6]⟩,⟨[],[0,1,6,11]⟩,⟨[],[12]⟩,⟨[],[4]⟩,⟨[],[4]⟩,⟨[],[0,1,13]⟩,⟨[],[4]⟩,⟨[],[0,1,16]⟩,⟨[],[4]⟩,⟨[],[19]⟩,⟨[],[4]⟩,⟨[],[4]⟩]
def x5:List aW:=[.tm 4]
theorem JD:aO Tryz.prog Tryz.f222 JV=some (pI,x5):=by kernel_rfl
theorem JR:aN Tryz.prog jC Tryz.f222 pI x5:=
 aN.mk Tryz.func222 (by kernel_rfl) JD
def cY:AC:=
 (.seq (.region [rq 0 4 (.move (.kv (.bool false)))] 1 [0,1])
 (.seq (.region [RM 0 5 0,
 RM 1 6 1,
 rq 2 7 (.call bR [(.tm 5),(.tm 6)]),
 rq 3 8 (.bin .geq (.tm 7) (ki 0)),
 RM 4 4 8] 5 [4])
 .ret))
def lC:List Cert:=[⟨[],[0,1]⟩,⟨[],[4]⟩]
def fT:List aW:=[.tm 4]
theorem lH:aO Tryz.prog Tryz.f223 lC=some (cY,fT):=by kernel_rfl
theorem lF:aN Tryz.prog bX Tryz.f223 cY fT:=
 aN.mk Tryz.func223 (by kernel_rfl) lH
def u3:AC:=
 (.seq (.region [rq 0 2 (.box true (.tm 0)),
 rq 1 3 (.move (.kv (.bool false)))] 2 [1,2])
 (.seq (.region [RF 0 4 0 2,
 RL 1 5 4,
 RF 2 6 1 1,
 RL 3 7 6,
 rq 4 8 (.bin .leq (.tm 5) (.tm 7)),
 RM 5 9 8,
 GQ 6 10 (.fld 0 (.tm 1)) 9 true,
 GQ 7 11 (.load 1 false (.tm 10)) 9 true,
 GQ 8 12 (.fld 1 (.tm 2)) 9 true,
 GQ 9 13 (.load 1 false (.tm 12)) 9 true,
 GQ 10 14 (.bin .leq (.tm 11) (.tm 13)) 9 true,
 rq 11 15 (.pick (.tm 9) (.tm 14) (.kv (.bool false))),
 RM 12 3 15] 13 [3])
 .ret))
def O9:List Cert:=[⟨[],[1,2]⟩,⟨[],[3]⟩]
def DO:List aW:=[.tm 3]
theorem OP:aO Tryz.prog Tryz.f224 O9=some (u3,DO):=by kernel_rfl
theorem N2:aN Tryz.prog rE Tryz.f224 u3 DO:=
 aN.mk Tryz.func224 (by kernel_rfl) OP
def lM:AC:=
 (.seq (.region [rq 0 1 (.box true (.tm 0)),
 rq 1 2 (.move (.kv (.bool false)))] 2 [1])
 (.seq (.region [RF 0 3 1 1,
 RL 1 4 3,
 rq 2 5 (.bin .eql (.tm 4) (ki 2)),
 RM 3 6 5,
 GQ 4 7 (.fld 1 (.tm 1)) 6 false,
 GQ 5 8 (.load 1 false (.tm 7)) 6 false,
 GQ 6 9 (.bin .eql (.tm 8) (ki 4)) 6 false,
 rq 7 10 (.pick (.tm 6) (.kv (.bool true)) (.tm 9)),
 RM 8 2 10] 9 [2])
 .ret))
def D8:List Cert:=[⟨[],[1]⟩,⟨[],[2]⟩]
def sE:List aW:=[.tm 2]
theorem D4:aO Tryz.prog Tryz.f225 D8=some (lM,sE):=by kernel_rfl
theorem EO:aN Tryz.prog eY Tryz.f225 lM sE:=
 aN.mk Tryz.func225 (by kernel_rfl) D4
def sO:AC:=
 (.seq (.region [rq 0 2 (.move (.kv (.bool false)))] 1 [0])
 (.seq (.region [RM 0 3 0,
 rq 1 4 (.call bN [(.tm 3),(.fn lX)]),
 rq 2 5 (.un .not (.tm 4)),
 RM 3 2 5] 4 [2])
 .ret))
def MO:List Cert:=[⟨[],[0]⟩,⟨[],[2]⟩]
def BP:List aW:=[.tm 2]
theorem L9:aO Tryz.prog Tryz.f226 MO=some (sO,BP):=by kernel_rfl
theorem NB:aN Tryz.prog jB Tryz.f226 sO BP:=
 aN.mk Tryz.func226 (by kernel_rfl) L9
def vC:AC:=
 (.seq (.region [rq 0 2 (.move (.kv (.bool false)))] 1 [0])
 (.seq (.region [RM 0 3 0,
 rq 1 4 (.call cQ [(.tm 3),(ki 0),(ki 3)]),
 rq 2 5 (.un .not (.tm 4)),
 RM 3 2 5] 4 [2])
 .ret))
def O1:List Cert:=[⟨[],[0]⟩,⟨[],[2]⟩]
def D3:List aW:=[.tm 2]
theorem N5:aO Tryz.prog Tryz.f227 O1=some (vC,D3):=by kernel_rfl
theorem ON:aN Tryz.prog rT Tryz.f227 vC D3:=
 aN.mk Tryz.func227 (by kernel_rfl) N5
def zZ:AC:=
 (.seq (.region [rq 0 3 (.box true (.tm 1)),
 rq 1 4 (.move (ki 0))] 2 [0,3])
 (.seq (.region [rq 0 5 (.move (.kv (.int .i64 (-1))))] 1 [0,3,5])
 (.seq (.seq (.region [rq 0 9 (.load 7 true (.tm 3)),
 rq 1 10 (.call fP [(.tm 9)]),
 rq 2 11 (.len false (.tm 10)),
 rq 3 12 (.move (ki 0))] 4 [0,5,10,11,12])
 (.block 0
 (.loop
 (.seq (.region [rq 0 13 (.bin .lss (.tm 12) (.tm 11))] 1 [0,5,10,11,12,13])
 (.seq (.cond (.tm 13)
 .skip
 (.exit 0))
 (.seq (.block 1
 (.seq (.region [RM 0 14 12,
 rq 1 15 (.idx 1 (.tm 10) (.tm 12)),
 RL 2 16 15,
 RM 3 6 14,
 RM 4 7 16] 5 [0,5,6,7,10,11,12])
 (.seq (.region [RM 0 17 0,
 RM 1 18 7,
 rq 2 19 (.call qX [(.tm 17),(.tm 18)]),
 RM 3 8 19] 4 [0,5,6,8,10,11,12])
 (.seq (.seq (.region [RM 0 20 8,
 rq 1 21 (.bin .lss (.tm 20) (ki 0)),
 RM 2 22 21,
 GQ 3 23 (.move (.tm 6)) 22 false,
 GQ 4 24 (.bin .gtr (.tm 23) (ki 0)) 22 false,
 GQ 5 25 (.move (.tm 24)) 22 false,
 GQ 6 26 (.move (.tm 8)) 25 true,
 GQ 7 27 (.move (.tm 5)) 25 true,
 GQ 8 28 (.bin .neq (.tm 26) (.tm 27)) 25 true,
 GQ 9 29 (.pick (.tm 25) (.tm 28) (.kv (.bool false))) 22 false,
 rq 10 30 (.pick (.tm 22) (.kv (.bool true)) (.tm 29))] 11 [0,8,10,11,12,30])
 (.cond (.tm 30)
 (.seq (.region [rq 0 4 (.move (.kv (.int .i64 (-1))))] 1 [4])
 .ret)
 .skip))
 (.region [RM 0 31 8,
 RM 1 5 31] 2 [0,5,10,11,12])))))
 (.region [rq 0 32 (.bin .add (.tm 12) (ki 1)),
 RM 1 12 32] 2 [0,5,10,11,12])))))))
 (.seq (.region [RM 0 33 5,
 RM 1 4 33] 2 [4])
 .ret))))
def U8:List Cert:=[⟨[],[0,3]⟩,⟨[],[0,3,5]⟩,⟨[],[0,5,10,11,12]⟩,⟨[],[0,5,10,11,12,13]⟩,⟨[],[0,5,6,7,10,11,12]⟩,⟨[],[0,5,6,8,10,11,12]⟩,⟨[],[0,8,10,11,12,30]⟩,⟨[],[4]⟩,⟨[],[0,5,10,11,12]⟩,⟨[],[0,5,10,11,12]⟩,⟨[],[4]⟩]
def IE:List aW:=[.tm 4]
theorem VF:aO Tryz.prog Tryz.f228 U8=some (zZ,IE):=by kernel_rfl
theorem TU:aN Tryz.prog mZ Tryz.f228 zZ IE:=
 aN.mk Tryz.func228 (by kernel_rfl) VF
def ap2:AC:=
 (.seq (.region [rq 0 2 (.box true (.tm 0)),
 rq 1 3 (.box true (.tm 1)),
 rq 2 4 (.move (.kv (.bool false)))] 3 [2,3])
 (.seq (.region [RF 0 5 0 2,
 RL 1 6 5,
 RF 2 7 0 3,
 RL 3 8 7,
 rq 4 9 (.bin .lss (.tm 6) (.tm 8)),
 RM 5 10 9,
 GQ 6 11 (.fld 0 (.tm 2)) 10 false,
 GQ 7 12 (.load 1 false (.tm 11)) 10 false,
 GQ 8 13 (.fld 0 (.tm 3)) 10 false,
 GQ 9 14 (.load 1 false (.tm 13)) 10 false,
 GQ 10 15 (.bin .eql (.tm 12) (.tm 14)) 10 false,
 GQ 11 16 (.move (.tm 15)) 10 false,
 GQ 12 17 (.fld 1 (.tm 2)) 16 true,
 GQ 13 18 (.load 1 false (.tm 17)) 16 true,
 GQ 14 19 (.fld 1 (.tm 3)) 16 true,
 GQ 15 20 (.load 1 false (.tm 19)) 16 true,
 GQ 16 21 (.bin .lss (.tm 18) (.tm 20)) 16 true,
 GQ 17 22 (.pick (.tm 16) (.tm 21) (.kv (.bool false))) 10 false,
 rq 18 23 (.pick (.tm 10) (.kv (.bool true)) (.tm 22)),
 RM 19 4 23] 20 [4])
 .ret))
def aPO:List Cert:=[⟨[],[2,3]⟩,⟨[],[4]⟩]
def aOC:List aW:=[.tm 4]
theorem aPW:aO Tryz.prog Tryz.f236 aPO=some (ap2,aOC):=by kernel_rfl
theorem aPS:aN Tryz.prog aKL Tryz.f236 ap2 aOC:=
 aN.mk Tryz.func236 (by kernel_rfl) aPW
def aBA:AC:=
 (.seq (.region [rq 0 6 (.move (.kv (.slice none 0 0)))] 1 [0,1,2])
 (.seq (.region [rq 0 10 (.bC 1 0 [VZ] []),
 RM 1 7 10] 2 [0,1,2,7])
 (.seq (.seq (.region [RM 0 11 0,
 RM 1 12 1,
 RM 2 13 2,
 rq 3 14 (.call aA6 [(.tm 11),(.tm 12),(.tm 13)]),
 rq 4 15 (.un .not (.tm 14))] 5 [0,1,2,7,15])
 (.cond (.tm 15)
 (.seq (.region [RM 0 16 7,
 RM 1 6 16] 2 [6])
 .ret)
 .skip))
 (.seq (.region [RM 0 17 0,
 RM 1 18 0,
 RM 2 19 1,
 rq 3 20 (.bin .rem (.tm 18) (.tm 19)),
 rq 4 21 (.bin .sub (.tm 17) (.tm 20)),
 RM 5 8 21] 6 [0,1,2,7,8])
 (.seq (.seq (.region [rq 0 9 (.move (ki 0))] 1 [0,1,2,7,8,9])
 (.block 0
 (.loop
 (.seq (.seq (.region [RM 0 22 9,
 RM 1 23 1,
 rq 2 24 (.bin .lss (.tm 22) (.tm 23))] 3 [0,1,2,7,8,9,24])
 (.cond (.tm 24)
 .skip
 (.exit 0)))
 (.seq (.block 1
 (.seq (.region [RM 0 27 2] 1 [0,1,2,7,8,9,27])
 (.cond (.tm 27)
 (.region [RM 0 28 7,
 RM 1 29 8,
 RM 2 30 0,
 RM 3 31 8,
 rq 4 32 (.bin .sub (.tm 30) (.tm 31)),
 RM 5 33 9,
 rq 6 34 (.bin .add (.tm 32) (.tm 33)),
 RM 7 35 1,
 rq 8 36 (.bin .rem (.tm 34) (.tm 35)),
 rq 9 37 (.bin .add (.tm 29) (.tm 36)),
 rq 10 38 (.bC 1 1 [VZ] [(0,1,(.tm 37))]),
 rq 11 39 (.append 1 (.tm 28) (.tm 38)),
 RM 12 7 39] 13 [0,1,2,7,8,9])
 (.region [RM 0 40 7,
 RM 1 41 0,
 RM 2 42 9,
 rq 3 43 (.bin .add (.tm 41) (.tm 42)),
 rq 4 44 (.bC 1 1 [VZ] [(0,1,(.tm 43))]),
 rq 5 45 (.append 1 (.tm 40) (.tm 44)),
 RM 6 7 45] 7 [0,1,2,7,8,9]))))
 (.region [RM 0 25 9,
 rq 1 26 (.bin .add (.tm 25) (ki 1)),
 RM 2 9 26] 3 [0,1,2,7,8,9]))))))
 (.seq (.region [RM 0 46 7,
 RM 1 6 46] 2 [6])
 .ret))))))
def aCV:List Cert:=[⟨[],[0,1,2]⟩,⟨[],[0,1,2,7]⟩,⟨[],[0,1,2,7,15]⟩,⟨[],[6]⟩,⟨[],[0,1,2,7,8]⟩,⟨[],[0,1,2,7,8,9]⟩,⟨[],[0,1,2,7,8,9,24]⟩,⟨[],[0,1,2,7,8,9,27]⟩,⟨[],[0,1,2,7,8,9]⟩,⟨[],[0,1,2,7,8,9]⟩,⟨[],[0,1,2,7,8,9]⟩,⟨[],[6]⟩]
def aBS:List aW:=[.tm 6]
theorem aCP:aO Tryz.prog Tryz.f237 aCV=some (aBA,aBS):=by kernel_rfl
theorem aCR:aN Tryz.prog aAY Tryz.f237 aBA aBS:=
 aN.mk Tryz.func237 (by kernel_rfl) aCP
def aBD:AC:=
 (.seq (.region [rq 0 4 (.move (ki 0))] 1 [0,1])
 (.seq (.seq (.region [RM 0 7 1,
 rq 1 8 (.len false (.tm 7)),
 rq 2 9 (.bin .eql (.tm 8) (ki 0))] 3 [0,1,9])
 (.cond (.tm 9)
 (.seq (.region [rq 0 4 (.move (.kv (.int .i64 (-1))))] 1 [4])
 .ret)
 .skip))
 (.seq (.region [RM 0 10 0,
 RM 1 11 1,
 rq 2 12 (.idx 1 (.tm 11) (ki 0)),
 RL 3 13 12,
 rq 4 14 (.call aAX [(.tm 10),(.tm 13)]),
 RM 5 5 14] 6 [0,1,5])
 (.seq (.seq (.region [rq 0 6 (.move (ki 1))] 1 [0,1,5,6])
 (.block 0
 (.loop
 (.seq (.seq (.region [RM 0 15 6,
 RM 1 16 1,
 rq 2 17 (.len false (.tm 16)),
 rq 3 18 (.bin .lss (.tm 15) (.tm 17))] 4 [0,1,5,6,18])
 (.cond (.tm 18)
 .skip
 (.exit 0)))
 (.seq (.block 1
 (.seq (.region [RM 0 21 0,
 RM 1 22 1,
 RM 2 23 6,
 rq 3 24 (.idx 1 (.tm 22) (.tm 23)),
 RL 4 25 24,
 rq 5 26 (.call aAX [(.tm 21),(.tm 25)]),
 RM 6 27 5,
 rq 7 28 (.bin .neq (.tm 26) (.tm 27))] 8 [0,1,5,6,28])
 (.cond (.tm 28)
 (.seq (.region [rq 0 4 (.move (.kv (.int .i64 (-1))))] 1 [4])
 .ret)
 .skip)))
 (.region [RM 0 19 6,
 rq 1 20 (.bin .add (.tm 19) (ki 1)),
 RM 2 6 20] 3 [0,1,5,6]))))))
 (.seq (.region [RM 0 29 5,
 RM 1 4 29] 2 [4])
 .ret)))))
def aC7:List Cert:=[⟨[],[0,1]⟩,⟨[],[0,1,9]⟩,⟨[],[4]⟩,⟨[],[0,1,5]⟩,⟨[],[0,1,5,6]⟩,⟨[],[0,1,5,6,18]⟩,⟨[],[0,1,5,6,28]⟩,⟨[],[4]⟩,⟨[],[0,1,5,6]⟩,⟨[],[4]⟩]
def aBX:List aW:=[.tm 4]
theorem aDB:aO Tryz.prog Tryz.f238 aC7=some (aBD,aBX):=by kernel_rfl
theorem aDA:aN Tryz.prog aA4 Tryz.f238 aBD aBX:=
 aN.mk Tryz.func238 (by kernel_rfl) aDB
def aBB:AC:=
 (.seq (.region [rq 0 1 (.box true (.tm 0)),
 rq 1 2 (.move (.kv (.bool false)))] 2 [1])
 (.seq (.region [RF 0 3 1 1,
 RL 1 4 3,
 rq 2 5 (.bin .eql (.tm 4) (ki 2)),
 RM 3 6 5,
 GQ 4 7 (.fld 1 (.tm 1)) 6 false,
 GQ 5 8 (.load 1 false (.tm 7)) 6 false,
 GQ 6 9 (.bin .eql (.tm 8) (ki 4)) 6 false,
 rq 7 10 (.pick (.tm 6) (.kv (.bool true)) (.tm 9)),
 RM 8 2 10] 9 [2])
 .ret))
def aCW:List Cert:=[⟨[],[1]⟩,⟨[],[2]⟩]
def aBR:List aW:=[.tm 2]
theorem aCS:aO Tryz.prog Tryz.f239 aCW=some (aBB,aBR):=by kernel_rfl
theorem aCU:aN Tryz.prog aAZ Tryz.f239 aBB aBR:=
 aN.mk Tryz.func239 (by kernel_rfl) aCS
def aJE:AC:=
 (.seq (.region [rq 0 1 (.box true (.tm 0)),
 rq 1 2 (.alloc [OZ])] 2 [1,2])
 (.seq (.region [rq 0 3 (.bC 1 0 [VZ] []),
 RF 1 4 0 1,
 RL 2 5 4,
 rq 3 6 (.append 1 (.tm 3) (.tm 5)),
 rq 4 7 (.build [OZ] [(0,1,(.tm 6))]),
 rn 5 (.store 1 true (.tm 2) (.tm 7))] 6 [2])
 .ret))
def aKS:List Cert:=[⟨[],[1,2]⟩,⟨[],[2]⟩]
def aJ3:List aW:=[.cell 2 1 true]
theorem aK8:aO Tryz.prog Tryz.f243 aKS=some (aJE,aJ3):=by kernel_rfl
theorem aKY:aN Tryz.prog aIW Tryz.f243 aJE aJ3:=
 aN.mk Tryz.func243 (by kernel_rfl) aK8
def aJN:AC:=
 (.seq (.region [rq 0 1 (.box true (.tm 0)),
 rq 1 2 (.alloc [VZ,VZ,OZ])] 2 [1,2])
 (.seq (.region [RF 0 3 0 1,
 ⟨1,(some 4),.load 1 false (.tm 3),none,[4],[],true⟩,
 RF 2 5 1 1,
 ⟨3,(some 6),.load 1 false (.tm 5),none,[4],[],true⟩,
 rq 4 7 (.bC 1 0 [VZ] []),
 RF 5 8 2 1,
 ⟨6,(some 9),.load 1 false (.tm 8),none,[4],[],false⟩,
 ⟨7,(some 10),.append 1 (.tm 7) (.tm 9),none,[],[1,3],false⟩,
 rq 8 11 (.build [VZ,VZ,OZ] [(0,1,(.tm 4)),(1,1,(.tm 6)),(2,1,(.tm 10))]),
 rn 9 (.store 3 true (.tm 2) (.tm 11))] 10 [2])
 .ret))
def aMC:List Cert:=[⟨[],[1,2]⟩,⟨[cz 0,(1,[4],[],true),cz 2,(3,[4],[],true),cz 4,cz 5,(6,[4],[],false),(7,[],[1,3],false),cz 8,cz 9],[2]⟩]
def aJ5:List aW:=[.cell 2 3 true]
theorem aL4:aO Tryz.prog Tryz.f244 aMC=some (aJN,aJ5):=by kernel_rfl
theorem aLO:aN Tryz.prog aI8 Tryz.f244 aJN aJ5:=
 aN.mk Tryz.func244 (by kernel_rfl) aL4
def kB:AC:=
 (.seq (.region [rq 0 2 (.move (.kv (.slice none 0 0)))] 1 [0])
 (.seq (.region [RM 0 3 0,
 RM 1 4 0,
 rq 2 5 (.len false (.tm 4)),
 RM 3 6 0,
 rq 4 7 (.len false (.tm 6)),
 rq 5 8 (.slc 1 (.tm 3) none (some (.tm 5)) (some (.tm 7))),
 RM 6 2 8] 7 [2])
 .ret))
def A7:List Cert:=[⟨[],[0]⟩,⟨[],[2]⟩]
def pX:List aW:=[.tm 2]
theorem A6:aO Tryz.prog Tryz.f247 A7=some (kB,pX):=by kernel_rfl
theorem BK:aN Tryz.prog iD Tryz.f247 kB pX:=
 aN.mk Tryz.func247 (by kernel_rfl) A6
def jL:AC:=
 (.seq (.region [rq 0 2 (.move (.kv (.slice none 0 0)))] 1 [0])
 (.seq (.seq (.region [RM 0 3 0,
 rq 1 4 (.xop (.qJ false) [(.tm 3)])] 2 [0,4])
 (.cond (.tm 4)
 (.seq (.region [rq 0 2 (.move (.kv (.slice none 0 0)))] 1 [2])
 .ret)
 .skip))
 (.seq (.region [rq 0 5 (.bC 1 0 [VZ] []),
 RM 1 6 0,
 rq 2 7 (.append 1 (.tm 5) (.tm 6)),
 RM 3 2 7] 4 [2])
 .ret)))
def zK:List Cert:=[⟨[],[0]⟩,⟨[],[0,4]⟩,⟨[],[2]⟩,⟨[],[2]⟩]
def n7:List aW:=[.tm 2]
theorem AB:aO Tryz.prog Tryz.f248 zK=some (jL,n7):=by kernel_rfl
theorem zU:aN Tryz.prog gO Tryz.f248 jL n7:=
 aN.mk Tryz.func248 (by kernel_rfl) AB
def i6:AC:=
 (.seq (.region [rq 0 2 (.move (.kv (.slice none 0 0)))] 1 [0])
 (.seq (.region [RM 0 3 0,
 rq 1 4 (.call eG [(.tm 3)]),
 rq 2 5 (.call eS [(.tm 4)]),
 RM 3 2 5] 4 [2])
 .ret))
def yU:List Cert:=[⟨[],[0]⟩,⟨[],[2]⟩]
def nL:List aW:=[.tm 2]
theorem yR:aO Tryz.prog Tryz.f249 yU=some (i6,nL):=by kernel_rfl
theorem yQ:aN Tryz.prog gG Tryz.f249 i6 nL:=
 aN.mk Tryz.func249 (by kernel_rfl) yR
def mQ:AC:=
 (.seq (.region [rq 0 1 (.box true (.tm 0)),
 rq 1 2 (.move (.kv (.slice none 0 0)))] 2 [1])
 (.seq (.region [RF 0 3 2 1,
 RL 1 4 3,
 RF 2 5 3 1,
 RL 3 6 5,
 RF 4 7 4 1,
 RL 5 8 7,
 rq 6 9 (.call oS [(.tm 4),(.tm 6),(.tm 8)]),
 RM 7 2 9] 8 [2])
 .ret))
def FU:List Cert:=[⟨[],[1]⟩,⟨[],[2]⟩]
def uP:List aW:=[.tm 2]
theorem GP:aO Tryz.prog Tryz.f256 FU=some (mQ,uP):=by kernel_rfl
theorem GL:aN Tryz.prog fP Tryz.f256 mQ uP:=
 aN.mk Tryz.func256 (by kernel_rfl) GP
end Go.Proofs.YtmccpdapaccnoaaGreat
end
section
namespace Go.Proofs.YtmccpdapaccnoaaGreat
open Go Go.AM
set_option maxRecDepth 100000
def gX:AC:=
 (.seq (.region [rq 0 4 (.move (ki 0))] 1 [0,1])
 (.seq (.seq (.region [RM 0 6 0,
 rq 1 7 (.len false (.tm 6)),
 rq 2 8 (.move (ki 0))] 3 [0,1,7,8])
 (.block 0
 (.loop
 (.seq (.region [rq 0 9 (.bin .lss (.tm 8) (.tm 7))] 1 [0,1,7,8,9])
 (.seq (.cond (.tm 9)
 .skip
 (.exit 0))
 (.seq (.block 1
 (.seq (.region [RM 0 10 8,
 RM 1 5 10] 2 [0,1,5,7,8])
 (.seq (.region [RM 0 11 1,
 RM 1 12 0,
 RM 2 13 5,
 rq 3 14 (.idx 1 (.tm 12) (.tm 13)),
 RL 4 15 14,
 rq 5 16 (.t5 (.tm 11) [(.tm 15)])] 6 [0,1,5,7,8,16])
 (.cond (.tm 16)
 (.seq (.region [RM 0 17 5,
 RM 1 4 17] 2 [4])
 .ret)
 .skip))))
 (.region [rq 0 18 (.bin .add (.tm 8) (ki 1)),
 RM 1 8 18] 2 [0,1,7,8])))))))
 (.seq (.region [rq 0 4 (.move (.kv (.int .i64 (-1))))] 1 [4])
 .ret)))
def vB:List Cert:=[⟨[],[0,1]⟩,⟨[],[0,1,7,8]⟩,⟨[],[0,1,7,8,9]⟩,⟨[],[0,1,5,7,8]⟩,⟨[],[0,1,5,7,8,16]⟩,⟨[],[4]⟩,⟨[],[0,1,7,8]⟩,⟨[],[4]⟩]
def lE:List aW:=[.tm 4]
theorem vL:aO Tryz.prog Tryz.f264 vB=some (gX,lE):=by kernel_rfl
theorem uY:aN Tryz.prog fF Tryz.f264 gX lE:=
 aN.mk Tryz.func264 (by kernel_rfl) vL
def eD:AC:=
 (.seq (.region [rq 0 4 (.move (ki 0))] 1 [0,1])
 (.seq (.seq (.region [RM 0 6 0,
 rq 1 7 (.len false (.tm 6)),
 rq 2 8 (.move (ki 0))] 3 [0,1,7,8])
 (.block 0
 (.loop
 (.seq (.region [rq 0 9 (.bin .lss (.tm 8) (.tm 7))] 1 [0,1,7,8,9])
 (.seq (.cond (.tm 9)
 .skip
 (.exit 0))
 (.seq (.block 1
 (.seq (.region [RM 0 10 8,
 RM 1 5 10] 2 [0,1,5,7,8])
 (.seq (.region [RM 0 11 1,
 RM 1 12 0,
 RM 2 13 5,
 rq 3 14 (.idx 1 (.tm 12) (.tm 13)),
 RL 4 15 14,
 rq 5 16 (.t5 (.tm 11) [(.tm 15)])] 6 [0,1,5,7,8,16])
 (.cond (.tm 16)
 (.seq (.region [RM 0 17 5,
 RM 1 4 17] 2 [4])
 .ret)
 .skip))))
 (.region [rq 0 18 (.bin .add (.tm 8) (ki 1)),
 RM 1 8 18] 2 [0,1,7,8])))))))
 (.seq (.region [rq 0 4 (.move (.kv (.int .i64 (-1))))] 1 [4])
 .ret)))
def nV:List Cert:=[⟨[],[0,1]⟩,⟨[],[0,1,7,8]⟩,⟨[],[0,1,7,8,9]⟩,⟨[],[0,1,5,7,8]⟩,⟨[],[0,1,5,7,8,16]⟩,⟨[],[4]⟩,⟨[],[0,1,7,8]⟩,⟨[],[4]⟩]
def hT:List aW:=[.tm 4]
theorem nQ:aO Tryz.prog Tryz.f265 nV=some (eD,hT):=by kernel_rfl
theorem nU:aN Tryz.prog cT Tryz.f265 eD hT:=
 aN.mk Tryz.func265 (by kernel_rfl) nQ
def eV:AC:=
 (.seq (.region [rq 0 4 (.move (ki 0))] 1 [0,1])
 (.seq (.seq (.region [RM 0 6 0,
 rq 1 7 (.len false (.tm 6)),
 rq 2 8 (.move (ki 0))] 3 [0,1,7,8])
 (.block 0
 (.loop
 (.seq (.region [rq 0 9 (.bin .lss (.tm 8) (.tm 7))] 1 [0,1,7,8,9])
 (.seq (.cond (.tm 9)
 .skip
 (.exit 0))
 (.seq (.block 1
 (.seq (.region [RM 0 10 8,
 RM 1 5 10] 2 [0,1,5,7,8])
 (.seq (.region [RM 0 11 1,
 RM 1 12 0,
 RM 2 13 5,
 rq 3 14 (.idx 7 (.tm 12) (.tm 13)),
 rq 4 15 (.load 7 true (.tm 14)),
 rq 5 16 (.t5 (.tm 11) [(.tm 15)])] 6 [0,1,5,7,8,16])
 (.cond (.tm 16)
 (.seq (.region [RM 0 17 5,
 RM 1 4 17] 2 [4])
 .ret)
 .skip))))
 (.region [rq 0 18 (.bin .add (.tm 8) (ki 1)),
 RM 1 8 18] 2 [0,1,7,8])))))))
 (.seq (.region [rq 0 4 (.move (.kv (.int .i64 (-1))))] 1 [4])
 .ret)))
def pM:List Cert:=[⟨[],[0,1]⟩,⟨[],[0,1,7,8]⟩,⟨[],[0,1,7,8,9]⟩,⟨[],[0,1,5,7,8]⟩,⟨[],[0,1,5,7,8,16]⟩,⟨[],[4]⟩,⟨[],[0,1,7,8]⟩,⟨[],[4]⟩]
def iQ:List aW:=[.tm 4]
theorem pF:aO Tryz.prog Tryz.f266 pM=some (eV,iQ):=by kernel_rfl
theorem pO:aN Tryz.prog dC Tryz.f266 eV iQ:=
 aN.mk Tryz.func266 (by kernel_rfl) pF
def sW:AC:=
 (.seq (.region [rq 0 2 (.move (.kv (.bool false)))] 1 [0])
 (.seq (.region [RM 0 3 0,
 RM 1 4 0,
 rq 2 5 (.bin .neq (.tm 3) (.tm 4)),
 RM 3 2 5] 4 [2])
 .ret))
def NG:List Cert:=[⟨[],[0]⟩,⟨[],[2]⟩]
def A2:List aW:=[.tm 2]
theorem M6:aO Tryz.prog Tryz.f287 NG=some (sW,A2):=by kernel_rfl
theorem MP:aN Tryz.prog lG Tryz.f287 sW A2:=
 aN.mk Tryz.func287 (by kernel_rfl) M6
def dM:AC:=
 (.seq (.region [rq 0 4 (.move (ki 0))] 1 [0,1])
 (.seq (.seq (.region [RM 0 6 0,
 rq 1 7 (.len false (.tm 6)),
 rq 2 8 (.move (ki 0))] 3 [0,1,7,8])
 (.block 0
 (.loop
 (.seq (.region [rq 0 9 (.bin .lss (.tm 8) (.tm 7))] 1 [0,1,7,8,9])
 (.seq (.cond (.tm 9)
 .skip
 (.exit 0))
 (.seq (.block 1
 (.seq (.region [RM 0 10 8,
 RM 1 5 10] 2 [0,1,5,7,8])
 (.seq (.region [RM 0 11 1,
 RM 1 12 0,
 RM 2 13 5,
 rq 3 14 (.idx 4 (.tm 12) (.tm 13)),
 rq 4 15 (.load 4 true (.tm 14)),
 rq 5 16 (.t5 (.tm 11) [(.tm 15)])] 6 [0,1,5,7,8,16])
 (.cond (.tm 16)
 (.seq (.region [RM 0 17 5,
 RM 1 4 17] 2 [4])
 .ret)
 .skip))))
 (.region [rq 0 18 (.bin .add (.tm 8) (ki 1)),
 RM 1 8 18] 2 [0,1,7,8])))))))
 (.seq (.region [rq 0 4 (.move (.kv (.int .i64 (-1))))] 1 [4])
 .ret)))
def mO:List Cert:=[⟨[],[0,1]⟩,⟨[],[0,1,7,8]⟩,⟨[],[0,1,7,8,9]⟩,⟨[],[0,1,5,7,8]⟩,⟨[],[0,1,5,7,8,16]⟩,⟨[],[4]⟩,⟨[],[0,1,7,8]⟩,⟨[],[4]⟩]
def gM:List aW:=[.tm 4]
theorem mU:aO Tryz.prog Tryz.f288 mO=some (dM,gM):=by kernel_rfl
theorem mT:aN Tryz.prog bR Tryz.f288 dM gM:=
 aN.mk Tryz.func288 (by kernel_rfl) mU
def o8:AC:=
 (.seq (.region [rq 0 2 (.move (.kv (.bool false)))] 1 [0])
 (.seq (.region [RM 0 3 0,
 rq 1 4 (.call tR [(.tm 3)]),
 rq 2 5 (.un .not (.tm 4)),
 RM 3 2 5] 4 [2])
 .ret))
def JL:List Cert:=[⟨[],[0]⟩,⟨[],[2]⟩]
def xF:List aW:=[.tm 2]
theorem JH:aO Tryz.prog Tryz.f289 JL=some (o8,xF):=by kernel_rfl
theorem JM:aN Tryz.prog lX Tryz.f289 o8 xF:=
 aN.mk Tryz.func289 (by kernel_rfl) JH
def yN:AC:=
 (.seq (.region [rq 0 2 (.move (.kv (.bool false)))] 1 [0])
 (.seq (.region [RM 0 3 0,
 rq 1 4 (.call cQ [(.tm 3),(ki 0),(ki 65535)]),
 RM 2 2 4] 3 [2])
 .ret))
def R2:List Cert:=[⟨[],[0]⟩,⟨[],[2]⟩]
def FL:List aW:=[.tm 2]
theorem SV:aO Tryz.prog Tryz.f290 R2=some (yN,FL):=by kernel_rfl
theorem QH:aN Tryz.prog tR Tryz.f290 yN FL:=
 aN.mk Tryz.func290 (by kernel_rfl) SV
def u5:AC:=
 (.seq (.region [rq 0 3 (.box false (.tm 1)),
 rq 1 4 (.move (ki 0))] 2 [0,3])
 (.seq (.region [RM 0 5 0,
 rq 1 6 (.xop (.zI nJ) [(.tm 3)]),
 rq 2 7 (.call bR [(.tm 5),(.tm 6)]),
 RM 3 4 7] 4 [4])
 .ret))
def OF:List Cert:=[⟨[],[0,3]⟩,⟨[],[4]⟩]
def DX:List aW:=[.tm 4]
theorem N7:aO Tryz.prog Tryz.f291 OF=some (u5,DX):=by kernel_rfl
theorem O4:aN Tryz.prog qX Tryz.f291 u5 DX:=
 aN.mk Tryz.func291 (by kernel_rfl) N7
def aBN:AC:=
 (.seq (.region [rq 0 6 (.move (.kv (.bool false)))] 1 [0,1,2])
 (.seq (.seq (.region [RM 0 7 0,
 rq 1 8 (.call y2 [(.tm 7),(ki 0),(ki 63)]),
 rq 2 9 (.un .not (.tm 8)),
 RM 3 10 9,
 GQ 4 11 (.move (.tm 1)) 10 false,
 GQ 5 12 (.bin .neq (.tm 11) (ki 1)) 10 false,
 GQ 6 13 (.move (.tm 12)) 10 false,
 GQ 7 14 (.move (.tm 1)) 13 true,
 GQ 8 15 (.bin .neq (.tm 14) (ki 2)) 13 true,
 GQ 9 16 (.pick (.tm 13) (.tm 15) (.kv (.bool false))) 10 false,
 GQ 10 17 (.move (.tm 16)) 10 false,
 GQ 11 18 (.move (.tm 1)) 17 true,
 GQ 12 19 (.bin .neq (.tm 18) (ki 4)) 17 true,
 GQ 13 20 (.pick (.tm 17) (.tm 19) (.kv (.bool false))) 10 false,
 rq 14 21 (.pick (.tm 10) (.kv (.bool true)) (.tm 20))] 15 [0,1,2,21])
 (.cond (.tm 21)
 (.seq (.region [rq 0 6 (.move (.kv (.bool false)))] 1 [6])
 .ret)
 .skip))
 (.seq (.region [RM 0 22 2,
 RM 1 23 22,
 GQ 2 24 (.move (.tm 0)) 23 false,
 GQ 3 25 (.move (.tm 1)) 23 false,
 GQ 4 26 (.bin .add (.tm 24) (.tm 25)) 23 false,
 GQ 5 27 (.bin .sub (.tm 26) (ki 1)) 23 false,
 GQ 6 28 (.bin .leq (.tm 27) (ki 63)) 23 false,
 rq 7 29 (.pick (.tm 23) (.kv (.bool true)) (.tm 28)),
 RM 8 6 29] 9 [6])
 .ret)))
def aDT:List Cert:=[⟨[],[0,1,2]⟩,⟨[],[0,1,2,21]⟩,⟨[],[6]⟩,⟨[],[6]⟩]
def aB2:List aW:=[.tm 6]
theorem aDS:aO Tryz.prog Tryz.f295 aDT=some (aBN,aB2):=by kernel_rfl
theorem aDX:aN Tryz.prog aA6 Tryz.f295 aBN aB2:=
 aN.mk Tryz.func295 (by kernel_rfl) aDS
def aBH:AC:=
 (.seq (.region [rq 0 4 (.move (ki 0))] 1 [0,1])
 (.seq (.seq (.region [rq 0 5 (.move (ki 0))] 1 [0,1,5])
 (.block 0
 (.loop
 (.seq (.seq (.region [RM 0 6 5,
 RM 1 7 0,
 rq 2 8 (.len false (.tm 7)),
 rq 3 9 (.bin .lss (.tm 6) (.tm 8))] 4 [0,1,5,9])
 (.cond (.tm 9)
 .skip
 (.exit 0)))
 (.seq (.block 1
 (.seq (.region [RM 0 12 1,
 RM 1 13 0,
 RM 2 14 5,
 rq 3 15 (.idx 4 (.tm 13) (.tm 14)),
 RF 4 16 0 15,
 RL 5 17 16,
 RM 6 18 0,
 RM 7 19 5,
 rq 8 20 (.idx 4 (.tm 18) (.tm 19)),
 RF 9 21 1 20,
 RL 10 22 21,
 rq 11 23 (.call y2 [(.tm 12),(.tm 17),(.tm 22)])] 12 [0,1,5,23])
 (.cond (.tm 23)
 (.seq (.region [RM 0 24 5,
 RM 1 4 24] 2 [4])
 .ret)
 .skip)))
 (.region [RM 0 10 5,
 rq 1 11 (.bin .add (.tm 10) (ki 1)),
 RM 2 5 11] 3 [0,1,5]))))))
 (.seq (.region [rq 0 4 (.move (.kv (.int .i64 (-1))))] 1 [4])
 .ret)))
def aDL:List Cert:=[⟨[],[0,1]⟩,⟨[],[0,1,5]⟩,⟨[],[0,1,5,9]⟩,⟨[cz 0,cz 1,cz 2,cz 3,cz 4,cz 5,cz 6,cz 7,cz 8,cz 9,cz 10,cz 11],[0,1,5,23]⟩,⟨[],[4]⟩,⟨[],[0,1,5]⟩,⟨[],[4]⟩]
def aBZ:List aW:=[.tm 4]
theorem aDF:aO Tryz.prog Tryz.f296 aDL=some (aBH,aBZ):=by kernel_rfl
theorem aDK:aN Tryz.prog aAX Tryz.f296 aBH aBZ:=
 aN.mk Tryz.func296 (by kernel_rfl) aDF
def gI:AC:=
 (.seq (.region [rq 0 2 (.move (.kv (.slice none 0 0)))] 1 [0])
 (.seq (.region [RM 0 3 0,
 RM 1 4 0,
 rq 2 5 (.len false (.tm 4)),
 RM 3 6 0,
 rq 4 7 (.len false (.tm 6)),
 rq 5 8 (.slc 5 (.tm 3) none (some (.tm 5)) (some (.tm 7))),
 RM 6 2 8] 7 [2])
 .ret))
def t9:List Cert:=[⟨[],[0]⟩,⟨[],[2]⟩]
def kU:List aW:=[.tm 2]
theorem uF:aO Tryz.prog Tryz.f298 t9=some (gI,kU):=by kernel_rfl
theorem uU:aN Tryz.prog eS Tryz.f298 gI kU:=
 aN.mk Tryz.func298 (by kernel_rfl) uF
def gC:AC:=
 (.seq (.region [rq 0 2 (.move (.kv (.slice none 0 0)))] 1 [0])
 (.seq (.seq (.region [RM 0 3 0,
 rq 1 4 (.xop (.qJ false) [(.tm 3)])] 2 [0,4])
 (.cond (.tm 4)
 (.seq (.region [rq 0 2 (.move (.kv (.slice none 0 0)))] 1 [2])
 .ret)
 .skip))
 (.seq (.region [rq 0 5 (.bC 5 0 [VZ,VZ,VZ,VZ,OZ] []),
 RM 1 6 0,
 rq 2 7 (.append 5 (.tm 5) (.tm 6)),
 RM 3 2 7] 4 [2])
 .ret)))
def s8:List Cert:=[⟨[],[0]⟩,⟨[],[0,4]⟩,⟨[],[2]⟩,⟨[],[2]⟩]
def kL:List aW:=[.tm 2]
theorem sU:aO Tryz.prog Tryz.f299 s8=some (gC,kL):=by kernel_rfl
theorem s9:aN Tryz.prog eG Tryz.f299 gC kL:=
 aN.mk Tryz.func299 (by kernel_rfl) sU
def s6:AC:=
 (.seq (.region [rq 0 6 (.move (.kv (.slice none 0 0)))] 1 [0,1,2])
 (.seq (.seq (.region [RM 0 9 0,
 RM 1 10 1,
 RM 2 11 2,
 rq 3 12 (.call nI [(.tm 9),(.tm 10),(.tm 11)]),
 rq 4 13 (.un .not (.tm 12))] 5 [0,1,2,13])
 (.cond (.tm 13)
 (.seq (.region [rq 0 6 (.move (.kv (.slice none 0 0)))] 1 [6])
 .ret)
 .skip))
 (.seq (.region [RM 0 14 1,
 rq 1 15 (.kY 1 [VZ] (.tm 14) (.tm 14)),
 RM 2 7 15] 3 [0,1,2,7])
 (.seq (.seq (.region [RM 0 16 7,
 rq 1 17 (.len false (.tm 16)),
 rq 2 18 (.move (ki 0))] 3 [0,1,2,7,17,18])
 (.block 0
 (.loop
 (.seq (.region [rq 0 19 (.bin .lss (.tm 18) (.tm 17))] 1 [0,1,2,7,17,18,19])
 (.seq (.cond (.tm 19)
 .skip
 (.exit 0))
 (.seq (.block 1
 (.seq (.region [RM 0 20 18,
 RM 1 8 20] 2 [0,1,2,7,8,17,18])
 (.seq (.region [RM 0 21 7,
 RM 1 22 8,
 RM 2 23 0,
 RM 3 24 8,
 rq 4 25 (.bin .add (.tm 23) (.tm 24)),
 rq 5 26 (.idx 1 (.tm 21) (.tm 22)),
 rn 6 (.store 1 false (.tm 26) (.tm 25))] 7 [0,1,2,7,8,17,18])
 (.seq (.region [RM 0 27 2] 1 [0,1,2,7,8,17,18,27])
 (.cond (.tm 27)
 (.region [RM 0 28 7,
 RM 1 29 8,
 RM 2 30 0,
 RM 3 31 0,
 RM 4 32 1,
 rq 5 33 (.bin .rem (.tm 31) (.tm 32)),
 rq 6 34 (.bin .sub (.tm 30) (.tm 33)),
 RM 7 35 0,
 RM 8 36 8,
 rq 9 37 (.bin .add (.tm 35) (.tm 36)),
 RM 10 38 1,
 rq 11 39 (.bin .rem (.tm 37) (.tm 38)),
 rq 12 40 (.bin .add (.tm 34) (.tm 39)),
 rq 13 41 (.idx 1 (.tm 28) (.tm 29)),
 rn 14 (.store 1 false (.tm 41) (.tm 40))] 15 [0,1,2,7,17,18])
 .skip)))))
 (.region [rq 0 42 (.bin .add (.tm 18) (ki 1)),
 RM 1 18 42] 2 [0,1,2,7,17,18])))))))
 (.seq (.region [RM 0 43 7,
 RM 1 6 43] 2 [6])
 .ret)))))
def MU:List Cert:=[⟨[],[0,1,2]⟩,⟨[],[0,1,2,13]⟩,⟨[],[6]⟩,⟨[],[0,1,2,7]⟩,⟨[],[0,1,2,7,17,18]⟩,⟨[],[0,1,2,7,17,18,19]⟩,⟨[],[0,1,2,7,8,17,18]⟩,⟨[],[0,1,2,7,8,17,18]⟩,⟨[],[0,1,2,7,8,17,18,27]⟩,⟨[cz 0,cz 1,cz 2,cz 3,cz 4,cz 5,cz 6,cz 7,cz 8,cz 9,cz 10,cz 11,cz 12,cz 13,cz 14],[0,1,2,7,17,18]⟩,⟨[],[0,1,2,7,17,18]⟩,⟨[],[6]⟩]
def BT:List aW:=[.tm 6]
theorem L6:aO Tryz.prog Tryz.f302 MU=some (s6,BT):=by kernel_rfl
theorem M3:aN Tryz.prog oS Tryz.f302 s6 BT:=
 aN.mk Tryz.func302 (by kernel_rfl) L6
def rO:AC:=
 (.seq (.region [rq 0 2 (.box true (.tm 0)),
 rq 1 3 (.move (.kv (.bool false)))] 2 [1,2])
 (.seq (.region [RL 0 4 1,
 RF 1 5 0 2,
 RL 2 6 5,
 RF 3 7 1 2,
 RL 4 8 7,
 rq 5 9 (.call cQ [(.tm 4),(.tm 6),(.tm 8)]),
 RM 6 3 9] 7 [3])
 .ret))
def KZ:List Cert:=[⟨[],[1,2]⟩,⟨[],[3]⟩]
def zB:List aW:=[.tm 3]
theorem J5:aO Tryz.prog Tryz.f311 KZ=some (rO,zB):=by kernel_rfl
theorem J4:aN Tryz.prog nJ Tryz.f311 rO zB:=
 aN.mk Tryz.func311 (by kernel_rfl) J5
end Go.Proofs.YtmccpdapaccnoaaGreat
end
