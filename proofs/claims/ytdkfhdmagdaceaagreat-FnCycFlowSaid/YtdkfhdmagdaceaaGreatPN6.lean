/- Texts laid together by a program: rules, contracts and the walk that leads to the law. -/
import Derived.Test.YtdkfhdmagdaceaaGreatPN3
set_option linter.unusedVariables false
set_option linter.unusedSimpArgs false
set_option linter.unusedSectionVars false
set_option maxRecDepth 100000
set_option maxHeartbeats 8000000
namespace Go.Proofs.YtdkfhdmagdaceaaGreat
open Go Go.AM
def w9:AC:= (boG [dO 4 (.kv (.slice none 0 0))] [0,1] (boG [rq 7 (.build [VZ,VZ,VZ,(.v (.bool false))] [(0,1,(ki 0)),(1,1,(ki 15))]),rq 8 (.build [VZ,VZ,VZ,(.v (.bool false))] [(0,1,(ki 16)),(1,1,(ki 31)),(2,1,(ki 1))]),RM 9 0,f6 10 aD [9,(ki 3)],dI 11 .eql 10 (ki 0),rq 12 (.build [VZ,VZ,VZ,(.v (.bool false))] [(0,1,(ki 32)),(1,1,(ki 47)),(2,1,(ki 2)),(3,1,11)]),rq 13 (.bC 4 3 [VZ,VZ,VZ,(.v (.bool false))] [(0,4,7),(4,4,8),(8,4,12)]),RM 5 13] [0,1,5] (.seq (boG [RM 14 0,f6 15 aD [14,(ki 4)]] [0,1,5,15] (.block 0 (boG [dI 17 .eql 15 (ki 0),RM 16 17] [0,1,5,15,16] (.cond 16 (m2 [rq 18 (.build [VZ,VZ,VZ,(.v (.bool false))] [(0,1,(ki 0)),(1,1,(ki 7))]),rq 19 (.build [VZ,VZ,VZ,(.v (.bool false))] [(0,1,(ki 8)),(1,1,(ki 15)),(2,1,(ki 1))]),RM 20 0,f6 21 aD [20,(ki 3)],rq 22 (.build [VZ,VZ,VZ,(.v (.bool false))] [(0,1,(ki 20)),(1,1,(ki 40)),(2,1,21)]),RM 23 0,f6 24 aD [23,(ki 2)],dI 25 .eql 24 (ki 0),rq 26 (.build [VZ,VZ,VZ,(.v (.bool false))] [(0,1,(ki 41)),(1,1,(ki 63)),(2,1,(ki 2)),(3,1,25)]),rq 27 (.bC 4 4 [VZ,VZ,VZ,(.v (.bool false))] [(0,4,18),(4,4,19),(8,4,22),(12,4,26)]),RM 5 27] [0,1,5]) (boG [dI 29 .eql 15 (ki 1),RM 28 29] [0,1,5,28] (.cond 28 (m2 [RM 30 5,RM 31 0,f6 32 aD [31,(ki 3)],dI 33 .add (ki 1) 32,rq 34 (.slc 4 30 none (some 33) none),RM 5 34] [0,1,5]) .skip)))))) (.seq (boG [RM 35 0,RM 36 1,f6 37 kE [35,36]] [0,5,37] (.cond 37 (boG [RM 38 0,RM 39 5,f1 40 39,f6 41 aD [38,40],RM 6 41] [0,5,6] (boG [RM 42 0,f6 43 aD [42,(ki 4)]] [0,5,6,43] (.block 1 (boG [dI 51 .eql 43 (ki 0),RM 50 51] [0,5,6,43,50] (.cond 50 (m2 [RM 52 5,RM 53 6,RM 54 5,RM 55 6,e0 56 4 54 55,RF 57 1 56,g8 58 57 [8] [] true,dI 59 .add 58 (ki 1),rq 60 (.bC 1 3 [VZ] [(0,1,(.kv (.int .i64 (-1)))),(1,1,59),(2,1,(ki 5))]),RM 61 0,boF 62 (.call aD [61,(ki 3)]) [8] [6] false,e0 63 1 60 62,RL 64 63,e0 65 4 52 53,RF 66 0 65,g0 1 false 66 64] [5]) (boG [dI 68 .eql 43 (ki 1),RM 67 68] [0,5,6,43,67] (.cond 67 (m2 [RM 69 5,RM 70 6,RM 71 5,RM 72 6,e0 73 4 71 72,RF 74 0 73,g8 75 74 [8] [] true,dI 76 .sub 75 (ki 1),rq 77 (.bC 1 3 [VZ] [(0,1,(ki 64)),(1,1,76),(2,1,(ki 40))]),RM 78 0,boF 79 (.call aD [78,(ki 3)]) [8] [6] false,e0 80 1 77 79,RL 81 80,e0 82 4 69 70,RF 83 1 82,g0 1 false 83 81] [5]) (boG [dI 85 .eql 43 (ki 2),RM 84 85] [0,5,6,84] (.cond 84 (m2 [RM 86 5,RM 87 6,rq 88 (.bC 1 2 [VZ] [(0,1,(.kv (.int .i64 (-1)))),(1,1,(ki 3))]),RM 89 0,f6 90 aD [89,(ki 2)],e0 91 1 88 90,RL 92 91,e0 93 4 86 87,RF 94 2 93,g0 1 false 94 92] [5]) (m2 [RM 44 5,rq 45 (.build [VZ,VZ,VZ,(.v (.bool false))] [(0,1,(ki 60)),(1,1,(ki 61))]),rq 46 (.build [VZ,VZ,VZ,(.v (.bool false))] [(0,1,(ki 62)),(1,1,(ki 62))]),rq 47 (.build [VZ,VZ,VZ,(.v (.bool false))] [(0,1,(ki 63)),(1,1,(ki 63))]),rq 48 (.bC 4 3 [VZ,VZ,VZ,(.v (.bool false))] [(0,4,45),(4,4,46),(8,4,47)]),rq 49 (.append 4 44 48),RM 5 49] [5])))))))))) .skip)) (boG [RM 95 5,RM 4 95] [4] .ret)))))
def GO:List aW:=[.tm 4]
theorem TD:aO Tryz.prog Tryz.f220 (bnD w9)=some (w9,GO):=by kernel_rfl
theorem RN:aN Tryz.prog tN Tryz.f220 w9 GO:=aN.mk Tryz.func220 (by kernel_rfl) TD
def aNO:AC:= (boG [f7 0 [OZ,OZ]] [0] (boG [f6 3 v8 [],rq 4 (.build [OZ,OZ] [(0,1,3)]),f7 1 [OZ,OZ],g0 2 true 1 4] [0,1] (.seq (boG [dO 2 (ki 0)] [0,1,2] (.block 0 (.loop (.seq (boG [RM 5 2,dI 6 .lss 5 (ki 6)] [0,1,2,6] (.cond 6 .skip (.exit 0))) (.seq (.block 1 (m2 [RF 9 1 1,RL 10 9,rq 11 (.bC 1 1 [VZ] [(0,1,(.kv (.int .i64 (-1))))]),rq 12 (.append 1 10 11),RF 13 1 1,g0 1 false 13 12] [0,1,2])) (m2 [RM 7 2,dI 8 .add 7 (ki 1),RM 2 8] [0,1,2])))))) (boG [f8 14 2 1,g0 2 true 0 14] [0] .ret))))
def aOU:List aW:=[.cell 0 2 true]
theorem aQF:aO Tryz.prog Tryz.f222 (bnD aNO)=some (aNO,aOU):=by kernel_rfl
theorem aQ1:aN Tryz.prog v7 Tryz.f222 aNO aOU:=aN.mk Tryz.func222 (by kernel_rfl) aQF
def ap2:AC:= (boG [f5 2 0,f5 3 1,dO 4 boD] [2,3] (boG [RF 5 0 2,RL 6 5,RF 7 0 3,RL 8 7,dI 9 .lss 6 8,RM 10 9,g9 11 0 2 10 false,hD 12 11 10 false,g9 13 0 3 10 false,hD 14 13 10 false,hO 15 .eql 12 14 10 false,hG 16 15 10 false,g9 17 1 2 16 true,hD 18 17 16 true,g9 19 1 3 16 true,hD 20 19 16 true,hO 21 .lss 18 20 16 true,GQ 22 (.pick 16 21 boD) 10 false,f3 23 10 boE 22,RM 4 23] [4] .ret))
def aOC:List aW:=[.tm 4]
theorem aPW:aO Tryz.prog Tryz.f227 (bnD ap2)=some (ap2,aOC):=by kernel_rfl
theorem aPS:aN Tryz.prog aKL Tryz.f227 ap2 aOC:=aN.mk Tryz.func227 (by kernel_rfl) aPW
def aBA:AC:= (boG [dO 6 (.kv (.slice none 0 0))] [0,1,2] (boG [rq 10 (.bC 1 0 [VZ] []),RM 7 10] [0,1,2,7] (.seq (boG [RM 11 0,RM 12 1,RM 13 2,f6 14 aA6 [11,12,13],f4 15 14] [0,1,2,7,15] (.cond 15 (boG [RM 16 7,RM 6 16] [6] .ret) .skip)) (boG [RM 17 0,RM 18 0,RM 19 1,dI 20 .rem 18 19,dI 21 .sub 17 20,RM 8 21] [0,1,2,7,8] (.seq (boG [dO 9 (ki 0)] [0,1,2,7,8,9] (.block 0 (.loop (.seq (boG [RM 22 9,RM 23 1,dI 24 .lss 22 23] [0,1,2,7,8,9,24] (.cond 24 .skip (.exit 0))) (.seq (.block 1 (boG [RM 27 2] [0,1,2,7,8,9,27] (.cond 27 (m2 [RM 28 7,RM 29 8,RM 30 0,RM 31 8,dI 32 .sub 30 31,RM 33 9,dI 34 .add 32 33,RM 35 1,dI 36 .rem 34 35,dI 37 .add 29 36,rq 38 (.bC 1 1 [VZ] [(0,1,37)]),rq 39 (.append 1 28 38),RM 7 39] [0,1,2,7,8,9]) (m2 [RM 40 7,RM 41 0,RM 42 9,dI 43 .add 41 42,rq 44 (.bC 1 1 [VZ] [(0,1,43)]),rq 45 (.append 1 40 44),RM 7 45] [0,1,2,7,8,9])))) (m2 [RM 25 9,dI 26 .add 25 (ki 1),RM 9 26] [0,1,2,7,8,9])))))) (boG [RM 46 7,RM 6 46] [6] .ret))))))
def aBS:List aW:=[.tm 6]
theorem aCP:aO Tryz.prog Tryz.f228 (bnD aBA)=some (aBA,aBS):=by kernel_rfl
theorem aCR:aN Tryz.prog aAY Tryz.f228 aBA aBS:=aN.mk Tryz.func228 (by kernel_rfl) aCP
def aBD:AC:= (boG [dO 4 (ki 0)] [0,1] (.seq (boG [RM 7 1,f1 8 7,dI 9 .eql 8 (ki 0)] [0,1,9] (.cond 9 (boG [rq 4 (.move (.kv (.int .i64 (-1))))] [4] .ret) .skip)) (boG [RM 10 0,RM 11 1,e0 12 1 11 (ki 0),RL 13 12,f6 14 aAX [10,13],RM 5 14] [0,1,5] (.seq (boG [dO 6 (ki 1)] [0,1,5,6] (.block 0 (.loop (.seq (boG [RM 15 6,RM 16 1,f1 17 16,dI 18 .lss 15 17] [0,1,5,6,18] (.cond 18 .skip (.exit 0))) (.seq (.block 1 (boG [RM 21 0,RM 22 1,RM 23 6,e0 24 1 22 23,RL 25 24,f6 26 aAX [21,25],RM 27 5,dI 28 .neq 26 27] [0,1,5,6,28] (.cond 28 (boG [rq 4 (.move (.kv (.int .i64 (-1))))] [4] .ret) .skip))) (m2 [RM 19 6,dI 20 .add 19 (ki 1),RM 6 20] [0,1,5,6])))))) (boG [RM 29 5,RM 4 29] [4] .ret)))))
def aBX:List aW:=[.tm 4]
theorem aDB:aO Tryz.prog Tryz.f229 (bnD aBD)=some (aBD,aBX):=by kernel_rfl
theorem aDA:aN Tryz.prog aA4 Tryz.f229 aBD aBX:=aN.mk Tryz.func229 (by kernel_rfl) aDB
def aBB:AC:= (boG [f5 1 0,dO 2 boD] [1] (boG [RF 3 1 1,RL 4 3,dI 5 .eql 4 (ki 2),RM 6 5,g9 7 1 1 6 false,hD 8 7 6 false,hO 9 .eql 8 (ki 4) 6 false,f3 10 6 boE 9,RM 2 10] [2] .ret))
def aBR:List aW:=[.tm 2]
theorem aCS:aO Tryz.prog Tryz.f230 (bnD aBB)=some (aBB,aBR):=by kernel_rfl
theorem aCU:aN Tryz.prog aAZ Tryz.f230 aBB aBR:=aN.mk Tryz.func230 (by kernel_rfl) aCS
def aN4:AC:= (boG [f5 2 0,dO 4 (.kv (.slice none 0 0))] [1,2] (boG [rq 7 (.bC 1 0 [VZ] []),RM 5 7] [1,2,5] (.seq (boG [dO 6 (ki 0)] [1,2,5,6] (.block 0 (.loop (.seq (boG [RM 8 6,RM 9 1,f1 10 9,dI 11 .lss 8 10] [1,2,5,6,11] (.cond 11 .skip (.exit 0))) (.seq (.block 1 (m2 [RM 14 5,RF 15 0 2,RL 16 15,RM 17 1,RM 18 6,e0 19 1 17 18,RL 20 19,e0 21 1 16 20,RL 22 21,rq 23 (.bC 1 1 [VZ] [(0,1,22)]),rq 24 (.append 1 14 23),RM 5 24] [1,2,5,6])) (m2 [RM 12 6,dI 13 .add 12 (ki 1),RM 6 13] [1,2,5,6])))))) (boG [RM 25 5,RM 4 25] [4] .ret))))
def aO3:List aW:=[.tm 4]
theorem aR6:aO Tryz.prog Tryz.f231 (bnD aN4)=some (aN4,aO3):=by kernel_rfl
theorem aR8:aN Tryz.prog W3 Tryz.f231 aN4 aO3:=aN.mk Tryz.func231 (by kernel_rfl) aR6
def aN6:AC:= (boG [f5 4 0,f7 8 [OZ]] [1,2,3,4,8] (.seq (boG [dO 9 (ki 0)] [1,2,3,4,8,9] (.block 0 (.loop (.seq (boG [RM 10 9,RM 11 1,f1 12 11,dI 13 .lss 10 12] [1,2,3,4,8,9,13] (.cond 13 .skip (.exit 0))) (.seq (.block 1 (m2 [RF 16 0 4,g8 17 16 [] [] true,RM 18 1,RM 19 9,e0 20 1 18 19,g8 21 20 [] [] true,RF 22 0 4,RL 23 22,RM 24 1,RM 25 9,e0 26 1 24 25,RL 27 26,e0 28 1 23 27,RL 29 28,RM 30 2,RM 31 9,e0 32 1 30 31,RL 33 32,RM 34 3,RM 35 9,e0 36 1 34 35,RL 37 36,boF 38 (.call aNH [29,33,37]) [] [1,5] false,e0 39 1 17 21,g0 1 false 39 38] [1,2,3,4,8,9])) (m2 [RM 14 9,dI 15 .add 14 (ki 1),RM 9 15] [1,2,3,4,8,9])))))) (boG [f8 40 1 4,g0 1 true 8 40] [8] .ret)))
def aO6:List aW:=[.cell 8 1 true]
theorem aSE:aO Tryz.prog Tryz.f232 (bnD aN6)=some (aN6,aO6):=by kernel_rfl
theorem aRX:aN Tryz.prog H5 Tryz.f232 aN6 aO6:=aN.mk Tryz.func232 (by kernel_rfl) aSE
def aNU:AC:= (boG [f5 2 0,f7 4 [OZ,OZ]] [1,2,4] (.seq (boG [dO 5 (ki 0)] [1,2,4,5] (.block 0 (.loop (.seq (boG [RM 7 5,RF 8 1 2,RL 9 8,f1 10 9,dI 11 .lss 7 10] [1,2,4,5,11] (.cond 11 .skip (.exit 0))) (.seq (.block 1 (boG [dO 6 (ki 0)] [1,2,4,5,6] (.block 2 (.loop (.seq (boG [RM 14 6,RM 15 1,f1 16 15,dI 17 .lss 14 16] [1,2,4,5,6,17] (.cond 17 .skip (.exit 2))) (.seq (.block 3 (boG [RF 20 1 2,RL 21 20,RM 22 5,e0 23 1 21 22,RL 24 23,RM 25 1,RM 26 6,e0 27 1 25 26,RL 28 27,dI 29 .eql 24 28] [1,2,4,5,6,29] (.cond 29 (m2 [RF 30 1 2,RL 31 30,RM 32 5,e0 33 1 31 32,rn (.store 1 false 33 (.kv (.int .i64 (-1))))] [1,2,4,5,6]) .skip))) (m2 [RM 18 6,dI 19 .add 18 (ki 1),RM 6 19] [1,2,4,5,6]))))))) (m2 [RM 12 5,dI 13 .add 12 (ki 1),RM 5 13] [1,2,4,5])))))) (boG [f8 34 2 2,g0 2 true 4 34] [4] .ret)))
def aOK:List aW:=[.cell 4 2 true]
theorem aRS:aO Tryz.prog Tryz.f233 (bnD aNU)=some (aNU,aOK):=by kernel_rfl
theorem aRM:aN Tryz.prog v9 Tryz.f233 aNU aOK:=aN.mk Tryz.func233 (by kernel_rfl) aRS
def aJE:AC:= (boG [f5 1 0,f7 2 [OZ]] [1,2] (boG [rq 3 (.bC 1 0 [VZ] []),RF 4 0 1,RL 5 4,rq 6 (.append 1 3 5),rq 7 (.build [OZ] [(0,1,6)]),g0 1 true 2 7] [2] .ret))
def aJ3:List aW:=[.cell 2 1 true]
theorem aK8:aO Tryz.prog Tryz.f234 (bnD aJE)=some (aJE,aJ3):=by kernel_rfl
theorem aKY:aN Tryz.prog aIW Tryz.f234 aJE aJ3:=aN.mk Tryz.func234 (by kernel_rfl) aK8
def aJN:AC:= (boG [f5 1 0,f7 2 [VZ,VZ,OZ]] [1,2] (boG [RF 3 0 1,g8 4 3 [4] [] true,RF 5 1 1,g8 6 5 [4] [] true,rq 7 (.bC 1 0 [VZ] []),RF 8 2 1,g8 9 8 [4] [] false,boF 10 (.append 1 7 9) [] [1,3] false,rq 11 (.build [VZ,VZ,OZ] [(0,1,4),(1,1,6),(2,1,10)]),g0 3 true 2 11] [2] .ret))
def aJ5:List aW:=[.cell 2 3 true]
theorem aL4:aO Tryz.prog Tryz.f235 (bnD aJN)=some (aJN,aJ5):=by kernel_rfl
theorem aLO:aN Tryz.prog aI8 Tryz.f235 aJN aJ5:=aN.mk Tryz.func235 (by kernel_rfl) aL4
def vK:AC:= (boG [dO 2 boD] [0] (boG [RM 3 0,f6 4 cQ [3,(ki 0),(ki 3)],f4 5 4,RM 2 5] [2] .ret))
def DT:List aW:=[.tm 2]
theorem OL:aO Tryz.prog Tryz.f238 (bnD vK)=some (vK,DT):=by kernel_rfl
theorem PF:aN Tryz.prog qK Tryz.f238 vK DT:=aN.mk Tryz.func238 (by kernel_rfl) OL
def dG:AC:= (boG [dO 4 boD] [0,1] (boG [RM 5 0,RM 6 1,f6 7 cT [5,6],dI 8 .geq 7 (ki 0),RM 4 8] [4] .ret))
def gE:List aW:=[.tm 4]
theorem l6:aO Tryz.prog Tryz.f239 (bnD dG)=some (dG,gE):=by kernel_rfl
theorem l7:aN Tryz.prog cF Tryz.f239 dG gE:=aN.mk Tryz.func239 (by kernel_rfl) l6
def u6:AC:= (boG [dO 2 boD] [0] (boG [RM 3 0,f1 4 3,dI 5 .gtr 4 (ki 12),RM 6 5,hG 7 0 6 false,GQ 8 (.call cN [7,(.fn nH)]) 6 false,f3 9 6 boE 8,RM 2 9] [2] .ret))
def DW:List aW:=[.tm 2]
theorem OD:aO Tryz.prog Tryz.f240 (bnD u6)=some (u6,DW):=by kernel_rfl
theorem OS:aN Tryz.prog rR Tryz.f240 u6 DW:=aN.mk Tryz.func240 (by kernel_rfl) OD
def dX:AC:= (boG [dO 4 boD] [0,1] (boG [RM 5 0,RM 6 1,f6 7 dC [5,6],dI 8 .geq 7 (ki 0),RM 4 8] [4] .ret))
def gQ:List aW:=[.tm 4]
theorem nA:aO Tryz.prog Tryz.f241 (bnD dX)=some (dX,gQ):=by kernel_rfl
theorem m7:aN Tryz.prog cN Tryz.f241 dX gQ:=aN.mk Tryz.func241 (by kernel_rfl) nA
def rM:AC:= (boG [f5 1 0,dO 2 boD] [1] (boG [f8 3 7 1,f6 4 wD [3],f4 5 4,RM 2 5] [2] .ret))
def y9:List aW:=[.tm 2]
theorem J8:aO Tryz.prog Tryz.f242 (bnD rM)=some (rM,y9):=by kernel_rfl
theorem KW:aN Tryz.prog nH Tryz.f242 rM y9:=aN.mk Tryz.func242 (by kernel_rfl) J8
def x7:AC:= (boG [dO 2 boD] [0] (.seq (boG [dO 3 (ki 1)] [0,3] (.block 0 (.loop (.seq (boG [RM 4 3,RM 5 0,f1 6 5,dI 7 .lss 4 6] [0,3,7] (.cond 7 .skip (.exit 0))) (.seq (.block 1 (boG [RM 10 0,RM 11 3,dI 12 .sub 11 (ki 1),e0 13 5 10 12,f8 14 5 13,RM 15 0,RM 16 3,e0 17 5 15 16,f8 18 5 17,f6 19 bJ [14,18],dI 20 .geq 19 (ki 0)] [0,3,20] (.cond 20 (boG [dO 2 boD] [2] .ret) .skip))) (m2 [RM 8 3,dI 9 .add 8 (ki 1),RM 3 9] [0,3])))))) (boG [dO 2 boE] [2] .ret)))
def FX:List aW:=[.tm 2]
theorem P5:aO Tryz.prog Tryz.f243 (bnD x7)=some (x7,FX):=by kernel_rfl
theorem Q2:aN Tryz.prog oI Tryz.f243 x7 FX:=aN.mk Tryz.func243 (by kernel_rfl) P5
def sZ:AC:= (boG [dO 2 boD] [0] (boG [RM 3 0,f6 4 cQ [3,(ki 0),(ki 2)],RM 2 4] [2] .ret))
def A0:List aW:=[.tm 2]
theorem MB:aO Tryz.prog Tryz.f244 (bnD sZ)=some (sZ,A0):=by kernel_rfl
theorem MZ:aN Tryz.prog jA Tryz.f244 sZ A0:=aN.mk Tryz.func244 (by kernel_rfl) MB
def nO:AC:= (boG [f5 1 0,dO 2 boD] [1] (boG [RF 3 0 1,RL 4 3,dI 5 .eql 4 (ki 0),RM 6 5,g9 7 1 1 6 true,hD 8 7 6 true,hO 9 .eql 8 (ki 0) 6 true,f3 10 6 9 boD,RM 11 10,g9 12 2 1 11 true,hD 13 12 11 true,GQ 14 (.len false 13) 11 true,hO 15 .eql 14 (ki 0) 11 true,f3 16 11 15 boD,RM 2 16] [2] .ret))
def vS:List aW:=[.tm 2]
theorem HW:aO Tryz.prog Tryz.f245 (bnD nO)=some (nO,vS):=by kernel_rfl
theorem HU:aN Tryz.prog iT Tryz.f245 nO vS:=aN.mk Tryz.func245 (by kernel_rfl) HW
def z8:AC:= (boG [f5 1 0,dO 2 boD] [1] (boG [RF 3 0 1,RL 4 3,f6 5 cQ [4,(ki 0),(ki 1)],RM 6 5,g9 7 1 1 6 true,hD 8 7 6 true,GQ 9 (.call cQ [8,(ki 1),(ki 4)]) 6 true,f3 10 6 9 boD,RM 11 10,g9 12 2 1 11 true,hD 13 12 11 true,GQ 14 (.len false 13) 11 true,hO 15 .leq 14 (ki 4) 11 true,f3 16 11 15 boD,RM 17 16,g9 18 2 1 17 true,hD 19 18 17 true,GQ 20 (.call jB [19]) 17 true,f3 21 17 20 boD,RM 2 21] [2] .ret))
def I0:List aW:=[.tm 2]
theorem VO:aO Tryz.prog Tryz.f246 (bnD z8)=some (z8,I0):=by kernel_rfl
theorem UX:aN Tryz.prog m6 Tryz.f246 z8 I0:=aN.mk Tryz.func246 (by kernel_rfl) VO
def rD:AC:= (boG [f5 3 0,dO 6 (ki 0)] [1,2,3] (boG [RF 7 2 3,RL 8 7,RM 9 1,e0 10 1 8 9,RL 11 10,RM 12 2,e0 13 7 11 12,RF 14 0 13,RL 15 14,RM 6 15] [6] .ret))
def zC:List aW:=[.tm 6]
theorem KU:aO Tryz.prog Tryz.f247 (bnD rD)=some (rD,zC):=by kernel_rfl
theorem KX:aN Tryz.prog fB Tryz.f247 rD zC:=aN.mk Tryz.func247 (by kernel_rfl) KU
def kB:AC:= (boG [dO 2 (.kv (.slice none 0 0))] [0] (boG [RM 3 0,RM 4 0,f1 5 4,RM 6 0,f1 7 6,rq 8 (.slc 1 3 none (some 5) (some 7)),RM 2 8] [2] .ret))
def pX:List aW:=[.tm 2]
theorem A6:aO Tryz.prog Tryz.f248 (bnD kB)=some (kB,pX):=by kernel_rfl
theorem BK:aN Tryz.prog iD Tryz.f248 kB pX:=aN.mk Tryz.func248 (by kernel_rfl) A6
def jL:AC:= (boG [dO 2 (.kv (.slice none 0 0))] [0] (.seq (boG [RM 3 0,rq 4 (.xop (.qJ false) [3])] [0,4] (.cond 4 (boG [dO 2 (.kv (.slice none 0 0))] [2] .ret) .skip)) (boG [rq 5 (.bC 1 0 [VZ] []),RM 6 0,rq 7 (.append 1 5 6),RM 2 7] [2] .ret)))
def n7:List aW:=[.tm 2]
theorem AB:aO Tryz.prog Tryz.f249 (bnD jL)=some (jL,n7):=by kernel_rfl
theorem zU:aN Tryz.prog gO Tryz.f249 jL n7:=aN.mk Tryz.func249 (by kernel_rfl) AB
def i6:AC:= (boG [dO 2 (.kv (.slice none 0 0))] [0] (boG [RM 3 0,f6 4 eG [3],f6 5 eS [4],RM 2 5] [2] .ret))
def nL:List aW:=[.tm 2]
theorem yR:aO Tryz.prog Tryz.f250 (bnD i6)=some (i6,nL):=by kernel_rfl
theorem yQ:aN Tryz.prog gG Tryz.f250 i6 nL:=aN.mk Tryz.func250 (by kernel_rfl) yR
def CP:AC:= (boG [dO 0 boD] [] (boG [f6 1 nI [(ki 5),(ki 1),boD],RM 0 1] [0] .ret))
def LO:List aW:=[.tm 0]
theorem WZ:aO Tryz.prog Tryz.f33 (bnD CP)=some (CP,LO):=by kernel_rfl
theorem XX:aN Tryz.prog E2 Tryz.f33 CP LO:=aN.mk Tryz.func33 (by kernel_rfl) WZ
def aJB:AC:= (boG [f5 1 0,f7 2 [OZ,OZ,OZ,OZ,OZ,OZ]] [1,2] (.seq (.region [RF 3 0 1 0,boF 4 (.load 2 true 3) [3] [] false 1,rq 6 (.bC 1 0 [VZ] []) 3,RF 7 2 1 4,g8 8 7 [3] [] true 5,RF 10 3 1 7,g8 11 10 [3] [] true 8,RF 13 4 1 10,g8 14 13 [3] [] true 11,RF 16 5 1 13,g8 17 16 [3] [] true 14,boF 5 (.call aIR [4]) [3] [5,8,11,14] false 2,boF 9 (.append 1 6 8) [] [8,11,14] false 6,boF 12 (.call aIM [11]) [] [11,14] false 9,boF 15 (.call aIM [14]) [] [14] false 12,f6 18 aIM [17] 15,rq 19 (.build [OZ,OZ,OZ,OZ,OZ,OZ] [(0,2,5),(2,1,9),(3,1,12),(4,1,15),(5,1,18)]) 16,g0 6 true 2 19 17] 18 [2]) .ret))
def aJW:List aW:=[.cell 2 6 true]
theorem aLD:aO Tryz.prog Tryz.f68 (bnD aJB)=some (aJB,aJW):=by kernel_rfl
def kD:AC:= (boG [f5 1 0,f7 2 [OZ,OZ,OZ,OZ,OZ,OZ]] [1,2] (.seq (.region [RF 3 0 1 0,f8 4 2 3 1,RF 6 2 1 3,g8 7 6 [] [] true 4,RF 9 3 1 6,g8 10 9 [] [] true 7,RF 12 4 1 9,g8 13 12 [] [] true 10,RF 15 5 1 12,g8 16 15 [] [] true 13,boF 5 (.call fL [4]) [] [4,7,10,13] false 2,boF 8 (.call eX [7]) [] [7,10,13] false 5,boF 11 (.call eO [10]) [] [10,13] false 8,boF 14 (.call eO [13]) [] [13] false 11,f6 17 eO [16] 14,rq 18 (.build [OZ,OZ,OZ,OZ,OZ,OZ] [(0,2,5),(2,1,8),(3,1,11),(4,1,14),(5,1,17)]) 15,g0 6 true 2 18 16] 17 [2]) .ret))
def pT:List aW:=[.cell 2 6 true]
theorem A3:aO Tryz.prog Tryz.f75 (bnD kD)=some (kD,pT):=by kernel_rfl
theorem AY:aN Tryz.prog iG Tryz.f75 kD pT:=aN.mk Tryz.func75 (by kernel_rfl) A3
def zQ:AC:= (boG [dO 2 boD] [0] (.seq (boG [RM 5 0,f1 6 5,dO 7 (ki 0)] [0,5,6,7] (.block 0 (.loop (boG [dI 8 .lss 7 6] [0,5,6,7,8] (.seq (.cond 8 .skip (.exit 0)) (.seq (.block 1 (boG [RM 9 7,e0 10 4 5 7,f8 11 4 10,f7 4 [VZ,VZ,VZ,(.v (.bool false))],RM 3 9,g0 4 true 4 11] [0,3,4,5,6,7] (boG [RF 12 0 4,RL 13 12,f6 14 cQ [13,(ki 0),(ki 63)],f4 15 14,RM 16 15,g9 17 1 4 16 false,hD 18 17 16 false,g9 19 0 4 16 false,hD 20 19 16 false,GQ 21 (.call cQ [18,20,(ki 63)]) 16 false,hP 22 21 16 false,f3 23 16 boE 22,RM 24 23,g9 25 2 4 24 false,hD 26 25 24 false,GQ 27 (.call cQ [26,(ki 0),(ki 2)]) 24 false,hP 28 27 24 false,f3 29 24 boE 28,RM 30 29,hG 31 0 30 false,hG 32 3 30 false,GQ 33 (.slc 4 31 none (some 32) none) 30 false,GQ 34 (.xop (.zI rE) [4]) 30 false,GQ 35 (.call bX [33,34]) 30 false,f3 36 30 boE 35] [0,5,6,7,36] (.cond 36 (boG [dO 2 boD] [2] .ret) .skip)))) (m2 [dI 37 .add 7 (ki 1),RM 7 37] [0,5,6,7]))))))) (boG [RM 38 0,f1 39 38,dI 40 .leq 39 (ki 4),RM 2 40] [2] .ret)))
def I5:List aW:=[.tm 2]
theorem VT:aO Tryz.prog Tryz.f105 (bnD zQ)=some (zQ,I5):=by kernel_rfl
theorem VB:aN Tryz.prog wR Tryz.f105 zQ I5:=aN.mk Tryz.func105 (by kernel_rfl) VT
def zP:AC:= (boG [f5 1 0,dO 2 boD] [1] (boG [dO 3 (ki 0)] [1,3] (.seq (boG [f8 4 7 1,f6 5 eY [4]] [1,3,5] (.cond 5 (m2 [RF 6 3 1,RL 7 6,RM 3 7] [1,3]) .skip)) (boG [RF 8 0 1,RL 9 8,f6 10 cQ [9,(ki 0),(ki 1)],RM 11 10,g9 12 1 1 11 true,hD 13 12 11 true,GQ 14 (.call cQ [13,(ki 1),(ki 4)]) 11 true,f3 15 11 14 boD,RM 16 15,g9 17 2 1 16 true,hD 18 17 16 true,g9 19 3 1 16 true,hD 20 19 16 true,g9 21 4 1 16 true,hD 22 21 16 true,GQ 23 (.call nI [18,20,22]) 16 true,f3 24 16 23 boD,RM 25 24,g9 26 5 1 25 true,hD 27 26 25 true,GQ 28 (.len false 27) 25 true,hG 29 3 25 true,hO 30 .eql 28 29 25 true,f3 31 25 30 boD,RM 32 31,g9 33 6 1 32 true,hD 34 33 32 true,GQ 35 (.len false 34) 32 true,hG 36 3 32 true,hO 37 .eql 35 36 32 true,f3 38 32 37 boD,RM 39 38,g9 40 5 1 39 true,hD 41 40 39 true,GQ 42 (.call jB [41]) 39 true,f3 43 39 42 boD,RM 44 43,g9 45 6 1 44 true,hD 46 45 44 true,GQ 47 (.call bN [46,(.fn rT)]) 44 true,hP 48 47 44 true,f3 49 44 48 boD,RM 50 49,g9 51 1 1 50 true,hD 52 51 50 true,hO 53 .eql 52 (ki 1) 50 true,hG 54 53 50 true,g9 55 1 1 54 false,hD 56 55 54 false,hO 57 .eql 56 (ki 2) 54 false,GQ 58 (.pick 54 boE 57) 50 true,hG 59 58 50 true,g9 60 3 1 59 false,hD 61 60 59 false,hO 62 .eql 61 (ki 1) 59 false,GQ 63 (.pick 59 boE 62) 50 true,f3 64 50 63 boD,RM 2 64] [2] .ret))))
def I9:List aW:=[.tm 2]
theorem UO:aO Tryz.prog Tryz.f106 (bnD zP)=some (zP,I9):=by kernel_rfl
theorem VJ:aN Tryz.prog wD Tryz.f106 zP I9:=aN.mk Tryz.func106 (by kernel_rfl) UO
def z5:AC:= (boG [dO 6 boD] [0,1,2] (boG [RM 7 1,dI 8 .eql 7 (ki 1),RM 9 8,hG 10 1 9 false,hO 11 .eql 10 (ki 2) 9 false,f3 12 9 boE 11,RM 13 12,hG 14 1 13 false,hO 15 .eql 14 (ki 4) 13 false,f3 16 13 boE 15,RM 17 16,hG 18 0 17 true,GQ 19 (.call cQ [18,(ki 0),(ki 63)]) 17 true,f3 20 17 19 boD,RM 21 20,hG 22 2 21 true,hG 23 22 21 true,hG 24 0 23 false,hG 25 1 23 false,hO 26 .add 24 25 23 false,hO 27 .sub 26 (ki 1) 23 false,hO 28 .leq 27 (ki 63) 23 false,GQ 29 (.pick 23 boE 28) 21 true,f3 30 21 29 boD,RM 6 30] [6] .ret))
def IN:List aW:=[.tm 6]
theorem VH:aO Tryz.prog Tryz.f108 (bnD z5)=some (z5,IN):=by kernel_rfl
theorem VQ:aN Tryz.prog nI Tryz.f108 z5 IN:=aN.mk Tryz.func108 (by kernel_rfl) VH
def oT:AC:= (boG [dO 2 (.kv (.pointer none))] [0] (.seq (boG [RM 3 0,f1 4 3,dI 5 .gtr 4 (ki 2000)] [0,5] (.cond 5 (m2 [RM 6 0,rq 7 (.slc 1 6 none (some (ki 2000)) none),RM 0 7] [0]) .skip)) (boG [RM 8 0,rq 9 (.build [OZ,VZ] [(0,1,8)]),f5 10 9,RM 2 10] [2] .ret)))
def DN:List aW:=[.tm 2]
theorem OT:aO Tryz.prog Tryz.f109 (bnD oT)=some (oT,DN):=by kernel_rfl
theorem DY:aN Tryz.prog kN Tryz.f109 oT DN:=aN.mk Tryz.func109 (by kernel_rfl) OT
def pG:AC:= (boG [dO 4 (ki 0)] [0,1] (boG [RM 7 0,RM 8 0,RK 9 8,RF 10 1 9,RL 11 10,dI 12 .add 11 (ki 1),RK 13 7,RF 14 1 13,g0 1 false 14 12] [0,1] (.seq (boG [RM 15 1,dI 16 .lss 15 (ki 1),RM 17 16,hG 18 0 17 false,GQ 19 (.tF 18) 17 false,g9 20 0 19 17 false,hD 21 20 17 false,GQ 22 (.len false 21) 17 false,hO 23 .eql 22 (ki 0) 17 false,f3 24 17 boE 23] [0,1,24] (.cond 24 (boG [dO 4 (ki 0)] [4] .ret) .skip)) (boG [RM 25 0,RK 26 25,RF 27 1 26,RL 28 27,dI 29 .sub 28 (ki 1),RM 5 29] [0,1,5] (.seq (boG [RM 30 5,RM 31 0,RK 32 31,RF 33 0 32,RL 34 33,f1 35 34,dI 36 .lss 30 35] [0,1,5,36] (.cond 36 (boG [RM 37 0,RK 38 37,RF 39 0 38,RL 40 39,RM 41 5,e0 42 1 40 41,RL 43 42,rq 44 (.conv .i64 43),RM 45 1,dI 46 .rem 44 45,RM 4 46] [4] .ret) .skip)) (boG [RM 47 0,RK 48 47,RF 49 0 48,RL 50 49,RM 51 5,RM 52 0,RK 53 52,RF 54 0 53,RL 55 54,f1 56 55,dI 57 .rem 51 56,e0 58 1 50 57,RL 59 58,rq 60 (.conv .i64 59),dI 61 .mul 60 (ki 131),RM 62 0,RK 63 62,RF 64 0 63,RL 65 64,RM 66 5,dI 67 .mul 66 (ki 7),dI 68 .add 67 (ki 3),RM 69 0,RK 70 69,RF 71 0 70,RL 72 71,f1 73 72,dI 74 .rem 68 73,e0 75 1 65 74,RL 76 75,rq 77 (.conv .i64 76),dI 78 .mul 77 (ki 1117),dI 79 .add 61 78,RM 80 5,dI 81 .mul 80 (ki 29),dI 82 .add 79 81,RM 83 5,RM 84 0,RK 85 84,RF 86 0 85,RL 87 86,f1 88 87,dI 89 .quo 83 88,dI 90 .mul 89 (ki 53),dI 91 .add 82 90,RM 6 91] [1,6] (boG [RM 92 6,RM 93 6,dI 94 .quo 93 (ki 64),dI 95 .xor 92 94,RM 6 95] [1,6] (boG [RM 96 6,RM 97 1,dI 98 .rem 96 97,RM 4 98] [4] .ret))))))))
def wZ:List aW:=[.tm 4]
theorem JJ:aO Tryz.prog Tryz.f111 (bnD pG)=some (pG,wZ):=by kernel_rfl
theorem JN:aN Tryz.prog aD Tryz.f111 pG wZ:=aN.mk Tryz.func111 (by kernel_rfl) JJ
def rH:AC:= (boG [dO 4 boD] [0,1] (boG [RM 5 1,dI 6 .lss 5 (ki 9000),RM 7 6,hG 8 0 7 true,hG 9 1 7 true,GQ 10 (.call aD [8,9]) 7 true,hG 11 1 7 true,hO 12 .sub 11 (ki 1) 7 true,hO 13 .eql 10 12 7 true,f3 14 7 13 boD,RM 4 14] [4] .ret))
def zF:List aW:=[.tm 4]
theorem KV:aO Tryz.prog Tryz.f127 (bnD rH)=some (rH,zF):=by kernel_rfl
theorem LF:aN Tryz.prog kE Tryz.f127 rH zF:=aN.mk Tryz.func127 (by kernel_rfl) KV
def nP:AC:= (boG [f5 2 0,f5 3 1,dO 4 (ki 0)] [2,3] (.seq (.region [RF 5 0 2 0,RL 6 5 1,RF 7 0 3 2,RL 8 7 3,RF 10 1 2 5,g8 11 10 [10] [] true 6,RF 12 1 3 7,g8 13 12 [10] [] true 8,boF 9 (.call jC [6,8]) [] [6,8] false 4,f6 14 jC [11,13] 9,rq 15 (.bC 1 2 [VZ] [(0,1,9),(1,1,14)]) 10,f6 16 wC [15] 11,RM 4 16 12] 13 [4]) .ret))
def vV:List aW:=[.tm 4]
theorem HE:aO Tryz.prog Tryz.f131 (bnD nP)=some (nP,vV):=by kernel_rfl
theorem HI:aN Tryz.prog bJ Tryz.f131 nP vV:=aN.mk Tryz.func131 (by kernel_rfl) HE
def JX:AC:= (boG [dO 6 boD] [0,1,2] (boG [RM 7 0,RM 8 1,dI 9 .geq 7 8,RM 10 9,hG 11 0 10 true,hG 12 2 10 true,hO 13 .leq 11 12 10 true,f3 14 10 13 boD,RM 6 14] [6] .ret))
def SP:List aW:=[.tm 6]
theorem acJ:aO Tryz.prog Tryz.f138 (bnD JX)=some (JX,SP):=by kernel_rfl
theorem ae0:aN Tryz.prog cQ Tryz.f138 JX SP:=aN.mk Tryz.func138 (by kernel_rfl) acJ
def aBW:AC:= (boG [dO 6 boD] [0,1,2] (boG [RM 7 0,RM 8 1,dI 9 .geq 7 8,RM 10 9,hG 11 0 10 true,hG 12 2 10 true,hO 13 .leq 11 12 10 true,f3 14 10 13 boD,RM 6 14] [6] .ret))
def aCD:List aW:=[.tm 6]
theorem aD3:aO Tryz.prog Tryz.f149 (bnD aBW)=some (aBW,aCD):=by kernel_rfl
theorem aD6:aN Tryz.prog y2 Tryz.f149 aBW aCD:=aN.mk Tryz.func149 (by kernel_rfl) aD3
def aJR:AC:= (boG [dO 6 (ki 0)] [0,1,2] (.seq (boG [dO 7 (ki 0)] [0,1,2,7] (.block 0 (.loop (.seq (boG [RM 8 7,RM 9 0,f1 10 9,dI 11 .lss 8 10] [0,1,2,7,11] (.cond 11 .skip (.exit 0))) (.seq (.block 1 (boG [RM 14 0,RM 15 7,e0 16 5 14 15,RF 17 0 16,RL 18 17,RM 19 1,dI 20 .eql 18 19,RM 21 20,hG 22 0 21 true,hG 23 7 21 true,j0 24 5 22 23 21 true,g9 25 1 24 21 true,hD 26 25 21 true,hG 27 2 21 true,hO 28 .eql 26 27 21 true,f3 29 21 28 boD] [0,1,2,7,29] (.cond 29 (boG [RM 30 7,RM 6 30] [6] .ret) .skip))) (m2 [RM 12 7,dI 13 .add 12 (ki 1),RM 7 13] [0,1,2,7])))))) (boG [rq 6 (.move (.kv (.int .i64 (-1))))] [6] .ret)))
def aKI:List aW:=[.tm 6]
theorem aMV:aO Tryz.prog Tryz.f152 (bnD aJR)=some (aJR,aKI):=by kernel_rfl
theorem aM1:aN Tryz.prog aIN Tryz.f152 aJR aKI:=aN.mk Tryz.func152 (by kernel_rfl) aMV
def aN3:AC:= (boG [f5 3 1,dO 4 (.kv (.slice none 0 0))] [0,3] (boG [rq 8 (.bC 5 0 [VZ,VZ,VZ,VZ,OZ] []),RM 5 8] [0,3,5] (boG [dO 6 boD] [0,3,5,6] (.seq (boG [dO 7 (ki 0)] [0,3,5,6,7] (.block 0 (.loop (.seq (boG [RM 9 7,RM 10 0,f1 11 10,dI 12 .lss 9 11] [0,3,5,6,7,12] (.cond 12 .skip (.exit 0))) (.seq (.block 1 (.seq (boG [RM 15 6,f4 16 15,RM 17 16,GQ 18 (.load 5 true 3) 17 true,hG 19 0 17 true,hG 20 7 17 true,j0 21 5 19 20 17 true,GQ 22 (.load 5 true 21) 17 true,GQ 23 (.call aKL [18,22]) 17 true,f3 24 17 23 boD] [0,3,5,6,7,24] (.cond 24 (boG [RM 25 5,f8 26 5 3,rq 27 (.bC 5 1 [VZ,VZ,VZ,VZ,OZ] [(0,5,26)]),rq 28 (.append 5 25 27),RM 5 28] [0,3,5,7] (m2 [dO 6 boE] [0,3,5,6,7])) .skip)) (m2 [RM 29 5,RM 30 0,RM 31 7,e0 32 5 30 31,f8 33 5 32,rq 34 (.bC 5 1 [VZ,VZ,VZ,VZ,OZ] [(0,5,33)]),rq 35 (.append 5 29 34),RM 5 35] [0,3,5,6,7]))) (m2 [RM 13 7,dI 14 .add 13 (ki 1),RM 7 14] [0,3,5,6,7])))))) (.seq (boG [RM 36 6,f4 37 36] [3,5,37] (.cond 37 (m2 [RM 38 5,f8 39 5 3,rq 40 (.bC 5 1 [VZ,VZ,VZ,VZ,OZ] [(0,5,39)]),rq 41 (.append 5 38 40),RM 5 41] [5]) .skip)) (boG [RM 42 5,RM 4 42] [4] .ret))))))
def aO7:List aW:=[.tm 4]
theorem aSI:aO Tryz.prog Tryz.f153 (bnD aN3)=some (aN3,aO7):=by kernel_rfl
theorem aSO:aN Tryz.prog aJS Tryz.f153 aN3 aO7:=aN.mk Tryz.func153 (by kernel_rfl) aSI
def aOF:AC:= (boG [f5 5 1,f5 7 3,f7 8 [OZ,OZ],f7 9 [VZ,VZ,OZ]] [0,2,5,7,8,9] (boG [RF 14 2 7,RL 15 14,RF 16 3 7,RL 17 16,RF 18 4 7,RL 19 18,f6 20 aAY [15,17,19],RM 10 20] [0,2,5,7,8,9,10] (boG [RM 21 0,RM 22 10,f6 23 aA4 [21,22],RM 11 23] [0,2,5,7,8,9,10,11] (boG [RF 24 0 7,RL 25 24,rq 26 (.build [VZ,VZ,OZ] [(0,1,25),(1,1,(ki 1))]),f7 12 [VZ,VZ,OZ],g0 3 true 12 26] [0,2,5,7,8,9,10,11,12] (.seq (boG [RM 27 11,dI 28 .lss 27 (ki 0)] [0,2,5,7,8,9,10,11,12,28] (.cond 28 (boG [RF 29 1 12,g0 1 false 29 (ki 4)] [5,8,9,12] (boG [f8 30 2 5,boF 31 (.load 3 true 12) [] [] true,dA none (.store 2 true 8 30) none [] [1] false,g0 3 true 9 31] [8,9] .ret)) .skip)) (.seq (boG [f8 32 7 7,f6 33 aAZ [32],RM 34 33,hG 35 0 34 true,hG 36 11 34 true,j0 37 4 35 36 34 true,g9 38 3 37 34 true,hD 39 38 34 true,f3 40 34 39 boD] [2,5,7,8,9,10,12,40] (.cond 40 (boG [RF 41 1 12,g0 1 false 41 (ki 3)] [5,8,9,12] (boG [f8 42 2 5,boF 43 (.load 3 true 12) [] [] true,dA none (.store 2 true 8 42) none [] [1] false,g0 3 true 9 43] [8,9] .ret)) .skip)) (boG [RM 44 2,dI 45 .mul 44 (ki 2),RF 46 0 7,RL 47 46,dI 48 .add 45 47,RM 13 48] [5,7,8,9,10,12,13] (.seq (boG [RF 49 1 7,RL 50 49] [5,7,8,9,10,12,13,50] (.block 0 (boG [dI 64 .eql 50 (ki 1),RM 63 64] [5,7,8,9,10,12,13,50,63] (.cond 63 (m2 [RF 65 0 5,f8 66 1 65,RM 67 10,f6 68 W3 [66,67],RF 69 2 12,g0 1 false 69 68] [5,8,9,12]) (boG [dI 71 .eql 50 (ki 3),RM 70 71] [5,7,8,9,10,12,13,50,70] (.cond 70 (boG [RF 72 0 5,f8 73 1 72,RM 74 10,f6 75 W3 [73,74],RF 76 2 12,g0 1 false 76 75] [5,7,8,9,12,13] (boG [RF 77 1 12,g0 1 false 77 (ki 2)] [5,7,8,9,12,13] (m2 [RF 78 1 5,RL 79 78,RM 80 13,RF 81 2 7,RL 82 81,e0 83 1 79 80,g0 1 false 83 82] [5,8,9,12]))) (boG [dI 85 .eql 50 (ki 4),RM 84 85] [5,7,8,9,10,12,13,84] (.cond 84 (.seq (boG [RF 86 1 5,RL 87 86,RM 88 13,e0 89 1 87 88,RL 90 89,RF 91 2 7,RL 92 91,dI 93 .neq 90 92] [5,7,8,9,10,12,93] (.cond 93 (boG [f8 94 2 5,boF 95 (.load 3 true 12) [] [] true,dA none (.store 2 true 8 94) none [] [1] false,g0 3 true 9 95] [8,9] .ret) .skip)) (boG [RF 96 1 12,g0 1 false 96 (ki 2)] [5,7,8,9,10,12] (boG [RF 97 0 5,f8 98 1 97,RM 99 10,RF 100 5 7,RL 101 100,RF 102 6 7,RL 103 102,f6 104 H5 [98,99,101,103],RF 105 0 5,g0 1 true 105 104] [5,8,9,10,12] (m2 [f8 106 2 5,RM 107 10,f6 108 v9 [106,107],g0 2 true 5 108] [5,8,9,12])))) (boG [RF 51 0 5,f8 52 1 51,RM 53 10,RF 54 5 7,RL 55 54,RF 56 6 7,RL 57 56,f6 58 H5 [52,53,55,57],RF 59 0 5,g0 1 true 59 58] [5,8,9,10,12] (m2 [f8 60 2 5,RM 61 10,f6 62 v9 [60,61],g0 2 true 5 62] [5,8,9,12])))))))))) (boG [f8 109 2 5,boF 110 (.load 3 true 12) [] [] true,dA none (.store 2 true 8 109) none [] [1] false,g0 3 true 9 110] [8,9] .ret)))))))))
def aPI:List aW:=[.cell 8 2 true,.cell 9 3 true]
theorem aS3:aO Tryz.prog Tryz.f155 (bnD aOF)=some (aOF,aPI):=by kernel_rfl
theorem aSX:aN Tryz.prog aN2 Tryz.f155 aOF aPI:=aN.mk Tryz.func155 (by kernel_rfl) aS3
end Go.Proofs.YtdkfhdmagdaceaaGreat
namespace Go.AM
open Go.RowKit
def aaS (e' e:Env):Prop:=∀t,e' t=e t∨e' t= .dead
theorem aaS.refl (e:Env):aaS e e:=fun _=>.inl rfl
theorem ER.le {c:Cf} {T:Nat} {e e':Env} {a:Act} (he:ER c T e a) (h:aaS e' e):ER c T e' a:=by
 refine⟨he.1,he.2.1,fun t=> ?_⟩;rcases h t with b|b;·rw[b];exact he.2.2 t
 ·rw[b];exact trivial
section
variable {P : Program} {T : Nat} {e : Env} {H : aA} {nx : Nat} {Q : AQ}
theorem AWP.le {x:AC} {e':Env} (b:aaS e' e) (h:AWP P T x e' H nx Q):AWP P T x e H nx Q:=fun code hc c a hs he d=>h code hc c a hs (he.le b) d
theorem aM.le {x:AC} {zs:List AC} {e':Env} (a:aaS e' e) (h:aM P T (x::zs) e' H nx Q):aM P T (x::zs) e H nx Q:=AWP.le a h
theorem aB.ofH {f:FuncId} {fn:Func} {code:Code} {ac:AC} {rs:List aW} {cs l:List Cert} {args:List D} {K:D→aA→Nat→Prop}
 (m:qY P f=true) (y:P.funcs[f]?=some fn) (z:fn.body=some code) (hc:compile P fn.ntmps code cs=some (ac,l)) (hr:AJ P fn.results.toList=some rs) (hl:args.length≤fn.ntmps)
 (h: ∀Q:AQ,(∀ex e' H' nx' d,ex= .normal∨ex= .ret→yT H' e' rs=some d→K d H' nx'→Q ex e' H' nx')→AWP P fn.ntmps ac (Env.args 0 args) H nx Q):aB P f args H nx K:=by
 refine⟨m,fun c vs hs A hlen j=> ?_⟩
 apply calls_of_wp y z
 have n:=JA _ _ _ _ hc
 have o:ER c fn.ntmps (Env.args 0 args) {tmps:=vs.toArray++Array.replicate (fn.ntmps-vs.toArray.size) undef,defers:=[]}:=by
  refine⟨by simp;omega,rfl,fun t=> ?_⟩;rw[Env.ML];simp only[bxY,if_true,Nat.sub_zero]
  cases k:args[t]? with
  |none=>exact trivial
  |some d=>have q:t<vs.length:=(by rw[hlen];exact(m3.1 k).1);have p:(vs.toArray++Array.replicate (fn.ntmps-vs.toArray.size) undef).getD t undef=vs[t]:=(by rw[boK,Y6];simp[q]);rw[p];exact j t d _ k (n1 q)
 refine wp_mono (h _ (fun ex e' H' nx' d B C E=>(⟨B,d,C,E⟩:(ex= .normal∨ex= .ret)∧ ∃d,yT H' e' rs=some d∧K d H' nx')) code n c _ hs o A) ?_
 rintro ex a w ⟨F,e',H',nx',c',rfl,rfl,s,G,u,I,J,L,d,M,O⟩
 obtain⟨v,p,k⟩:=aa3 s u hr M
 have e:a.defers=[]∧ ∃v,(results fn a.tmps).run P c'.w= .ok v c'.w∧ ∃x b r g nx',Ending.returned v= .returned x∧b.w=c'.w∧St b g∧Step c H b g∧(∀i,b.N i→c.N i∨(nx≤i∧i<nx'))∧nx≤nx'∧fD b r x∧K r g nx':=⟨u.2.1,v,p,v,c',d,H',nx',rfl,rfl,s,G,I,J,k,O⟩
 rcases L with rfl|rfl
 ·exact e
 ·exact e
def cJ (P:Program) (f:FuncId) (fn:Func) (ac:AC) (rs:List aW):Prop:=
 ∀{args:List D} {H:aA} {nx:Nat} {b:D→aA→Nat→Prop} (_hl:Nat.ble args.length fn.ntmps=true)
  (_h: ∀Q:AQ,(∀ex c H2 a d,ex= .normal∨ex= .ret→yT H2 c rs=some d→b d H2 a→Q ex c H2 a)→aM P fn.ntmps [ac] (Env.args 0 args) H nx Q),aB P f args H nx b
theorem cJ.mk {P:Program} {f:FuncId} {fn:Func} {ac:AC} {rs:List aW} {cs:List Cert}
 (c:P.funcs[f]?=some fn) (a:qY P f=true) (hc:aO P fn cs=some (ac,rs)):cJ P f fn ac rs:=by
 intro args H nx m hl h
 unfold aO at hc
 split at hc
 ·rename_i b d;split at hc;·rename_i e g i j k;simp only[Option.some.injEq,Prod.mk.injEq] at hc;obtain⟨rfl,rfl⟩:=hc;exact aB.ofH a c d j k (boM hl) fun Q l=>(h Q l).run
  ·simp at hc
 ·simp at hc
end
def CvX (F:Nat→Prop) (nx:Nat) (H H':aA):Prop:=∀i o',H' i=some o'→¬F i∧ ∃o,H i=some o∧(o'=o∨CvO H F id nx o' o)
variable{nx:Nat}
theorem MR{c:Cf}{I':Nat→Prop} (k: ∀b,c.I b→I' b) (g: ∀i,c.N i→i<nx){d:D1}{x:Value} (h:Rel c d x):Rel (c.conv nx nx id I') d x:=by
 have j: ∀d x,bY c d x→bY (c.conv nx nx id I') d x:=by
  intro d x h
  cases d<;>simp only[bY] at h ⊢ <;>first
   |exact h.wT k (fun _ _=>rfl)
   |exact⟨h.1,h.2.imp (fun h=>h) fun⟨e,a,l⟩=>⟨e,.inl ⟨g _ a,a⟩,l⟩⟩
   |exact⟨.inl ⟨g _ h.1,h.1⟩,h.2⟩
   |exact h
 cases d with
 |clo f caps=>obtain⟨vs,m,hl,n⟩:=h;exact⟨vs,m,hl,fun i d u e a=>j _ _ (n i d u e a)⟩
 |_=>simp only[Rel] at h ⊢;exact j _ _ h
theorem ac6{c:Cf}{I':Nat→Prop} (j: ∀b,c.I b→I' b) (k: ∀i,c.N i→i<nx){d:D}{x:Value} (h:fD c d x):fD (c.conv nx nx id I') d x:=by
 have l: ∀d x,jZ c d x→jZ (c.conv nx nx id I') d x:=by
  intro d x h
  cases d with
  |c d=>exact MR j k h
  |agg cs=>obtain⟨vs,a,hl,e⟩:=h;exact⟨vs,a,hl,fun i d u f g=>MR j k (e i d u f g)⟩
 cases d with
 |one d=>exact l d x h
 |tup m=>obtain⟨vs,a,hl,e⟩:=h;exact⟨vs,a,hl,fun i d u f g=>l d u (e i d u f g)⟩
 |dead=>trivial
theorem YO{c c0:Cf}{H H0 H':aA}{F:Nat→Prop} (hs:St c H) (a:Step c0 H0 c H) (A: ∀i,c.N i→i<nx) (B:CvX F nx H H'):
 St (c.conv nx nx id (c.frI H F)) H'∧Step c0 H0 (c.conv nx nx id (c.frI H F)) H':=by
 have boT: ∀{i:Nat} {o':bA},H' i=some o'→¬F i∧ ∃o,H i=some o∧o'.n=o.n∧o'.ext=o.ext∧o'.rows.length≤o.rows.length∧(o.n=0→o'.rows=[]→o.rows=[]):=by
  intro i o' h;obtain⟨p,o,e,rfl|g⟩:=B i o' h;·exact⟨p,_,e,rfl,rfl,m5 _,fun _ h=>h⟩
  ·exact⟨p,o,e,g.1,g.2.1,g.2.2.1,g.2.2.2.1⟩
 refine⟨?_,?_⟩
 ·refine {named:= ?_,wf:= ?_,blk:= ?_,cells:= ?_,sep:= ?_,imm:= ?_,old:= ?_};·intro id o' h;obtain⟨_,o,e,_⟩:=boT h;exact .inl ⟨A _ (hs.named _ o e),hs.named _ o e⟩
  ·intro id o' h;obtain⟨_,o,e,rfl|⟨g,w,C,_,P⟩⟩:=B id o' h;·exact hs.wf _ _ e
   ·obtain⟨x,k⟩:=hs.wf _ o e;refine⟨by omega,fun i r hr=> ?_⟩;obtain⟨y,D,Q⟩:=P i r hr;rw[Q.1,k i y D,g]
  ·intro id o' h he;obtain⟨_,o,e,g,w,C,D⟩:=boT h;exact(hs.blk _ o e (by omega)).arW g w fun R=>⟨D R,fun hr=>by rw[hr] at C;exact H4.1 (by simpa using C)⟩
  ·intro id o' i j r d h p e;obtain⟨_,o,k,rfl|⟨m,E,U,_,G⟩⟩:=B id o' h;·obtain⟨u,J,q⟩:=hs.cells _ _ i j r d k p e;exact⟨u,J,MR (fun b h=>.inl h) A q⟩
   ·obtain⟨y,O,K⟩:=G i r p;have z:j<y.length:=(by rw[←K.1];exact(m3.1 e).1);obtain⟨u,J,q⟩:=hs.cells _ o i j y _ k O (n1 z);refine⟨u,by rw[m];exact J,?_⟩;exact PM hs (fun b h=>.inl h) (fun id o p e g=>.inr ⟨id,o,p,e,g,rfl⟩) (fun _ _=>rfl) (K.2 j d _ e (n1 z)) q
  ·intro i j o o' hi z he S s;obtain⟨_,T,k,m,E,_⟩:=boT hi;obtain⟨_,t,G,O,K,_⟩:=boT z;exact hs.sep i j T t k G (by omega) (by omega) s
  ·intro i o' h he;obtain⟨L,o,e,g,w,_⟩:=boT h;rintro(v|⟨f,t,x,k,m,E⟩);·exact hs.imm _ o e (by omega) v
   ·have s:f≠i:=(by rintro rfl;exact L x);exact hs.sep f i t o k e m (by omega) s E
  ·rintro b (v|⟨f,t,x,k,m,rfl⟩);·exact hs.old b v
   ·exact(hs.blk f t k m).lt
 ·exact {
   ρ:=fun i l=>a.ρ i l
   N:=fun i l=>.inl ⟨A i (a.N i l),a.N i l⟩
   I:=fun b M=>.inl (a.I b M)
   I':=by
    rintro b (v|⟨f,t,x,k,m,rfl⟩);·exact a.I' b v
    ·exact .inr (a.own _ ⟨f,t,k,m,rfl⟩)
   size:=a.size
   os:=a.os
   tape:=a.tape
   output:=a.output
   frame:=a.frame
   own:=by rintro b ⟨id,o',h,he,M⟩;obtain⟨_,o,e,g,w,_⟩:=boT h;exact a.own b ⟨id,o,e,by omega,M⟩}
theorem aK{H:aA}:CvX noF nx H H:=fun _ o h=>⟨fun h=>h,o,h,.inl rfl⟩
theorem aM.gP{P:Program}{T:Nat}{e:Env}{H:aA}{Q:AQ}{x:AC}{zs:List AC}{β:Type} (E:β→Env) (Φ:β→aA→Nat→Prop) (μ:β→Nat) (boW:β) (J: ∃F H1,CvE H F id nx (E boW) e∧CvX F nx H H1∧Φ boW H1 nx)
 (h: ∀b H1 d,nx≤d→Φ b H1 d→∀K:Env→aA→Nat→Prop,(∀e' H' nx' f F H2,d≤nx'→μ f<μ b→CvE H' F id nx' (E f) e'→CvX F nx' H' H2→Φ f H2 nx'→K e' H' nx')→aM P T [x] (E b) H1 d (AQ.then K Q)):aM P T (.loop x::zs) e H nx Q:=by
 intro code hc c a hs he p
 obtain⟨bp6,H0,L,M,O⟩:=J
 have k: ∀{c1:Cf} {H1 H2:aA} {d:Nat} {F:Nat→Prop} {q r:Env} {a:Act},St c1 H1→Step c H c1 H1→(∀i,c1.N i→i<d)→ER c1 T q a→CvE H1 F id d r q→CvX F d H1 H2→
  ∃c2:Cf,c2.w=c1.w∧St c2 H2∧Step c H c2 H2∧ER c2 T r a∧ ∀i,c2.N i→c1.N i:=by
  intro c1 H1 H2 d F q r a D R S s U V
  obtain⟨G,u⟩:=YO D R S V
  refine⟨c1.conv d d id (c1.frI H1 F),rfl,G,u,⟨s.1,s.2.1,fun t=>zD D (fun b h=>.inl h) (fun id o j l m=>.inr ⟨id,o,j,l,m,rfl⟩) (fun _ _=>rfl) (U t) (s.2.2 t)⟩,fun i hi=> ?_⟩
  rcases hi with⟨_,hi⟩|⟨j,l,m⟩
  ·exact hi
  ·omega
 cases hc with
 |loop j=>
  obtain⟨c1,W,X,Y,Z,r5⟩:=k hs (Step.refl c H) p he L M;refine wp_loop_ghost (fun n a w=>∃b c1 H1 d,μ b=n∧c1.w=w∧St c1 H1∧ER c1 T (E b) a∧Step c H c1 H1∧(∀i,c1.N i→c.N i∨(nx≤i∧i<d))∧nx≤d∧Φ b H1 d) (μ boW) ⟨boW,c1,H0,nx,rfl,W,X,Z,Y,fun i hi=>.inl (r5 i hi),m5 _,O⟩ ?_;rintro n a w ⟨b,c1,H1,d,rfl,rfl,j1,j2,v,I,j5,j6⟩;refine wp_mono (h b H1 d j5 j6 (fun e' H' nx'=>∃f F H2,d≤nx'∧μ f<μ b∧CvE H' F id nx' (E f) e'∧CvX F nx' H' H2∧Φ f H2 nx') (fun _ _ _ f F H2 j l m h4 h5=>⟨f,F,H2,j,l,m,h4,h5⟩) _ j c1 a j1 j2 fun i hi=> ?_) fun ex a' w' ⟨y,e',H',nx',c',hp⟩=> ?_
  ·rcases I i hi with h|h;·have:=p i h;omega
   ·omega
  ·obtain⟨rfl,rfl,z,A,B,p4,p5,C⟩:=hp
   have g: ∀i,c'.N i→c.N i∨(nx≤i∧i<nx'):=by
    intro i hi;rcases p4 i hi with h|h
    ·rcases I i h with h|h;·exact .inl h
     ·exact .inr ⟨h.1,by omega⟩
    ·exact .inr ⟨by omega,h.2⟩
   cases y with
   |normal=>obtain⟨f,F,H2,G,u,q3,q4,q5⟩:=C;obtain⟨c2,s1,s2,bp7,bp8,bp9⟩:=k z (v.trans A) (fun i hi=>by rcases g i hi with h|h;have:=p i h;omega;exact h.2) B q3 q4;exact⟨μ f,u,f,c2,H2,nx',rfl,s1,s2,bp8,bp7,fun i hi=>g i (bp9 i hi),by omega,q5⟩
   |exit id=>exact⟨.exit id,e',H',nx',c',rfl,rfl,z,v.trans A,B,g,by omega,C⟩
   |ret=>exact⟨.ret,e',H',nx',c',rfl,rfl,z,v.trans A,B,g,by omega,C⟩
theorem aB.tW {P:Program} {f:FuncId} {args:List D} {H:aA} {nx:Nat} {K:D→aA→Nat→Prop}
 (h:aB P f args H nx fun r H' e=>∃a H2 F,CvD H' F id e a r∧CvX F e H' H2∧K a H2 e):aB P f args H nx K:=by
 refine⟨h.1,fun c vs hs j hl hr=> ?_⟩
 refine(h.2 c vs hs j hl hr).mono ?_
 rintro x C ⟨v,c2,r,H2,d,rfl,rfl,k,q,l,s,t,a,u,F,w,y,z⟩
 have g: ∀i,c2.N i→i<d:=fun i hi=>by
  rcases l i hi with h|h;·have:=j i h;omega
  ·exact h.2
 obtain⟨A,B⟩:=YO k q g y
 refine⟨v,c2.conv d d id (c2.frI H2 F),a,u,d,rfl,rfl,A,B,fun i hi=> ?_,s,zD k (fun b h=>.inl h) (fun id o m n p=>.inr ⟨id,o,m,n,p,rfl⟩) (fun _ _=>rfl) w t,z⟩
 rcases hi with⟨_,hi⟩|⟨m,n,p⟩
 ·exact l i hi
 ·omega
section
variable {P : Program} {T : Nat} {e : Env} {H : aA} {nx : Nat} {Q : AQ}
theorem AWP.tW {x:AC} (e':Env) (H':aA) (F:Nat→Prop) (l: ∀t,e' t=e t∨CvD H F id nx (e' t) (e t)) (m:CvX F nx H H') (h:AWP P T x e' H' nx Q):AWP P T x e H nx Q:=by
 intro code hc c a hs he f;obtain⟨n,p⟩:=YO hs (Step.refl c H) f m;refine wp_mono (h code hc (c.conv nx nx id (c.frI H F)) a n ⟨he.1,he.2.1,fun t=> ?_⟩ fun i hi=> ?_) ?_
 ·rcases l t with d|d;·rw[d];exact ac6 (fun b h=>.inl h) f (he.2.2 t)
  ·exact zD hs (fun b h=>.inl h) (fun id o d g j=>.inr ⟨id,o,d,g,j,rfl⟩) (fun _ _=>rfl) d (he.2.2 t)
 ·rcases hi with⟨_,hi⟩|⟨d,g,j⟩
  ·exact f i hi
  ·omega
 ·rintro ex a w ⟨k,e',H',nx',c',rfl,rfl,q,r,s,u,v,y⟩;refine⟨k,e',H',nx',c',rfl,rfl,q,p.trans r,s,fun i hi=> ?_,v,y⟩;rcases u i hi with h|h
  ·rcases h with⟨_,hi⟩|⟨d,g,j⟩
   ·exact .inl hi
   ·omega
  ·exact .inr h
theorem aM.tW {x:AC} {zs:List AC} (e':Env) (H':aA) (F:Nat→Prop) (a: ∀t,e' t=e t∨CvD H F id nx (e' t) (e t)) (b:CvX F nx H H') (h:aM P T (x::zs) e' H' nx Q):aM P T (x::zs) e H nx Q:=AWP.tW e' H' F a b h
theorem AWP.BW {x:AC} (h:(∀i,nx≤i→H i=none)→AWP P T x e H nx Q):AWP P T x e H nx Q:=
 fun code hc c a hs he b=>h (fun i hi=>by
  cases d:H i with
  |none=>rfl
  |some o=>have:=b i (hs.named i o d);omega) code hc c a hs he b
theorem aM.BW {x:AC} {zs:List AC} (h:(∀i,nx≤i→H i=none)→aM P T (x::zs) e H nx Q):aM P T (x::zs) e H nx Q:=AWP.BW h
variable{l:List Nat}
theorem BV{b:Nat}{H:aA} (h: ∀i,nx≤i→H i=none) (a:nx≤b):msk b l H=H:=by
 funext i;simp only[msk];split;·rename_i hi;obtain⟨j,_,rfl⟩:=CF.1 hi;exact(h _ (by omega)).symm
 ·rfl
theorem umS{b i:Nat}{H G:aA}{o:bA}:dT b l (H.set i o) G=if i∈l.map (b+ ·) then (dT b l H G).set i o else dT b l H G:=by
 split
 ·rename_i h;funext j;simp only[dT,aA.set];by_cases a:j=i;·subst a;simp only[h,if_true]
  ·simp only[a,if_false]
 ·rename_i h;funext j;simp only[dT,aA.set];by_cases a:j=i;·subst a;simp only[h,if_false]
  ·simp only[a,if_false]
theorem umD{b i:Nat}{H G:aA}:dT b l (H.del i) G=if i∈l.map (b+ ·) then (dT b l H G).del i else dT b l H G:=by
 split
 ·rename_i h;funext j;simp only[dT,aA.del];by_cases a:j=i;·subst a;simp only[h,if_true]
  ·simp only[a,if_false]
 ·rename_i h;funext j;simp only[dT,aA.del];by_cases a:j=i;·subst a;simp only[h,if_false]
  ·simp only[a,if_false]
theorem umB{b:Nat}{G:aA}:dT b l G G=G:=by funext j;simp only[dT];split<;>rfl
end
end Go.AM
namespace Go.Proofs.YtdkfhdmagdaceaaGreat
open Go Go.AM
def xW:AC:= (boG [f7 4 [VZ,VZ,VZ,VZ,(.v (.bool false)),OZ,OZ]] [0,1,4] (.seq (.region [RM 7 0 0,RM 9 0 2,RM 12 0 5,rq 14 (.bC 1 4 [VZ] [(0,1,(ki 1)),(1,1,(ki 1)),(2,1,(ki 2)),(3,1,(ki 4))]) 7,RM 15 0 8,RM 19 0 12,f7 5 [VZ,VZ,VZ,VZ,(.v (.bool false)),OZ,OZ] 16,boF 8 (.call aD [7,(ki 2)]) [7,16] [] false 1,boF 10 (.call aD [9,(ki 4)]) [7,16] [] false 3,dI 11 .add (ki 1) 10 4,boF 13 (.call qM [12]) [7,16] [] false 6,boF 16 (.call aD [15,(ki 4)]) [7,16] [] false 9,e0 17 1 14 16 10,g8 18 17 [16] [] true 11,boF 20 (.call aD [19,(ki 3)]) [7,16] [11] false 13,dI 21 .eql 20 (ki 0) 14,rq 22 (.build [VZ,VZ,VZ,VZ,(.v (.bool false)),OZ,OZ] [(0,1,8),(1,1,11),(2,1,13),(3,1,18),(4,1,21)]) 15,g0 7 true 5 22 17] 18 [0,1,4,5]) (.seq (boG [RF 23 1 5,RL 24 23,dI 25 .geq 24 (ki 3)] [0,1,4,5,25] (.cond 25 (boG [RF 26 3 5,g0 1 false 26 (ki 1)] [0,1,4,5] (m2 [rq 27 (.bC 1 4 [VZ] [(0,1,(ki 0)),(1,1,(ki 1)),(2,1,(ki 16)),(3,1,(ki 32))]),RM 28 0,f6 29 aD [28,(ki 4)],e0 30 1 27 29,RL 31 30,RF 32 2 5,g0 1 false 32 31] [0,1,4,5])) .skip)) (.seq (boG [RF 33 4 5,RL 34 33,f4 35 34,RM 36 35,g9 37 2 5 36 true,hD 38 37 36 true,g9 39 3 5 36 true,hD 40 39 36 true,hO 41 .add 38 40 36 true,hO 42 .sub 41 (ki 1) 36 true,hO 43 .gtr 42 (ki 63) 36 true,f3 44 36 43 boD] [0,1,4,5,44] (.cond 44 (m2 [RF 45 3 5,RL 46 45,dI 47 .sub (ki 63) 46,dI 48 .add 47 (ki 1),RF 49 2 5,g0 1 false 49 48] [0,1,4,5]) .skip)) (.seq (boG [RF 50 1 5,RL 51 50,dI 52 .eql 51 (ki 2),RM 53 52,g9 54 1 5 53 false,hD 55 54 53 false,hO 56 .eql 55 (ki 4) 53 false,f3 57 53 boE 56] [0,1,4,5,57] (.cond 57 (boG [dO 6 (ki 0)] [0,1,4,5,6] (.block 0 (.loop (.seq (boG [RM 58 6,RF 59 3 5,RL 60 59,dI 61 .lss 58 60] [0,1,4,5,6,61] (.cond 61 .skip (.exit 0))) (.seq (.block 1 (.seq (.region [RF 64 5 5 0,g8 65 64 [7,12] [] true 1,RM 66 0 2,RM 69 0 5,RM 72 0 8,boF 67 (.call aD [66,(ki 256)]) [] [1] false 3,dI 68 .mul 67 (ki 257) 4,boF 70 (.call aD [69,(ki 10)]) [] [1] false 6,rq 71 (.bC 1 4 [VZ] [(0,1,68),(1,1,70),(2,1,(ki 65535)),(3,1,(ki 0))]) 7,boF 73 (.call aD [72,(ki 4)]) [7] [1] false 9,e0 74 1 71 73 10,RL 75 74 11,rq 76 (.bC 1 1 [VZ] [(0,1,75)]) 12,rq 77 (.append 1 65 76) 13,RF 78 5 5 14,g0 1 false 78 77 15] 16 [0,1,4,5,6]) (m2 [RF 79 6 5,g8 80 79 [2,7] [] true,rq 81 (.bC 1 5 [VZ] [(0,1,(ki 3)),(1,1,(ki 3)),(2,1,(ki 1)),(3,1,(ki 2)),(4,1,(ki 0))]),RM 82 0,boF 83 (.call aD [82,(ki 5)]) [2] [1] false,e0 84 1 81 83,RL 85 84,rq 86 (.bC 1 1 [VZ] [(0,1,85)]),rq 87 (.append 1 80 86),RF 88 6 5,g0 1 false 88 87] [0,1,4,5,6]))) (m2 [RM 62 6,dI 63 .add 62 (ki 1),RM 6 63] [0,1,4,5,6])))))) .skip)) (.seq (boG [RM 89 0,RM 90 1,f6 91 kE [89,90]] [0,4,5,91] (.cond 91 (boG [RM 92 0,f6 93 aD [92,(ki 7)]] [0,4,5,93] (.block 2 (boG [dI 107 .eql 93 (ki 0),RM 106 107] [0,4,5,93,106] (.cond 106 (m2 [rq 108 (.bC 1 2 [VZ] [(0,1,(.kv (.int .i64 (-1)))),(1,1,(ki 2))]),RM 109 0,f6 110 aD [109,(ki 2)],e0 111 1 108 110,RL 112 111,RF 113 0 5,g0 1 false 113 112] [4,5]) (boG [dI 115 .eql 93 (ki 1),RM 114 115] [0,4,5,93,114] (.cond 114 (m2 [rq 116 (.bC 1 2 [VZ] [(0,1,(ki 0)),(1,1,(ki 5))]),RM 117 0,f6 118 aD [117,(ki 2)],e0 119 1 116 118,RL 120 119,RF 121 1 5,g0 1 false 121 120] [4,5]) (boG [dI 123 .eql 93 (ki 2),RM 122 123] [0,4,5,93,122] (.cond 122 (m2 [rq 124 (.bC 1 3 [VZ] [(0,1,(.kv (.int .i64 (-1)))),(1,1,(ki 64)),(2,1,(ki 63))]),RM 125 0,f6 126 aD [125,(ki 3)],e0 127 1 124 126,RL 128 127,RF 129 2 5,g0 1 false 129 128] [4,5]) (boG [dI 131 .eql 93 (ki 3),RM 130 131] [0,4,5,93,130] (.cond 130 (m2 [rq 132 (.bC 1 4 [VZ] [(0,1,(ki 0)),(1,1,(ki 3)),(2,1,(ki 8)),(3,1,(ki 4))]),RM 133 0,f6 134 aD [133,(ki 4)],e0 135 1 132 134,RL 136 135,RF 137 3 5,g0 1 false 137 136] [4,5]) (boG [dI 139 .eql 93 (ki 4),RM 138 139] [0,4,5,93,138] (.cond 138 (m2 [RF 140 5 5,RL 141 140,rq 142 (.bC 1 1 [VZ] [(0,1,(ki 5))]),rq 143 (.append 1 141 142),RF 144 5 5,g0 1 false 144 143] [4,5]) (boG [dI 146 .eql 93 (ki 5),RM 145 146] [0,4,5,145] (.cond 145 (m2 [RF 147 6 5,RL 148 147,rq 149 (.bC 1 1 [VZ] [(0,1,(ki 1))]),rq 150 (.append 1 148 149),RF 151 6 5,g0 1 false 151 150] [4,5]) (boG [RF 94 5 5,RL 95 94,f1 96 95,dI 97 .gtr 96 (ki 0)] [0,4,5,97] (.cond 97 (m2 [RF 98 5 5,g8 99 98 [2] [] true,rq 100 (.bC 1 2 [VZ] [(0,1,(.kv (.int .i64 (-1)))),(1,1,(ki 65536))]),RM 101 0,boF 102 (.call aD [101,(ki 2)]) [2] [1] false,e0 103 1 100 102,RL 104 103,e0 105 1 99 (ki 0),g0 1 false 105 104] [4,5]) .skip)))))))))))))))) .skip)) (boG [f8 152 7 5,g0 7 true 4 152] [4] .ret)))))))
def E5:List aW:=[.cell 4 7 true]
theorem TG:aO Tryz.prog Tryz.f221 (bnD xW)=some (xW,E5):=by kernel_rfl
theorem QN:aN Tryz.prog tS Tryz.f221 xW E5:=aN.mk Tryz.func221 (by kernel_rfl) TG
def kM:AC:= (boG [f5 1 0,f7 2 [OZ,OZ,OZ,OZ,OZ]] [1,2] (.seq (.region [RF 8 0 1 0,boF 9 (.load 2 true 8) [13] [] false 1,RF 11 2 1 3,g8 12 11 [13] [] true 4,RF 14 3 1 6,g8 15 14 [13] [] true 7,RF 17 4 1 9,g8 18 17 [13] [] true 10,f7 3 [OZ,OZ,OZ,OZ,OZ] 13,boF 10 (.call fL [9]) [13] [4,7,10] false 2,boF 13 (.call fY [12]) [13] [7,10] false 5,boF 16 (.call fM [15]) [13] [10] false 8,boF 19 (.call eO [18]) [13] [] false 11,rq 20 (.build [OZ,OZ,OZ,OZ,OZ] [(0,2,10),(2,1,13),(3,1,16),(4,1,19)]) 12,g0 5 true 3 20 14] 15 [1,2,3]) (.seq (boG [RF 21 2 1,RL 22 21,f1 23 22,dO 24 (ki 0)] [1,2,3,22,23,24] (.block 0 (.loop (boG [dI 25 .lss 24 23] [1,2,3,22,23,24,25] (.seq (.cond 25 .skip (.exit 0)) (.seq (.block 1 (boG [RM 26 24,e0 27 4 22 24,f8 28 4 27,f7 5 [VZ,OZ,OZ,VZ],RM 4 26,g0 4 true 5 28] [1,2,3,4,5,22,23,24] (.region [RF 29 2 3 0,g8 30 29 [] [] true 1,RM 31 4 2,RF 32 2 3 3,g8 33 32 [] [] true 4,RM 34 4 5,RF 35 1 5 6,RL 36 35 7,RF 38 2 5 9,g8 39 38 [] [] true 10,boF 37 (.call eX [36]) [] [1,4,10] false 8,boF 40 (.call eK [39]) [] [1,4] false 11,e0 41 4 30 31 12,RF 42 1 41 13,dA none (.store 1 false 42 37) none [] [4] false 14,e0 43 4 33 34 15,RF 44 2 43 16,g0 1 false 44 40 17] 18 [1,2,3,22,23,24]))) (m2 [dI 45 .add 24 (ki 1),RM 24 45] [1,2,3,22,23,24]))))))) (.seq (boG [RF 46 3 1,RL 47 46,f1 48 47,dO 49 (ki 0)] [2,3,47,48,49] (.block 2 (.loop (boG [dI 50 .lss 49 48] [2,3,47,48,49,50] (.seq (.cond 50 .skip (.exit 2)) (.seq (.block 3 (boG [RM 51 49,e0 52 3 47 49,f8 53 3 52,f7 7 [OZ,OZ,VZ],RM 6 51,g0 3 true 7 53] [2,3,6,7,47,48,49] (.region [RF 54 3 3 0,g8 55 54 [] [] true 1,RM 56 6 2,RF 57 3 3 3,g8 58 57 [] [] true 4,RM 59 6 5,RF 60 0 7 6,RL 61 60 7,RF 63 1 7 9,g8 64 63 [] [] true 10,boF 62 (.call eK [61]) [] [1,4,10] false 8,boF 65 (.call eO [64]) [] [1,4] false 11,e0 66 3 55 56 12,RF 67 0 66 13,dA none (.store 1 false 67 62) none [] [4] false 14,e0 68 3 58 59 15,RF 69 1 68 16,g0 1 false 69 65 17] 18 [2,3,47,48,49]))) (m2 [dI 70 .add 49 (ki 1),RM 49 70] [2,3,47,48,49]))))))) (boG [f8 71 5 3,g0 5 true 2 71] [2] .ret)))))
def pR:List aW:=[.cell 2 5 true]
theorem AZ:aO Tryz.prog Tryz.f95 (bnD kM)=some (kM,pR):=by kernel_rfl
def iV:AC:= (boG [dO 2 (.kv (.slice none 0 0))] [0] (boG [RM 3 0,f6 4 dL [3],f6 5 dV [4],RM 2 5] [2] .ret))
def mE:List aW:=[.tm 2]
theorem xQ:aO Tryz.prog Tryz.f184 (bnD iV)=some (iV,mE):=by kernel_rfl
theorem yL:aN Tryz.prog fY Tryz.f184 iV mE:=aN.mk Tryz.func184 (by kernel_rfl) xQ
def iB:AC:= (boG [dO 2 (.kv (.slice none 0 0))] [0] (boG [RM 3 0,f6 4 cZ [3],f6 5 dE [4],RM 2 5] [2] .ret))
def lZ:List aW:=[.tm 2]
theorem wJ:aO Tryz.prog Tryz.f185 (bnD iB)=some (iB,lZ):=by kernel_rfl
theorem wE:aN Tryz.prog fM Tryz.f185 iB lZ:=aN.mk Tryz.func185 (by kernel_rfl) wJ
def i9:AC:= (boG [dO 2 (.kv (.slice none 0 0))] [0] (boG [RM 3 0,f6 4 eE [3],f6 5 eQ [4],RM 2 5] [2] .ret))
def nN:List aW:=[.tm 2]
theorem yS:aO Tryz.prog Tryz.f186 (bnD i9)=some (i9,nN):=by kernel_rfl
theorem y7:aN Tryz.prog eK Tryz.f186 i9 nN:=aN.mk Tryz.func186 (by kernel_rfl) yS
def fV:AC:= (boG [dO 2 (.kv (.slice none 0 0))] [0] (boG [RM 3 0,RM 4 0,f1 5 4,RM 6 0,f1 7 6,rq 8 (.slc 4 3 none (some 5) (some 7)),RM 2 8] [2] .ret))
def jU:List aW:=[.tm 2]
theorem rW:aO Tryz.prog Tryz.f266 (bnD fV)=some (fV,jU):=by kernel_rfl
theorem r9:aN Tryz.prog dV Tryz.f266 fV jU:=aN.mk Tryz.func266 (by kernel_rfl) rW
def fN:AC:= (boG [dO 2 (.kv (.slice none 0 0))] [0] (.seq (boG [RM 3 0,rq 4 (.xop (.qJ false) [3])] [0,4] (.cond 4 (boG [dO 2 (.kv (.slice none 0 0))] [2] .ret) .skip)) (boG [rq 5 (.bC 4 0 [VZ,OZ,OZ,VZ] []),RM 6 0,rq 7 (.append 4 5 6),RM 2 7] [2] .ret)))
def jI:List aW:=[.tm 2]
theorem qP:aO Tryz.prog Tryz.f267 (bnD fN)=some (fN,jI):=by kernel_rfl
theorem qV:aN Tryz.prog dL Tryz.f267 fN jI:=aN.mk Tryz.func267 (by kernel_rfl) qP
def fG:AC:= (boG [dO 2 (.kv (.slice none 0 0))] [0] (boG [RM 3 0,RM 4 0,f1 5 4,RM 6 0,f1 7 6,rq 8 (.slc 3 3 none (some 5) (some 7)),RM 2 8] [2] .ret))
def iZ:List aW:=[.tm 2]
theorem pZ:aO Tryz.prog Tryz.f268 (bnD fG)=some (fG,iZ):=by kernel_rfl
theorem qF:aN Tryz.prog dE Tryz.f268 fG iZ:=aN.mk Tryz.func268 (by kernel_rfl) pZ
def eW:AC:= (boG [dO 2 (.kv (.slice none 0 0))] [0] (.seq (boG [RM 3 0,rq 4 (.xop (.qJ false) [3])] [0,4] (.cond 4 (boG [dO 2 (.kv (.slice none 0 0))] [2] .ret) .skip)) (boG [rq 5 (.bC 3 0 [OZ,OZ,VZ] []),RM 6 0,rq 7 (.append 3 5 6),RM 2 7] [2] .ret)))
def iL:List aW:=[.tm 2]
theorem oX:aO Tryz.prog Tryz.f269 (bnD eW)=some (eW,iL):=by kernel_rfl
theorem oY:aN Tryz.prog cZ Tryz.f269 eW iL:=aN.mk Tryz.func269 (by kernel_rfl) oX
def gK:AC:= (boG [dO 2 (.kv (.slice none 0 0))] [0] (boG [RM 3 0,RM 4 0,f1 5 4,RM 6 0,f1 7 6,rq 8 (.slc 3 3 none (some 5) (some 7)),RM 2 8] [2] .ret))
def kQ:List aW:=[.tm 2]
theorem uK:aO Tryz.prog Tryz.f270 (bnD gK)=some (gK,kQ):=by kernel_rfl
theorem uS:aN Tryz.prog eQ Tryz.f270 gK kQ:=aN.mk Tryz.func270 (by kernel_rfl) uK
def gB:AC:= (boG [dO 2 (.kv (.slice none 0 0))] [0] (.seq (boG [RM 3 0,rq 4 (.xop (.qJ false) [3])] [0,4] (.cond 4 (boG [dO 2 (.kv (.slice none 0 0))] [2] .ret) .skip)) (boG [rq 5 (.bC 3 0 [VZ,VZ,VZ] []),RM 6 0,rq 7 (.append 3 5 6),RM 2 7] [2] .ret)))
def kG:List aW:=[.tm 2]
theorem tA:aO Tryz.prog Tryz.f271 (bnD gB)=some (gB,kG):=by kernel_rfl
theorem sN:aN Tryz.prog eE Tryz.f271 gB kG:=aN.mk Tryz.func271 (by kernel_rfl) tA
def u0:AC:= (boG [f5 3 0,f5 4 1,f7 6 [OZ,OZ,OZ,OZ,OZ]] [2,3,4,6] (.seq (boG [RM 7 2,dI 8 .gtr 7 (ki 300)] [2,3,4,6,8] (.cond 8 (boG [rq 9 (.build [OZ,OZ,OZ,OZ,OZ] []),g0 5 true 6 9] [6] .ret) .skip)) (.seq (.region [boF 10 (.load 3 true 3) [3] [] true 0,boF 11 (.load 5 true 4) [3] [] true 1,RM 14 2 4,rq 15 (.mmx false (ki 0) 14) 5,boF 12 (.call DB []) [] [0,1] false 2,rq 13 (.bC 3 1 [OZ,OZ,OZ] [(0,3,12)]) 3,boF 16 (.call eT [13,15]) [] [0,1] false 6,f6 17 tV [10,11,16] 7,g0 5 true 6 17 8] 9 [6]) .ret)))
def DP:List aW:=[.cell 6 5 true]
theorem N3:aO Tryz.prog Tryz.f35 (bnD u0)=some (u0,DP):=by kernel_rfl
def AV:AC:= (boG [f7 0 [OZ,OZ,OZ]] [0] (.seq (.region [rq 1 (.bC 1 1 [(.v (.bool false))] [(0,1,boE)]) 0,rq 3 (.kY 1 [(.v (.bool false))] (ki 4) (ki 4)) 2,rq 4 (.bC 1 1 [(.v (.bool false))] [(0,1,boE)]) 3,boF 2 (.call dN [1,(ki 3)]) [2,3] [] false 1,boF 5 (.call dN [4,(ki 3)]) [2] [] false 4,rq 6 (.build [OZ,OZ,OZ] [(0,1,2),(1,1,3),(2,1,5)]) 5,g0 3 true 0 6 6] 7 [0]) .ret))
def IY:List aW:=[.cell 0 3 true]
theorem UH:aO Tryz.prog Tryz.f39 (bnD AV)=some (AV,IY):=by kernel_rfl
def xR:AC:= (boG [f5 3 0,f5 4 1,f7 6 [OZ,OZ,OZ,OZ,OZ]] [2,3,4,6] (.seq (boG [f8 10 3 3,f8 11 5 4,RM 12 2,f6 13 zH [10,11,12],f4 14 13] [2,3,4,6,14] (.cond 14 (boG [rq 15 (.build [OZ,OZ,OZ,OZ,OZ] []),g0 5 true 6 15] [6] .ret) .skip)) (boG [f8 16 5 4,f6 17 cV [16],f7 7 [OZ,OZ,OZ,OZ,OZ],g0 5 true 7 17] [2,3,6,7] (.seq (boG [RM 18 2,f1 19 18,dO 20 (ki 0)] [3,6,7,18,19,20] (.block 0 (.loop (boG [dI 21 .lss 20 19] [3,6,7,18,19,20,21] (.seq (.cond 21 .skip (.exit 0)) (.seq (.block 1 (boG [e0 22 3 18 20,f8 23 3 22,f7 9 [OZ,OZ,OZ],g0 3 true 9 23] [3,6,7,9,18,19,20] (m2 [f8 24 3 3,f8 25 3 9,f6 26 jF [7,24,25]] [3,6,7,18,19,20]))) (m2 [dI 27 .add 20 (ki 1),RM 20 27] [3,6,7,18,19,20]))))))) (boG [f8 28 5 7,f6 29 cV [28],g0 5 true 6 29] [6] .ret)))))
def F5:List aW:=[.cell 6 5 true]
theorem PZ:aO Tryz.prog Tryz.f40 (bnD xR)=some (xR,F5):=by kernel_rfl
def gJ:AC:= (boG [dO 4 (.kv (.slice none 0 0))] [0,1] (.seq (boG [RM 9 1,dI 10 .lss 9 (ki 0)] [0,1,10] (.cond 10 (m2 [rq 11 (.xop .bad []),rn (.xop .bad [])] [0,1]) .skip)) (boG [RM 13 0,f1 14 13,rq 15 (.conv .u64 14),RM 16 1,rq 17 (.conv .u64 16),f6 18 cE [15,17],RM 12 18,rq 19 (.ext 12 0),rq 20 (.ext 12 1),RM 5 19,RM 6 20] [0,5,6] (.seq (boG [RM 21 5,dI 22 .gtr 21 (.kv (.int .u64 0)),RM 23 22,hG 24 6 23 false,hO 25 .gtr 24 (.kv (.int .u64 9223372036854775807)) 23 false,f3 26 23 boE 25] [0,6,26] (.cond 26 (m2 [rq 27 (.xop .bad []),rn (.xop .bad [])] [0,6]) .skip)) (boG [RM 28 6,rq 29 (.conv .i64 28),rq 30 (.kY 3 [OZ,OZ,OZ] 29 29),RM 7 30] [0,7] (boG [RM 31 7,RM 32 0,rq 33 (.xop (.copy 3) [31,32]),RM 8 33] [7,8] (.seq (.block 0 (.loop (.seq (boG [RM 34 8,RM 35 7,f1 36 35,dI 37 .lss 34 36] [7,8,37] (.cond 37 .skip (.exit 0))) (.block 1 (m2 [RM 38 8,RM 39 7,RM 40 8,rq 41 (.slc 3 39 (some 40) none none),RM 42 7,RM 43 8,rq 44 (.slc 3 42 none (some 43) none),rq 45 (.xop (.copy 3) [41,44]),dI 46 .add 38 45,RM 8 46] [7,8]))))) (boG [RM 47 7,RM 4 47] [4] .ret))))))))
def kR:List aW:=[.tm 4]
theorem uN:aO Tryz.prog Tryz.f112 (bnD gJ)=some (gJ,kR):=by kernel_rfl
theorem uM:aN Tryz.prog eT Tryz.f112 gJ kR:=aN.mk Tryz.func112 (by kernel_rfl) uN
def iE:AC:= (boG [dO 4 (.kv (.slice none 0 0))] [0,1] (.seq (boG [RM 9 1,dI 10 .lss 9 (ki 0)] [0,1,10] (.cond 10 (m2 [rq 11 (.xop .bad []),rn (.xop .bad [])] [0,1]) .skip)) (boG [RM 13 0,f1 14 13,rq 15 (.conv .u64 14),RM 16 1,rq 17 (.conv .u64 16),f6 18 cE [15,17],RM 12 18,rq 19 (.ext 12 0),rq 20 (.ext 12 1),RM 5 19,RM 6 20] [0,5,6] (.seq (boG [RM 21 5,dI 22 .gtr 21 (.kv (.int .u64 0)),RM 23 22,hG 24 6 23 false,hO 25 .gtr 24 (.kv (.int .u64 9223372036854775807)) 23 false,f3 26 23 boE 25] [0,6,26] (.cond 26 (m2 [rq 27 (.xop .bad []),rn (.xop .bad [])] [0,6]) .skip)) (boG [RM 28 6,rq 29 (.conv .i64 28),rq 30 (.kY 1 [(.v (.bool false))] 29 29),RM 7 30] [0,7] (boG [RM 31 7,RM 32 0,rq 33 (.xop (.copy 1) [31,32]),RM 8 33] [7,8] (.seq (.block 0 (.loop (.seq (boG [RM 34 8,RM 35 7,f1 36 35,dI 37 .lss 34 36] [7,8,37] (.cond 37 .skip (.exit 0))) (.block 1 (m2 [RM 38 8,RM 39 7,RM 40 8,rq 41 (.slc 1 39 (some 40) none none),RM 42 7,RM 43 8,rq 44 (.slc 1 42 none (some 43) none),rq 45 (.xop (.copy 1) [41,44]),dI 46 .add 38 45,RM 8 46] [7,8]))))) (boG [RM 47 7,RM 4 47] [4] .ret))))))))
def lW:List aW:=[.tm 4]
theorem wQ:aO Tryz.prog Tryz.f124 (bnD iE)=some (iE,lW):=by kernel_rfl
theorem wL:aN Tryz.prog dN Tryz.f124 iE lW:=aN.mk Tryz.func124 (by kernel_rfl) wQ
def xT:AC:= (boG [dO 4 boD] [0,1] (.seq (boG [RM 6 0,f1 7 6,RM 8 1,f1 9 8,dI 10 .neq 7 9] [0,1,10] (.cond 10 (boG [dO 4 boD] [4] .ret) .skip)) (.seq (boG [dO 5 (ki 0)] [0,1,5] (.block 0 (.loop (.seq (boG [RM 11 5,RM 12 0,f1 13 12,dI 14 .lss 11 13] [0,1,5,14] (.cond 14 .skip (.exit 0))) (.seq (.block 1 (boG [RM 17 0,RM 18 5,e0 19 5 17 18,RF 20 0 19,RL 21 20,RM 22 1,RM 23 5,e0 24 5 22 23,RF 25 0 24,RL 26 25,dI 27 .neq 21 26,RM 28 27,hG 29 0 28 false,hG 30 5 28 false,j0 31 5 29 30 28 false,g9 32 1 31 28 false,hD 33 32 28 false,hG 34 1 28 false,hG 35 5 28 false,j0 36 5 34 35 28 false,g9 37 1 36 28 false,hD 38 37 28 false,hO 39 .neq 33 38 28 false,f3 40 28 boE 39,RM 41 40,hG 42 0 41 false,hG 43 5 41 false,j0 44 5 42 43 41 false,g9 45 2 44 41 false,GQ 46 (.load 3 true 45) 41 false,hG 47 1 41 false,hG 48 5 41 false,j0 49 5 47 48 41 false,g9 50 2 49 41 false,GQ 51 (.load 3 true 50) 41 false,GQ 52 (.call qO [46,51]) 41 false,hP 53 52 41 false,f3 54 41 boE 53] [0,1,5,54] (.cond 54 (boG [dO 4 boD] [4] .ret) .skip))) (m2 [RM 15 5,dI 16 .add 15 (ki 1),RM 5 16] [0,1,5])))))) (boG [dO 4 boE] [4] .ret))))
def FA:List aW:=[.tm 4]
theorem RZ:aO Tryz.prog Tryz.f114 (bnD xT)=some (xT,FA):=by kernel_rfl
theorem RW:aN Tryz.prog jN Tryz.f114 xT FA:=aN.mk Tryz.func114 (by kernel_rfl) RZ
def zY:AC:= (boG [f5 2 0,f5 3 1,dO 4 boD] [2,3] (boG [RF 5 0 2,RF 6 0 5,RL 7 6,RF 8 0 3,RF 9 0 8,RL 10 9,f6 11 jM [7,10],RM 12 11,g9 13 1 2 12 true,hD 14 13 12 true,g9 15 1 3 12 true,hD 16 15 12 true,GQ 17 (.call jM [14,16]) 12 true,f3 18 12 17 boD,RM 4 18] [4] .ret))
def I2:List aW:=[.tm 4]
theorem UP:aO Tryz.prog Tryz.f113 (bnD zY)=some (zY,I2):=by kernel_rfl
theorem UZ:aN Tryz.prog wK Tryz.f113 zY I2:=aN.mk Tryz.func113 (by kernel_rfl) UP
end Go.Proofs.YtdkfhdmagdaceaaGreat
