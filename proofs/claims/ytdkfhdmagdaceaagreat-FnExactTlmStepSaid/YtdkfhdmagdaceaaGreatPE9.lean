/- Texts laid together by a program: rules, contracts and the walk that leads to the law. -/
import Derived.Test.YtdkfhdmagdaceaaGreatPE5
set_option linter.unusedVariables false
set_option linter.unusedSimpArgs false
set_option linter.unusedSectionVars false
set_option maxRecDepth 100000
set_option maxHeartbeats 8000000
namespace Go.Proofs.YtdkfhdmagdaceaaGreat
open Go Go.AM
def aJQ:AC:= (boG [f5 1 0,dO 2 boD] [1] (.seq (boG [RF 4 0 1,RL 5 4,f6 6 aBG [5],f4 7 6,RM 8 7,g9 9 1 1 8 false,hD 10 9 8 false,GQ 11 (.len false 10) 8 false,hO 12 .neq 11 (ki 4) 8 false,f3 13 8 boE 12,RM 14 13,g9 15 1 1 14 false,hD 16 15 14 false,GQ 17 (.call aA3 [16,(ki 0),(ki 3)]) 14 false,hP 18 17 14 false,f3 19 14 boE 18,RM 20 19,g9 21 2 1 20 false,hD 22 21 20 false,GQ 23 (.len false 22) 20 false,hO 24 .neq 23 (ki 3) 20 false,f3 25 20 boE 24] [1,25] (.cond 25 (boG [dO 2 boD] [2] .ret) .skip)) (.seq (boG [dO 3 (ki 0)] [1,3] (.block 0 (.loop (.seq (boG [RM 26 3,dI 27 .lss 26 (ki 3)] [1,3,27] (.cond 27 .skip (.exit 0))) (.seq (.block 1 (boG [RF 30 2 1,RL 31 30,RM 32 3,e0 33 1 31 32,RL 34 33,f1 35 34,dI 36 .gtr 35 (ki 12),RM 37 36,g9 38 2 1 37 false,hD 39 38 37 false,hG 40 3 37 false,j0 41 1 39 40 37 false,hD 42 41 37 false,GQ 43 (.call aI2 [42]) 37 false,hP 44 43 37 false,f3 45 37 boE 44] [1,3,45] (.cond 45 (boG [dO 2 boD] [2] .ret) .skip))) (m2 [RM 28 3,dI 29 .add 28 (ki 1),RM 3 29] [1,3])))))) (boG [dO 2 boE] [2] .ret))))
def aKB:List aW:=[.tm 2]
theorem aL8:aO Tryz.prog Tryz.f119 (bnD aJQ)=some (aJQ,aKB):=by kernel_rfl
theorem aLX:aN Tryz.prog aIV Tryz.f119 aJQ aKB:=aN.mk Tryz.func119 (by kernel_rfl) aL8
def aJM:AC:= (boG [f5 1 0,dO 2 boD] [1] (boG [RF 3 0 1,f8 4 1 3,f6 5 aI7 [4],RM 6 5,g9 7 1 1 6 true,hD 8 7 6 true,GQ 9 (.len false 8) 6 true,hO 10 .eql 9 (ki 6) 6 true,f3 11 6 10 boD,RM 12 11,g9 13 1 1 12 true,hD 14 13 12 true,GQ 15 (.call aA3 [14,(.kv (.int .i64 (-1))),(ki 63)]) 12 true,f3 16 12 15 boD,RM 2 16] [2] .ret))
def aJ7:List aW:=[.tm 2]
theorem aL9:aO Tryz.prog Tryz.f120 (bnD aJM)=some (aJM,aJ7):=by kernel_rfl
theorem aLR:aN Tryz.prog aIU Tryz.f120 aJM aJ7:=aN.mk Tryz.func120 (by kernel_rfl) aL9
def aBP:AC:= (boG [dO 6 boD] [0,1,2] (.seq (boG [dO 7 (ki 0)] [0,1,2,7] (.block 0 (.loop (.seq (boG [RM 8 7,RM 9 0,f1 10 9,dI 11 .lss 8 10] [0,1,2,7,11] (.cond 11 .skip (.exit 0))) (.seq (.block 1 (boG [RM 14 0,RM 15 7,e0 16 1 14 15,RL 17 16,RM 18 1,RM 19 2,f6 20 y2 [17,18,19],f4 21 20] [0,1,2,7,21] (.cond 21 (boG [dO 6 boD] [6] .ret) .skip))) (m2 [RM 12 7,dI 13 .add 12 (ki 1),RM 7 13] [0,1,2,7])))))) (boG [dO 6 boE] [6] .ret)))
def aB1:List aW:=[.tm 6]
theorem aDO:aO Tryz.prog Tryz.f140 (bnD aBP)=some (aBP,aB1):=by kernel_rfl
theorem aDN:aN Tryz.prog aA3 Tryz.f140 aBP aB1:=aN.mk Tryz.func140 (by kernel_rfl) aDO
def aBO:AC:= (boG [dO 2 boD] [0] (.seq (boG [RM 6 0,f1 7 6,dI 8 .gtr 7 (ki 4)] [0,8] (.cond 8 (boG [dO 2 boD] [2] .ret) .skip)) (.seq (boG [dO 3 (ki 0)] [0,3] (.block 0 (.loop (.seq (boG [RM 9 3,RM 10 0,f1 11 10,dI 12 .lss 9 11] [0,3,12] (.cond 12 .skip (.exit 0))) (.seq (.block 1 (boG [RM 15 0,RM 16 3,e0 17 4 15 16,f8 18 4 17,f7 4 [VZ,VZ,VZ,(.v (.bool false))],g0 4 true 4 18] [0,3,4] (.seq (boG [RF 19 0 4,RL 20 19,RF 21 1 4,RL 22 21,f6 23 y2 [20,(ki 0),22],f4 24 23,RM 25 24,g9 26 1 4 25 false,hD 27 26 25 false,hO 28 .gtr 27 (ki 63) 25 false,f3 29 25 boE 28,RM 30 29,g9 31 2 4 30 false,hD 32 31 30 false,GQ 33 (.call y2 [32,(ki 0),(ki 2)]) 30 false,hP 34 33 30 false,f3 35 30 boE 34] [0,3,4,35] (.cond 35 (boG [dO 2 boD] [2] .ret) .skip)) (boG [dO 5 (ki 0)] [0,3,4,5] (.block 2 (.loop (.seq (boG [RM 36 5,RM 37 3,dI 38 .lss 36 37] [0,3,4,5,38] (.cond 38 .skip (.exit 2))) (.seq (.block 3 (boG [RF 41 0 4,RL 42 41,RM 43 0,RM 44 5,e0 45 4 43 44,RF 46 1 45,RL 47 46,dI 48 .leq 42 47,RM 49 48,hG 50 0 49 true,hG 51 5 49 true,j0 52 4 50 51 49 true,g9 53 0 52 49 true,hD 54 53 49 true,g9 55 1 4 49 true,hD 56 55 49 true,hO 57 .leq 54 56 49 true,f3 58 49 57 boD] [0,3,4,5,58] (.cond 58 (boG [dO 2 boD] [2] .ret) .skip))) (m2 [RM 39 5,dI 40 .add 39 (ki 1),RM 5 40] [0,3,4,5]))))))))) (m2 [RM 13 3,dI 14 .add 13 (ki 1),RM 3 14] [0,3])))))) (boG [dO 2 boE] [2] .ret))))
def aB3:List aW:=[.tm 2]
theorem aDZ:aO Tryz.prog Tryz.f206 (bnD aBO)=some (aBO,aB3):=by kernel_rfl
theorem aDM:aN Tryz.prog aBG Tryz.f206 aBO aB3:=aN.mk Tryz.func206 (by kernel_rfl) aDZ
def aJC:AC:= (boG [dO 2 boD] [0] (.seq (boG [dO 3 (ki 0)] [0,3] (.block 0 (.loop (.seq (boG [RM 4 3,RM 5 0,f1 6 5,dI 7 .lss 4 6] [0,3,7] (.cond 7 .skip (.exit 0))) (.seq (.block 1 (boG [RM 10 0,RM 11 3,e0 12 7 10 11,f8 13 7 12,f6 14 aBF [13],f4 15 14] [0,3,15] (.cond 15 (boG [dO 2 boD] [2] .ret) .skip))) (m2 [RM 8 3,dI 9 .add 8 (ki 1),RM 3 9] [0,3])))))) (boG [dO 2 boE] [2] .ret)))
def aJ0:List aW:=[.tm 2]
theorem aK5:aO Tryz.prog Tryz.f207 (bnD aJC)=some (aJC,aJ0):=by kernel_rfl
theorem aLI:aN Tryz.prog aI2 Tryz.f207 aJC aJ0:=aN.mk Tryz.func207 (by kernel_rfl) aK5
def aJK:AC:= (boG [f5 1 0,dO 2 boD] [1] (.seq (boG [RF 4 0 1,RL 5 4,f1 6 5,dI 7 .neq 6 (ki 64)] [1,7] (.cond 7 (boG [dO 2 boD] [2] .ret) .skip)) (.seq (boG [dO 3 (ki 0)] [1,3] (.block 0 (.loop (.seq (boG [RM 8 3,RF 9 0 1,RL 10 9,f1 11 10,dI 12 .lss 8 11] [1,3,12] (.cond 12 .skip (.exit 0))) (.seq (.block 1 (boG [RF 15 0 1,RL 16 15,RM 17 3,e0 18 1 16 17,RL 19 18,f6 20 y2 [19,(ki 0),(ki 65535)],f4 21 20] [1,3,21] (.cond 21 (boG [dO 2 boD] [2] .ret) .skip))) (m2 [RM 13 3,dI 14 .add 13 (ki 1),RM 3 14] [1,3])))))) (boG [dO 2 boE] [2] .ret))))
def aJ8:List aW:=[.tm 2]
theorem aLU:aO Tryz.prog Tryz.f208 (bnD aJK)=some (aJK,aJ8):=by kernel_rfl
theorem aMO:aN Tryz.prog aI7 Tryz.f208 aJK aJ8:=aN.mk Tryz.func208 (by kernel_rfl) aLU
def aJL:AC:= (boG [f5 1 0,dO 2 boD] [1] (boG [RF 3 0 1,RL 4 3,f6 5 y2 [4,(ki 0),(ki 1)],RM 6 5,g9 7 1 1 6 true,hD 8 7 6 true,GQ 9 (.call y2 [8,(ki 1),(ki 4)]) 6 true,f3 10 6 9 boD,RM 11 10,g9 12 2 1 11 true,hD 13 12 11 true,GQ 14 (.len false 13) 11 true,hO 15 .leq 14 (ki 4) 11 true,f3 16 11 15 boD,RM 17 16,g9 18 2 1 17 true,hD 19 18 17 true,GQ 20 (.call aA3 [19,(ki 0),(ki 65535)]) 17 true,f3 21 17 20 boD,RM 2 21] [2] .ret))
def aJ6:List aW:=[.tm 2]
theorem aLS:aO Tryz.prog Tryz.f211 (bnD aJL)=some (aJL,aJ6):=by kernel_rfl
theorem aMN:aN Tryz.prog aIP Tryz.f211 aJL aJ6:=aN.mk Tryz.func211 (by kernel_rfl) aLS
def aBM:AC:= (boG [f5 1 0,dO 2 boD] [1] (.seq (boG [RF 3 0 1,RL 4 3,f6 5 y2 [4,(ki 0),(ki 1)],f4 6 5,RM 7 6,g9 8 1 1 7 false,hD 9 8 7 false,GQ 10 (.call y2 [9,(ki 1),(ki 4)]) 7 false,hP 11 10 7 false,f3 12 7 boE 11,RM 13 12,g9 14 2 1 13 false,hD 15 14 13 false,g9 16 3 1 13 false,hD 17 16 13 false,g9 18 4 1 13 false,hD 19 18 13 false,GQ 20 (.call aA6 [15,17,19]) 13 false,hP 21 20 13 false,f3 22 13 boE 21] [1,22] (.cond 22 (boG [dO 2 boD] [2] .ret) .skip)) (.seq (boG [RF 23 1 1,RL 24 23,dI 25 .geq 24 (ki 3),RM 26 25,g9 27 3 1 26 true,hD 28 27 26 true,hO 29 .neq 28 (ki 1) 26 true,f3 30 26 29 boD] [1,30] (.cond 30 (boG [dO 2 boD] [2] .ret) .skip)) (.seq (boG [f8 31 7 1,f6 32 aAZ [31],f4 33 32] [1,33] (.cond 33 (boG [RF 34 5 1,RL 35 34,f1 36 35,dI 37 .eql 36 (ki 0),RM 38 37,g9 39 6 1 38 true,hD 40 39 38 true,GQ 41 (.len false 40) 38 true,hO 42 .eql 41 (ki 0) 38 true,f3 43 38 42 boD,RM 2 43] [2] .ret) .skip)) (boG [RF 44 5 1,RL 45 44,f1 46 45,RF 47 3 1,RL 48 47,dI 49 .eql 46 48,RM 50 49,g9 51 6 1 50 true,hD 52 51 50 true,GQ 53 (.len false 52) 50 true,g9 54 3 1 50 true,hD 55 54 50 true,hO 56 .eql 53 55 50 true,f3 57 50 56 boD,RM 58 57,g9 59 5 1 58 true,hD 60 59 58 true,GQ 61 (.call aA3 [60,(ki 0),(ki 65535)]) 58 true,f3 62 58 61 boD,RM 63 62,g9 64 6 1 63 true,hD 65 64 63 true,GQ 66 (.call aA3 [65,(ki 0),(ki 3)]) 63 true,f3 67 63 66 boD,RM 2 67] [2] .ret)))))
def aB4:List aW:=[.tm 2]
theorem aDY:aO Tryz.prog Tryz.f283 (bnD aBM)=some (aBM,aB4):=by kernel_rfl
theorem aDW:aN Tryz.prog aBF Tryz.f283 aBM aB4:=aN.mk Tryz.func283 (by kernel_rfl) aDY
def aXR:AC:= (boG [f5 3 0,f5 4 1,f5 5 2,f7 6 [OZ,OZ,OZ,OZ,OZ,OZ],dO 7 boD] [3,4,5,6] (.seq (boG [f8 10 3 3,f8 11 6 4,f6 12 aI6 [10,11],f4 13 12] [3,4,5,6,13] (.cond 13 (boG [rq 14 (.build [OZ,OZ,OZ,OZ,OZ,OZ] []),g0 6 true 6 14,dO 7 boD] [6,7] .ret) .skip)) (.seq (.region [boF 16 (.load 3 true 3) [8] [] true 0,boF 17 (.load 6 true 4) [8] [] false 1,boF 19 (.load 3 true 5) [8] [] true 3,f7 8 [OZ,OZ,OZ,OZ,OZ,OZ] 8,boF 18 (.call aI0 [17]) [8] [0,3] false 2,boF 20 (.call v5 [16,18,19]) [8] [] false 4,RM 15 20 5,rq 21 (.ext 15 0) 6,rq 22 (.ext 15 1) 7,g0 6 true 8 21 9,RM 9 22 10] 11 [6,8,9]) (boG [f8 23 6 8,f6 24 aI0 [23],RM 25 9,g0 6 true 6 24,RM 7 25] [6,7] .ret))))
def aXT:List aW:=[.cell 6 6 true,.tm 7]
theorem aXW:aO Tryz.prog Tryz.f12 (bnD aXR)=some (aXR,aXT):=by kernel_rfl
theorem aX7:aN Tryz.prog aXQ Tryz.f12 aXR aXT:=aN.mk Tryz.func12 (by kernel_rfl) aXW
def aJP:AC:= (boG [f5 2 0,f5 3 1,dO 4 boD] [2,3] (.seq (boG [f8 9 3 2,f6 10 aIV [9],f4 11 10,RM 12 11,g9 13 0 3 12 false,GQ 14 (.load 2 true 13) 12 false,GQ 15 (.call aIU [14]) 12 false,hP 16 15 12 false,f3 17 12 boE 16,RM 18 17,g9 19 2 3 18 false,hD 20 19 18 false,GQ 21 (.len false 20) 18 false,hO 22 .neq 21 (ki 3) 18 false,f3 23 18 boE 22] [2,3,23] (.cond 23 (boG [dO 4 boD] [4] .ret) .skip)) (boG [dO 5 (ki 0)] [2,3,5] (.seq (boG [dO 6 (ki 0)] [2,3,5,6] (.block 0 (.loop (.seq (boG [RM 24 6,dI 25 .lss 24 (ki 3)] [2,3,5,6,25] (.cond 25 .skip (.exit 0))) (.seq (.block 1 (.seq (boG [RF 28 2 3,RL 29 28,RM 30 6,e0 31 1 29 30,RL 32 31,RF 33 2 2,RL 34 33,RM 35 6,e0 36 1 34 35,RL 37 36,f1 38 37,f6 39 y2 [32,(ki 0),38],f4 40 39] [2,3,5,6,40] (.cond 40 (boG [dO 4 boD] [4] .ret) .skip)) (m2 [RM 41 5,RF 42 2 3,RL 43 42,RM 44 6,e0 45 1 43 44,RL 46 45,dI 47 .add 41 46,RM 5 47] [2,3,5,6]))) (m2 [RM 26 6,dI 27 .add 26 (ki 1),RM 6 27] [2,3,5,6])))))) (.seq (boG [f8 48 3 2,RF 49 2 3,RL 50 49,RF 51 3 3,RL 52 51,f6 53 aIQ [48,50,52,boD],f4 54 53,RM 55 54,GQ 56 (.load 3 true 2) 55 false,g9 57 2 3 55 false,hD 58 57 55 false,g9 59 4 3 55 false,hD 60 59 55 false,GQ 61 (.call aIQ [56,58,60,boE]) 55 false,hP 62 61 55 false,f3 63 55 boE 62,RM 64 63,GQ 65 (.load 3 true 2) 64 false,GQ 66 (.load 6 true 3) 64 false,GQ 67 (.call aIX [65,66]) 64 false,hP 68 67 64 false,f3 69 64 boE 68,RM 70 69,g9 71 3 3 70 false,hD 72 71 70 false,GQ 73 (.len false 72) 70 false,g9 74 4 3 70 false,hD 75 74 70 false,GQ 76 (.len false 75) 70 false,hO 77 .add 73 76 70 false,g9 78 5 3 70 false,hD 79 78 70 false,GQ 80 (.len false 79) 70 false,hO 81 .add 77 80 70 false,hG 82 5 70 false,hO 83 .neq 81 82 70 false,f3 84 70 boE 83] [3,84] (.cond 84 (boG [dO 4 boD] [4] .ret) .skip)) (.seq (boG [dO 7 (ki 0)] [3,7] (.block 2 (.loop (.seq (boG [RM 85 7,RF 86 5 3,RL 87 86,f1 88 87,dI 89 .lss 85 88] [3,7,89] (.cond 89 .skip (.exit 2))) (.seq (.block 3 (boG [RF 92 3 3,RL 93 92,RF 94 5 3,RL 95 94,RM 96 7,e0 97 5 95 96,RF 98 0 97,RL 99 98,RF 100 5 3,RL 101 100,RM 102 7,e0 103 5 101 102,RF 104 1 103,RL 105 104,f6 106 aIN [93,99,105],dI 107 .geq 106 (ki 0),RM 108 107,g9 109 4 3 108 false,hD 110 109 108 false,g9 111 5 3 108 false,hD 112 111 108 false,hG 113 7 108 false,j0 114 5 112 113 108 false,g9 115 0 114 108 false,hD 116 115 108 false,g9 117 5 3 108 false,hD 118 117 108 false,hG 119 7 108 false,j0 120 5 118 119 108 false,g9 121 1 120 108 false,hD 122 121 108 false,GQ 123 (.call aIN [110,116,122]) 108 false,hO 124 .geq 123 (ki 0) 108 false,f3 125 108 boE 124] [3,7,125] (.cond 125 (boG [dO 4 boD] [4] .ret) .skip))) (m2 [RM 90 7,dI 91 .add 90 (ki 1),RM 7 91] [3,7])))))) (.seq (boG [dO 8 (ki 0)] [3,8] (.block 4 (.loop (.seq (boG [RM 126 8,RF 127 4 3,RL 128 127,f1 129 128,dI 130 .lss 126 129] [3,8,130] (.cond 130 .skip (.exit 4))) (.seq (.block 5 (boG [RF 133 3 3,RL 134 133,RF 135 4 3,RL 136 135,RM 137 8,e0 138 5 136 137,RF 139 0 138,RL 140 139,RF 141 4 3,RL 142 141,RM 143 8,e0 144 5 142 143,RF 145 1 144,RL 146 145,f6 147 aIN [134,140,146],dI 148 .geq 147 (ki 0)] [3,8,148] (.cond 148 (boG [dO 4 boD] [4] .ret) .skip))) (m2 [RM 131 8,dI 132 .add 131 (ki 1),RM 8 132] [3,8])))))) (boG [dO 4 boE] [4] .ret))))))))
def aKC:List aW:=[.tm 4]
theorem aMJ:aO Tryz.prog Tryz.f66 (bnD aJP)=some (aJP,aKC):=by kernel_rfl
theorem aMM:aN Tryz.prog aI6 Tryz.f66 aJP aKC:=aN.mk Tryz.func66 (by kernel_rfl) aMJ
def aI9:AC:= (boG [f5 4 0,dO 8 boD] [1,2,3,4] (.seq (boG [dO 9 (ki 0)] [1,2,3,4,9] (.block 0 (.loop (.seq (boG [RM 11 9,RM 12 2,f1 13 12,dI 14 .lss 11 13] [1,2,3,4,9,14] (.cond 14 .skip (.exit 0))) (.seq (.block 1 (boG [RM 17 2,RM 18 9,e0 19 5 17 18,f8 20 5 19,f7 10 [VZ,VZ,VZ,VZ,OZ],g0 5 true 10 20] [1,2,3,4,9,10] (.seq (boG [RF 21 0 10,RL 22 21,f6 23 y2 [22,(ki 0),(ki 2)],f4 24 23,RM 25 24,g9 26 1 10 25 false,hD 27 26 25 false,hG 28 1 25 false,g9 29 0 10 25 false,hD 30 29 25 false,j0 31 1 28 30 25 false,hD 32 31 25 false,hO 33 .sub 32 (ki 1) 25 false,GQ 34 (.call y2 [27,(ki 0),33]) 25 false,hP 35 34 25 false,f3 36 25 boE 35,RM 37 36,hG 38 9 37 false,hO 39 .gtr 38 (ki 0) 37 false,hG 40 39 37 false,hG 41 2 40 true,hG 42 9 40 true,hO 43 .sub 42 (ki 1) 40 true,j0 44 5 41 43 40 true,GQ 45 (.load 5 true 44) 40 true,GQ 46 (.load 5 true 10) 40 true,GQ 47 (.call aKL [45,46]) 40 true,hP 48 47 40 true,GQ 49 (.pick 40 48 boD) 37 false,f3 50 37 boE 49] [1,2,3,4,9,10,50] (.cond 50 (boG [dO 8 boD] [8] .ret) .skip)) (boG [RM 51 3,RM 52 51,g9 53 2 10 52 true,GQ 54 (.load 3 true 53) 52 true,GQ 55 (.call aIP [54]) 52 true,hP 56 55 52 true,hG 57 56 52 true,g9 58 2 10 57 false,g9 59 0 58 57 false,hD 60 59 57 false,g9 61 2 4 57 false,hD 62 61 57 false,g9 63 0 10 57 false,hD 64 63 57 false,j0 65 1 62 64 57 false,hD 66 65 57 false,g9 67 1 10 57 false,hD 68 67 57 false,j0 69 7 66 68 57 false,g9 70 0 69 57 false,hD 71 70 57 false,hO 72 .neq 60 71 57 false,GQ 73 (.pick 57 boE 72) 52 true,f3 74 52 73 boD,RM 75 74,hG 76 3 75 false,hP 77 76 75 false,hG 78 77 75 false,g9 79 2 10 78 true,g9 80 0 79 78 true,hD 81 80 78 true,hO 82 .neq 81 (ki 0) 78 true,hG 83 82 78 true,g9 84 2 10 83 false,g9 85 1 84 83 false,hD 86 85 83 false,hO 87 .neq 86 (ki 0) 83 false,GQ 88 (.pick 83 boE 87) 78 true,hG 89 88 78 true,g9 90 2 10 89 false,g9 91 2 90 89 false,hD 92 91 89 false,GQ 93 (.len false 92) 89 false,hO 94 .neq 93 (ki 0) 89 false,GQ 95 (.pick 89 boE 94) 78 true,GQ 96 (.pick 78 95 boD) 75 false,f3 97 75 boE 96] [1,2,3,4,9,97] (.cond 97 (boG [dO 8 boD] [8] .ret) .skip))))) (m2 [RM 15 9,dI 16 .add 15 (ki 1),RM 9 16] [1,2,3,4,9])))))) (boG [dO 8 boE] [8] .ret)))
def aJ1:List aW:=[.tm 8]
theorem aKV:aO Tryz.prog Tryz.f150 (bnD aI9)=some (aI9,aJ1):=by kernel_rfl
theorem aKZ:aN Tryz.prog aIQ Tryz.f150 aI9 aJ1:=aN.mk Tryz.func150 (by kernel_rfl) aKV
def aJD:AC:= (boG [f5 2 0,f5 3 1,dO 4 boD] [2,3] (.seq (boG [dO 5 (ki 0)] [2,3,5] (.block 0 (.loop (.seq (boG [RM 7 5,RF 8 5 3,RL 9 8,f1 10 9,dI 11 .lss 7 10] [2,3,5,11] (.cond 11 .skip (.exit 0))) (.seq (.block 1 (boG [RF 14 5 3,RL 15 14,RM 16 5,e0 17 5 15 16,f8 18 5 17,f7 6 [VZ,VZ,VZ,VZ,OZ],g0 5 true 6 18] [2,3,5,6] (boG [RF 19 0 6,RL 20 19,f6 21 y2 [20,(ki 0),(ki 2)],f4 22 21,RM 23 22,g9 24 1 6 23 false,hD 25 24 23 false,g9 26 2 3 23 false,hD 27 26 23 false,g9 28 0 6 23 false,hD 29 28 23 false,j0 30 1 27 29 23 false,hD 31 30 23 false,hO 32 .sub 31 (ki 1) 23 false,GQ 33 (.call y2 [25,(ki 0),32]) 23 false,hP 34 33 23 false,f3 35 23 boE 34,RM 36 35,g9 37 2 6 36 false,GQ 38 (.load 3 true 37) 36 false,GQ 39 (.call aIP [38]) 36 false,hP 40 39 36 false,f3 41 36 boE 40,RM 42 41,g9 43 2 6 42 false,g9 44 0 43 42 false,hD 45 44 42 false,g9 46 2 2 42 false,hD 47 46 42 false,g9 48 0 6 42 false,hD 49 48 42 false,j0 50 1 47 49 42 false,hD 51 50 42 false,g9 52 1 6 42 false,hD 53 52 42 false,j0 54 7 51 53 42 false,g9 55 0 54 42 false,hD 56 55 42 false,hO 57 .neq 45 56 42 false,f3 58 42 boE 57,RM 59 58,g9 60 5 3 59 false,hD 61 60 59 false,hG 62 5 59 false,GQ 63 (.slc 5 61 none (some 62) none) 59 false,g9 64 0 6 59 false,hD 65 64 59 false,g9 66 1 6 59 false,hD 67 66 59 false,GQ 68 (.call aIN [63,65,67]) 59 false,hO 69 .geq 68 (ki 0) 59 false,f3 70 59 boE 69] [2,3,5,70] (.cond 70 (boG [dO 4 boD] [4] .ret) .skip)))) (m2 [RM 12 5,dI 13 .add 12 (ki 1),RM 5 13] [2,3,5])))))) (boG [dO 4 boE] [4] .ret)))
def aJY:List aW:=[.tm 4]
theorem aK1:aO Tryz.prog Tryz.f151 (bnD aJD)=some (aJD,aJY):=by kernel_rfl
theorem aK7:aN Tryz.prog aIX Tryz.f151 aJD aJY:=aN.mk Tryz.func151 (by kernel_rfl) aK1
def a2V:AC:= (boG [f5 2 0,dO 4 (ki 0)] [1,2] (boG [RF 5 0 2,RL 6 5,RM 7 1,f6 8 aZ5 [6,7],RM 1 8] [1,2] (.seq (boG [RM 9 1,dI 10 .lss 9 (ki 0)] [1,2,10] (.cond 10 (boG [rq 4 (.move (.kv (.int .i64 (-1))))] [4] .ret) .skip)) (boG [RF 11 1 2,RL 12 11,RM 13 1,f6 14 g7 [12,13],RM 1 14] [1,2] (.seq (boG [RM 15 1,dI 16 .lss 15 (ki 0)] [1,2,16] (.cond 16 (boG [rq 4 (.move (.kv (.int .i64 (-1))))] [4] .ret) .skip)) (boG [RF 17 2 2,RL 18 17,RM 19 1,f6 20 a0C [18,19],RM 1 20] [1] (.seq (boG [RM 21 1,dI 22 .lss 21 (ki 0)] [1,22] (.cond 22 (boG [rq 4 (.move (.kv (.int .i64 (-1))))] [4] .ret) .skip)) (boG [RM 23 1,RM 4 23] [4] .ret))))))))
def a4X:List aW:=[.tm 4]
theorem baB:aO Tryz.prog Tryz.f10 (bnD a2V)=some (a2V,a4X):=by kernel_rfl
theorem bb1:aN Tryz.prog a1J Tryz.f10 a2V a4X:=aN.mk Tryz.func10 (by kernel_rfl) baB
def bzJ:AC:= (boG [f5 2 0,dO 4 (ki 0)] [1,2] (boG [RF 5 0 2,f8 6 2 5,RM 7 1,f6 8 a0M [6,7],RM 1 8] [1,2] (.seq (boG [RM 9 1,dI 10 .lss 9 (ki 0)] [1,2,10] (.cond 10 (boG [rq 4 (.move (.kv (.int .i64 (-1))))] [4] .ret) .skip)) (boG [RF 11 2 2,RL 12 11,RM 13 1,f6 14 g7 [12,13],RM 1 14] [1,2] (.seq (boG [RM 15 1,dI 16 .lss 15 (ki 0)] [1,2,16] (.cond 16 (boG [rq 4 (.move (.kv (.int .i64 (-1))))] [4] .ret) .skip)) (boG [RF 17 3 2,RL 18 17,RM 19 1,f6 20 aZS [18,19],RM 1 20] [1,2] (.seq (boG [RM 21 1,dI 22 .lss 21 (ki 0)] [1,2,22] (.cond 22 (boG [rq 4 (.move (.kv (.int .i64 (-1))))] [4] .ret) .skip)) (boG [RF 23 4 2,RL 24 23,RM 25 1,f6 26 aZS [24,25],RM 1 26] [1,2] (.seq (boG [RM 27 1,dI 28 .lss 27 (ki 0)] [1,2,28] (.cond 28 (boG [rq 4 (.move (.kv (.int .i64 (-1))))] [4] .ret) .skip)) (boG [RF 29 5 2,RL 30 29,RM 31 1,f6 32 aZS [30,31],RM 1 32] [1] (.seq (boG [RM 33 1,dI 34 .lss 33 (ki 0)] [1,34] (.cond 34 (boG [rq 4 (.move (.kv (.int .i64 (-1))))] [4] .ret) .skip)) (boG [RM 35 1,RM 4 35] [4] .ret))))))))))))
def bA8:List aW:=[.tm 4]
theorem bCL:aO Tryz.prog Tryz.f11 (bnD bzJ)=some (bzJ,bA8):=by kernel_rfl
theorem bCR:aN Tryz.prog bzR Tryz.f11 bzJ bA8:=aN.mk Tryz.func11 (by kernel_rfl) bCL
def a2W:AC:= (boG [f5 1 0,f7 2 [OZ,OZ,OZ]] [1,2] (boG [f7 3 [OZ,OZ,OZ]] [1,2,3] (boG [RF 4 0 1,RL 5 4,f6 6 aZ4 [5],RF 7 0 3,g0 1 false 7 6] [1,2,3] (boG [RF 8 1 1,RL 9 8,f6 10 p8 [9],RF 11 1 3,g0 1 false 11 10] [1,2,3] (boG [RF 12 2 1,RL 13 12,f6 14 a0G [13],RF 15 2 3,g0 1 false 15 14] [2,3] (boG [f8 16 3 3,g0 3 true 2 16] [2] .ret))))))
def a4Y:List aW:=[.cell 2 3 true]
theorem bbW:aO Tryz.prog Tryz.f13 (bnD a2W)=some (a2W,a4Y):=by kernel_rfl
theorem bbK:aN Tryz.prog aZL Tryz.f13 a2W a4Y:=aN.mk Tryz.func13 (by kernel_rfl) bbW
def byX:AC:= (boG [f5 1 0,f7 2 [OZ,OZ,OZ,OZ,OZ,OZ]] [1,2] (boG [f7 3 [OZ,OZ,OZ,OZ,OZ,OZ]] [1,2,3] (boG [RF 4 0 1,f8 5 2 4,f6 6 a0K [5],RF 7 0 3,g0 2 true 7 6] [1,2,3] (boG [RF 8 2 1,RL 9 8,f6 10 p8 [9],RF 11 2 3,g0 1 false 11 10] [1,2,3] (boG [RF 12 3 1,RL 13 12,f6 14 aZR [13],RF 15 3 3,g0 1 false 15 14] [1,2,3] (boG [RF 16 4 1,RL 17 16,f6 18 aZR [17],RF 19 4 3,g0 1 false 19 18] [1,2,3] (boG [RF 20 5 1,RL 21 20,f6 22 aZR [21],RF 23 5 3,g0 1 false 23 22] [2,3] (boG [f8 24 6 3,g0 6 true 2 24] [2] .ret))))))))
def bz7:List aW:=[.cell 2 6 true]
theorem bBB:aO Tryz.prog Tryz.f14 (bnD byX)=some (byX,bz7):=by kernel_rfl
theorem bCN:aN Tryz.prog byP Tryz.f14 byX bz7:=aN.mk Tryz.func14 (by kernel_rfl) bBB
def bzM:AC:= (boG [f5 1 0,f7 2 [VZ,VZ,VZ]] [1,2] (boG [f7 3 [VZ,VZ,VZ]] [1,2,3] (boG [RF 4 0 1,RL 5 4,RF 6 0 3,g0 1 false 6 5] [1,2,3] (boG [RF 7 1 1,RL 8 7,RF 9 1 3,g0 1 false 9 8] [1,2,3] (boG [RF 10 2 1,RL 11 10,RF 12 2 3,g0 1 false 12 11] [2,3] (boG [f8 13 3 3,g0 3 true 2 13] [2] .ret))))))
def bA9:List aW:=[.cell 2 3 true]
theorem bCK:aO Tryz.prog Tryz.f15 (bnD bzM)=some (bzM,bA9):=by kernel_rfl
theorem bCW:aN Tryz.prog byY Tryz.f15 bzM bA9:=aN.mk Tryz.func15 (by kernel_rfl) bCK
def bzI:AC:= (boG [f5 2 0,f5 3 1,dO 4 boD] [2,3] (.seq (boG [RF 5 0 2,f8 6 2 5,RF 7 0 3,f8 8 2 7,f6 9 a0N [6,8],f4 10 9] [2,3,10] (.cond 10 (boG [dO 4 boD] [4] .ret) .skip)) (.seq (boG [RF 11 2 2,RL 12 11,RF 13 2 3,RL 14 13,f6 15 o6 [12,14],f4 16 15] [2,3,16] (.cond 16 (boG [dO 4 boD] [4] .ret) .skip)) (.seq (boG [RF 17 3 2,RL 18 17,RF 19 3 3,RL 20 19,f6 21 aZX [18,20],f4 22 21] [2,3,22] (.cond 22 (boG [dO 4 boD] [4] .ret) .skip)) (.seq (boG [RF 23 4 2,RL 24 23,RF 25 4 3,RL 26 25,f6 27 aZX [24,26],f4 28 27] [2,3,28] (.cond 28 (boG [dO 4 boD] [4] .ret) .skip)) (.seq (boG [RF 29 5 2,RL 30 29,RF 31 5 3,RL 32 31,f6 33 aZX [30,32],f4 34 33] [34] (.cond 34 (boG [dO 4 boD] [4] .ret) .skip)) (boG [dO 4 boE] [4] .ret)))))))
def bA6:List aW:=[.tm 4]
theorem bCM:aO Tryz.prog Tryz.f17 (bnD bzI)=some (bzI,bA6):=by kernel_rfl
theorem bCT:aN Tryz.prog byS Tryz.f17 bzI bA6:=aN.mk Tryz.func17 (by kernel_rfl) bCM
def a24:AC:= (boG [f5 2 0,f5 3 1,dO 4 boD] [2,3] (.seq (boG [RF 5 0 2,RL 6 5,RF 7 0 3,RL 8 7,f6 9 aZ8 [6,8],f4 10 9] [2,3,10] (.cond 10 (boG [dO 4 boD] [4] .ret) .skip)) (.seq (boG [RF 11 1 2,RL 12 11,RF 13 1 3,RL 14 13,f6 15 o6 [12,14],f4 16 15] [2,3,16] (.cond 16 (boG [dO 4 boD] [4] .ret) .skip)) (.seq (boG [RF 17 2 2,RL 18 17,RF 19 2 3,RL 20 19,f6 21 a0O [18,20],f4 22 21] [22] (.cond 22 (boG [dO 4 boD] [4] .ret) .skip)) (boG [dO 4 boE] [4] .ret)))))
def a4U:List aW:=[.tm 4]
theorem baA:aO Tryz.prog Tryz.f18 (bnD a24)=some (a24,a4U):=by kernel_rfl
theorem bbG:aN Tryz.prog a1B Tryz.f18 a24 a4U:=aN.mk Tryz.func18 (by kernel_rfl) baA
def bzK:AC:= (boG [f5 2 0,dO 4 (ki 0)] [1,2] (boG [RF 5 0 2,RL 6 5,RM 7 1,f6 8 bzT [6,7],RM 1 8] [1,2] (boG [RF 9 1 2,RL 10 9,RM 11 1,f6 12 byU [10,11],RM 1 12] [1,2] (boG [RF 13 2 2,RL 14 13,RM 15 1,f6 16 bz0 [14,15],RM 1 16] [1] (boG [RM 17 1,RM 4 17] [4] .ret)))))
def bA5:List aW:=[.tm 4]
theorem bCU:aO Tryz.prog Tryz.f19 (bnD bzK)=some (bzK,bA5):=by kernel_rfl
def by7:AC:= (boG [f5 2 0,dO 4 (ki 0)] [1,2] (boG [RF 5 0 2,f8 6 2 5,RM 7 1,f6 8 bz1 [6,7],RM 1 8] [1,2] (boG [RF 9 2 2,RL 10 9,RM 11 1,f6 12 byU [10,11],RM 1 12] [1,2] (boG [RF 13 3 2,RL 14 13,RM 15 1,f6 16 by3 [14,15],RM 1 16] [1,2] (boG [RF 17 4 2,RL 18 17,RM 19 1,f6 20 by3 [18,19],RM 1 20] [1,2] (boG [RF 21 5 2,RL 22 21,RM 23 1,f6 24 by3 [22,23],RM 1 24] [1] (boG [RM 25 1,RM 4 25] [4] .ret)))))))
def bAU:List aW:=[.tm 4]
theorem bBU:aO Tryz.prog Tryz.f20 (bnD by7)=some (by7,bAU):=by kernel_rfl
def by8:AC:= (boG [f5 2 0,dO 4 (ki 0)] [1,2] (boG [RF 5 0 2,f8 6 2 5,RM 7 1,f6 8 bz2 [6,7],RM 1 8] [1,2] (.seq (boG [RM 9 1,dI 10 .lss 9 (ki 0)] [1,2,10] (.cond 10 (boG [rq 4 (.move (.kv (.int .i64 (-1))))] [4] .ret) .skip)) (boG [RF 11 2 2,RL 12 11,RM 13 1,f6 14 by5 [12,13],RM 1 14] [1,2] (.seq (boG [RM 15 1,dI 16 .lss 15 (ki 0)] [1,2,16] (.cond 16 (boG [rq 4 (.move (.kv (.int .i64 (-1))))] [4] .ret) .skip)) (boG [RF 17 3 2,RL 18 17,RM 19 1,f6 20 by2 [18,19],RM 1 20] [1,2] (.seq (boG [RM 21 1,dI 22 .lss 21 (ki 0)] [1,2,22] (.cond 22 (boG [rq 4 (.move (.kv (.int .i64 (-1))))] [4] .ret) .skip)) (boG [RF 23 4 2,RL 24 23,RM 25 1,f6 26 by2 [24,25],RM 1 26] [1,2] (.seq (boG [RM 27 1,dI 28 .lss 27 (ki 0)] [1,2,28] (.cond 28 (boG [rq 4 (.move (.kv (.int .i64 (-1))))] [4] .ret) .skip)) (boG [RF 29 5 2,RL 30 29,RM 31 1,f6 32 by2 [30,31],RM 1 32] [1] (.seq (boG [RM 33 1,dI 34 .lss 33 (ki 0)] [1,34] (.cond 34 (boG [rq 4 (.move (.kv (.int .i64 (-1))))] [4] .ret) .skip)) (boG [RM 35 1,RM 4 35] [4] .ret))))))))))))
def bAR:List aW:=[.tm 4]
theorem bB5:aO Tryz.prog Tryz.f21 (bnD by8)=some (by8,bAR):=by kernel_rfl
theorem bB6:aN Tryz.prog by0 Tryz.f21 by8 bAR:=aN.mk Tryz.func21 (by kernel_rfl) bB5
def a0Y:AC:= (boG [dO 4 (ki 0)] [0,1] (boG [RM 5 1,RM 6 0,f1 7 6,dI 8 .sub 5 7,RM 1 8] [1] (.seq (boG [RM 9 1,dI 10 .lss 9 (ki 0)] [1,10] (.cond 10 (boG [rq 4 (.move (.kv (.int .i64 (-1))))] [4] .ret) .skip)) (boG [RM 11 1,RM 4 11] [4] .ret))))
def a3H:List aW:=[.tm 4]
theorem a57:aO Tryz.prog Tryz.f61 (bnD a0Y)=some (a0Y,a3H):=by kernel_rfl
theorem a53:aN Tryz.prog aZ5 Tryz.f61 a0Y a3H:=aN.mk Tryz.func61 (by kernel_rfl) a57
def a39:AC:= (boG [dO 4 (ki 0)] [0,1] (boG [RM 5 1,RM 6 0,f1 7 6,dI 8 .sub 5 7,RM 1 8] [1] (.seq (boG [RM 9 1,dI 10 .lss 9 (ki 0)] [1,10] (.cond 10 (boG [rq 4 (.move (.kv (.int .i64 (-1))))] [4] .ret) .skip)) (boG [RM 11 1,RM 4 11] [4] .ret))))
def a5N:List aW:=[.tm 4]
theorem bdH:aO Tryz.prog Tryz.f62 (bnD a39)=some (a39,a5N):=by kernel_rfl
theorem bdY:aN Tryz.prog g7 Tryz.f62 a39 a5N:=aN.mk Tryz.func62 (by kernel_rfl) bdH
def a1X:AC:= (boG [dO 4 (ki 0)] [0,1] (boG [RM 6 1,RM 7 0,f1 8 7,dI 9 .sub 6 8,RM 1 9] [0,1] (.seq (boG [RM 10 1,dI 11 .lss 10 (ki 0)] [0,1,11] (.cond 11 (boG [rq 4 (.move (.kv (.int .i64 (-1))))] [4] .ret) .skip)) (.seq (boG [dO 5 (ki 0)] [0,1,5] (.block 0 (.loop (.seq (boG [RM 12 5,RM 13 0,f1 14 13,dI 15 .lss 12 14] [0,1,5,15] (.cond 15 .skip (.exit 0))) (.seq (.block 1 (boG [RM 18 0,RM 19 5,e0 20 1 18 19,RL 21 20,RM 22 1,f6 23 a0U [21,22],RM 1 23] [0,1,5] (boG [RM 24 1,dI 25 .lss 24 (ki 0)] [0,1,5,25] (.cond 25 (boG [rq 4 (.move (.kv (.int .i64 (-1))))] [4] .ret) .skip)))) (m2 [RM 16 5,dI 17 .add 16 (ki 1),RM 5 17] [0,1,5])))))) (boG [RM 26 1,RM 4 26] [4] .ret)))))
def a31:List aW:=[.tm 4]
theorem a7R:aO Tryz.prog Tryz.f63 (bnD a1X)=some (a1X,a31):=by kernel_rfl
theorem a73:aN Tryz.prog a0C Tryz.f63 a1X a31:=aN.mk Tryz.func63 (by kernel_rfl) a7R
def a1Q:AC:= (boG [f5 2 0,dO 4 (ki 0)] [1,2] (boG [RF 5 0 2,f8 6 1 5,RM 7 1,f6 8 a09 [6,7],RM 1 8] [1,2] (.seq (boG [RM 9 1,dI 10 .lss 9 (ki 0)] [1,2,10] (.cond 10 (boG [rq 4 (.move (.kv (.int .i64 (-1))))] [4] .ret) .skip)) (boG [RF 11 1 2,RL 12 11,RM 13 1,f6 14 g7 [12,13],RM 1 14] [1] (.seq (boG [RM 15 1,dI 16 .lss 15 (ki 0)] [1,16] (.cond 16 (boG [rq 4 (.move (.kv (.int .i64 (-1))))] [4] .ret) .skip)) (boG [RM 17 1,RM 4 17] [4] .ret))))))
def a3Q:List aW:=[.tm 4]
theorem a7C:aO Tryz.prog Tryz.f64 (bnD a1Q)=some (a1Q,a3Q):=by kernel_rfl
theorem a6W:aN Tryz.prog a0M Tryz.f64 a1Q a3Q:=aN.mk Tryz.func64 (by kernel_rfl) a7C
def a2K:AC:= (boG [dO 4 (ki 0)] [0,1] (boG [RM 6 1,RM 7 0,f1 8 7,dI 9 .sub 6 8,RM 1 9] [0,1] (.seq (boG [RM 10 1,dI 11 .lss 10 (ki 0)] [0,1,11] (.cond 11 (boG [rq 4 (.move (.kv (.int .i64 (-1))))] [4] .ret) .skip)) (.seq (boG [dO 5 (ki 0)] [0,1,5] (.block 0 (.loop (.seq (boG [RM 12 5,RM 13 0,f1 14 13,dI 15 .lss 12 14] [0,1,5,15] (.cond 15 .skip (.exit 0))) (.seq (.block 1 (boG [RM 18 0,RM 19 5,e0 20 5 18 19,f8 21 5 20,RM 22 1,f6 23 a1A [21,22],RM 1 23] [0,1,5] (boG [RM 24 1,dI 25 .lss 24 (ki 0)] [0,1,5,25] (.cond 25 (boG [rq 4 (.move (.kv (.int .i64 (-1))))] [4] .ret) .skip)))) (m2 [RM 16 5,dI 17 .add 16 (ki 1),RM 5 17] [0,1,5])))))) (boG [RM 26 1,RM 4 26] [4] .ret)))))
def a4L:List aW:=[.tm 4]
theorem a8W:aO Tryz.prog Tryz.f65 (bnD a2K)=some (a2K,a4L):=by kernel_rfl
theorem a83:aN Tryz.prog aZS Tryz.f65 a2K a4L:=aN.mk Tryz.func65 (by kernel_rfl) a8W
def a02:AC:= (boG [dO 2 (.kv (.slice none 0 0))] [0] (boG [RM 5 0,f1 6 5,rq 7 (.kY 4 [VZ,VZ,VZ,(.v (.bool false))] 6 6),RM 3 7] [0,3] (.seq (boG [dO 4 (ki 0)] [0,3,4] (.block 0 (.loop (.seq (boG [RM 8 4,RM 9 0,f1 10 9,dI 11 .lss 8 10] [0,3,4,11] (.cond 11 .skip (.exit 0))) (.seq (.block 1 (m2 [RM 14 3,RM 15 4,RM 16 0,RM 17 4,e0 18 4 16 17,f8 19 4 18,f6 20 a0B [19],e0 21 4 14 15,g0 4 true 21 20] [0,3,4])) (m2 [RM 12 4,dI 13 .add 12 (ki 1),RM 4 13] [0,3,4])))))) (boG [RM 22 3,RM 2 22] [2] .ret))))
def a3J:List aW:=[.tm 2]
theorem a50:aO Tryz.prog Tryz.f69 (bnD a02)=some (a02,a3J):=by kernel_rfl
theorem a56:aN Tryz.prog aZ4 Tryz.f69 a02 a3J:=aN.mk Tryz.func69 (by kernel_rfl) a50
def a3V:AC:= (boG [dO 2 (.kv (.slice none 0 0))] [0] (boG [RM 5 0,f1 6 5,rq 7 (.kY 1 [VZ] 6 6),RM 3 7] [0,3] (.seq (boG [dO 4 (ki 0)] [0,3,4] (.block 0 (.loop (.seq (boG [RM 8 4,RM 9 0,f1 10 9,dI 11 .lss 8 10] [0,3,4,11] (.cond 11 .skip (.exit 0))) (.seq (.block 1 (m2 [RM 14 3,RM 15 4,RM 16 0,RM 17 4,e0 18 1 16 17,RL 19 18,e0 20 1 14 15,g0 1 false 20 19] [0,3,4])) (m2 [RM 12 4,dI 13 .add 12 (ki 1),RM 4 13] [0,3,4])))))) (boG [RM 21 3,RM 2 21] [2] .ret))))
def a5S:List aW:=[.tm 2]
theorem bdX:aO Tryz.prog Tryz.f70 (bnD a3V)=some (a3V,a5S):=by kernel_rfl
theorem bdO:aN Tryz.prog p8 Tryz.f70 a3V a5S:=aN.mk Tryz.func70 (by kernel_rfl) bdX
def a1T:AC:= (boG [dO 2 (.kv (.slice none 0 0))] [0] (boG [RM 5 0,f1 6 5,rq 7 (.kY 1 [OZ] 6 6),RM 3 7] [0,3] (.seq (boG [dO 4 (ki 0)] [0,3,4] (.block 0 (.loop (.seq (boG [RM 8 4,RM 9 0,f1 10 9,dI 11 .lss 8 10] [0,3,4,11] (.cond 11 .skip (.exit 0))) (.seq (.block 1 (m2 [RM 14 3,RM 15 4,RM 16 0,RM 17 4,e0 18 1 16 17,RL 19 18,f6 20 a0S [19],e0 21 1 14 15,g0 1 false 21 20] [0,3,4])) (m2 [RM 12 4,dI 13 .add 12 (ki 1),RM 4 13] [0,3,4])))))) (boG [RM 22 3,RM 2 22] [2] .ret))))
def a3U:List aW:=[.tm 2]
theorem a6U:aO Tryz.prog Tryz.f71 (bnD a1T)=some (a1T,a3U):=by kernel_rfl
theorem a7Q:aN Tryz.prog a0G Tryz.f71 a1T a3U:=aN.mk Tryz.func71 (by kernel_rfl) a6U
def a13:AC:= (boG [f5 1 0,f7 2 [OZ,OZ]] [1,2] (boG [f7 3 [OZ,OZ]] [1,2,3] (boG [RF 4 0 1,f8 5 1 4,f6 6 a1G [5],RF 7 0 3,g0 1 true 7 6] [1,2,3] (boG [RF 8 1 1,RL 9 8,f6 10 p8 [9],RF 11 1 3,g0 1 false 11 10] [2,3] (boG [f8 12 2 3,g0 2 true 2 12] [2] .ret)))))
def a3T:List aW:=[.cell 2 2 true]
theorem a6S:aO Tryz.prog Tryz.f72 (bnD a13)=some (a13,a3T):=by kernel_rfl
theorem a7L:aN Tryz.prog a0K Tryz.f72 a13 a3T:=aN.mk Tryz.func72 (by kernel_rfl) a6S
def a2J:AC:= (boG [dO 2 (.kv (.slice none 0 0))] [0] (boG [RM 5 0,f1 6 5,rq 7 (.kY 5 [VZ,VZ,VZ,VZ,OZ] 6 6),RM 3 7] [0,3] (.seq (boG [dO 4 (ki 0)] [0,3,4] (.block 0 (.loop (.seq (boG [RM 8 4,RM 9 0,f1 10 9,dI 11 .lss 8 10] [0,3,4,11] (.cond 11 .skip (.exit 0))) (.seq (.block 1 (m2 [RM 14 3,RM 15 4,RM 16 0,RM 17 4,e0 18 5 16 17,f8 19 5 18,f6 20 a1H [19],e0 21 5 14 15,g0 5 true 21 20] [0,3,4])) (m2 [RM 12 4,dI 13 .add 12 (ki 1),RM 4 13] [0,3,4])))))) (boG [RM 22 3,RM 2 22] [2] .ret))))
def a4K:List aW:=[.tm 2]
theorem a8J:aO Tryz.prog Tryz.f73 (bnD a2J)=some (a2J,a4K):=by kernel_rfl
theorem a8V:aN Tryz.prog aZR Tryz.f73 a2J a4K:=aN.mk Tryz.func73 (by kernel_rfl) a8J
def a1O:AC:= (boG [f5 2 0,f5 3 1,dO 4 boD] [2,3] (.seq (boG [RF 5 0 2,f8 6 1 5,RF 7 0 3,f8 8 1 7,f6 9 a07 [6,8],f4 10 9] [2,3,10] (.cond 10 (boG [dO 4 boD] [4] .ret) .skip)) (.seq (boG [RF 11 1 2,RL 12 11,RF 13 1 3,RL 14 13,f6 15 o6 [12,14],f4 16 15] [16] (.cond 16 (boG [dO 4 boD] [4] .ret) .skip)) (boG [dO 4 boE] [4] .ret))))
def a38:List aW:=[.tm 4]
theorem a71:aO Tryz.prog Tryz.f78 (bnD a1O)=some (a1O,a38):=by kernel_rfl
theorem a6F:aN Tryz.prog a0N Tryz.f78 a1O a38:=aN.mk Tryz.func78 (by kernel_rfl) a71
def a33:AC:= (boG [dO 4 boD] [0,1] (.seq (boG [RM 6 0,f1 7 6,RM 8 1,f1 9 8,dI 10 .neq 7 9] [0,1,10] (.cond 10 (boG [dO 4 boD] [4] .ret) .skip)) (.seq (boG [dO 5 (ki 0)] [0,1,5] (.block 0 (.loop (.seq (boG [RM 11 5,RM 12 0,f1 13 12,dI 14 .lss 11 13] [0,1,5,14] (.cond 14 .skip (.exit 0))) (.seq (.block 1 (boG [RM 17 0,RM 18 5,e0 19 1 17 18,RL 20 19,RM 21 1,RM 22 5,e0 23 1 21 22,RL 24 23,dI 25 .neq 20 24] [0,1,5,25] (.cond 25 (boG [dO 4 boD] [4] .ret) .skip))) (m2 [RM 15 5,dI 16 .add 15 (ki 1),RM 5 16] [0,1,5])))))) (boG [dO 4 boE] [4] .ret))))
def a5Q:List aW:=[.tm 4]
theorem bdL:aO Tryz.prog Tryz.f79 (bnD a33)=some (a33,a5Q):=by kernel_rfl
theorem bdU:aN Tryz.prog o6 Tryz.f79 a33 a5Q:=aN.mk Tryz.func79 (by kernel_rfl) bdL
def a2B:AC:= (boG [dO 4 boD] [0,1] (.seq (boG [RM 6 0,f1 7 6,RM 8 1,f1 9 8,dI 10 .neq 7 9] [0,1,10] (.cond 10 (boG [dO 4 boD] [4] .ret) .skip)) (.seq (boG [dO 5 (ki 0)] [0,1,5] (.block 0 (.loop (.seq (boG [RM 11 5,RM 12 0,f1 13 12,dI 14 .lss 11 13] [0,1,5,14] (.cond 14 .skip (.exit 0))) (.seq (.block 1 (boG [RM 17 0,RM 18 5,e0 19 5 17 18,f8 20 5 19,RM 21 1,RM 22 5,e0 23 5 21 22,f8 24 5 23,f6 25 a1I [20,24],f4 26 25] [0,1,5,26] (.cond 26 (boG [dO 4 boD] [4] .ret) .skip))) (m2 [RM 15 5,dI 16 .add 15 (ki 1),RM 5 16] [0,1,5])))))) (boG [dO 4 boE] [4] .ret))))
def a4D:List aW:=[.tm 4]
theorem a78:aO Tryz.prog Tryz.f80 (bnD a2B)=some (a2B,a4D):=by kernel_rfl
theorem a9J:aN Tryz.prog aZX Tryz.f80 a2B a4D:=aN.mk Tryz.func80 (by kernel_rfl) a78
def a01:AC:= (boG [dO 4 boD] [0,1] (.seq (boG [RM 6 0,f1 7 6,RM 8 1,f1 9 8,dI 10 .neq 7 9] [0,1,10] (.cond 10 (boG [dO 4 boD] [4] .ret) .skip)) (.seq (boG [dO 5 (ki 0)] [0,1,5] (.block 0 (.loop (.seq (boG [RM 11 5,RM 12 0,f1 13 12,dI 14 .lss 11 13] [0,1,5,14] (.cond 14 .skip (.exit 0))) (.seq (.block 1 (boG [RM 17 0,RM 18 5,e0 19 4 17 18,f8 20 4 19,RM 21 1,RM 22 5,e0 23 4 21 22,f8 24 4 23,f6 25 a0A [20,24],f4 26 25] [0,1,5,26] (.cond 26 (boG [dO 4 boD] [4] .ret) .skip))) (m2 [RM 15 5,dI 16 .add 15 (ki 1),RM 5 16] [0,1,5])))))) (boG [dO 4 boE] [4] .ret))))
def a3K:List aW:=[.tm 4]
theorem a5Y:aO Tryz.prog Tryz.f81 (bnD a01)=some (a01,a3K):=by kernel_rfl
theorem a5V:aN Tryz.prog aZ8 Tryz.f81 a01 a3K:=aN.mk Tryz.func81 (by kernel_rfl) a5Y
def a1L:AC:= (boG [dO 4 boD] [0,1] (.seq (boG [RM 6 0,f1 7 6,RM 8 1,f1 9 8,dI 10 .neq 7 9] [0,1,10] (.cond 10 (boG [dO 4 boD] [4] .ret) .skip)) (.seq (boG [dO 5 (ki 0)] [0,1,5] (.block 0 (.loop (.seq (boG [RM 11 5,RM 12 0,f1 13 12,dI 14 .lss 11 13] [0,1,5,14] (.cond 14 .skip (.exit 0))) (.seq (.block 1 (boG [RM 17 0,RM 18 5,e0 19 1 17 18,RL 20 19,RM 21 1,RM 22 5,e0 23 1 21 22,RL 24 23,f6 25 a0W [20,24],f4 26 25] [0,1,5,26] (.cond 26 (boG [dO 4 boD] [4] .ret) .skip))) (m2 [RM 15 5,dI 16 .add 15 (ki 1),RM 5 16] [0,1,5])))))) (boG [dO 4 boE] [4] .ret))))
def a3O:List aW:=[.tm 4]
theorem a6K:aO Tryz.prog Tryz.f82 (bnD a1L)=some (a1L,a3O):=by kernel_rfl
theorem a7W:aN Tryz.prog a0O Tryz.f82 a1L a3O:=aN.mk Tryz.func82 (by kernel_rfl) a6K
def by4:AC:= (boG [dO 4 (ki 0)] [0,1] (.seq (boG [dO 5 (ki 0)] [0,1,5] (.block 0 (.loop (.seq (boG [RM 6 5,RM 7 0,f1 8 7,dI 9 .lss 6 8] [0,1,5,9] (.cond 9 .skip (.exit 0))) (.seq (.block 1 (boG [RM 12 0,RM 13 5,RM 14 1,e0 15 4 12 13,RF 16 0 15,g0 1 false 16 14] [0,1,5] (boG [RM 17 1,dI 18 .add 17 (ki 1),RM 1 18] [0,1,5] (boG [RM 19 0,RM 20 5,RM 21 1,e0 22 4 19 20,RF 23 1 22,g0 1 false 23 21] [0,1,5] (boG [RM 24 1,dI 25 .add 24 (ki 1),RM 1 25] [0,1,5] (boG [RM 26 0,RM 27 5,RM 28 1,e0 29 4 26 27,RF 30 2 29,g0 1 false 30 28] [0,1,5] (boG [RM 31 1,dI 32 .add 31 (ki 1),RM 1 32] [0,1,5] (boG [RM 33 0,RM 34 5,RM 35 1,dI 36 .rem 35 (ki 3),dI 37 .eql 36 (ki 0),e0 38 4 33 34,RF 39 3 38,g0 1 false 39 37] [0,1,5] (m2 [RM 40 1,dI 41 .add 40 (ki 1),RM 1 41] [0,1,5]))))))))) (m2 [RM 10 5,dI 11 .add 10 (ki 1),RM 5 11] [0,1,5])))))) (boG [RM 42 1,RM 4 42] [4] .ret)))
def bAL:List aW:=[.tm 4]
theorem bBS:aO Tryz.prog Tryz.f83 (bnD by4)=some (by4,bAL):=by kernel_rfl
def bzV:AC:= (boG [dO 4 (ki 0)] [0,1] (.seq (boG [dO 5 (ki 0)] [0,1,5] (.block 0 (.loop (.seq (boG [RM 6 5,RM 7 0,f1 8 7,dI 9 .lss 6 8] [0,1,5,9] (.cond 9 .skip (.exit 0))) (.seq (.block 1 (boG [RM 12 0,RM 13 5,RM 14 1,e0 15 1 12 13,g0 1 false 15 14] [0,1,5] (m2 [RM 16 1,dI 17 .add 16 (ki 1),RM 1 17] [0,1,5]))) (m2 [RM 10 5,dI 11 .add 10 (ki 1),RM 5 11] [0,1,5])))))) (boG [RM 18 1,RM 4 18] [4] .ret)))
def bBG:List aW:=[.tm 4]
theorem bDV:aO Tryz.prog Tryz.f84 (bnD bzV)=some (bzV,bBG):=by kernel_rfl
def bzA:AC:= (boG [dO 4 (ki 0)] [0,1] (.seq (boG [dO 5 (ki 0)] [0,1,5] (.block 0 (.loop (.seq (boG [RM 6 5,RM 7 0,f1 8 7,dI 9 .lss 6 8] [0,1,5,9] (.cond 9 .skip (.exit 0))) (.seq (.block 1 (m2 [RM 12 0,RM 13 5,e0 14 1 12 13,RL 15 14,RM 16 1,f6 17 bz8 [15,16],RM 1 17] [0,1,5])) (m2 [RM 10 5,dI 11 .add 10 (ki 1),RM 5 11] [0,1,5])))))) (boG [RM 18 1,RM 4 18] [4] .ret)))
def bAX:List aW:=[.tm 4]
theorem bB7:aO Tryz.prog Tryz.f85 (bnD bzA)=some (bzA,bAX):=by kernel_rfl
def bzC:AC:= (boG [f5 2 0,dO 4 (ki 0)] [1,2] (boG [RF 5 0 2,f8 6 1 5,RM 7 1,f6 8 bAB [6,7],RM 1 8] [1,2] (boG [RF 9 1 2,RL 10 9,RM 11 1,f6 12 byU [10,11],RM 1 12] [1] (boG [RM 13 1,RM 4 13] [4] .ret))))
def bAP:List aW:=[.tm 4]
theorem bBT:aO Tryz.prog Tryz.f86 (bnD bzC)=some (bzC,bAP):=by kernel_rfl
def bzF:AC:= (boG [dO 4 (ki 0)] [0,1] (.seq (boG [dO 5 (ki 0)] [0,1,5] (.block 0 (.loop (.seq (boG [RM 6 5,RM 7 0,f1 8 7,dI 9 .lss 6 8] [0,1,5,9] (.cond 9 .skip (.exit 0))) (.seq (.block 1 (boG [RM 12 0,RM 13 5,RM 14 1,e0 15 5 12 13,RF 16 0 15,g0 1 false 16 14] [0,1,5] (boG [RM 17 1,dI 18 .add 17 (ki 1),RM 1 18] [0,1,5] (boG [RM 19 0,RM 20 5,RM 21 1,e0 22 5 19 20,RF 23 1 22,g0 1 false 23 21] [0,1,5] (boG [RM 24 1,dI 25 .add 24 (ki 1),RM 1 25] [0,1,5] (boG [RM 26 0,RM 27 5,RM 28 1,e0 29 5 26 27,RF 30 2 29,RF 31 0 30,g0 1 false 31 28] [0,1,5] (boG [RM 32 1,dI 33 .add 32 (ki 1),RM 1 33] [0,1,5] (boG [RM 34 0,RM 35 5,RM 36 1,e0 37 5 34 35,RF 38 2 37,RF 39 1 38,g0 1 false 39 36] [0,1,5] (boG [RM 40 1,dI 41 .add 40 (ki 1),RM 1 41] [0,1,5] (m2 [RM 42 0,RM 43 5,e0 44 5 42 43,RF 45 2 44,RF 46 2 45,RL 47 46,RM 48 1,f6 49 byU [47,48],RM 1 49] [0,1,5])))))))))) (m2 [RM 10 5,dI 11 .add 10 (ki 1),RM 5 11] [0,1,5])))))) (boG [RM 50 1,RM 4 50] [4] .ret)))
def bA0:List aW:=[.tm 4]
theorem bCB:aO Tryz.prog Tryz.f87 (bnD bzF)=some (bzF,bA0):=by kernel_rfl
def by9:AC:= (boG [f5 2 0,dO 4 (ki 0)] [1,2] (boG [RF 5 0 2,f8 6 1 5,RM 7 1,f6 8 bAF [6,7],RM 1 8] [1,2] (.seq (boG [RM 9 1,dI 10 .lss 9 (ki 0)] [1,2,10] (.cond 10 (boG [rq 4 (.move (.kv (.int .i64 (-1))))] [4] .ret) .skip)) (boG [RF 11 1 2,RL 12 11,RM 13 1,f6 14 by5 [12,13],RM 1 14] [1] (.seq (boG [RM 15 1,dI 16 .lss 15 (ki 0)] [1,16] (.cond 16 (boG [rq 4 (.move (.kv (.int .i64 (-1))))] [4] .ret) .skip)) (boG [RM 17 1,RM 4 17] [4] .ret))))))
def bAV:List aW:=[.tm 4]
theorem bB0:aO Tryz.prog Tryz.f88 (bnD by9)=some (by9,bAV):=by kernel_rfl
theorem bB2:aN Tryz.prog bz2 Tryz.f88 by9 bAV:=aN.mk Tryz.func88 (by kernel_rfl) bB0
def bzZ:AC:= (boG [dO 4 (ki 0)] [0,1] (.seq (boG [dO 5 (ki 0)] [0,1,5] (.block 0 (.loop (.seq (boG [RM 6 5,RM 7 0,f1 8 7,dI 9 .lss 6 8] [0,1,5,9] (.cond 9 .skip (.exit 0))) (.seq (.block 1 (.seq (boG [RM 12 0,RM 13 5,e0 14 1 12 13,RL 15 14,RM 16 1,dI 17 .neq 15 16] [0,1,5,17] (.cond 17 (boG [rq 4 (.move (.kv (.int .i64 (-1))))] [4] .ret) .skip)) (m2 [RM 18 1,dI 19 .add 18 (ki 1),RM 1 19] [0,1,5]))) (m2 [RM 10 5,dI 11 .add 10 (ki 1),RM 5 11] [0,1,5])))))) (boG [RM 20 1,RM 4 20] [4] .ret)))
def bBJ:List aW:=[.tm 4]
theorem bDX:aO Tryz.prog Tryz.f89 (bnD bzZ)=some (bzZ,bBJ):=by kernel_rfl
theorem bD0:aN Tryz.prog by5 Tryz.f89 bzZ bBJ:=aN.mk Tryz.func89 (by kernel_rfl) bDX
def bzE:AC:= (boG [dO 4 (ki 0)] [0,1] (.seq (boG [dO 5 (ki 0)] [0,1,5] (.block 0 (.loop (.seq (boG [RM 6 5,RM 7 0,f1 8 7,dI 9 .lss 6 8] [0,1,5,9] (.cond 9 .skip (.exit 0))) (.seq (.block 1 (.seq (boG [RM 12 0,RM 13 5,e0 14 5 12 13,RF 15 0 14,RL 16 15,RM 17 1,dI 18 .neq 16 17] [0,1,5,18] (.cond 18 (boG [rq 4 (.move (.kv (.int .i64 (-1))))] [4] .ret) .skip)) (boG [RM 19 1,dI 20 .add 19 (ki 1),RM 1 20] [0,1,5] (.seq (boG [RM 21 0,RM 22 5,e0 23 5 21 22,RF 24 1 23,RL 25 24,RM 26 1,dI 27 .neq 25 26] [0,1,5,27] (.cond 27 (boG [rq 4 (.move (.kv (.int .i64 (-1))))] [4] .ret) .skip)) (boG [RM 28 1,dI 29 .add 28 (ki 1),RM 1 29] [0,1,5] (.seq (boG [RM 30 0,RM 31 5,e0 32 5 30 31,RF 33 2 32,RF 34 0 33,RL 35 34,RM 36 1,dI 37 .neq 35 36] [0,1,5,37] (.cond 37 (boG [rq 4 (.move (.kv (.int .i64 (-1))))] [4] .ret) .skip)) (boG [RM 38 1,dI 39 .add 38 (ki 1),RM 1 39] [0,1,5] (.seq (boG [RM 40 0,RM 41 5,e0 42 5 40 41,RF 43 2 42,RF 44 1 43,RL 45 44,RM 46 1,dI 47 .neq 45 46] [0,1,5,47] (.cond 47 (boG [rq 4 (.move (.kv (.int .i64 (-1))))] [4] .ret) .skip)) (boG [RM 48 1,dI 49 .add 48 (ki 1),RM 1 49] [0,1,5] (boG [RM 50 0,RM 51 5,e0 52 5 50 51,RF 53 2 52,RF 54 2 53,RL 55 54,RM 56 1,f6 57 by5 [55,56],RM 1 57] [0,1,5] (boG [RM 58 1,dI 59 .lss 58 (ki 0)] [0,1,5,59] (.cond 59 (boG [rq 4 (.move (.kv (.int .i64 (-1))))] [4] .ret) .skip)))))))))))) (m2 [RM 10 5,dI 11 .add 10 (ki 1),RM 5 11] [0,1,5])))))) (boG [RM 60 1,RM 4 60] [4] .ret)))
def bA2:List aW:=[.tm 4]
theorem bCG:aO Tryz.prog Tryz.f90 (bnD bzE)=some (bzE,bA2):=by kernel_rfl
theorem bCA:aN Tryz.prog by2 Tryz.f90 bzE bA2:=aN.mk Tryz.func90 (by kernel_rfl) bCG
def a2D:AC:= (boG [dO 4 (ki 0)] [0,1] (boG [RM 6 1,RM 7 0,f1 8 7,dI 9 .sub 6 8,RM 1 9] [0,1] (.seq (boG [RM 10 1,dI 11 .lss 10 (ki 0)] [0,1,11] (.cond 11 (boG [rq 4 (.move (.kv (.int .i64 (-1))))] [4] .ret) .skip)) (.seq (boG [dO 5 (ki 0)] [0,1,5] (.block 0 (.loop (.seq (boG [RM 12 5,RM 13 0,f1 14 13,dI 15 .lss 12 14] [0,1,5,15] (.cond 15 .skip (.exit 0))) (.seq (.block 1 (boG [RM 18 0,RM 19 5,e0 20 7 18 19,f8 21 7 20,RM 22 1,f6 23 a06 [21,22],RM 1 23] [0,1,5] (boG [RM 24 1,dI 25 .lss 24 (ki 0)] [0,1,5,25] (.cond 25 (boG [rq 4 (.move (.kv (.int .i64 (-1))))] [4] .ret) .skip)))) (m2 [RM 16 5,dI 17 .add 16 (ki 1),RM 5 17] [0,1,5])))))) (boG [RM 26 1,RM 4 26] [4] .ret)))))
def a4F:List aW:=[.tm 4]
theorem a9H:aO Tryz.prog Tryz.f146 (bnD a2D)=some (a2D,a4F):=by kernel_rfl
theorem a8Z:aN Tryz.prog a0U Tryz.f146 a2D a4F:=aN.mk Tryz.func146 (by kernel_rfl) a9H
def a2Y:AC:= (boG [f5 2 0,dO 4 (ki 0)] [1,2] (boG [RF 5 0 2,RL 6 5,RM 7 1,f6 8 g7 [6,7],RM 1 8] [1] (.seq (boG [RM 9 1,dI 10 .lss 9 (ki 0)] [1,10] (.cond 10 (boG [rq 4 (.move (.kv (.int .i64 (-1))))] [4] .ret) .skip)) (boG [RM 11 1,RM 4 11] [4] .ret))))
def a47:List aW:=[.tm 4]
theorem ba5:aO Tryz.prog Tryz.f147 (bnD a2Y)=some (a2Y,a47):=by kernel_rfl
theorem baS:aN Tryz.prog a09 Tryz.f147 a2Y a47:=aN.mk Tryz.func147 (by kernel_rfl) ba5
def a2S:AC:= (boG [f5 2 0,dO 4 (ki 0)] [1,2] (boG [RF 5 2 2,f8 6 3 5,RM 7 1,f6 8 a1F [6,7],RM 1 8] [1] (.seq (boG [RM 9 1,dI 10 .lss 9 (ki 0)] [1,10] (.cond 10 (boG [rq 4 (.move (.kv (.int .i64 (-1))))] [4] .ret) .skip)) (boG [RM 11 1,RM 4 11] [4] .ret))))
def a4W:List aW:=[.tm 4]
theorem bbZ:aO Tryz.prog Tryz.f148 (bnD a2S)=some (a2S,a4W):=by kernel_rfl
theorem baJ:aN Tryz.prog a1A Tryz.f148 a2S a4W:=aN.mk Tryz.func148 (by kernel_rfl) bbZ
def a12:AC:= (boG [f5 1 0,f7 2 [VZ,VZ,VZ,(.v (.bool false))]] [1,2] (boG [f7 3 [VZ,VZ,VZ,(.v (.bool false))]] [1,2,3] (boG [RF 4 0 1,RL 5 4,RF 6 0 3,g0 1 false 6 5] [1,2,3] (boG [RF 7 1 1,RL 8 7,RF 9 1 3,g0 1 false 9 8] [1,2,3] (boG [RF 10 2 1,RL 11 10,RF 12 2 3,g0 1 false 12 11] [1,2,3] (boG [RF 13 3 1,RL 14 13,RF 15 3 3,g0 1 false 15 14] [2,3] (boG [f8 16 4 3,g0 4 true 2 16] [2] .ret)))))))
def a3R:List aW:=[.cell 2 4 true]
theorem a68:aO Tryz.prog Tryz.f159 (bnD a12)=some (a12,a3R):=by kernel_rfl
theorem a6J:aN Tryz.prog a0B Tryz.f159 a12 a3R:=aN.mk Tryz.func159 (by kernel_rfl) a68
def a17:AC:= (boG [dO 2 (.kv (.slice none 0 0))] [0] (boG [RM 5 0,f1 6 5,rq 7 (.kY 7 [VZ,VZ,VZ,VZ,(.v (.bool false)),OZ,OZ] 6 6),RM 3 7] [0,3] (.seq (boG [dO 4 (ki 0)] [0,3,4] (.block 0 (.loop (.seq (boG [RM 8 4,RM 9 0,f1 10 9,dI 11 .lss 8 10] [0,3,4,11] (.cond 11 .skip (.exit 0))) (.seq (.block 1 (m2 [RM 14 3,RM 15 4,RM 16 0,RM 17 4,e0 18 7 16 17,f8 19 7 18,f6 20 a1D [19],e0 21 7 14 15,g0 7 true 21 20] [0,3,4])) (m2 [RM 12 4,dI 13 .add 12 (ki 1),RM 4 13] [0,3,4])))))) (boG [RM 22 3,RM 2 22] [2] .ret))))
def a4M:List aW:=[.tm 2]
theorem a9S:aO Tryz.prog Tryz.f160 (bnD a17)=some (a17,a4M):=by kernel_rfl
theorem a9F:aN Tryz.prog a0S Tryz.f160 a17 a4M:=aN.mk Tryz.func160 (by kernel_rfl) a9S
def a22:AC:= (boG [f5 1 0,f7 2 [OZ]] [1,2] (boG [f7 3 [OZ]] [1,2,3] (boG [RF 4 0 1,RL 5 4,f6 6 p8 [5],RF 7 0 3,g0 1 false 7 6] [2,3] (boG [f8 8 1 3,g0 1 true 2 8] [2] .ret))))
def a5B:List aW:=[.cell 2 1 true]
theorem ba7:aO Tryz.prog Tryz.f161 (bnD a22)=some (a22,a5B):=by kernel_rfl
theorem bbF:aN Tryz.prog a1G Tryz.f161 a22 a5B:=aN.mk Tryz.func161 (by kernel_rfl) ba7
def a2Z:AC:= (boG [f5 1 0,f7 2 [VZ,VZ,VZ,VZ,OZ]] [1,2] (boG [f7 3 [VZ,VZ,VZ,VZ,OZ]] [1,2,3] (boG [RF 4 0 1,RL 5 4,RF 6 0 3,g0 1 false 6 5] [1,2,3] (boG [RF 7 1 1,RL 8 7,RF 9 1 3,g0 1 false 9 8] [1,2,3] (boG [RF 10 2 1,f8 11 3 10,f6 12 a05 [11],RF 13 2 3,g0 3 true 13 12] [2,3] (boG [f8 14 5 3,g0 5 true 2 14] [2] .ret))))))
def a40:List aW:=[.cell 2 5 true]
theorem bbH:aO Tryz.prog Tryz.f162 (bnD a2Z)=some (a2Z,a40):=by kernel_rfl
theorem bbN:aN Tryz.prog a1H Tryz.f162 a2Z a40:=aN.mk Tryz.func162 (by kernel_rfl) bbH
def a2R:AC:= (boG [f5 2 0,f5 3 1,dO 4 boD] [2,3] (.seq (boG [RF 5 0 2,RL 6 5,RF 7 0 3,RL 8 7,f6 9 o6 [6,8],f4 10 9] [10] (.cond 10 (boG [dO 4 boD] [4] .ret) .skip)) (boG [dO 4 boE] [4] .ret)))
def a49:List aW:=[.tm 4]
theorem bbB:aO Tryz.prog Tryz.f174 (bnD a2R)=some (a2R,a49):=by kernel_rfl
theorem bbV:aN Tryz.prog a07 Tryz.f174 a2R a49:=aN.mk Tryz.func174 (by kernel_rfl) bbB
def a28:AC:= (boG [f5 2 0,f5 3 1,dO 4 boD] [2,3] (.seq (boG [RF 5 0 2,RL 6 5,RF 7 0 3,RL 8 7,dI 9 .neq 6 8] [2,3,9] (.cond 9 (boG [dO 4 boD] [4] .ret) .skip)) (.seq (boG [RF 10 1 2,RL 11 10,RF 12 1 3,RL 13 12,dI 14 .neq 11 13] [2,3,14] (.cond 14 (boG [dO 4 boD] [4] .ret) .skip)) (.seq (boG [RF 15 2 2,f8 16 3 15,RF 17 2 3,f8 18 3 17,f6 19 a1E [16,18],f4 20 19] [20] (.cond 20 (boG [dO 4 boD] [4] .ret) .skip)) (boG [dO 4 boE] [4] .ret)))))
def a4O:List aW:=[.tm 4]
theorem bb4:aO Tryz.prog Tryz.f175 (bnD a28)=some (a28,a4O):=by kernel_rfl
theorem bbX:aN Tryz.prog a1I Tryz.f175 a28 a4O:=aN.mk Tryz.func175 (by kernel_rfl) bb4
def a1S:AC:= (boG [f5 2 0,f5 3 1,dO 4 boD] [2,3] (.seq (boG [RF 5 0 2,RL 6 5,RF 7 0 3,RL 8 7,dI 9 .neq 6 8] [2,3,9] (.cond 9 (boG [dO 4 boD] [4] .ret) .skip)) (.seq (boG [RF 10 1 2,RL 11 10,RF 12 1 3,RL 13 12,dI 14 .neq 11 13] [2,3,14] (.cond 14 (boG [dO 4 boD] [4] .ret) .skip)) (.seq (boG [RF 15 2 2,RL 16 15,RF 17 2 3,RL 18 17,dI 19 .neq 16 18] [2,3,19] (.cond 19 (boG [dO 4 boD] [4] .ret) .skip)) (.seq (boG [RF 20 3 2,RL 21 20,RF 22 3 3,RL 23 22,rq 24 (.beq true 21 23)] [24] (.cond 24 (boG [dO 4 boD] [4] .ret) .skip)) (boG [dO 4 boE] [4] .ret))))))
def a3P:List aW:=[.tm 4]
theorem a7E:aO Tryz.prog Tryz.f176 (bnD a1S)=some (a1S,a3P):=by kernel_rfl
theorem a6H:aN Tryz.prog a0A Tryz.f176 a1S a3P:=aN.mk Tryz.func176 (by kernel_rfl) a7E
def a2L:AC:= (boG [dO 4 boD] [0,1] (.seq (boG [RM 6 0,f1 7 6,RM 8 1,f1 9 8,dI 10 .neq 7 9] [0,1,10] (.cond 10 (boG [dO 4 boD] [4] .ret) .skip)) (.seq (boG [dO 5 (ki 0)] [0,1,5] (.block 0 (.loop (.seq (boG [RM 11 5,RM 12 0,f1 13 12,dI 14 .lss 11 13] [0,1,5,14] (.cond 14 .skip (.exit 0))) (.seq (.block 1 (boG [RM 17 0,RM 18 5,e0 19 7 17 18,f8 20 7 19,RM 21 1,RM 22 5,e0 23 7 21 22,f8 24 7 23,f6 25 a1K [20,24],f4 26 25] [0,1,5,26] (.cond 26 (boG [dO 4 boD] [4] .ret) .skip))) (m2 [RM 15 5,dI 16 .add 15 (ki 1),RM 5 16] [0,1,5])))))) (boG [dO 4 boE] [4] .ret))))
def a4A:List aW:=[.tm 4]
theorem a95:aO Tryz.prog Tryz.f177 (bnD a2L)=some (a2L,a4A):=by kernel_rfl
theorem a84:aN Tryz.prog a0W Tryz.f177 a2L a4A:=aN.mk Tryz.func177 (by kernel_rfl) a95
def bzG:AC:= (boG [dO 4 (ki 0)] [0,1] (.seq (boG [dO 5 (ki 0)] [0,1,5] (.block 0 (.loop (.seq (boG [RM 6 5,RM 7 0,f1 8 7,dI 9 .lss 6 8] [0,1,5,9] (.cond 9 .skip (.exit 0))) (.seq (.block 1 (boG [RM 12 0,RM 13 5,RM 14 1,e0 15 7 12 13,RF 16 0 15,g0 1 false 16 14] [0,1,5] (boG [RM 17 1,dI 18 .add 17 (ki 1),RM 1 18] [0,1,5] (boG [RM 19 0,RM 20 5,RM 21 1,e0 22 7 19 20,RF 23 1 22,g0 1 false 23 21] [0,1,5] (boG [RM 24 1,dI 25 .add 24 (ki 1),RM 1 25] [0,1,5] (boG [RM 26 0,RM 27 5,RM 28 1,e0 29 7 26 27,RF 30 2 29,g0 1 false 30 28] [0,1,5] (boG [RM 31 1,dI 32 .add 31 (ki 1),RM 1 32] [0,1,5] (boG [RM 33 0,RM 34 5,RM 35 1,e0 36 7 33 34,RF 37 3 36,g0 1 false 37 35] [0,1,5] (boG [RM 38 1,dI 39 .add 38 (ki 1),RM 1 39] [0,1,5] (boG [RM 40 0,RM 41 5,RM 42 1,dI 43 .rem 42 (ki 3),dI 44 .eql 43 (ki 0),e0 45 7 40 41,RF 46 4 45,g0 1 false 46 44] [0,1,5] (boG [RM 47 1,dI 48 .add 47 (ki 1),RM 1 48] [0,1,5] (boG [RM 49 0,RM 50 5,e0 51 7 49 50,RF 52 5 51,RL 53 52,RM 54 1,f6 55 byU [53,54],RM 1 55] [0,1,5] (m2 [RM 56 0,RM 57 5,e0 58 7 56 57,RF 59 6 58,RL 60 59,RM 61 1,f6 62 byU [60,61],RM 1 62] [0,1,5]))))))))))))) (m2 [RM 10 5,dI 11 .add 10 (ki 1),RM 5 11] [0,1,5])))))) (boG [RM 63 1,RM 4 63] [4] .ret)))
def bAZ:List aW:=[.tm 4]
theorem bCJ:aO Tryz.prog Tryz.f178 (bnD bzG)=some (bzG,bAZ):=by kernel_rfl
def bzN:AC:= (boG [f5 2 0,dO 4 (ki 0)] [1,2] (boG [RF 5 0 2,RL 6 5,RM 7 1,f6 8 byU [6,7],RM 1 8] [1] (boG [RM 9 1,RM 4 9] [4] .ret)))
def bBA:List aW:=[.tm 4]
theorem bCQ:aO Tryz.prog Tryz.f179 (bnD bzN)=some (bzN,bBA):=by kernel_rfl
def bzO:AC:= (boG [f5 2 0,dO 4 (ki 0)] [1,2] (boG [RF 5 0 2,RL 6 5,RM 7 1,f6 8 by5 [6,7],RM 1 8] [1] (.seq (boG [RM 9 1,dI 10 .lss 9 (ki 0)] [1,10] (.cond 10 (boG [rq 4 (.move (.kv (.int .i64 (-1))))] [4] .ret) .skip)) (boG [RM 11 1,RM 4 11] [4] .ret))))
def bA7:List aW:=[.tm 4]
theorem bC4:aO Tryz.prog Tryz.f180 (bnD bzO)=some (bzO,bA7):=by kernel_rfl
theorem bCZ:aN Tryz.prog bAF Tryz.f180 bzO bA7:=aN.mk Tryz.func180 (by kernel_rfl) bC4
def a26:AC:= (boG [f5 2 0,dO 4 (ki 0)] [1,2] (boG [RF 5 5 2,RL 6 5,RM 7 1,f6 8 g7 [6,7],RM 1 8] [1,2] (.seq (boG [RM 9 1,dI 10 .lss 9 (ki 0)] [1,2,10] (.cond 10 (boG [rq 4 (.move (.kv (.int .i64 (-1))))] [4] .ret) .skip)) (boG [RF 11 6 2,RL 12 11,RM 13 1,f6 14 g7 [12,13],RM 1 14] [1] (.seq (boG [RM 15 1,dI 16 .lss 15 (ki 0)] [1,16] (.cond 16 (boG [rq 4 (.move (.kv (.int .i64 (-1))))] [4] .ret) .skip)) (boG [RM 17 1,RM 4 17] [4] .ret))))))
def a4T:List aW:=[.tm 4]
theorem bb8:aO Tryz.prog Tryz.f225 (bnD a26)=some (a26,a4T):=by kernel_rfl
theorem baR:aN Tryz.prog a06 Tryz.f225 a26 a4T:=aN.mk Tryz.func225 (by kernel_rfl) bb8
def a2U:AC:= (boG [f5 2 0,dO 4 (ki 0)] [1,2] (boG [RF 5 2 2,RL 6 5,RM 7 1,f6 8 g7 [6,7],RM 1 8] [1] (.seq (boG [RM 9 1,dI 10 .lss 9 (ki 0)] [1,10] (.cond 10 (boG [rq 4 (.move (.kv (.int .i64 (-1))))] [4] .ret) .skip)) (boG [RM 11 1,RM 4 11] [4] .ret))))
def a4P:List aW:=[.tm 4]
theorem baY:aO Tryz.prog Tryz.f226 (bnD a2U)=some (a2U,a4P):=by kernel_rfl
theorem baH:aN Tryz.prog a1F Tryz.f226 a2U a4P:=aN.mk Tryz.func226 (by kernel_rfl) baY
def a2T:AC:= (boG [f5 1 0,f7 2 [VZ,VZ,VZ,VZ,(.v (.bool false)),OZ,OZ]] [1,2] (boG [f7 3 [VZ,VZ,VZ,VZ,(.v (.bool false)),OZ,OZ]] [1,2,3] (boG [RF 4 0 1,RL 5 4,RF 6 0 3,g0 1 false 6 5] [1,2,3] (boG [RF 7 1 1,RL 8 7,RF 9 1 3,g0 1 false 9 8] [1,2,3] (boG [RF 10 2 1,RL 11 10,RF 12 2 3,g0 1 false 12 11] [1,2,3] (boG [RF 13 3 1,RL 14 13,RF 15 3 3,g0 1 false 15 14] [1,2,3] (boG [RF 16 4 1,RL 17 16,RF 18 4 3,g0 1 false 18 17] [1,2,3] (boG [RF 19 5 1,RL 20 19,f6 21 p8 [20],RF 22 5 3,g0 1 false 22 21] [1,2,3] (boG [RF 23 6 1,RL 24 23,f6 25 p8 [24],RF 26 6 3,g0 1 false 26 25] [2,3] (boG [f8 27 7 3,g0 7 true 2 27] [2] .ret))))))))))
def a4V:List aW:=[.cell 2 7 true]
theorem bbL:aO Tryz.prog Tryz.f236 (bnD a2T)=some (a2T,a4V):=by kernel_rfl
theorem baW:aN Tryz.prog a1D Tryz.f236 a2T a4V:=aN.mk Tryz.func236 (by kernel_rfl) bbL
def a25:AC:= (boG [f5 1 0,f7 2 [VZ,VZ,OZ]] [1,2] (boG [f7 3 [VZ,VZ,OZ]] [1,2,3] (boG [RF 4 0 1,RL 5 4,RF 6 0 3,g0 1 false 6 5] [1,2,3] (boG [RF 7 1 1,RL 8 7,RF 9 1 3,g0 1 false 9 8] [1,2,3] (boG [RF 10 2 1,RL 11 10,f6 12 p8 [11],RF 13 2 3,g0 1 false 13 12] [2,3] (boG [f8 14 3 3,g0 3 true 2 14] [2] .ret))))))
def a4Z:List aW:=[.cell 2 3 true]
theorem bbM:aO Tryz.prog Tryz.f237 (bnD a25)=some (a25,a4Z):=by kernel_rfl
theorem bbA:aN Tryz.prog a05 Tryz.f237 a25 a4Z:=aN.mk Tryz.func237 (by kernel_rfl) bbM
def a2X:AC:= (boG [f5 2 0,f5 3 1,dO 4 boD] [2,3] (.seq (boG [RF 5 0 2,RL 6 5,RF 7 0 3,RL 8 7,dI 9 .neq 6 8] [2,3,9] (.cond 9 (boG [dO 4 boD] [4] .ret) .skip)) (.seq (boG [RF 10 1 2,RL 11 10,RF 12 1 3,RL 13 12,dI 14 .neq 11 13] [2,3,14] (.cond 14 (boG [dO 4 boD] [4] .ret) .skip)) (.seq (boG [RF 15 2 2,RL 16 15,RF 17 2 3,RL 18 17,f6 19 o6 [16,18],f4 20 19] [20] (.cond 20 (boG [dO 4 boD] [4] .ret) .skip)) (boG [dO 4 boE] [4] .ret)))))
def a4S:List aW:=[.tm 4]
theorem bbE:aO Tryz.prog Tryz.f260 (bnD a2X)=some (a2X,a4S):=by kernel_rfl
theorem baI:aN Tryz.prog a1E Tryz.f260 a2X a4S:=aN.mk Tryz.func260 (by kernel_rfl) bbE
def a27:AC:= (boG [f5 2 0,f5 3 1,dO 4 boD] [2,3] (.seq (boG [RF 5 0 2,RL 6 5,RF 7 0 3,RL 8 7,dI 9 .neq 6 8] [2,3,9] (.cond 9 (boG [dO 4 boD] [4] .ret) .skip)) (.seq (boG [RF 10 1 2,RL 11 10,RF 12 1 3,RL 13 12,dI 14 .neq 11 13] [2,3,14] (.cond 14 (boG [dO 4 boD] [4] .ret) .skip)) (.seq (boG [RF 15 2 2,RL 16 15,RF 17 2 3,RL 18 17,dI 19 .neq 16 18] [2,3,19] (.cond 19 (boG [dO 4 boD] [4] .ret) .skip)) (.seq (boG [RF 20 3 2,RL 21 20,RF 22 3 3,RL 23 22,dI 24 .neq 21 23] [2,3,24] (.cond 24 (boG [dO 4 boD] [4] .ret) .skip)) (.seq (boG [RF 25 4 2,RL 26 25,RF 27 4 3,RL 28 27,rq 29 (.beq true 26 28)] [2,3,29] (.cond 29 (boG [dO 4 boD] [4] .ret) .skip)) (.seq (boG [RF 30 5 2,RL 31 30,RF 32 5 3,RL 33 32,f6 34 o6 [31,33],f4 35 34] [2,3,35] (.cond 35 (boG [dO 4 boD] [4] .ret) .skip)) (.seq (boG [RF 36 6 2,RL 37 36,RF 38 6 3,RL 39 38,f6 40 o6 [37,39],f4 41 40] [41] (.cond 41 (boG [dO 4 boD] [4] .ret) .skip)) (boG [dO 4 boE] [4] .ret)))))))))
def a5A:List aW:=[.tm 4]
theorem bbD:aO Tryz.prog Tryz.f261 (bnD a27)=some (a27,a5A):=by kernel_rfl
theorem baO:aN Tryz.prog a1K Tryz.f261 a27 a5A:=aN.mk Tryz.func261 (by kernel_rfl) bbD
end Go.Proofs.YtdkfhdmagdaceaaGreat
