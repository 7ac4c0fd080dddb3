/- Texts laid together by a program: rules, contracts and the walk that leads to the law. -/
import Derived.Test.YtmccpdapaccnoaaGreatPD3
set_option linter.unusedVariables false
set_option linter.unusedSimpArgs false
set_option linter.unusedSectionVars false
set_option maxRecDepth 100000
set_option maxHeartbeats 8000000
namespace Go.Proofs.YtmccpdapaccnoaaGreat
open Go Go.AM
def aBW:AC:= (boG [dO 6 boD] [0,1,2] (boG [RM 7 0,RM 8 1,dI 9 .geq 7 8,RM 10 9,hG 11 0 10 true,hG 12 2 10 true,hO 13 .leq 11 12 10 true,f3 14 10 13 boD,RM 6 14] [6] .ret))
def aCD:List aW:=[.tm 6]
theorem aD3:aO Tryz.prog Tryz.f149 (bnD aBW)=some (aBW,aCD):=by kernel_rfl
theorem aD6:aN Tryz.prog y2 Tryz.f149 aBW aCD:=aN.mk Tryz.func149 (by kernel_rfl) aD3
def aJR:AC:= (boG [dO 6 (ki 0)] [0,1,2] (.seq (boG [dO 7 (ki 0)] [0,1,2,7] (.block 0 (.loop (.seq (boG [RM 8 7,RM 9 0,f1 10 9,dI 11 .lss 8 10] [0,1,2,7,11] (.cond 11 .skip (.exit 0))) (.seq (.block 1 (boG [RM 14 0,RM 15 7,e0 16 5 14 15,RF 17 0 16,RL 18 17,RM 19 1,dI 20 .eql 18 19,RM 21 20,hG 22 0 21 true,hG 23 7 21 true,j0 24 5 22 23 21 true,g9 25 1 24 21 true,hD 26 25 21 true,hG 27 2 21 true,hO 28 .eql 26 27 21 true,f3 29 21 28 boD] [0,1,2,7,29] (.cond 29 (boG [RM 30 7,RM 6 30] [6] .ret) .skip))) (m2 [RM 12 7,dI 13 .add 12 (ki 1),RM 7 13] [0,1,2,7])))))) (boG [rq 6 (.move (.kv (.int .i64 (-1))))] [6] .ret)))
def aKI:List aW:=[.tm 6]
theorem aMV:aO Tryz.prog Tryz.f152 (bnD aJR)=some (aJR,aKI):=by kernel_rfl
theorem aM1:aN Tryz.prog aIN Tryz.f152 aJR aKI:=aN.mk Tryz.func152 (by kernel_rfl) aMV
def aN3:AC:= (boG [f5 3 1,dO 4 (.kv (.slice none 0 0))] [0,3] (boG [rq 8 (.bC 5 0 [VZ,VZ,VZ,VZ,OZ] []),RM 5 8] [0,3,5] (boG [dO 6 boD] [0,3,5,6] (.seq (boG [dO 7 (ki 0)] [0,3,5,6,7] (.block 0 (.loop (.seq (boG [RM 9 7,RM 10 0,f1 11 10,dI 12 .lss 9 11] [0,3,5,6,7,12] (.cond 12 .skip (.exit 0))) (.seq (.block 1 (.seq (boG [RM 15 6,f4 16 15,RM 17 16,GQ 18 (.load 5 true 3) 17 true,hG 19 0 17 true,hG 20 7 17 true,j0 21 5 19 20 17 true,GQ 22 (.load 5 true 21) 17 true,GQ 23 (.call aKL [18,22]) 17 true,f3 24 17 23 boD] [0,3,5,6,7,24] (.cond 24 (boG [RM 25 5,f8 26 5 3,rq 27 (.bC 5 1 [VZ,VZ,VZ,VZ,OZ] [(0,5,26)]),rq 28 (.append 5 25 27),RM 5 28] [0,3,5,7] (m2 [dO 6 boE] [0,3,5,6,7])) .skip)) (m2 [RM 29 5,RM 30 0,RM 31 7,e0 32 5 30 31,f8 33 5 32,rq 34 (.bC 5 1 [VZ,VZ,VZ,VZ,OZ] [(0,5,33)]),rq 35 (.append 5 29 34),RM 5 35] [0,3,5,6,7]))) (m2 [RM 13 7,dI 14 .add 13 (ki 1),RM 7 14] [0,3,5,6,7])))))) (.seq (boG [RM 36 6,f4 37 36] [3,5,37] (.cond 37 (m2 [RM 38 5,f8 39 5 3,rq 40 (.bC 5 1 [VZ,VZ,VZ,VZ,OZ] [(0,5,39)]),rq 41 (.append 5 38 40),RM 5 41] [5]) .skip)) (boG [RM 42 5,RM 4 42] [4] .ret))))))
def aO7:List aW:=[.tm 4]
theorem aSI:aO Tryz.prog Tryz.f153 (bnD aN3)=some (aN3,aO7):=by kernel_rfl
theorem aSO:aN Tryz.prog aJS Tryz.f153 aN3 aO7:=aN.mk Tryz.func153 (by kernel_rfl) aSI
def aOF:AC:= (boG [f5 5 1,f5 7 3,f7 8 [OZ,OZ],f7 9 [VZ,VZ,OZ]] [0,2,5,7,8,9] (boG [RF 14 2 7,RL 15 14,RF 16 3 7,RL 17 16,RF 18 4 7,RL 19 18,f6 20 aAY [15,17,19],RM 10 20] [0,2,5,7,8,9,10] (boG [RM 21 0,RM 22 10,f6 23 aA4 [21,22],RM 11 23] [0,2,5,7,8,9,10,11] (boG [RF 24 0 7,RL 25 24,rq 26 (.build [VZ,VZ,OZ] [(0,1,25),(1,1,(ki 1))]),f7 12 [VZ,VZ,OZ],g0 3 true 12 26] [0,2,5,7,8,9,10,11,12] (.seq (boG [RM 27 11,dI 28 .lss 27 (ki 0)] [0,2,5,7,8,9,10,11,12,28] (.cond 28 (boG [RF 29 1 12,g0 1 false 29 (ki 4)] [5,8,9,12] (boG [f8 30 2 5,boF 31 (.load 3 true 12) [] [] true,dA none (.store 2 true 8 30) none [] [1] false,g0 3 true 9 31] [8,9] .ret)) .skip)) (.seq (boG [f8 32 7 7,f6 33 aAZ [32],RM 34 33,hG 35 0 34 true,hG 36 11 34 true,j0 37 4 35 36 34 true,g9 38 3 37 34 true,hD 39 38 34 true,f3 40 34 39 boD] [2,5,7,8,9,10,12,40] (.cond 40 (boG [RF 41 1 12,g0 1 false 41 (ki 3)] [5,8,9,12] (boG [f8 42 2 5,boF 43 (.load 3 true 12) [] [] true,dA none (.store 2 true 8 42) none [] [1] false,g0 3 true 9 43] [8,9] .ret)) .skip)) (boG [RM 44 2,dI 45 .mul 44 (ki 2),RF 46 0 7,RL 47 46,dI 48 .add 45 47,RM 13 48] [5,7,8,9,10,12,13] (.seq (boG [RF 49 1 7,RL 50 49] [5,7,8,9,10,12,13,50] (.block 0 (boG [dI 64 .eql 50 (ki 1),RM 63 64] [5,7,8,9,10,12,13,50,63] (.cond 63 (m2 [RF 65 0 5,f8 66 1 65,RM 67 10,f6 68 W3 [66,67],RF 69 2 12,g0 1 false 69 68] [5,8,9,12]) (boG [dI 71 .eql 50 (ki 3),RM 70 71] [5,7,8,9,10,12,13,50,70] (.cond 70 (boG [RF 72 0 5,f8 73 1 72,RM 74 10,f6 75 W3 [73,74],RF 76 2 12,g0 1 false 76 75] [5,7,8,9,12,13] (boG [RF 77 1 12,g0 1 false 77 (ki 2)] [5,7,8,9,12,13] (m2 [RF 78 1 5,RL 79 78,RM 80 13,RF 81 2 7,RL 82 81,e0 83 1 79 80,g0 1 false 83 82] [5,8,9,12]))) (boG [dI 85 .eql 50 (ki 4),RM 84 85] [5,7,8,9,10,12,13,84] (.cond 84 (.seq (boG [RF 86 1 5,RL 87 86,RM 88 13,e0 89 1 87 88,RL 90 89,RF 91 2 7,RL 92 91,dI 93 .neq 90 92] [5,7,8,9,10,12,93] (.cond 93 (boG [f8 94 2 5,boF 95 (.load 3 true 12) [] [] true,dA none (.store 2 true 8 94) none [] [1] false,g0 3 true 9 95] [8,9] .ret) .skip)) (boG [RF 96 1 12,g0 1 false 96 (ki 2)] [5,7,8,9,10,12] (boG [RF 97 0 5,f8 98 1 97,RM 99 10,RF 100 5 7,RL 101 100,RF 102 6 7,RL 103 102,f6 104 H5 [98,99,101,103],RF 105 0 5,g0 1 true 105 104] [5,8,9,10,12] (m2 [f8 106 2 5,RM 107 10,f6 108 v9 [106,107],g0 2 true 5 108] [5,8,9,12])))) (boG [RF 51 0 5,f8 52 1 51,RM 53 10,RF 54 5 7,RL 55 54,RF 56 6 7,RL 57 56,f6 58 H5 [52,53,55,57],RF 59 0 5,g0 1 true 59 58] [5,8,9,10,12] (m2 [f8 60 2 5,RM 61 10,f6 62 v9 [60,61],g0 2 true 5 62] [5,8,9,12])))))))))) (boG [f8 109 2 5,boF 110 (.load 3 true 12) [] [] true,dA none (.store 2 true 8 109) none [] [1] false,g0 3 true 9 110] [8,9] .ret)))))))))
def aPI:List aW:=[.cell 8 2 true,.cell 9 3 true]
theorem aS3:aO Tryz.prog Tryz.f155 (bnD aOF)=some (aOF,aPI):=by kernel_rfl
theorem aSX:aN Tryz.prog aN2 Tryz.f155 aOF aPI:=aN.mk Tryz.func155 (by kernel_rfl) aS3
def aJH:AC:= (boG [f5 1 0,f7 2 [OZ,OZ]] [1,2] (.seq (.region [RF 3 0 1 0,boF 4 (.load 1 true 3) [3] [] false 1,rq 6 (.bC 1 0 [VZ] []) 3,RF 7 1 1 4,g8 8 7 [3] [] true 5,boF 5 (.call aIW [4]) [3] [5] false 2,rq 9 (.append 1 6 8) 6,rq 10 (.build [OZ,OZ] [(0,1,5),(1,1,9)]) 7,g0 2 true 2 10 8] 9 [2]) .ret))
def aJ4:List aW:=[.cell 2 2 true]
theorem aLG:aO Tryz.prog Tryz.f157 (bnD aJH)=some (aJH,aJ4):=by kernel_rfl
theorem aKW:aN Tryz.prog aIR Tryz.f157 aJH aJ4:=aN.mk Tryz.func157 (by kernel_rfl) aLG
def aJF:AC:= (boG [dO 2 (.kv (.slice none 0 0))] [0] (boG [rq 5 (.bC 5 0 [VZ,VZ,VZ,VZ,OZ] []),RM 3 5] [0,3] (.seq (boG [dO 4 (ki 0)] [0,3,4] (.block 0 (.loop (.seq (boG [RM 6 4,RM 7 0,f1 8 7,dI 9 .lss 6 8] [0,3,4,9] (.cond 9 .skip (.exit 0))) (.seq (.block 1 (m2 [RM 12 3,RM 13 0,RM 14 4,e0 15 5 13 14,RF 16 0 15,g8 17 16 [18] [] true,RM 18 0,RM 19 4,e0 20 5 18 19,RF 21 1 20,g8 22 21 [18] [] true,RM 23 0,RM 24 4,e0 25 5 23 24,RF 26 2 25,f8 27 3 26,boF 28 (.call aI8 [27]) [] [5,10] false,rq 29 (.build [VZ,VZ,VZ,VZ,OZ] [(0,1,17),(1,1,22),(2,3,28)]),rq 30 (.bC 5 1 [VZ,VZ,VZ,VZ,OZ] [(0,5,29)]),rq 31 (.append 5 12 30),RM 3 31] [0,3,4])) (m2 [RM 10 4,dI 11 .add 10 (ki 1),RM 4 11] [0,3,4])))))) (boG [RM 32 3,RM 2 32] [2] .ret))))
def aJZ:List aW:=[.tm 2]
theorem aLH:aO Tryz.prog Tryz.f158 (bnD aJF)=some (aJF,aJZ):=by kernel_rfl
theorem aLL:aN Tryz.prog aIM Tryz.f158 aJF aJZ:=aN.mk Tryz.func158 (by kernel_rfl) aLH
def kI:AC:= (boG [f5 1 0,f7 2 [OZ,OZ]] [1,2] (.seq (.region [RF 3 0 1 0,RF 4 0 3 1,RL 5 4 2,RF 8 1 1 5,g8 9 8 [] [] true 6,boF 6 (.call eX [5]) [] [6] false 3,rq 7 (.build [OZ] [(0,1,6)]) 4,f6 10 eX [9] 7,rq 11 (.build [OZ,OZ] [(0,1,7),(1,1,10)]) 8,g0 2 true 2 11 9] 10 [2]) .ret))
def pS:List aW:=[.cell 2 2 true]
theorem BE:aO Tryz.prog Tryz.f163 (bnD kI)=some (kI,pS):=by kernel_rfl
theorem A9:aN Tryz.prog fL Tryz.f163 kI pS:=aN.mk Tryz.func163 (by kernel_rfl) BE
def rI:AC:= (boG [dO 2 (.kv (.slice none 0 0))] [0] (boG [RM 3 0,f6 4 gO [3],f6 5 iD [4],RM 2 5] [2] .ret))
def zA:List aW:=[.tm 2]
theorem KH:aO Tryz.prog Tryz.f164 (bnD rI)=some (rI,zA):=by kernel_rfl
theorem LI:aN Tryz.prog eX Tryz.f164 rI zA:=aN.mk Tryz.func164 (by kernel_rfl) KH
def tD:AC:= (boG [dO 2 (.kv (.slice none 0 0))] [0] (boG [RM 6 0,f6 7 gG [6],RM 3 7] [3] (.seq (boG [RM 8 3,f1 9 8,dO 10 (ki 0)] [3,8,9,10] (.block 0 (.loop (boG [dI 11 .lss 10 9] [3,8,9,10,11] (.seq (.cond 11 .skip (.exit 0)) (.seq (.block 1 (boG [RM 12 10,e0 13 5 8 10,f8 14 5 13,f7 5 [VZ,VZ,VZ,VZ,OZ],RM 4 12,g0 5 true 5 14] [3,4,5,8,9,10] (m2 [RM 15 3,RM 16 4,RF 17 2 5,RF 18 2 17,RL 19 18,f6 20 eX [19],e0 21 5 15 16,RF 22 2 21,RF 23 2 22,g0 1 false 23 20] [3,8,9,10]))) (m2 [dI 24 .add 10 (ki 1),RM 10 24] [3,8,9,10]))))))) (boG [RM 25 3,RM 2 25] [2] .ret))))
def BL:List aW:=[.tm 2]
theorem MI:aO Tryz.prog Tryz.f165 (bnD tD)=some (tD,BL):=by kernel_rfl
theorem MD:aN Tryz.prog eO Tryz.f165 tD BL:=aN.mk Tryz.func165 (by kernel_rfl) MI
def nS:AC:= (boG [f5 7 3,f7 8 [VZ,VZ,OZ]] [0,1,2,7,8] (boG [RM 19 1,f8 20 7 7,f6 21 mZ [19,20],RM 9 21] [0,1,2,7,8,9] (boG [RF 22 0 7,RL 23 22,rq 24 (.build [VZ,VZ,OZ] [(0,1,23),(1,1,(ki 1))]),f7 10 [VZ,VZ,OZ],g0 3 true 10 24] [0,1,2,7,8,9,10] (boG [RM 25 0,RK 26 25,RF 27 1 26,RL 28 27,RM 29 2,dI 30 .mul 29 (ki 2),RF 31 0 7,RL 32 31,dI 33 .add 30 32,e0 34 1 28 33,RM 11 34] [0,1,7,8,9,10,11] (.seq (.block 0 (boG [RM 36 9,dI 37 .lss 36 (ki 0),RM 35 37] [0,1,7,8,9,10,11,35] (.cond 35 (boG [RF 38 1 10,g0 1 false 38 (ki 4)] [8,10] (boG [f8 39 3 10,g0 3 true 8 39] [8] .ret)) (boG [f8 41 7 7,f6 42 eY [41],RM 43 42,hG 44 1 43 true,hG 45 9 43 true,j0 46 4 44 45 43 true,g9 47 3 46 43 true,hD 48 47 43 true,f3 49 43 48 boD,RM 40 49] [0,7,8,10,11,40] (.cond 40 (boG [RF 50 1 10,g0 1 false 50 (ki 3)] [8,10] (boG [f8 51 3 10,g0 3 true 8 51] [8] .ret)) (boG [RF 53 1 7,RL 54 53,dI 55 .eql 54 (ki 4),RM 56 55,hG 57 11 56 true,GQ 58 (.tF 57) 56 true,hD 59 58 56 true,g9 60 2 7 56 true,hD 61 60 56 true,hO 62 .neq 59 61 56 true,f3 63 56 62 boD,RM 52 63] [0,7,8,10,11,52] (.cond 52 (boG [f8 64 3 10,g0 3 true 8 64] [8] .ret) .skip))))))) (boG [f8 65 7 7,f6 66 fP [65],RM 12 66] [0,7,8,10,11,12] (.seq (boG [f8 67 7 7,f6 68 eY [67],f4 69 68] [0,7,8,10,11,12,69] (.cond 69 (boG [RM 70 12,f1 71 70,rq 72 (.kY 1 [VZ] 71 71),RF 73 2 10,g0 1 false 73 72] [0,7,8,10,11,12] (.seq (boG [RM 74 12,f1 75 74,dO 76 (ki 0)] [0,7,8,10,11,74,75,76] (.block 1 (.loop (boG [dI 77 .lss 76 75] [0,7,8,10,11,74,75,76,77] (.seq (.cond 77 .skip (.exit 1)) (.seq (.block 2 (boG [RM 78 76,e0 79 1 74 76,RL 80 79,RM 13 78,RM 14 80] [0,7,8,10,11,13,14,74,75,76] (m2 [RF 81 2 10,RL 82 81,RM 83 13,RM 84 0,RK 85 84,RF 86 0 85,RF 87 0 86,RL 88 87,RM 89 14,e0 90 1 88 89,RL 91 90,e0 92 1 82 83,g0 1 false 92 91] [0,7,8,10,11,74,75,76]))) (m2 [dI 93 .add 76 (ki 1),RM 76 93] [0,7,8,10,11,74,75,76]))))))) (.seq (boG [RF 94 1 7,RL 95 94,dI 96 .eql 95 (ki 3)] [7,8,10,11,96] (.cond 96 (boG [RF 97 1 10,g0 1 false 97 (ki 2)] [7,8,10,11] (m2 [RM 98 11,RF 99 2 7,RL 100 99,RK 101 98,g0 1 false 101 100] [8,10])) .skip)) (boG [f8 102 3 10,g0 3 true 8 102] [8] .ret)))) .skip)) (.seq (boG [RF 103 1 7,RL 104 103,dI 105 .eql 104 (ki 4)] [0,7,8,10,12,105] (.cond 105 (m2 [RF 106 1 10,g0 1 false 106 (ki 2)] [0,7,8,10,12]) .skip)) (.seq (boG [RM 107 12,f1 108 107,dO 109 (ki 0)] [0,7,8,10,12,107,108,109] (.block 3 (.loop (boG [dI 110 .lss 109 108] [0,7,8,10,12,107,108,109,110] (.seq (.cond 110 .skip (.exit 3)) (.seq (.block 4 (boG [RM 111 109,e0 112 1 107 109,RL 113 112,RM 15 111,RM 16 113] [0,7,8,10,12,15,16,107,108,109] (m2 [RM 114 0,RK 115 114,RF 116 0 115,RF 117 0 116,g8 118 117 [] [] true,RM 119 16,RM 120 0,RK 121 120,RF 122 0 121,RF 123 0 122,RL 124 123,RM 125 16,e0 126 1 124 125,RL 127 126,RF 128 5 7,RL 129 128,RM 130 15,e0 131 1 129 130,RL 132 131,RF 133 6 7,RL 134 133,RM 135 15,e0 136 1 134 135,RL 137 136,boF 138 (.call DA [127,132,137]) [] [4] false,e0 139 1 118 119,g0 1 false 139 138] [0,7,8,10,12,107,108,109]))) (m2 [dI 140 .add 109 (ki 1),RM 109 140] [0,7,8,10,12,107,108,109]))))))) (.seq (boG [RM 141 0,RK 142 141,RF 143 1 142,RL 144 143,f1 145 144,dO 146 (ki 0)] [0,8,10,12,144,145,146] (.block 5 (.loop (boG [dI 147 .lss 146 145] [0,8,10,12,144,145,146,147] (.seq (.cond 147 .skip (.exit 5)) (.seq (.block 6 (boG [RM 148 146,e0 149 1 144 146,RL 150 149,RM 17 148,RM 18 150] [0,8,10,12,17,18,144,145,146] (boG [RM 151 12,RM 152 18,f6 153 fK [151,152]] [0,8,10,12,17,144,145,146,153] (.cond 153 (m2 [RM 154 0,RK 155 154,RF 156 1 155,RL 157 156,RM 158 17,e0 159 1 157 158,rn (.store 1 false 159 (.kv (.int .i64 (-1))))] [0,8,10,12,144,145,146]) .skip)))) (m2 [dI 160 .add 146 (ki 1),RM 146 160] [0,8,10,12,144,145,146]))))))) (boG [f8 161 3 10,g0 3 true 8 161] [8] .ret)))))))))))
def vR:List aW:=[.cell 8 3 true]
theorem HL:aO Tryz.prog Tryz.f171 (bnD nS)=some (nS,vR):=by kernel_rfl
def fX:AC:= (boG [dO 4 boD] [0,1] (boG [RM 5 0,RM 6 1,f6 7 fF [5,6],dI 8 .geq 7 (ki 0),RM 4 8] [4] .ret))
def jY:List aW:=[.tm 4]
theorem rV:aO Tryz.prog Tryz.f190 (bnD fX)=some (fX,jY):=by kernel_rfl
theorem r8:aN Tryz.prog bN Tryz.f190 fX jY:=aN.mk Tryz.func190 (by kernel_rfl) rV
def vK:AC:= (boG [dO 2 boD] [0] (boG [RM 3 0,f6 4 cQ [3,(ki 0),(ki 3)],f4 5 4,RM 2 5] [2] .ret))
def DT:List aW:=[.tm 2]
theorem OL:aO Tryz.prog Tryz.f191 (bnD vK)=some (vK,DT):=by kernel_rfl
theorem PF:aN Tryz.prog qK Tryz.f191 vK DT:=aN.mk Tryz.func191 (by kernel_rfl) OL
def dG:AC:= (boG [dO 4 boD] [0,1] (boG [RM 5 0,RM 6 1,f6 7 cT [5,6],dI 8 .geq 7 (ki 0),RM 4 8] [4] .ret))
def gE:List aW:=[.tm 4]
theorem l6:aO Tryz.prog Tryz.f192 (bnD dG)=some (dG,gE):=by kernel_rfl
theorem l7:aN Tryz.prog cF Tryz.f192 dG gE:=aN.mk Tryz.func192 (by kernel_rfl) l6
def u6:AC:= (boG [dO 2 boD] [0] (boG [RM 3 0,f1 4 3,dI 5 .gtr 4 (ki 12),RM 6 5,hG 7 0 6 false,GQ 8 (.call cN [7,(.fn nH)]) 6 false,f3 9 6 boE 8,RM 2 9] [2] .ret))
def DW:List aW:=[.tm 2]
theorem OD:aO Tryz.prog Tryz.f193 (bnD u6)=some (u6,DW):=by kernel_rfl
theorem OS:aN Tryz.prog rR Tryz.f193 u6 DW:=aN.mk Tryz.func193 (by kernel_rfl) OD
def dX:AC:= (boG [dO 4 boD] [0,1] (boG [RM 5 0,RM 6 1,f6 7 dC [5,6],dI 8 .geq 7 (ki 0),RM 4 8] [4] .ret))
def gQ:List aW:=[.tm 4]
theorem nA:aO Tryz.prog Tryz.f194 (bnD dX)=some (dX,gQ):=by kernel_rfl
theorem m7:aN Tryz.prog cN Tryz.f194 dX gQ:=aN.mk Tryz.func194 (by kernel_rfl) nA
def rM:AC:= (boG [f5 1 0,dO 2 boD] [1] (boG [f8 3 7 1,f6 4 wD [3],f4 5 4,RM 2 5] [2] .ret))
def y9:List aW:=[.tm 2]
theorem J8:aO Tryz.prog Tryz.f195 (bnD rM)=some (rM,y9):=by kernel_rfl
theorem KW:aN Tryz.prog nH Tryz.f195 rM y9:=aN.mk Tryz.func195 (by kernel_rfl) J8
def AK:AC:= (boG [f5 1 0,dO 2 boD] [1] (boG [RF 3 0 1,RL 4 3,f1 5 4,dI 6 .eql 5 (ki 64),RM 7 6,g9 8 0 1 7 true,hD 9 8 7 true,GQ 10 (.call jB [9]) 7 true,f3 11 7 10 boD,RM 2 11] [2] .ret))
def H8:List aW:=[.tm 2]
theorem T7:aO Tryz.prog Tryz.f196 (bnD AK)=some (AK,H8):=by kernel_rfl
theorem T3:aN Tryz.prog wP Tryz.f196 AK H8:=aN.mk Tryz.func196 (by kernel_rfl) T7
def vO:AC:= (boG [dO 2 boD] [0] (boG [RM 3 0,f6 4 cQ [3,(.kv (.int .i64 (-1))),(ki 63)],f4 5 4,RM 2 5] [2] .ret))
def DZ:List aW:=[.tm 2]
theorem OJ:aO Tryz.prog Tryz.f197 (bnD vO)=some (vO,DZ):=by kernel_rfl
theorem OW:aN Tryz.prog rC Tryz.f197 vO DZ:=aN.mk Tryz.func197 (by kernel_rfl) OJ
def rD:AC:= (boG [f5 3 0,dO 6 (ki 0)] [1,2,3] (boG [RF 7 2 3,RL 8 7,RM 9 1,e0 10 1 8 9,RL 11 10,RM 12 2,e0 13 7 11 12,RF 14 0 13,RL 15 14,RM 6 15] [6] .ret))
def zC:List aW:=[.tm 6]
theorem KU:aO Tryz.prog Tryz.f198 (bnD rD)=some (rD,zC):=by kernel_rfl
theorem KX:aN Tryz.prog fB Tryz.f198 rD zC:=aN.mk Tryz.func198 (by kernel_rfl) KU
def sZ:AC:= (boG [dO 2 boD] [0] (boG [RM 3 0,f6 4 cQ [3,(ki 0),(ki 2)],RM 2 4] [2] .ret))
def A0:List aW:=[.tm 2]
theorem MB:aO Tryz.prog Tryz.f199 (bnD sZ)=some (sZ,A0):=by kernel_rfl
theorem MZ:aN Tryz.prog jA Tryz.f199 sZ A0:=aN.mk Tryz.func199 (by kernel_rfl) MB
def z8:AC:= (boG [f5 1 0,dO 2 boD] [1] (boG [RF 3 0 1,RL 4 3,f6 5 cQ [4,(ki 0),(ki 1)],RM 6 5,g9 7 1 1 6 true,hD 8 7 6 true,GQ 9 (.call cQ [8,(ki 1),(ki 4)]) 6 true,f3 10 6 9 boD,RM 11 10,g9 12 2 1 11 true,hD 13 12 11 true,GQ 14 (.len false 13) 11 true,hO 15 .leq 14 (ki 4) 11 true,f3 16 11 15 boD,RM 17 16,g9 18 2 1 17 true,hD 19 18 17 true,GQ 20 (.call jB [19]) 17 true,f3 21 17 20 boD,RM 2 21] [2] .ret))
def I0:List aW:=[.tm 2]
theorem VO:aO Tryz.prog Tryz.f202 (bnD z8)=some (z8,I0):=by kernel_rfl
theorem UX:aN Tryz.prog m6 Tryz.f202 z8 I0:=aN.mk Tryz.func202 (by kernel_rfl) VO
def x7:AC:= (boG [dO 2 boD] [0] (.seq (boG [dO 3 (ki 1)] [0,3] (.block 0 (.loop (.seq (boG [RM 4 3,RM 5 0,f1 6 5,dI 7 .lss 4 6] [0,3,7] (.cond 7 .skip (.exit 0))) (.seq (.block 1 (boG [RM 10 0,RM 11 3,dI 12 .sub 11 (ki 1),e0 13 5 10 12,f8 14 5 13,RM 15 0,RM 16 3,e0 17 5 15 16,f8 18 5 17,f6 19 bJ [14,18],dI 20 .geq 19 (ki 0)] [0,3,20] (.cond 20 (boG [dO 2 boD] [2] .ret) .skip))) (m2 [RM 8 3,dI 9 .add 8 (ki 1),RM 3 9] [0,3])))))) (boG [dO 2 boE] [2] .ret)))
def FX:List aW:=[.tm 2]
theorem P5:aO Tryz.prog Tryz.f203 (bnD x7)=some (x7,FX):=by kernel_rfl
theorem Q2:aN Tryz.prog oI Tryz.f203 x7 FX:=aN.mk Tryz.func203 (by kernel_rfl) P5
def nO:AC:= (boG [f5 1 0,dO 2 boD] [1] (boG [RF 3 0 1,RL 4 3,dI 5 .eql 4 (ki 0),RM 6 5,g9 7 1 1 6 true,hD 8 7 6 true,hO 9 .eql 8 (ki 0) 6 true,f3 10 6 9 boD,RM 11 10,g9 12 2 1 11 true,hD 13 12 11 true,GQ 14 (.len false 13) 11 true,hO 15 .eql 14 (ki 0) 11 true,f3 16 11 15 boD,RM 2 16] [2] .ret))
def vS:List aW:=[.tm 2]
theorem HW:aO Tryz.prog Tryz.f204 (bnD nO)=some (nO,vS):=by kernel_rfl
theorem HU:aN Tryz.prog iT Tryz.f204 nO vS:=aN.mk Tryz.func204 (by kernel_rfl) HW
def z6:AC:= (boG [dO 2 (ki 0)] [0] (boG [dO 3 (ki 0)] [0,3] (.seq (boG [RM 6 0,f1 7 6,dO 8 (ki 0)] [3,6,7,8] (.block 0 (.loop (boG [dI 9 .lss 8 7] [3,6,7,8,9] (.seq (.cond 9 .skip (.exit 0)) (.seq (.block 1 (boG [e0 10 1 6 8,RL 11 10,RM 5 11] [3,5,6,7,8] (boG [RM 12 5,RM 13 3,dI 14 .neq 12 13] [3,5,6,7,8,14] (.cond 14 (boG [RM 15 5,RM 2 15] [2] .ret) .skip)))) (m2 [dI 16 .add 8 (ki 1),RM 8 16] [3,6,7,8]))))))) (boG [RM 17 3,RM 2 17] [2] .ret))))
def IP:List aW:=[.tm 2]
theorem UR:aO Tryz.prog Tryz.f221 (bnD z6)=some (z6,IP):=by kernel_rfl
theorem T8:aN Tryz.prog wC Tryz.f221 z6 IP:=aN.mk Tryz.func221 (by kernel_rfl) UR
def pI:AC:= (boG [dO 4 (ki 0)] [0,1] (boG [RM 7 0,f6 8 lG [7],RM 5 8] [0,1,5] (boG [RM 9 1,f6 10 lG [9],RM 6 10] [0,1,5,6] (.seq (boG [RM 11 5] [0,1,6,11] (.cond 11 (.seq (boG [RM 12 6] [12] (.cond 12 (boG [dO 4 (ki 0)] [4] .ret) .skip)) (boG [rq 4 (.move (.kv (.int .i64 (-1))))] [4] .ret)) .skip)) (.seq (boG [RM 13 6] [0,1,13] (.cond 13 (boG [dO 4 (ki 1)] [4] .ret) .skip)) (.seq (boG [RM 14 0,RM 15 1,dI 16 .lss 14 15] [0,1,16] (.cond 16 (boG [rq 4 (.move (.kv (.int .i64 (-1))))] [4] .ret) .skip)) (.seq (boG [RM 17 0,RM 18 1,dI 19 .gtr 17 18] [19] (.cond 19 (boG [dO 4 (ki 1)] [4] .ret) .skip)) (boG [dO 4 (ki 0)] [4] .ret))))))))
def x5:List aW:=[.tm 4]
theorem JD:aO Tryz.prog Tryz.f222 (bnD pI)=some (pI,x5):=by kernel_rfl
theorem JR:aN Tryz.prog jC Tryz.f222 pI x5:=aN.mk Tryz.func222 (by kernel_rfl) JD
def cY:AC:= (boG [dO 4 boD] [0,1] (boG [RM 5 0,RM 6 1,f6 7 bR [5,6],dI 8 .geq 7 (ki 0),RM 4 8] [4] .ret))
def fT:List aW:=[.tm 4]
theorem lH:aO Tryz.prog Tryz.f223 (bnD cY)=some (cY,fT):=by kernel_rfl
theorem lF:aN Tryz.prog bX Tryz.f223 cY fT:=aN.mk Tryz.func223 (by kernel_rfl) lH
def u3:AC:= (boG [f5 2 0,dO 3 boD] [1,2] (boG [RF 4 0 2,RL 5 4,RF 6 1 1,RL 7 6,dI 8 .leq 5 7,RM 9 8,g9 10 0 1 9 true,hD 11 10 9 true,g9 12 1 2 9 true,hD 13 12 9 true,hO 14 .leq 11 13 9 true,f3 15 9 14 boD,RM 3 15] [3] .ret))
def DO:List aW:=[.tm 3]
theorem OP:aO Tryz.prog Tryz.f224 (bnD u3)=some (u3,DO):=by kernel_rfl
theorem N2:aN Tryz.prog rE Tryz.f224 u3 DO:=aN.mk Tryz.func224 (by kernel_rfl) OP
def lM:AC:= (boG [f5 1 0,dO 2 boD] [1] (boG [RF 3 1 1,RL 4 3,dI 5 .eql 4 (ki 2),RM 6 5,g9 7 1 1 6 false,hD 8 7 6 false,hO 9 .eql 8 (ki 4) 6 false,f3 10 6 boE 9,RM 2 10] [2] .ret))
def sE:List aW:=[.tm 2]
theorem D4:aO Tryz.prog Tryz.f225 (bnD lM)=some (lM,sE):=by kernel_rfl
theorem EO:aN Tryz.prog eY Tryz.f225 lM sE:=aN.mk Tryz.func225 (by kernel_rfl) D4
def sO:AC:= (boG [dO 2 boD] [0] (boG [RM 3 0,f6 4 bN [3,(.fn lX)],f4 5 4,RM 2 5] [2] .ret))
def BP:List aW:=[.tm 2]
theorem L9:aO Tryz.prog Tryz.f226 (bnD sO)=some (sO,BP):=by kernel_rfl
theorem NB:aN Tryz.prog jB Tryz.f226 sO BP:=aN.mk Tryz.func226 (by kernel_rfl) L9
def vC:AC:= (boG [dO 2 boD] [0] (boG [RM 3 0,f6 4 cQ [3,(ki 0),(ki 3)],f4 5 4,RM 2 5] [2] .ret))
def D3:List aW:=[.tm 2]
theorem N5:aO Tryz.prog Tryz.f227 (bnD vC)=some (vC,D3):=by kernel_rfl
theorem ON:aN Tryz.prog rT Tryz.f227 vC D3:=aN.mk Tryz.func227 (by kernel_rfl) N5
def zZ:AC:= (boG [f5 3 1,dO 4 (ki 0)] [0,3] (boG [rq 5 (.move (.kv (.int .i64 (-1))))] [0,3,5] (.seq (boG [f8 9 7 3,f6 10 fP [9],f1 11 10,dO 12 (ki 0)] [0,5,10,11,12] (.block 0 (.loop (boG [dI 13 .lss 12 11] [0,5,10,11,12,13] (.seq (.cond 13 .skip (.exit 0)) (.seq (.block 1 (boG [RM 14 12,e0 15 1 10 12,RL 16 15,RM 6 14,RM 7 16] [0,5,6,7,10,11,12] (boG [RM 17 0,RM 18 7,f6 19 qX [17,18],RM 8 19] [0,5,6,8,10,11,12] (.seq (boG [RM 20 8,dI 21 .lss 20 (ki 0),RM 22 21,hG 23 6 22 false,hO 24 .gtr 23 (ki 0) 22 false,hG 25 24 22 false,hG 26 8 25 true,hG 27 5 25 true,hO 28 .neq 26 27 25 true,GQ 29 (.pick 25 28 boD) 22 false,f3 30 22 boE 29] [0,8,10,11,12,30] (.cond 30 (boG [rq 4 (.move (.kv (.int .i64 (-1))))] [4] .ret) .skip)) (m2 [RM 31 8,RM 5 31] [0,5,10,11,12]))))) (m2 [dI 32 .add 12 (ki 1),RM 12 32] [0,5,10,11,12]))))))) (boG [RM 33 5,RM 4 33] [4] .ret))))
def IE:List aW:=[.tm 4]
theorem VF:aO Tryz.prog Tryz.f228 (bnD zZ)=some (zZ,IE):=by kernel_rfl
theorem TU:aN Tryz.prog mZ Tryz.f228 zZ IE:=aN.mk Tryz.func228 (by kernel_rfl) VF
def kO:AC:= (boG [dO 4 (.kv (.int .u64 0)),dO 5 (.kv (.int .u64 0))] [0,1] (.seq (.cond boD (boG [RM 11 0,rq 12 (.conv .u32 11),RM 13 1,rq 14 (.conv .u32 13),f6 15 J2 [12,14],RM 10 15,rq 16 (.ext 10 0),rq 17 (.ext 10 1),RM 6 16,RM 7 17] [6,7] (boG [RM 18 6,rq 19 (.conv .u64 18),RM 20 7,rq 21 (.conv .u64 20),RM 4 19,RM 5 21] [4,5] .ret)) .skip) (boG [RM 23 0,RM 24 1,f6 25 eF [23,24],RM 22 25,rq 26 (.ext 22 0),rq 27 (.ext 22 1),RM 8 26,RM 9 27] [8,9] (boG [RM 28 8,RM 29 9,RM 4 28,RM 5 29] [4,5] .ret))))
def BR:List aW:=[.tm 4,.tm 5]
theorem M4:aO Tryz.prog Tryz.f231 (bnD kO)=some (kO,BR):=by kernel_rfl
theorem tM:aN Tryz.prog cE Tryz.f231 kO BR:=aN.mk Tryz.func231 (by kernel_rfl) M4
def ap2:AC:= (boG [f5 2 0,f5 3 1,dO 4 boD] [2,3] (boG [RF 5 0 2,RL 6 5,RF 7 0 3,RL 8 7,dI 9 .lss 6 8,RM 10 9,g9 11 0 2 10 false,hD 12 11 10 false,g9 13 0 3 10 false,hD 14 13 10 false,hO 15 .eql 12 14 10 false,hG 16 15 10 false,g9 17 1 2 16 true,hD 18 17 16 true,g9 19 1 3 16 true,hD 20 19 16 true,hO 21 .lss 18 20 16 true,GQ 22 (.pick 16 21 boD) 10 false,f3 23 10 boE 22,RM 4 23] [4] .ret))
def aOC:List aW:=[.tm 4]
theorem aPW:aO Tryz.prog Tryz.f236 (bnD ap2)=some (ap2,aOC):=by kernel_rfl
theorem aPS:aN Tryz.prog aKL Tryz.f236 ap2 aOC:=aN.mk Tryz.func236 (by kernel_rfl) aPW
def aBA:AC:= (boG [dO 6 (.kv (.slice none 0 0))] [0,1,2] (boG [rq 10 (.bC 1 0 [VZ] []),RM 7 10] [0,1,2,7] (.seq (boG [RM 11 0,RM 12 1,RM 13 2,f6 14 aA6 [11,12,13],f4 15 14] [0,1,2,7,15] (.cond 15 (boG [RM 16 7,RM 6 16] [6] .ret) .skip)) (boG [RM 17 0,RM 18 0,RM 19 1,dI 20 .rem 18 19,dI 21 .sub 17 20,RM 8 21] [0,1,2,7,8] (.seq (boG [dO 9 (ki 0)] [0,1,2,7,8,9] (.block 0 (.loop (.seq (boG [RM 22 9,RM 23 1,dI 24 .lss 22 23] [0,1,2,7,8,9,24] (.cond 24 .skip (.exit 0))) (.seq (.block 1 (boG [RM 27 2] [0,1,2,7,8,9,27] (.cond 27 (m2 [RM 28 7,RM 29 8,RM 30 0,RM 31 8,dI 32 .sub 30 31,RM 33 9,dI 34 .add 32 33,RM 35 1,dI 36 .rem 34 35,dI 37 .add 29 36,rq 38 (.bC 1 1 [VZ] [(0,1,37)]),rq 39 (.append 1 28 38),RM 7 39] [0,1,2,7,8,9]) (m2 [RM 40 7,RM 41 0,RM 42 9,dI 43 .add 41 42,rq 44 (.bC 1 1 [VZ] [(0,1,43)]),rq 45 (.append 1 40 44),RM 7 45] [0,1,2,7,8,9])))) (m2 [RM 25 9,dI 26 .add 25 (ki 1),RM 9 26] [0,1,2,7,8,9])))))) (boG [RM 46 7,RM 6 46] [6] .ret))))))
def aBS:List aW:=[.tm 6]
theorem aCP:aO Tryz.prog Tryz.f237 (bnD aBA)=some (aBA,aBS):=by kernel_rfl
theorem aCR:aN Tryz.prog aAY Tryz.f237 aBA aBS:=aN.mk Tryz.func237 (by kernel_rfl) aCP
def aBD:AC:= (boG [dO 4 (ki 0)] [0,1] (.seq (boG [RM 7 1,f1 8 7,dI 9 .eql 8 (ki 0)] [0,1,9] (.cond 9 (boG [rq 4 (.move (.kv (.int .i64 (-1))))] [4] .ret) .skip)) (boG [RM 10 0,RM 11 1,e0 12 1 11 (ki 0),RL 13 12,f6 14 aAX [10,13],RM 5 14] [0,1,5] (.seq (boG [dO 6 (ki 1)] [0,1,5,6] (.block 0 (.loop (.seq (boG [RM 15 6,RM 16 1,f1 17 16,dI 18 .lss 15 17] [0,1,5,6,18] (.cond 18 .skip (.exit 0))) (.seq (.block 1 (boG [RM 21 0,RM 22 1,RM 23 6,e0 24 1 22 23,RL 25 24,f6 26 aAX [21,25],RM 27 5,dI 28 .neq 26 27] [0,1,5,6,28] (.cond 28 (boG [rq 4 (.move (.kv (.int .i64 (-1))))] [4] .ret) .skip))) (m2 [RM 19 6,dI 20 .add 19 (ki 1),RM 6 20] [0,1,5,6])))))) (boG [RM 29 5,RM 4 29] [4] .ret)))))
def aBX:List aW:=[.tm 4]
theorem aDB:aO Tryz.prog Tryz.f238 (bnD aBD)=some (aBD,aBX):=by kernel_rfl
theorem aDA:aN Tryz.prog aA4 Tryz.f238 aBD aBX:=aN.mk Tryz.func238 (by kernel_rfl) aDB
def aBB:AC:= (boG [f5 1 0,dO 2 boD] [1] (boG [RF 3 1 1,RL 4 3,dI 5 .eql 4 (ki 2),RM 6 5,g9 7 1 1 6 false,hD 8 7 6 false,hO 9 .eql 8 (ki 4) 6 false,f3 10 6 boE 9,RM 2 10] [2] .ret))
def aBR:List aW:=[.tm 2]
theorem aCS:aO Tryz.prog Tryz.f239 (bnD aBB)=some (aBB,aBR):=by kernel_rfl
theorem aCU:aN Tryz.prog aAZ Tryz.f239 aBB aBR:=aN.mk Tryz.func239 (by kernel_rfl) aCS
def aN4:AC:= (boG [f5 2 0,dO 4 (.kv (.slice none 0 0))] [1,2] (boG [rq 7 (.bC 1 0 [VZ] []),RM 5 7] [1,2,5] (.seq (boG [dO 6 (ki 0)] [1,2,5,6] (.block 0 (.loop (.seq (boG [RM 8 6,RM 9 1,f1 10 9,dI 11 .lss 8 10] [1,2,5,6,11] (.cond 11 .skip (.exit 0))) (.seq (.block 1 (m2 [RM 14 5,RF 15 0 2,RL 16 15,RM 17 1,RM 18 6,e0 19 1 17 18,RL 20 19,e0 21 1 16 20,RL 22 21,rq 23 (.bC 1 1 [VZ] [(0,1,22)]),rq 24 (.append 1 14 23),RM 5 24] [1,2,5,6])) (m2 [RM 12 6,dI 13 .add 12 (ki 1),RM 6 13] [1,2,5,6])))))) (boG [RM 25 5,RM 4 25] [4] .ret))))
def aO3:List aW:=[.tm 4]
theorem aR6:aO Tryz.prog Tryz.f240 (bnD aN4)=some (aN4,aO3):=by kernel_rfl
theorem aR8:aN Tryz.prog W3 Tryz.f240 aN4 aO3:=aN.mk Tryz.func240 (by kernel_rfl) aR6
def aN6:AC:= (boG [f5 4 0,f7 8 [OZ]] [1,2,3,4,8] (.seq (boG [dO 9 (ki 0)] [1,2,3,4,8,9] (.block 0 (.loop (.seq (boG [RM 10 9,RM 11 1,f1 12 11,dI 13 .lss 10 12] [1,2,3,4,8,9,13] (.cond 13 .skip (.exit 0))) (.seq (.block 1 (m2 [RF 16 0 4,g8 17 16 [] [] true,RM 18 1,RM 19 9,e0 20 1 18 19,g8 21 20 [] [] true,RF 22 0 4,RL 23 22,RM 24 1,RM 25 9,e0 26 1 24 25,RL 27 26,e0 28 1 23 27,RL 29 28,RM 30 2,RM 31 9,e0 32 1 30 31,RL 33 32,RM 34 3,RM 35 9,e0 36 1 34 35,RL 37 36,boF 38 (.call aNH [29,33,37]) [] [1,5] false,e0 39 1 17 21,g0 1 false 39 38] [1,2,3,4,8,9])) (m2 [RM 14 9,dI 15 .add 14 (ki 1),RM 9 15] [1,2,3,4,8,9])))))) (boG [f8 40 1 4,g0 1 true 8 40] [8] .ret)))
def aO6:List aW:=[.cell 8 1 true]
theorem aSE:aO Tryz.prog Tryz.f241 (bnD aN6)=some (aN6,aO6):=by kernel_rfl
theorem aRX:aN Tryz.prog H5 Tryz.f241 aN6 aO6:=aN.mk Tryz.func241 (by kernel_rfl) aSE
def aNU:AC:= (boG [f5 2 0,f7 4 [OZ,OZ]] [1,2,4] (.seq (boG [dO 5 (ki 0)] [1,2,4,5] (.block 0 (.loop (.seq (boG [RM 7 5,RF 8 1 2,RL 9 8,f1 10 9,dI 11 .lss 7 10] [1,2,4,5,11] (.cond 11 .skip (.exit 0))) (.seq (.block 1 (boG [dO 6 (ki 0)] [1,2,4,5,6] (.block 2 (.loop (.seq (boG [RM 14 6,RM 15 1,f1 16 15,dI 17 .lss 14 16] [1,2,4,5,6,17] (.cond 17 .skip (.exit 2))) (.seq (.block 3 (boG [RF 20 1 2,RL 21 20,RM 22 5,e0 23 1 21 22,RL 24 23,RM 25 1,RM 26 6,e0 27 1 25 26,RL 28 27,dI 29 .eql 24 28] [1,2,4,5,6,29] (.cond 29 (m2 [RF 30 1 2,RL 31 30,RM 32 5,e0 33 1 31 32,rn (.store 1 false 33 (.kv (.int .i64 (-1))))] [1,2,4,5,6]) .skip))) (m2 [RM 18 6,dI 19 .add 18 (ki 1),RM 6 19] [1,2,4,5,6]))))))) (m2 [RM 12 5,dI 13 .add 12 (ki 1),RM 5 13] [1,2,4,5])))))) (boG [f8 34 2 2,g0 2 true 4 34] [4] .ret)))
def aOK:List aW:=[.cell 4 2 true]
theorem aRS:aO Tryz.prog Tryz.f242 (bnD aNU)=some (aNU,aOK):=by kernel_rfl
theorem aRM:aN Tryz.prog v9 Tryz.f242 aNU aOK:=aN.mk Tryz.func242 (by kernel_rfl) aRS
def aJE:AC:= (boG [f5 1 0,f7 2 [OZ]] [1,2] (boG [rq 3 (.bC 1 0 [VZ] []),RF 4 0 1,RL 5 4,rq 6 (.append 1 3 5),rq 7 (.build [OZ] [(0,1,6)]),g0 1 true 2 7] [2] .ret))
def aJ3:List aW:=[.cell 2 1 true]
theorem aK8:aO Tryz.prog Tryz.f243 (bnD aJE)=some (aJE,aJ3):=by kernel_rfl
theorem aKY:aN Tryz.prog aIW Tryz.f243 aJE aJ3:=aN.mk Tryz.func243 (by kernel_rfl) aK8
def aJN:AC:= (boG [f5 1 0,f7 2 [VZ,VZ,OZ]] [1,2] (boG [RF 3 0 1,g8 4 3 [4] [] true,RF 5 1 1,g8 6 5 [4] [] true,rq 7 (.bC 1 0 [VZ] []),RF 8 2 1,g8 9 8 [4] [] false,boF 10 (.append 1 7 9) [] [1,3] false,rq 11 (.build [VZ,VZ,OZ] [(0,1,4),(1,1,6),(2,1,10)]),g0 3 true 2 11] [2] .ret))
def aJ5:List aW:=[.cell 2 3 true]
theorem aL4:aO Tryz.prog Tryz.f244 (bnD aJN)=some (aJN,aJ5):=by kernel_rfl
theorem aLO:aN Tryz.prog aI8 Tryz.f244 aJN aJ5:=aN.mk Tryz.func244 (by kernel_rfl) aL4
def kB:AC:= (boG [dO 2 (.kv (.slice none 0 0))] [0] (boG [RM 3 0,RM 4 0,f1 5 4,RM 6 0,f1 7 6,rq 8 (.slc 1 3 none (some 5) (some 7)),RM 2 8] [2] .ret))
def pX:List aW:=[.tm 2]
theorem A6:aO Tryz.prog Tryz.f247 (bnD kB)=some (kB,pX):=by kernel_rfl
theorem BK:aN Tryz.prog iD Tryz.f247 kB pX:=aN.mk Tryz.func247 (by kernel_rfl) A6
def jL:AC:= (boG [dO 2 (.kv (.slice none 0 0))] [0] (.seq (boG [RM 3 0,rq 4 (.xop (.qJ false) [3])] [0,4] (.cond 4 (boG [dO 2 (.kv (.slice none 0 0))] [2] .ret) .skip)) (boG [rq 5 (.bC 1 0 [VZ] []),RM 6 0,rq 7 (.append 1 5 6),RM 2 7] [2] .ret)))
def n7:List aW:=[.tm 2]
theorem AB:aO Tryz.prog Tryz.f248 (bnD jL)=some (jL,n7):=by kernel_rfl
theorem zU:aN Tryz.prog gO Tryz.f248 jL n7:=aN.mk Tryz.func248 (by kernel_rfl) AB
def i6:AC:= (boG [dO 2 (.kv (.slice none 0 0))] [0] (boG [RM 3 0,f6 4 eG [3],f6 5 eS [4],RM 2 5] [2] .ret))
def nL:List aW:=[.tm 2]
theorem yR:aO Tryz.prog Tryz.f249 (bnD i6)=some (i6,nL):=by kernel_rfl
theorem yQ:aN Tryz.prog gG Tryz.f249 i6 nL:=aN.mk Tryz.func249 (by kernel_rfl) yR
def mQ:AC:= (boG [f5 1 0,dO 2 (.kv (.slice none 0 0))] [1] (boG [RF 3 2 1,RL 4 3,RF 5 3 1,RL 6 5,RF 7 4 1,RL 8 7,f6 9 oS [4,6,8],RM 2 9] [2] .ret))
def uP:List aW:=[.tm 2]
theorem GP:aO Tryz.prog Tryz.f256 (bnD mQ)=some (mQ,uP):=by kernel_rfl
theorem GL:aN Tryz.prog fP Tryz.f256 mQ uP:=aN.mk Tryz.func256 (by kernel_rfl) GP
end Go.Proofs.YtmccpdapaccnoaaGreat
namespace Go.AM
open Go.RowKit
def aaS (e' e:Env):Prop:=∀t,e' t=e t∨e' t= .dead
theorem aaS.refl (e:Env):aaS e e:=fun _=>.inl rfl
theorem ER.le {c:Cf} {T:Nat} {e e':Env} {a:Act} (he:ER c T e a) (h:aaS e' e):ER c T e' a:=by
 refine⟨he.1,he.2.1,fun t=> ?_⟩;rcases h t with h1|h1;·rw[h1];exact he.2.2 t
 ·rw[h1];exact trivial
section
variable {P : Program} {T : Nat} {e : Env} {H : aA} {nx : Nat} {Q : AQ}
theorem AWP.le {x:AC} {e':Env} (hE:aaS e' e) (h:AWP P T x e' H nx Q):AWP P T x e H nx Q:=fun code hc c a hs he hN=>h code hc c a hs (he.le hE) hN
theorem aM.le {x:AC} {zs:List AC} {e':Env} (hE:aaS e' e) (h:aM P T (x::zs) e' H nx Q):aM P T (x::zs) e H nx Q:=AWP.le hE h
theorem aB.ofH {f:FuncId} {fn:Func} {code:Code} {ac:AC} {rs:List aW} {cs cs':List Cert} {args:List D} {K:D→aA→Nat→Prop}
 (hok:qY P f=true) (hf:P.funcs[f]?=some fn) (hb:fn.body=some code) (hc:compile P fn.ntmps code cs=some (ac,cs')) (hr:AJ P fn.results.toList=some rs) (hl:args.length≤fn.ntmps)
 (h: ∀Q:AQ,(∀ex e' H' nx' d,ex= .normal∨ex= .ret→yT H' e' rs=some d→K d H' nx'→Q ex e' H' nx')→AWP P fn.ntmps ac (Env.args 0 args) H nx Q):aB P f args H nx K:=by
 refine⟨hok,fun c vs hs hN hlen hrel=> ?_⟩
 apply calls_of_wp hf hb
 have hcm:=JA _ _ _ _ hc
 have her:ER c fn.ntmps (Env.args 0 args) {tmps:=vs.toArray++Array.replicate (fn.ntmps-vs.toArray.size) undef,defers:=[]}:=by
  refine⟨by simp;omega,rfl,fun t=> ?_⟩;rw[Env.ML];simp only[Nat.zero_le,if_true,Nat.sub_zero]
  cases hd:args[t]? with
  |none=>exact trivial
  |some d=>have ht:t<vs.length:=(by rw[hlen];exact(m3.1 hd).1);have hv:(vs.toArray++Array.replicate (fn.ntmps-vs.toArray.size) undef).getD t undef=vs[t]:=(by rw[boK,Y6];simp[ht]);rw[hv];exact hrel t d _ hd (n1 ht)
 refine wp_mono (h _ (fun ex e' H' nx' d h1 h2 h4=>(⟨h1,d,h2,h4⟩:(ex= .normal∨ex= .ret)∧ ∃d,yT H' e' rs=some d∧K d H' nx')) code hcm c _ hs her hN) ?_
 rintro ex a w ⟨aex,e',H',nx',c',rfl,rfl,p1,p2,p3,p4,p5,p6,d,q1,q3⟩
 obtain⟨v,hv,hd⟩:=aa3 p1 p3 hr q1
 have hfin:a.defers=[]∧ ∃v,(results fn a.tmps).run P c'.w= .ok v c'.w∧ ∃v' c'' r H'' nx',Ending.returned v= .returned v'∧c''.w=c'.w∧St c'' H''∧Step c H c'' H''∧(∀i,c''.N i→c.N i∨(nx≤i∧i<nx'))∧nx≤nx'∧fD c'' r v'∧K r H'' nx':=⟨p3.2.1,v,hv,v,c',d,H',nx',rfl,rfl,p1,p2,p4,p5,hd,q3⟩
 rcases p6 with rfl|rfl
 ·exact hfin
 ·exact hfin
def cJ (P:Program) (f:FuncId) (fn:Func) (ac:AC) (rs:List aW):Prop:=
 ∀{args:List D} {H:aA} {nx:Nat} {KK:D→aA→Nat→Prop} (_hl:Nat.ble args.length fn.ntmps=true)
  (_h: ∀Q:AQ,(∀ex e2 H2 nx2 d,ex= .normal∨ex= .ret→yT H2 e2 rs=some d→KK d H2 nx2→Q ex e2 H2 nx2)→aM P fn.ntmps [ac] (Env.args 0 args) H nx Q),aB P f args H nx KK
theorem cJ.mk {P:Program} {f:FuncId} {fn:Func} {ac:AC} {rs:List aW} {cs:List Cert}
 (hf:P.funcs[f]?=some fn) (hok:qY P f=true) (hc:aO P fn cs=some (ac,rs)):cJ P f fn ac rs:=by
 intro args H nx KK hl h
 unfold aO at hc
 split at hc
 ·rename_i b hb;split at hc;·rename_i ac' cs' rs' h1 h2;simp only[Option.some.injEq,Prod.mk.injEq] at hc;obtain⟨rfl,rfl⟩:=hc;exact aB.ofH hok hf hb h1 h2 (boM hl) fun Q hQ=>(h Q hQ).run
  ·simp at hc
 ·simp at hc
end
def CvX (F:Nat→Prop) (nx:Nat) (H H':aA):Prop:=∀i o',H' i=some o'→¬F i∧ ∃o,H i=some o∧(o'=o∨CvO H F id nx o' o)
variable{nx:Nat}
theorem MR{c:Cf}{I':Nat→Prop} (hI: ∀b,c.I b→I' b) (hN: ∀i,c.N i→i<nx){d:D1}{x:Value} (h:Rel c d x):Rel (c.conv nx nx id I') d x:=by
 have h0: ∀d x,bY c d x→bY (c.conv nx nx id I') d x:=by
  intro d x h
  cases d<;>simp only[bY] at h ⊢ <;>first
   |exact h.wT hI (fun _ _=>rfl)
   |exact⟨h.1,h.2.imp (fun h=>h) fun⟨h1,h2,h3⟩=>⟨h1,.inl ⟨hN _ h2,h2⟩,h3⟩⟩
   |exact⟨.inl ⟨hN _ h.1,h.1⟩,h.2⟩
   |exact h
 cases d with
 |clo f caps=>obtain⟨vs,hx,hl,hf⟩:=h;exact⟨vs,hx,hl,fun i d u h1 h2=>h0 _ _ (hf i d u h1 h2)⟩
 |_=>simp only[Rel] at h ⊢;exact h0 _ _ h
theorem ac6{c:Cf}{I':Nat→Prop} (hI: ∀b,c.I b→I' b) (hN: ∀i,c.N i→i<nx){d:D}{x:Value} (h:fD c d x):fD (c.conv nx nx id I') d x:=by
 have hV: ∀d x,jZ c d x→jZ (c.conv nx nx id I') d x:=by
  intro d x h
  cases d with
  |c d=>exact MR hI hN h
  |agg cs=>obtain⟨vs,hx,hl,hf⟩:=h;exact⟨vs,hx,hl,fun i d u h1 h2=>MR hI hN (hf i d u h1 h2)⟩
 cases d with
 |one d=>exact hV d x h
 |tup ds=>obtain⟨vs,hx,hl,hf⟩:=h;exact⟨vs,hx,hl,fun i d u h1 h2=>hV d u (hf i d u h1 h2)⟩
 |dead=>trivial
theorem YO{c c0:Cf}{H H0 H':aA}{F:Nat→Prop} (hs:St c H) (hstep:Step c0 H0 c H) (hN: ∀i,c.N i→i<nx) (hH:CvX F nx H H'):
 St (c.conv nx nx id (c.frI H F)) H'∧Step c0 H0 (c.conv nx nx id (c.frI H F)) H':=by
 have boT: ∀{i:Nat} {o':bA},H' i=some o'→¬F i∧ ∃o,H i=some o∧o'.n=o.n∧o'.ext=o.ext∧o'.rows.length≤o.rows.length∧(o.n=0→o'.rows=[]→o.rows=[]):=by
  intro i o' h;obtain⟨h1,o,h2,rfl|h3⟩:=hH i o' h;·exact⟨h1,_,h2,rfl,rfl,m5 _,fun _ h=>h⟩
  ·exact⟨h1,o,h2,h3.1,h3.2.1,h3.2.2.1,h3.2.2.2.1⟩
 refine⟨?_,?_⟩
 ·refine {named:= ?_,wf:= ?_,blk:= ?_,cells:= ?_,sep:= ?_,imm:= ?_,old:= ?_};·intro id o' h;obtain⟨_,o,h2,_⟩:=boT h;exact .inl ⟨hN _ (hs.named _ o h2),hs.named _ o h2⟩
  ·intro id o' h;obtain⟨_,o,h2,rfl|⟨h3,h4,h5,_,h6⟩⟩:=hH id o' h;·exact hs.wf _ _ h2
   ·obtain⟨k1,k2⟩:=hs.wf _ o h2;refine⟨by omega,fun i r hr=> ?_⟩;obtain⟨r0,h7,h8⟩:=h6 i r hr;rw[h8.1,k2 i r0 h7,h3]
  ·intro id o' h he;obtain⟨_,o,h2,h3,h4,h5,h7⟩:=boT h;exact(hs.blk _ o h2 (by omega)).arW h3 h4 fun h0=>⟨h7 h0,fun hr=>by rw[hr] at h5;exact H4.1 (by simpa using h5)⟩
  ·intro id o' i j r d h h1 h2;obtain⟨_,o,k2,rfl|⟨k3,k4,k5,_,k6⟩⟩:=hH id o' h;·obtain⟨u,k9,k10⟩:=hs.cells _ _ i j r d k2 h1 h2;exact⟨u,k9,MR (fun b h=>.inl h) hN k10⟩
   ·obtain⟨r0,k7,k8⟩:=k6 i r h1;have hj:j<r0.length:=(by rw[←k8.1];exact(m3.1 h2).1);obtain⟨u,k9,k10⟩:=hs.cells _ o i j r0 _ k2 k7 (n1 hj);refine⟨u,by rw[k3];exact k9,?_⟩;exact PM hs (fun b h=>.inl h) (fun id o h1 h2 h3=>.inr ⟨id,o,h1,h2,h3,rfl⟩) (fun _ _=>rfl) (k8.2 j d _ h2 (n1 hj)) k10
  ·intro i j o o' hi hj he he' hne;obtain⟨_,o1,k2,k3,k4,_⟩:=boT hi;obtain⟨_,o2,k6,k7,k8,_⟩:=boT hj;exact hs.sep i j o1 o2 k2 k6 (by omega) (by omega) hne
  ·intro i o' h he;obtain⟨hnF,o,h2,h3,h4,_⟩:=boT h;rintro(hI|⟨id2,o2,k1,k2,k3,k4⟩);·exact hs.imm _ o h2 (by omega) hI
   ·have hne:id2≠i:=(by rintro rfl;exact hnF k1);exact hs.sep id2 i o2 o k2 h2 k3 (by omega) hne k4
  ·rintro b (hI|⟨id2,o2,k1,k2,k3,rfl⟩);·exact hs.old b hI
   ·exact(hs.blk id2 o2 k2 k3).lt
 ·exact {
   ρ:=fun i hid=>hstep.ρ i hid
   N:=fun i hid=>.inl ⟨hN i (hstep.N i hid),hstep.N i hid⟩
   I:=fun b hb=>.inl (hstep.I b hb)
   I':=by
    rintro b (hI|⟨id2,o2,k1,k2,k3,rfl⟩);·exact hstep.I' b hI
    ·exact .inr (hstep.own _ ⟨id2,o2,k2,k3,rfl⟩)
   size:=hstep.size
   os:=hstep.os
   tape:=hstep.tape
   output:=hstep.output
   frame:=hstep.frame
   own:=by rintro b ⟨id,o',h,he,hb⟩;obtain⟨_,o,h2,h3,h4,_⟩:=boT h;exact hstep.own b ⟨id,o,h2,by omega,hb⟩}
theorem aK{H:aA}:CvX noF nx H H:=fun _ o h=>⟨fun h=>h,o,h,.inl rfl⟩
theorem aM.gP{P:Program}{T:Nat}{e:Env}{H:aA}{Q:AQ}{x:AC}{zs:List AC}{β:Type} (E:β→Env) (Φ:β→aA→Nat→Prop) (μ:β→Nat) (boW:β) (h0: ∃F H1,CvE H F id nx (E boW) e∧CvX F nx H H1∧Φ boW H1 nx)
 (h: ∀b H1 nx1,nx≤nx1→Φ b H1 nx1→∀K:Env→aA→Nat→Prop,(∀e' H' nx' b' F H2,nx1≤nx'→μ b'<μ b→CvE H' F id nx' (E b') e'→CvX F nx' H' H2→Φ b' H2 nx'→K e' H' nx')→aM P T [x] (E b) H1 nx1 (AQ.then K Q)):aM P T (.loop x::zs) e H nx Q:=by
 intro code hc c a hs he hN
 obtain⟨bp6,H0,g1,g2,g3⟩:=h0
 have hc0: ∀{c1:Cf} {H1 H2:aA} {nx1:Nat} {F:Nat→Prop} {e1 e2:Env} {a:Act},St c1 H1→Step c H c1 H1→(∀i,c1.N i→i<nx1)→ER c1 T e1 a→CvE H1 F id nx1 e2 e1→CvX F nx1 H1 H2→
  ∃c2:Cf,c2.w=c1.w∧St c2 H2∧Step c H c2 H2∧ER c2 T e2 a∧ ∀i,c2.N i→c1.N i:=by
  intro c1 H1 H2 nx1 F e1 e2 a k1 k2 k3 k4 k5 k6
  obtain⟨q1,q2⟩:=YO k1 k2 k3 k6
  refine⟨c1.conv nx1 nx1 id (c1.frI H1 F),rfl,q1,q2,⟨k4.1,k4.2.1,fun t=>zD k1 (fun b h=>.inl h) (fun id o h1 h2 h3=>.inr ⟨id,o,h1,h2,h3,rfl⟩) (fun _ _=>rfl) (k5 t) (k4.2.2 t)⟩,fun i hi=> ?_⟩
  rcases hi with⟨_,hi⟩|⟨h1,h2,h3⟩
  ·exact hi
  ·omega
 cases hc with
 |loop h1=>
  obtain⟨c1,r1,r2,r3,r4,r5⟩:=hc0 hs (Step.refl c H) hN he g1 g2;refine wp_loop_ghost (fun n a w=>∃b c1 H1 nx1,μ b=n∧c1.w=w∧St c1 H1∧ER c1 T (E b) a∧Step c H c1 H1∧(∀i,c1.N i→c.N i∨(nx≤i∧i<nx1))∧nx≤nx1∧Φ b H1 nx1) (μ boW) ⟨boW,c1,H0,nx,rfl,r1,r2,r4,r3,fun i hi=>.inl (r5 i hi),m5 _,g3⟩ ?_;rintro n a w ⟨b,c1,H1,nx1,rfl,rfl,j1,j2,j3,j4,j5,j6⟩;refine wp_mono (h b H1 nx1 j5 j6 (fun e' H' nx'=>∃b' F H2,nx1≤nx'∧μ b'<μ b∧CvE H' F id nx' (E b') e'∧CvX F nx' H' H2∧Φ b' H2 nx') (fun _ _ _ b' F H2 h1 h2 h3 h4 h5=>⟨b',F,H2,h1,h2,h3,h4,h5⟩) _ h1 c1 a j1 j2 fun i hi=> ?_) fun ex a' w' ⟨aex,e',H',nx',c',hp⟩=> ?_
  ·rcases j4 i hi with h|h;·have:=hN i h;omega
   ·omega
  ·obtain⟨rfl,rfl,p1,p2,p3,p4,p5,p6⟩:=hp
   have hNc: ∀i,c'.N i→c.N i∨(nx≤i∧i<nx'):=by
    intro i hi;rcases p4 i hi with h|h
    ·rcases j4 i h with h|h;·exact .inl h
     ·exact .inr ⟨h.1,by omega⟩
    ·exact .inr ⟨by omega,h.2⟩
   cases aex with
   |normal=>obtain⟨b',F,H2,q1,q2,q3,q4,q5⟩:=p6;obtain⟨c2,s1,s2,bp7,bp8,bp9⟩:=hc0 p1 (j3.trans p2) (fun i hi=>by rcases hNc i hi with h|h;have:=hN i h;omega;exact h.2) p3 q3 q4;exact⟨μ b',q2,b',c2,H2,nx',rfl,s1,s2,bp8,bp7,fun i hi=>hNc i (bp9 i hi),by omega,q5⟩
   |exit id=>exact⟨.exit id,e',H',nx',c',rfl,rfl,p1,j3.trans p2,p3,hNc,by omega,p6⟩
   |ret=>exact⟨.ret,e',H',nx',c',rfl,rfl,p1,j3.trans p2,p3,hNc,by omega,p6⟩
theorem aB.tW {P:Program} {f:FuncId} {args:List D} {H:aA} {nx:Nat} {K:D→aA→Nat→Prop}
 (h:aB P f args H nx fun r H' n'=>∃r2 H2 F,CvD H' F id n' r2 r∧CvX F n' H' H2∧K r2 H2 n'):aB P f args H nx K:=by
 refine⟨h.1,fun c vs hs hN hl hr=> ?_⟩
 refine(h.2 c vs hs hN hl hr).mono ?_
 rintro x w' ⟨v,c2,r,H2,n2,rfl,rfl,p1,p2,p3,p4,p5,r2,H3,F,q1,q2,q3⟩
 have hN2: ∀i,c2.N i→i<n2:=fun i hi=>by
  rcases p3 i hi with h|h;·have:=hN i h;omega
  ·exact h.2
 obtain⟨k1,k2⟩:=YO p1 p2 hN2 q2
 refine⟨v,c2.conv n2 n2 id (c2.frI H2 F),r2,H3,n2,rfl,rfl,k1,k2,fun i hi=> ?_,p4,zD p1 (fun b h=>.inl h) (fun id o h1 h2 h3=>.inr ⟨id,o,h1,h2,h3,rfl⟩) (fun _ _=>rfl) q1 p5,q3⟩
 rcases hi with⟨_,hi⟩|⟨h1,h2,h3⟩
 ·exact p3 i hi
 ·omega
section
variable {P : Program} {T : Nat} {e : Env} {H : aA} {nx : Nat} {Q : AQ}
theorem AWP.tW {x:AC} (e':Env) (H':aA) (F:Nat→Prop) (hE: ∀t,e' t=e t∨CvD H F id nx (e' t) (e t)) (hH:CvX F nx H H') (h:AWP P T x e' H' nx Q):AWP P T x e H nx Q:=by
 intro code hc c a hs he hN;obtain⟨k1,k2⟩:=YO hs (Step.refl c H) hN hH;refine wp_mono (h code hc (c.conv nx nx id (c.frI H F)) a k1 ⟨he.1,he.2.1,fun t=> ?_⟩ fun i hi=> ?_) ?_
 ·rcases hE t with h1|h1;·rw[h1];exact ac6 (fun b h=>.inl h) hN (he.2.2 t)
  ·exact zD hs (fun b h=>.inl h) (fun id o h1 h2 h3=>.inr ⟨id,o,h1,h2,h3,rfl⟩) (fun _ _=>rfl) h1 (he.2.2 t)
 ·rcases hi with⟨_,hi⟩|⟨h1,h2,h3⟩
  ·exact hN i hi
  ·omega
 ·rintro ex a w ⟨aex,e',H',nx',c',rfl,rfl,p1,p2,p3,p4,p5,p6⟩;refine⟨aex,e',H',nx',c',rfl,rfl,p1,k2.trans p2,p3,fun i hi=> ?_,p5,p6⟩;rcases p4 i hi with h|h
  ·rcases h with⟨_,hi⟩|⟨h1,h2,h3⟩
   ·exact .inl hi
   ·omega
  ·exact .inr h
theorem aM.tW {x:AC} {zs:List AC} (e':Env) (H':aA) (F:Nat→Prop) (hE: ∀t,e' t=e t∨CvD H F id nx (e' t) (e t)) (hH:CvX F nx H H') (h:aM P T (x::zs) e' H' nx Q):aM P T (x::zs) e H nx Q:=AWP.tW e' H' F hE hH h
theorem AWP.BW {x:AC} (h:(∀i,nx≤i→H i=none)→AWP P T x e H nx Q):AWP P T x e H nx Q:=
 fun code hc c a hs he hN=>h (fun i hi=>by
  cases ho:H i with
  |none=>rfl
  |some o=>have:=hN i (hs.named i o ho);omega) code hc c a hs he hN
theorem aM.BW {x:AC} {zs:List AC} (h:(∀i,nx≤i→H i=none)→aM P T (x::zs) e H nx Q):aM P T (x::zs) e H nx Q:=AWP.BW h
variable{l:List Nat}
theorem BV{b:Nat}{H:aA} (h: ∀i,nx≤i→H i=none) (hb:nx≤b):msk b l H=H:=by
 funext i;simp only[msk];split;·rename_i hi;obtain⟨j,_,rfl⟩:=CF.1 hi;exact(h _ (by omega)).symm
 ·rfl
theorem umS{b i:Nat}{H G:aA}{o:bA}:dT b l (H.set i o) G=if i∈l.map (b+ ·) then (dT b l H G).set i o else dT b l H G:=by
 split
 ·rename_i h;funext j;simp only[dT,aA.set];by_cases hj:j=i;·subst hj;simp only[h,if_true]
  ·simp only[hj,if_false]
 ·rename_i h;funext j;simp only[dT,aA.set];by_cases hj:j=i;·subst hj;simp only[h,if_false]
  ·simp only[hj,if_false]
theorem umD{b i:Nat}{H G:aA}:dT b l (H.del i) G=if i∈l.map (b+ ·) then (dT b l H G).del i else dT b l H G:=by
 split
 ·rename_i h;funext j;simp only[dT,aA.del];by_cases hj:j=i;·subst hj;simp only[h,if_true]
  ·simp only[hj,if_false]
 ·rename_i h;funext j;simp only[dT,aA.del];by_cases hj:j=i;·subst hj;simp only[h,if_false]
  ·simp only[hj,if_false]
theorem umB{b:Nat}{G:aA}:dT b l G G=G:=by funext j;simp only[dT];split<;>rfl
end
end Go.AM
namespace Go.Proofs.YtmccpdapaccnoaaGreat
open Go Go.AM
def kM:AC:= (boG [f5 1 0,f7 2 [OZ,OZ,OZ,OZ,OZ]] [1,2] (.seq (.region [RF 8 0 1 0,boF 9 (.load 2 true 8) [13] [] false 1,RF 11 2 1 3,g8 12 11 [13] [] true 4,RF 14 3 1 6,g8 15 14 [13] [] true 7,RF 17 4 1 9,g8 18 17 [13] [] true 10,f7 3 [OZ,OZ,OZ,OZ,OZ] 13,boF 10 (.call fL [9]) [13] [4,7,10] false 2,boF 13 (.call fY [12]) [13] [7,10] false 5,boF 16 (.call fM [15]) [13] [10] false 8,boF 19 (.call eO [18]) [13] [] false 11,rq 20 (.build [OZ,OZ,OZ,OZ,OZ] [(0,2,10),(2,1,13),(3,1,16),(4,1,19)]) 12,g0 5 true 3 20 14] 15 [1,2,3]) (.seq (boG [RF 21 2 1,RL 22 21,f1 23 22,dO 24 (ki 0)] [1,2,3,22,23,24] (.block 0 (.loop (boG [dI 25 .lss 24 23] [1,2,3,22,23,24,25] (.seq (.cond 25 .skip (.exit 0)) (.seq (.block 1 (boG [RM 26 24,e0 27 4 22 24,f8 28 4 27,f7 5 [VZ,OZ,OZ,VZ],RM 4 26,g0 4 true 5 28] [1,2,3,4,5,22,23,24] (.region [RF 29 2 3 0,g8 30 29 [] [] true 1,RM 31 4 2,RF 32 2 3 3,g8 33 32 [] [] true 4,RM 34 4 5,RF 35 1 5 6,RL 36 35 7,RF 38 2 5 9,g8 39 38 [] [] true 10,boF 37 (.call eX [36]) [] [1,4,10] false 8,boF 40 (.call eK [39]) [] [1,4] false 11,e0 41 4 30 31 12,RF 42 1 41 13,dA none (.store 1 false 42 37) none [] [4] false 14,e0 43 4 33 34 15,RF 44 2 43 16,g0 1 false 44 40 17] 18 [1,2,3,22,23,24]))) (m2 [dI 45 .add 24 (ki 1),RM 24 45] [1,2,3,22,23,24]))))))) (.seq (boG [RF 46 3 1,RL 47 46,f1 48 47,dO 49 (ki 0)] [2,3,47,48,49] (.block 2 (.loop (boG [dI 50 .lss 49 48] [2,3,47,48,49,50] (.seq (.cond 50 .skip (.exit 2)) (.seq (.block 3 (boG [RM 51 49,e0 52 3 47 49,f8 53 3 52,f7 7 [OZ,OZ,VZ],RM 6 51,g0 3 true 7 53] [2,3,6,7,47,48,49] (.region [RF 54 3 3 0,g8 55 54 [] [] true 1,RM 56 6 2,RF 57 3 3 3,g8 58 57 [] [] true 4,RM 59 6 5,RF 60 0 7 6,RL 61 60 7,RF 63 1 7 9,g8 64 63 [] [] true 10,boF 62 (.call eK [61]) [] [1,4,10] false 8,boF 65 (.call eO [64]) [] [1,4] false 11,e0 66 3 55 56 12,RF 67 0 66 13,dA none (.store 1 false 67 62) none [] [4] false 14,e0 68 3 58 59 15,RF 69 1 68 16,g0 1 false 69 65 17] 18 [2,3,47,48,49]))) (m2 [dI 70 .add 49 (ki 1),RM 49 70] [2,3,47,48,49]))))))) (boG [f8 71 5 3,g0 5 true 2 71] [2] .ret)))))
def pR:List aW:=[.cell 2 5 true]
theorem AZ:aO Tryz.prog Tryz.f117 (bnD kM)=some (kM,pR):=by kernel_rfl
def iV:AC:= (boG [dO 2 (.kv (.slice none 0 0))] [0] (boG [RM 3 0,f6 4 dL [3],f6 5 dV [4],RM 2 5] [2] .ret))
def mE:List aW:=[.tm 2]
theorem xQ:aO Tryz.prog Tryz.f211 (bnD iV)=some (iV,mE):=by kernel_rfl
theorem yL:aN Tryz.prog fY Tryz.f211 iV mE:=aN.mk Tryz.func211 (by kernel_rfl) xQ
def iB:AC:= (boG [dO 2 (.kv (.slice none 0 0))] [0] (boG [RM 3 0,f6 4 cZ [3],f6 5 dE [4],RM 2 5] [2] .ret))
def lZ:List aW:=[.tm 2]
theorem wJ:aO Tryz.prog Tryz.f212 (bnD iB)=some (iB,lZ):=by kernel_rfl
theorem wE:aN Tryz.prog fM Tryz.f212 iB lZ:=aN.mk Tryz.func212 (by kernel_rfl) wJ
def i9:AC:= (boG [dO 2 (.kv (.slice none 0 0))] [0] (boG [RM 3 0,f6 4 eE [3],f6 5 eQ [4],RM 2 5] [2] .ret))
def nN:List aW:=[.tm 2]
theorem yS:aO Tryz.prog Tryz.f213 (bnD i9)=some (i9,nN):=by kernel_rfl
theorem y7:aN Tryz.prog eK Tryz.f213 i9 nN:=aN.mk Tryz.func213 (by kernel_rfl) yS
def fV:AC:= (boG [dO 2 (.kv (.slice none 0 0))] [0] (boG [RM 3 0,RM 4 0,f1 5 4,RM 6 0,f1 7 6,rq 8 (.slc 4 3 none (some 5) (some 7)),RM 2 8] [2] .ret))
def jU:List aW:=[.tm 2]
theorem rW:aO Tryz.prog Tryz.f276 (bnD fV)=some (fV,jU):=by kernel_rfl
theorem r9:aN Tryz.prog dV Tryz.f276 fV jU:=aN.mk Tryz.func276 (by kernel_rfl) rW
def fN:AC:= (boG [dO 2 (.kv (.slice none 0 0))] [0] (.seq (boG [RM 3 0,rq 4 (.xop (.qJ false) [3])] [0,4] (.cond 4 (boG [dO 2 (.kv (.slice none 0 0))] [2] .ret) .skip)) (boG [rq 5 (.bC 4 0 [VZ,OZ,OZ,VZ] []),RM 6 0,rq 7 (.append 4 5 6),RM 2 7] [2] .ret)))
def jI:List aW:=[.tm 2]
theorem qP:aO Tryz.prog Tryz.f277 (bnD fN)=some (fN,jI):=by kernel_rfl
theorem qV:aN Tryz.prog dL Tryz.f277 fN jI:=aN.mk Tryz.func277 (by kernel_rfl) qP
def fG:AC:= (boG [dO 2 (.kv (.slice none 0 0))] [0] (boG [RM 3 0,RM 4 0,f1 5 4,RM 6 0,f1 7 6,rq 8 (.slc 3 3 none (some 5) (some 7)),RM 2 8] [2] .ret))
def iZ:List aW:=[.tm 2]
theorem pZ:aO Tryz.prog Tryz.f278 (bnD fG)=some (fG,iZ):=by kernel_rfl
theorem qF:aN Tryz.prog dE Tryz.f278 fG iZ:=aN.mk Tryz.func278 (by kernel_rfl) pZ
def eW:AC:= (boG [dO 2 (.kv (.slice none 0 0))] [0] (.seq (boG [RM 3 0,rq 4 (.xop (.qJ false) [3])] [0,4] (.cond 4 (boG [dO 2 (.kv (.slice none 0 0))] [2] .ret) .skip)) (boG [rq 5 (.bC 3 0 [OZ,OZ,VZ] []),RM 6 0,rq 7 (.append 3 5 6),RM 2 7] [2] .ret)))
def iL:List aW:=[.tm 2]
theorem oX:aO Tryz.prog Tryz.f279 (bnD eW)=some (eW,iL):=by kernel_rfl
theorem oY:aN Tryz.prog cZ Tryz.f279 eW iL:=aN.mk Tryz.func279 (by kernel_rfl) oX
def gK:AC:= (boG [dO 2 (.kv (.slice none 0 0))] [0] (boG [RM 3 0,RM 4 0,f1 5 4,RM 6 0,f1 7 6,rq 8 (.slc 3 3 none (some 5) (some 7)),RM 2 8] [2] .ret))
def kQ:List aW:=[.tm 2]
theorem uK:aO Tryz.prog Tryz.f280 (bnD gK)=some (gK,kQ):=by kernel_rfl
theorem uS:aN Tryz.prog eQ Tryz.f280 gK kQ:=aN.mk Tryz.func280 (by kernel_rfl) uK
def gB:AC:= (boG [dO 2 (.kv (.slice none 0 0))] [0] (.seq (boG [RM 3 0,rq 4 (.xop (.qJ false) [3])] [0,4] (.cond 4 (boG [dO 2 (.kv (.slice none 0 0))] [2] .ret) .skip)) (boG [rq 5 (.bC 3 0 [VZ,VZ,VZ] []),RM 6 0,rq 7 (.append 3 5 6),RM 2 7] [2] .ret)))
def kG:List aW:=[.tm 2]
theorem tA:aO Tryz.prog Tryz.f281 (bnD gB)=some (gB,kG):=by kernel_rfl
theorem sN:aN Tryz.prog eE Tryz.f281 gB kG:=aN.mk Tryz.func281 (by kernel_rfl) tA
def uZ:AC:= (boG [f5 2 0,f5 3 1,dO 4 boD] [2,3] (.seq (boG [f8 8 3 2,f8 9 5 3,f6 10 mW [8,9],f4 11 10] [2,3,11] (.cond 11 (boG [dO 4 boD] [4] .ret) .skip)) (boG [dO 5 (ki 0)] [2,3,5] (.seq (boG [RF 12 2 2,RL 13 12,f1 14 13,dO 15 (ki 0)] [3,5,13,14,15] (.block 0 (.loop (boG [dI 16 .lss 15 14] [3,5,13,14,15,16] (.seq (.cond 16 .skip (.exit 0)) (.seq (.block 1 (boG [e0 17 1 13 15,RL 18 17,RM 7 18] [3,5,7,13,14,15] (m2 [RM 19 5,RM 20 7,f1 21 20,dI 22 .add 19 21,RM 5 22] [3,5,13,14,15]))) (m2 [dI 23 .add 15 (ki 1),RM 15 23] [3,5,13,14,15]))))))) (boG [RF 24 4 3,RL 25 24,f1 26 25,RM 27 5,dI 28 .eql 26 27,RM 4 28] [4] .ret)))))
def D2:List aW:=[.tm 4]
theorem O6:aO Tryz.prog Tryz.f38 (bnD uZ)=some (uZ,D2):=by kernel_rfl
def vJ:AC:= (boG [f5 3 0,f5 4 1,f5 5 2,f7 6 [OZ,OZ,OZ,OZ,OZ]] [3,4,5,6] (.seq (boG [f8 8 3 3,f8 9 5 4,f6 10 mW [8,9],f4 11 10,RM 12 11,GQ 13 (.load 3 true 5) 12 false,GQ 14 (.call uJ [13]) 12 false,hP 15 14 12 false,f3 16 12 boE 15] [3,4,5,6,16] (.cond 16 (boG [rq 17 (.build [OZ,OZ,OZ,OZ,OZ] []),g0 5 true 6 17] [6] .ret) .skip)) (boG [f8 18 5 4,f6 19 cV [18],f7 7 [OZ,OZ,OZ,OZ,OZ],g0 5 true 7 19] [3,5,6,7] (boG [f8 20 3 3,f8 21 3 5,f6 22 jF [7,20,21]] [6,7] (boG [f8 23 5 7,f6 24 cV [23],g0 5 true 6 24] [6] .ret)))))
def DL:List aW:=[.cell 6 5 true]
theorem O7:aO Tryz.prog Tryz.f40 (bnD vJ)=some (vJ,DL):=by kernel_rfl
def AV:AC:= (boG [f7 0 [OZ,OZ,OZ]] [0] (.seq (.region [rq 1 (.bC 1 1 [(.v (.bool false))] [(0,1,boE)]) 0,rq 3 (.kY 1 [(.v (.bool false))] (ki 4) (ki 4)) 2,rq 4 (.bC 1 1 [(.v (.bool false))] [(0,1,boE)]) 3,boF 2 (.call dN [1,(ki 3)]) [2,3] [] false 1,boF 5 (.call dN [4,(ki 3)]) [2] [] false 4,rq 6 (.build [OZ,OZ,OZ] [(0,1,2),(1,1,3),(2,1,5)]) 5,g0 3 true 0 6 6] 7 [0]) .ret))
def IY:List aW:=[.cell 0 3 true]
theorem UH:aO Tryz.prog Tryz.f60 (bnD AV)=some (AV,IY):=by kernel_rfl
def iE:AC:= (boG [dO 4 (.kv (.slice none 0 0))] [0,1] (.seq (boG [RM 9 1,dI 10 .lss 9 (ki 0)] [0,1,10] (.cond 10 (m2 [rq 11 (.xop .bad []),rn (.xop .bad [])] [0,1]) .skip)) (boG [RM 13 0,f1 14 13,rq 15 (.conv .u64 14),RM 16 1,rq 17 (.conv .u64 16),f6 18 cE [15,17],RM 12 18,rq 19 (.ext 12 0),rq 20 (.ext 12 1),RM 5 19,RM 6 20] [0,5,6] (.seq (boG [RM 21 5,dI 22 .gtr 21 (.kv (.int .u64 0)),RM 23 22,hG 24 6 23 false,hO 25 .gtr 24 (.kv (.int .u64 9223372036854775807)) 23 false,f3 26 23 boE 25] [0,6,26] (.cond 26 (m2 [rq 27 (.xop .bad []),rn (.xop .bad [])] [0,6]) .skip)) (boG [RM 28 6,rq 29 (.conv .i64 28),rq 30 (.kY 1 [(.v (.bool false))] 29 29),RM 7 30] [0,7] (boG [RM 31 7,RM 32 0,rq 33 (.xop (.copy 1) [31,32]),RM 8 33] [7,8] (.seq (.block 0 (.loop (.seq (boG [RM 34 8,RM 35 7,f1 36 35,dI 37 .lss 34 36] [7,8,37] (.cond 37 .skip (.exit 0))) (.block 1 (m2 [RM 38 8,RM 39 7,RM 40 8,rq 41 (.slc 1 39 (some 40) none none),RM 42 7,RM 43 8,rq 44 (.slc 1 42 none (some 43) none),rq 45 (.xop (.copy 1) [41,44]),dI 46 .add 38 45,RM 8 46] [7,8]))))) (boG [RM 47 7,RM 4 47] [4] .ret))))))))
def lW:List aW:=[.tm 4]
theorem wQ:aO Tryz.prog Tryz.f141 (bnD iE)=some (iE,lW):=by kernel_rfl
theorem wL:aN Tryz.prog dN Tryz.f141 iE lW:=aN.mk Tryz.func141 (by kernel_rfl) wQ
def aA7:AC:= (boG [f5 3 1,dO 4 (ki 0)] [0,3] (.seq (boG [RM 6 0,f6 7 aBG [6],f4 8 7,RM 9 8,GQ 10 (.load 7 true 3) 9 false,GQ 11 (.call aBF [10]) 9 false,hP 12 11 9 false,f3 13 9 boE 12] [0,3,13] (.cond 13 (boG [rq 4 (.move (.kv (.int .i64 (-1))))] [4] .ret) .skip)) (boG [RM 14 0,RF 15 2 3,RL 16 15,RF 17 3 3,RL 18 17,RF 19 4 3,RL 20 19,f6 21 aAY [16,18,20],f6 22 aA4 [14,21],RM 5 22] [0,5] (.seq (boG [RM 23 5,dI 24 .lss 23 (ki 0)] [0,5,24] (.cond 24 (boG [dO 4 (ki 3)] [4] .ret) .skip)) (boG [RM 25 0,RM 26 5,e0 27 4 25 26,RF 28 2 27,RL 29 28,RM 4 29] [4] .ret)))))
def aBU:List aW:=[.tm 4]
theorem aCT:aO Tryz.prog Tryz.f185 (bnD aA7)=some (aA7,aBU):=by kernel_rfl
theorem aCQ:aN Tryz.prog y3 Tryz.f185 aA7 aBU:=aN.mk Tryz.func185 (by kernel_rfl) aCT
def xW:AC:= (boG [f7 4 [VZ,VZ,VZ,VZ,(.v (.bool false)),OZ,OZ]] [0,1,4] (.seq (.region [RM 7 0 0,RM 9 0 2,RM 12 0 5,rq 14 (.bC 1 4 [VZ] [(0,1,(ki 1)),(1,1,(ki 1)),(2,1,(ki 2)),(3,1,(ki 4))]) 7,RM 15 0 8,RM 19 0 12,f7 5 [VZ,VZ,VZ,VZ,(.v (.bool false)),OZ,OZ] 16,boF 8 (.call aD [7,(ki 2)]) [7,16] [] false 1,boF 10 (.call aD [9,(ki 4)]) [7,16] [] false 3,dI 11 .add (ki 1) 10 4,boF 13 (.call qM [12]) [7,16] [] false 6,boF 16 (.call aD [15,(ki 4)]) [7,16] [] false 9,e0 17 1 14 16 10,g8 18 17 [16] [] true 11,boF 20 (.call aD [19,(ki 3)]) [7,16] [11] false 13,dI 21 .eql 20 (ki 0) 14,rq 22 (.build [VZ,VZ,VZ,VZ,(.v (.bool false)),OZ,OZ] [(0,1,8),(1,1,11),(2,1,13),(3,1,18),(4,1,21)]) 15,g0 7 true 5 22 17] 18 [0,1,4,5]) (.seq (boG [RF 23 1 5,RL 24 23,dI 25 .geq 24 (ki 3)] [0,1,4,5,25] (.cond 25 (boG [RF 26 3 5,g0 1 false 26 (ki 1)] [0,1,4,5] (m2 [rq 27 (.bC 1 4 [VZ] [(0,1,(ki 0)),(1,1,(ki 1)),(2,1,(ki 16)),(3,1,(ki 32))]),RM 28 0,f6 29 aD [28,(ki 4)],e0 30 1 27 29,RL 31 30,RF 32 2 5,g0 1 false 32 31] [0,1,4,5])) .skip)) (.seq (boG [RF 33 4 5,RL 34 33,f4 35 34,RM 36 35,g9 37 2 5 36 true,hD 38 37 36 true,g9 39 3 5 36 true,hD 40 39 36 true,hO 41 .add 38 40 36 true,hO 42 .sub 41 (ki 1) 36 true,hO 43 .gtr 42 (ki 63) 36 true,f3 44 36 43 boD] [0,1,4,5,44] (.cond 44 (m2 [RF 45 3 5,RL 46 45,dI 47 .sub (ki 63) 46,dI 48 .add 47 (ki 1),RF 49 2 5,g0 1 false 49 48] [0,1,4,5]) .skip)) (.seq (boG [RF 50 1 5,RL 51 50,dI 52 .eql 51 (ki 2),RM 53 52,g9 54 1 5 53 false,hD 55 54 53 false,hO 56 .eql 55 (ki 4) 53 false,f3 57 53 boE 56] [0,1,4,5,57] (.cond 57 (boG [dO 6 (ki 0)] [0,1,4,5,6] (.block 0 (.loop (.seq (boG [RM 58 6,RF 59 3 5,RL 60 59,dI 61 .lss 58 60] [0,1,4,5,6,61] (.cond 61 .skip (.exit 0))) (.seq (.block 1 (.seq (.region [RF 64 5 5 0,g8 65 64 [7,12] [] true 1,RM 66 0 2,RM 69 0 5,RM 72 0 8,boF 67 (.call aD [66,(ki 256)]) [] [1] false 3,dI 68 .mul 67 (ki 257) 4,boF 70 (.call aD [69,(ki 10)]) [] [1] false 6,rq 71 (.bC 1 4 [VZ] [(0,1,68),(1,1,70),(2,1,(ki 65535)),(3,1,(ki 0))]) 7,boF 73 (.call aD [72,(ki 4)]) [7] [1] false 9,e0 74 1 71 73 10,RL 75 74 11,rq 76 (.bC 1 1 [VZ] [(0,1,75)]) 12,rq 77 (.append 1 65 76) 13,RF 78 5 5 14,g0 1 false 78 77 15] 16 [0,1,4,5,6]) (m2 [RF 79 6 5,g8 80 79 [2,7] [] true,rq 81 (.bC 1 5 [VZ] [(0,1,(ki 3)),(1,1,(ki 3)),(2,1,(ki 1)),(3,1,(ki 2)),(4,1,(ki 0))]),RM 82 0,boF 83 (.call aD [82,(ki 5)]) [2] [1] false,e0 84 1 81 83,RL 85 84,rq 86 (.bC 1 1 [VZ] [(0,1,85)]),rq 87 (.append 1 80 86),RF 88 6 5,g0 1 false 88 87] [0,1,4,5,6]))) (m2 [RM 62 6,dI 63 .add 62 (ki 1),RM 6 63] [0,1,4,5,6])))))) .skip)) (.seq (boG [RM 89 0,RM 90 1,f6 91 kE [89,90]] [0,4,5,91] (.cond 91 (boG [RM 92 0,f6 93 aD [92,(ki 7)]] [0,4,5,93] (.block 2 (boG [dI 107 .eql 93 (ki 0),RM 106 107] [0,4,5,93,106] (.cond 106 (m2 [rq 108 (.bC 1 2 [VZ] [(0,1,(.kv (.int .i64 (-1)))),(1,1,(ki 2))]),RM 109 0,f6 110 aD [109,(ki 2)],e0 111 1 108 110,RL 112 111,RF 113 0 5,g0 1 false 113 112] [4,5]) (boG [dI 115 .eql 93 (ki 1),RM 114 115] [0,4,5,93,114] (.cond 114 (m2 [rq 116 (.bC 1 2 [VZ] [(0,1,(ki 0)),(1,1,(ki 5))]),RM 117 0,f6 118 aD [117,(ki 2)],e0 119 1 116 118,RL 120 119,RF 121 1 5,g0 1 false 121 120] [4,5]) (boG [dI 123 .eql 93 (ki 2),RM 122 123] [0,4,5,93,122] (.cond 122 (m2 [rq 124 (.bC 1 3 [VZ] [(0,1,(.kv (.int .i64 (-1)))),(1,1,(ki 64)),(2,1,(ki 63))]),RM 125 0,f6 126 aD [125,(ki 3)],e0 127 1 124 126,RL 128 127,RF 129 2 5,g0 1 false 129 128] [4,5]) (boG [dI 131 .eql 93 (ki 3),RM 130 131] [0,4,5,93,130] (.cond 130 (m2 [rq 132 (.bC 1 4 [VZ] [(0,1,(ki 0)),(1,1,(ki 3)),(2,1,(ki 8)),(3,1,(ki 4))]),RM 133 0,f6 134 aD [133,(ki 4)],e0 135 1 132 134,RL 136 135,RF 137 3 5,g0 1 false 137 136] [4,5]) (boG [dI 139 .eql 93 (ki 4),RM 138 139] [0,4,5,93,138] (.cond 138 (m2 [RF 140 5 5,RL 141 140,rq 142 (.bC 1 1 [VZ] [(0,1,(ki 5))]),rq 143 (.append 1 141 142),RF 144 5 5,g0 1 false 144 143] [4,5]) (boG [dI 146 .eql 93 (ki 5),RM 145 146] [0,4,5,145] (.cond 145 (m2 [RF 147 6 5,RL 148 147,rq 149 (.bC 1 1 [VZ] [(0,1,(ki 1))]),rq 150 (.append 1 148 149),RF 151 6 5,g0 1 false 151 150] [4,5]) (boG [RF 94 5 5,RL 95 94,f1 96 95,dI 97 .gtr 96 (ki 0)] [0,4,5,97] (.cond 97 (m2 [RF 98 5 5,g8 99 98 [2] [] true,rq 100 (.bC 1 2 [VZ] [(0,1,(.kv (.int .i64 (-1)))),(1,1,(ki 65536))]),RM 101 0,boF 102 (.call aD [101,(ki 2)]) [2] [1] false,e0 103 1 100 102,RL 104 103,e0 105 1 99 (ki 0),g0 1 false 105 104] [4,5]) .skip)))))))))))))))) .skip)) (boG [f8 152 7 5,g0 7 true 4 152] [4] .ret)))))))
def E5:List aW:=[.cell 4 7 true]
theorem TG:aO Tryz.prog Tryz.f275 (bnD xW)=some (xW,E5):=by kernel_rfl
theorem QN:aN Tryz.prog tS Tryz.f275 xW E5:=aN.mk Tryz.func275 (by kernel_rfl) TG
def xO:AC:= (boG [dO 4 boD] [0,1] (.seq (boG [RM 6 0,f1 7 6,RM 8 1,f1 9 8,dI 10 .neq 7 9] [0,1,10] (.cond 10 (boG [dO 4 boD] [4] .ret) .skip)) (.seq (boG [dO 5 (ki 0)] [0,1,5] (.block 0 (.loop (.seq (boG [RM 11 5,RM 12 0,f1 13 12,dI 14 .lss 11 13] [0,1,5,14] (.cond 14 .skip (.exit 0))) (.seq (.block 1 (boG [RM 17 0,RM 18 5,e0 19 1 17 18,RL 20 19,RM 21 1,RM 22 5,e0 23 1 21 22,RL 24 23,dI 25 .neq 20 24] [0,1,5,25] (.cond 25 (boG [dO 4 boD] [4] .ret) .skip))) (m2 [RM 15 5,dI 16 .add 15 (ki 1),RM 5 16] [0,1,5])))))) (boG [dO 4 boE] [4] .ret))))
def GS:List aW:=[.tm 4]
theorem P1:aO Tryz.prog Tryz.f122 (bnD xO)=some (xO,GS):=by kernel_rfl
theorem SU:aN Tryz.prog jM Tryz.f122 xO GS:=aN.mk Tryz.func122 (by kernel_rfl) P1
def zY:AC:= (boG [f5 2 0,f5 3 1,dO 4 boD] [2,3] (boG [RF 5 0 2,RF 6 0 5,RL 7 6,RF 8 0 3,RF 9 0 8,RL 10 9,f6 11 jM [7,10],RM 12 11,g9 13 1 2 12 true,hD 14 13 12 true,g9 15 1 3 12 true,hD 16 15 12 true,GQ 17 (.call jM [14,16]) 12 true,f3 18 12 17 boD,RM 4 18] [4] .ret))
def I2:List aW:=[.tm 4]
theorem UP:aO Tryz.prog Tryz.f121 (bnD zY)=some (zY,I2):=by kernel_rfl
theorem UZ:aN Tryz.prog wK Tryz.f121 zY I2:=aN.mk Tryz.func121 (by kernel_rfl) UP
def bsN:AC:= (boG [f7 2 [OZ,OZ,OZ],f7 3 [OZ,OZ,OZ,OZ,OZ]] [0,2,3] (boG [RM 7 0,f6 8 kN [7],RM 4 8] [2,3,4] (boG [RM 10 4,f6 11 bgS [10,(ki 9)],RM 9 11,rq 12 (.ext 9 0),rq 13 (.ext 9 1),f7 5 [OZ,OZ,OZ],f7 6 [OZ,OZ,OZ,OZ,OZ],g0 3 true 5 12,g0 5 true 6 13] [2,3,4,5,6] (.seq (boG [RM 14 4,f6 15 aD [14,(ki 2)],dI 16 .eql 15 (ki 0),RM 17 16,GQ 18 (.load 3 true 5) 17 true,GQ 19 (.load 5 true 6) 17 true,GQ 20 (.call aI5 [18,19]) 17 true,f3 21 17 20 boD] [2,3,4,5,6,21] (.cond 21 (boG [boF 22 (.load 3 true 5) [] [] true,boF 23 (.load 3 true 5) [] [] true,boF 24 (.load 5 true 6) [] [] true,RM 25 4,boF 26 (.call aD [25,(ki 120)]) [] [0,1,2] false,boF 27 (.call bsS [23,24,26]) [] [0] false,g0 3 true 2 22,g0 5 true 3 27] [2,3] .ret) .skip)) (boG [f8 28 3 5,boF 29 (.load 5 true 6) [] [] true,dA none (.store 3 true 2 28) none [] [1] false,g0 5 true 3 29] [2,3] .ret)))))
def bsR:List aW:=[.cell 2 3 true,.cell 3 5 true]
theorem bsY:aO Tryz.prog Tryz.f62 (bnD bsN)=some (bsN,bsR):=by kernel_rfl
end Go.Proofs.YtmccpdapaccnoaaGreat
