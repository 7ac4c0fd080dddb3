/- Texts laid together by a program: rules, contracts and the walk that leads to the law. -/
import Derived.Test.YtmccpdapaccnoaaGreatPT3
import Derived.Test.YtmccpdapaccnoaaGreatPT16
import Derived.Test.YtmccpdapaccnoaaGreatPT21
import Derived.Test.YtmccpdapaccnoaaGreatPT15
import Derived.Test.YtmccpdapaccnoaaGreatPT14
set_option linter.unusedVariables false
set_option linter.unusedSimpArgs false
set_option linter.unusedSectionVars false
set_option maxRecDepth 100000
set_option maxHeartbeats 8000000
namespace Go.Proofs.YtmccpdapaccnoaaGreat
open Go Go.AM
attribute [local irreducible] aM wv aB vd wvH
def aJO:AC:= (boG [f5 2 0,f5 3 1,dO 4 boD] [2,3] (.seq (boG [f8 8 3 2,f6 9 aIV [8],f4 10 9,RM 11 10,g9 12 0 3 11 false,GQ 13 (.load 2 true 12) 11 false,GQ 14 (.call aIU [13]) 11 false,hP 15 14 11 false,f3 16 11 boE 15,RM 17 16,g9 18 2 3 17 false,hD 19 18 17 false,GQ 20 (.len false 19) 17 false,hO 21 .neq 20 (ki 3) 17 false,f3 22 17 boE 21,RM 23 22,g9 24 3 3 23 false,hD 25 24 23 false,GQ 26 (.len false 25) 23 false,hO 27 .neq 26 (ki 4) 23 false,f3 28 23 boE 27] [2,3,28] (.cond 28 (boG [dO 4 boD] [4] .ret) .skip)) (boG [dO 5 (ki 0)] [2,3,5] (.seq (boG [dO 6 (ki 0)] [2,3,5,6] (.block 0 (.loop (.seq (boG [RM 29 6,dI 30 .lss 29 (ki 3)] [2,3,5,6,30] (.cond 30 .skip (.exit 0))) (.seq (.block 1 (.seq (boG [f8 33 3 2,f8 34 5 3,RM 35 6,f6 36 aIY [33,34,35],f4 37 36] [2,3,5,6,37] (.cond 37 (boG [dO 4 boD] [4] .ret) .skip)) (m2 [RM 38 5,RF 39 2 3,RL 40 39,RM 41 6,e0 42 4 40 41,RF 43 2 42,RL 44 43,f1 45 44,dI 46 .add 38 45,RM 5 46] [2,3,5,6]))) (m2 [RM 31 6,dI 32 .add 31 (ki 1),RM 6 32] [2,3,5,6])))))) (.seq (boG [dO 7 (ki 0)] [2,3,5,7] (.block 2 (.loop (.seq (boG [RM 47 7,dI 48 .leq 47 (ki 3)] [2,3,5,7,48] (.cond 48 .skip (.exit 2))) (.seq (.block 3 (.seq (boG [f8 51 3 2,f8 52 5 3,RM 53 7,f6 54 aIT [51,52,53],f4 55 54] [2,3,5,7,55] (.cond 55 (boG [dO 4 boD] [4] .ret) .skip)) (m2 [RM 56 5,RF 57 3 3,RL 58 57,RM 59 7,e0 60 3 58 59,RF 61 0 60,RL 62 61,f1 63 62,dI 64 .sub 56 63,RF 65 3 3,RL 66 65,RM 67 7,e0 68 3 66 67,RF 69 1 68,RL 70 69,f1 71 70,dI 72 .sub 64 71,RM 5 72] [2,3,5,7]))) (m2 [RM 49 7,dI 50 .add 49 (ki 1),RM 7 50] [2,3,5,7])))))) (boG [RM 73 5,dI 74 .eql 73 (ki 0),RM 75 74,dA (some 76) (.load 3 true 2) (some (75,true)) [] [] true,GQ 77 (.load 5 true 3) 75 true,dA (some 78) (.call aIZ [77]) (some (75,true)) [] [3] false,GQ 79 (.call aI6 [76,78]) 75 true,f3 80 75 79 boD,RM 4 80] [4] .ret))))))
def aJ9:List aW:=[.tm 4]
theorem aMD:aO Tryz.prog Tryz.f33 (bnD aJO)=some (aJO,aJ9):=by kernel_rfl
theorem aLQ:aN Tryz.prog aI5 Tryz.f33 aJO aJ9:=
 aN.mk Tryz.func33 (by kernel_rfl) aMD
def aJG:AC:= (boG [f5 3 0,f5 4 1,dO 6 boD] [2,3,4] (boG [RF 12 2 4,RL 13 12,RM 14 2,e0 15 4 13 14,f8 16 4 15,f7 7 [VZ,OZ,OZ,VZ],g0 4 true 7 16] [2,3,7] (.seq (boG [RF 17 0 7,RL 18 17,RF 19 2 3,RL 20 19,RM 21 2,e0 22 1 20 21,RL 23 22,f1 24 23,f6 25 y2 [18,(ki 0),24],f4 26 25,RM 27 26,g9 28 1 7 27 false,hD 29 28 27 false,GQ 30 (.len false 29) 27 false,hO 31 .gtr 30 (ki 2) 27 false,f3 32 27 boE 31,RM 33 32,g9 34 1 7 33 false,hD 35 34 33 false,GQ 36 (.len false 35) 33 false,g9 37 0 7 33 false,hD 38 37 33 false,hO 39 .gtr 36 38 33 false,f3 40 33 boE 39,RM 41 40,g9 42 2 7 41 false,hD 43 42 41 false,GQ 44 (.len false 43) 41 false,hO 45 .gtr 44 (ki 4) 41 false,f3 46 41 boE 45,RM 47 46,g9 48 3 7 47 false,hD 49 48 47 false,GQ 50 (.call y2 [49,(ki 0),(ki 3)]) 47 false,hP 51 50 47 false,f3 52 47 boE 51] [2,3,7,52] (.cond 52 (boG [dO 6 boD] [6] .ret) .skip)) (.seq (boG [dO 8 (ki 0)] [2,3,7,8] (.block 0 (.loop (.seq (boG [RM 53 8,RF 54 1 7,RL 55 54,f1 56 55,dI 57 .lss 53 56] [2,3,7,8,57] (.cond 57 .skip (.exit 0))) (.seq (.block 1 (boG [RF 60 1 7,RL 61 60,RM 62 8,e0 63 1 61 62,RL 64 63,RF 65 0 7,RL 66 65,RF 67 1 7,RL 68 67,f1 69 68,dI 70 .sub 66 69,RM 71 8,dI 72 .add 70 71,dI 73 .neq 64 72] [2,3,7,8,73] (.cond 73 (boG [dO 6 boD] [6] .ret) .skip))) (m2 [RM 58 8,dI 59 .add 58 (ki 1),RM 8 59] [2,3,7,8])))))) (.seq (boG [dO 9 (ki 0)] [2,3,7,9] (.block 2 (.loop (.seq (boG [RM 74 9,RF 75 2 7,RL 76 75,f1 77 76,dI 78 .lss 74 77] [2,3,7,9,78] (.cond 78 .skip (.exit 2))) (.seq (.block 3 (boG [RF 81 2 7,RL 82 81,RM 83 9,e0 84 3 82 83,f8 85 3 84,f7 10 [VZ,VZ,VZ],g0 3 true 10 85] [2,3,7,9,10] (.seq (boG [RF 86 0 10,RL 87 86,RM 88 2,dI 89 .neq 87 88,RM 90 89,g9 91 1 10 90 false,hD 92 91 90 false,g9 93 0 7 90 false,hD 94 93 90 false,g9 95 1 7 90 false,hD 96 95 90 false,GQ 97 (.len false 96) 90 false,hO 98 .sub 94 97 90 false,hO 99 .sub 98 (ki 1) 90 false,GQ 100 (.call y2 [92,(ki 0),99]) 90 false,hP 101 100 90 false,f3 102 90 boE 101,RM 103 102,hG 104 9 103 false,hO 105 .gtr 104 (ki 0) 103 false,hG 106 105 103 false,g9 107 2 7 106 true,hD 108 107 106 true,hG 109 9 106 true,hO 110 .sub 109 (ki 1) 106 true,j0 111 3 108 110 106 true,g9 112 1 111 106 true,hD 113 112 106 true,g9 114 1 10 106 true,hD 115 114 106 true,hO 116 .geq 113 115 106 true,GQ 117 (.pick 106 116 boD) 103 false,f3 118 103 boE 117,RM 119 118,g9 120 2 10 119 false,dA (some 121) (.load 1 false 120) (some (119,false)) [] [] true,g9 122 0 3 119 false,hD 123 122 119 false,g9 124 2 3 119 false,hD 125 124 119 false,hG 126 2 119 false,j0 127 1 125 126 119 false,hD 128 127 119 false,g9 129 1 10 119 false,hD 130 129 119 false,j0 131 7 128 130 119 false,GQ 132 (.load 7 true 131) 119 false,dA (some 133) (.call y3 [123,132]) (some (119,false)) [] [35] false,hO 134 .neq 121 133 119 false,f3 135 119 boE 134] [2,3,7,9,10,135] (.cond 135 (boG [dO 6 boD] [6] .ret) .skip)) (boG [dO 11 (ki 0)] [2,3,7,9,10,11] (.block 4 (.loop (.seq (boG [RM 136 11,RM 137 9,dI 138 .lss 136 137] [2,3,7,9,10,11,138] (.cond 138 .skip (.exit 4))) (.seq (.block 5 (boG [RF 141 2 3,RL 142 141,RM 143 2,e0 144 1 142 143,RL 145 144,RF 146 2 7,RL 147 146,RM 148 11,e0 149 3 147 148,RF 150 1 149,RL 151 150,e0 152 7 145 151,RF 153 0 152,RL 154 153,RF 155 2 3,RL 156 155,RM 157 2,e0 158 1 156 157,RL 159 158,RF 160 1 10,RL 161 160,e0 162 7 159 161,RF 163 0 162,RL 164 163,dI 165 .eql 154 164,RM 166 165,g9 167 2 7 166 true,hD 168 167 166 true,hG 169 11 166 true,j0 170 3 168 169 166 true,g9 171 2 170 166 true,hD 172 171 166 true,g9 173 2 10 166 true,hD 174 173 166 true,hO 175 .neq 172 174 166 true,f3 176 166 175 boD] [2,3,7,9,10,11,176] (.cond 176 (boG [dO 6 boD] [6] .ret) .skip))) (m2 [RM 139 11,dI 140 .add 139 (ki 1),RM 11 140] [2,3,7,9,10,11]))))))))) (m2 [RM 79 9,dI 80 .add 79 (ki 1),RM 9 80] [2,3,7,9])))))) (boG [dO 6 boE] [6] .ret))))))
def aJ2:List aW:=[.tm 6]
theorem aLJ:aO Tryz.prog Tryz.f101 (bnD aJG)=some (aJG,aJ2):=by kernel_rfl
theorem aLA:aN Tryz.prog aIY Tryz.f101 aJG aJ2:=
 aN.mk Tryz.func101 (by kernel_rfl) aLJ
def aI4:AC:= (boG [f5 3 0,f5 4 1,dO 6 boD] [2,3,4] (boG [RF 15 3 4,RL 16 15,RM 17 2,e0 18 3 16 17,f8 19 3 18,f7 7 [OZ,OZ,VZ],g0 3 true 7 19] [2,3,4,7] (.seq (boG [RF 20 0 7,RL 21 20,f1 22 21,dI 23 .gtr 22 (ki 2),RM 24 23,g9 25 1 7 24 false,hD 26 25 24 false,GQ 27 (.len false 26) 24 false,hO 28 .gtr 27 (ki 2) 24 false,f3 29 24 boE 28,RM 30 29,g9 31 2 7 30 false,hD 32 31 30 false,GQ 33 (.call y2 [32,(ki 0),(ki 2)]) 30 false,hP 34 33 30 false,f3 35 30 boE 34] [2,3,4,7,35] (.cond 35 (boG [dO 6 boD] [6] .ret) .skip)) (boG [rq 36 (.bC 5 0 [VZ,VZ,VZ,VZ,OZ] []),RM 8 36] [2,3,4,7,8] (.seq (boG [dO 9 (ki 0)] [2,3,4,7,8,9] (.block 0 (.loop (.seq (boG [RM 37 9,RF 38 1 7,RL 39 38,f1 40 39,dI 41 .lss 37 40] [2,3,4,7,8,9,41] (.cond 41 .skip (.exit 0))) (.seq (.block 1 (boG [RF 44 1 7,RL 45 44,RM 46 9,e0 47 5 45 46,f8 48 5 47,f7 10 [VZ,VZ,VZ,VZ,OZ],g0 5 true 10 48] [2,3,4,7,8,9,10] (.seq (boG [f8 49 5 4,RF 50 0 10,RL 51 50,RF 52 1 10,RL 53 52,RM 54 2,f6 55 aJX [49,51,53,54],f4 56 55,RM 57 56,g9 58 2 10 57 false,GQ 59 (.load 3 true 58) 57 false,GQ 60 (.call aIP [59]) 57 false,hP 61 60 57 false,f3 62 57 boE 61,RM 63 62,g9 64 2 10 63 false,g9 65 0 64 63 false,hD 66 65 63 false,g9 67 2 3 63 false,hD 68 67 63 false,g9 69 0 10 63 false,hD 70 69 63 false,j0 71 1 68 70 63 false,hD 72 71 63 false,g9 73 1 10 63 false,hD 74 73 63 false,j0 75 7 72 74 63 false,g9 76 0 75 63 false,hD 77 76 63 false,hO 78 .neq 66 77 63 false,f3 79 63 boE 78] [2,3,4,7,8,9,10,79] (.cond 79 (boG [dO 6 boD] [6] .ret) .skip)) (m2 [RM 80 8,RF 81 0 10,RL 82 81,RF 83 1 10,RL 84 83,rq 85 (.build [VZ,VZ,VZ,VZ,OZ] [(0,1,82),(1,1,84)]),rq 86 (.bC 5 1 [VZ,VZ,VZ,VZ,OZ] [(0,5,85)]),rq 87 (.append 5 80 86),RM 8 87] [2,3,4,7,8,9])))) (m2 [RM 42 9,dI 43 .add 42 (ki 1),RM 9 43] [2,3,4,7,8,9])))))) (.seq (boG [dO 11 (ki 0)] [2,3,4,7,8,11] (.block 2 (.loop (.seq (boG [RM 88 11,RF 89 0 7,RL 90 89,f1 91 90,dI 92 .lss 88 91] [2,3,4,7,8,11,92] (.cond 92 .skip (.exit 2))) (.seq (.block 3 (boG [RF 95 0 7,RL 96 95,RM 97 11,e0 98 3 96 97,f8 99 3 98,f7 12 [VZ,VZ,VZ],g0 3 true 12 99] [2,3,4,7,8,11,12] (.seq (boG [f8 100 5 4,RF 101 0 12,RL 102 101,RF 103 1 12,RL 104 103,RM 105 2,f6 106 aJX [100,102,104,105],f4 107 106,RM 108 107,g9 109 2 12 108 false,hD 110 109 108 false,g9 111 1 3 108 false,hD 112 111 108 false,hG 113 2 108 false,j0 114 1 112 113 108 false,hD 115 114 108 false,GQ 116 (.call y2 [110,(ki 0),115]) 108 false,hP 117 116 108 false,f3 118 108 boE 117,RM 119 118,hG 120 11 119 false,hO 121 .gtr 120 (ki 0) 119 false,hG 122 121 119 false,g9 123 2 12 122 true,hD 124 123 122 true,g9 125 1 3 122 true,hD 126 125 122 true,hG 127 2 122 true,j0 128 1 126 127 122 true,hD 129 128 122 true,hO 130 .neq 124 129 122 true,GQ 131 (.pick 122 130 boD) 119 false,f3 132 119 boE 131] [2,3,4,7,8,11,12,132] (.cond 132 (boG [dO 6 boD] [6] .ret) .skip)) (m2 [RM 133 8,RF 134 0 12,RL 135 134,RF 136 1 12,RL 137 136,rq 138 (.build [VZ,VZ,VZ,VZ,OZ] [(0,1,135),(1,1,137)]),rq 139 (.bC 5 1 [VZ,VZ,VZ,VZ,OZ] [(0,5,138)]),rq 140 (.append 5 133 139),RM 8 140] [2,3,4,7,8,11])))) (m2 [RM 93 11,dI 94 .add 93 (ki 1),RM 11 94] [2,3,4,7,8,11])))))) (.seq (boG [dO 13 (ki 0)] [8,13] (.block 4 (.loop (.seq (boG [RM 141 13,RM 142 8,f1 143 142,dI 144 .lss 141 143] [8,13,144] (.cond 144 .skip (.exit 4))) (.seq (.block 5 (boG [dO 14 (ki 0)] [8,13,14] (.block 6 (.loop (.seq (boG [RM 147 14,RM 148 13,dI 149 .lss 147 148] [8,13,14,149] (.cond 149 .skip (.exit 6))) (.seq (.block 7 (boG [RM 152 8,RM 153 14,e0 154 5 152 153,RF 155 0 154,RL 156 155,RM 157 8,RM 158 13,e0 159 5 157 158,RF 160 0 159,RL 161 160,dI 162 .eql 156 161,RM 163 162,hG 164 8 163 true,hG 165 14 163 true,j0 166 5 164 165 163 true,g9 167 1 166 163 true,hD 168 167 163 true,hG 169 8 163 true,hG 170 13 163 true,j0 171 5 169 170 163 true,g9 172 1 171 163 true,hD 173 172 163 true,hO 174 .geq 168 173 163 true,f3 175 163 174 boD] [8,13,14,175] (.cond 175 (boG [dO 6 boD] [6] .ret) .skip))) (m2 [RM 150 14,dI 151 .add 150 (ki 1),RM 14 151] [8,13,14]))))))) (m2 [RM 145 13,dI 146 .add 145 (ki 1),RM 13 146] [8,13])))))) (boG [dO 6 boE] [6] .ret))))))))
def aJT:List aW:=[.tm 6]
theorem aKM:aO Tryz.prog Tryz.f102 (bnD aI4)=some (aI4,aJT):=by kernel_rfl
theorem aKP:aN Tryz.prog aIT Tryz.f102 aI4 aJT:=
 aN.mk Tryz.func102 (by kernel_rfl) aKM
def aJA:AC:= (boG [f5 1 0,f7 2 [OZ,OZ,OZ,OZ,OZ,OZ]] [1,2] (.seq (.region [RF 9 0 1 0,boF 10 (.load 2 true 9) [7] [] false 1,RF 12 4 1 3,g8 13 12 [7] [] true 4,f7 3 [OZ,OZ,OZ,OZ,OZ,OZ] 7,boF 11 (.call aIR [10]) [7] [4] false 2,boF 14 (.call aIM [13]) [7] [] false 5,rq 15 (.build [OZ,OZ,OZ,OZ,OZ,OZ] [(0,2,11),(5,1,14)]) 6,g0 6 true 3 15 8] 9 [1,2,3]) (.seq (boG [dO 4 (ki 0)] [1,2,3,4] (.block 0 (.loop (.seq (boG [RM 16 4,RF 17 2 1,RL 18 17,f1 19 18,dI 20 .lss 16 19] [1,2,3,4,20] (.cond 20 .skip (.exit 0))) (.seq (.block 1 (boG [RF 23 2 3,g8 24 23 [8] [] false,RF 25 2 1,RL 26 25,RM 27 4,e0 28 4 26 27,RF 29 0 28,RL 30 29,rq 31 (.bC 1 1 [VZ] [(0,1,30)]),rq 32 (.append 1 24 31),RF 33 2 3,g0 1 false 33 32] [1,2,3,4] (boG [dO 5 (ki 0)] [1,2,3,4,5] (.block 2 (.loop (.seq (boG [RM 34 5,RF 35 2 1,RL 36 35,RM 37 4,e0 38 4 36 37,RF 39 1 38,RL 40 39,f1 41 40,dI 42 .lss 34 41] [1,2,3,4,5,42] (.cond 42 .skip (.exit 2))) (.seq (.block 3 (m2 [RF 45 3 3,RL 46 45,RM 47 4,RF 48 2 1,RL 49 48,RM 50 4,e0 51 4 49 50,RF 52 1 51,RL 53 52,RM 54 5,e0 55 1 53 54,RL 56 55,rq 57 (.build [VZ,VZ,VZ,VZ,OZ] [(0,1,47),(1,1,56)]),f6 58 aJS [46,57],RF 59 3 3,g0 1 false 59 58] [1,2,3,4,5])) (m2 [RM 43 5,dI 44 .add 43 (ki 1),RM 5 44] [1,2,3,4,5])))))))) (m2 [RM 21 4,dI 22 .add 21 (ki 1),RM 4 22] [1,2,3,4])))))) (.seq (boG [dO 6 (ki 0)] [1,2,3,6] (.block 4 (.loop (.seq (boG [RM 60 6,RF 61 3 1,RL 62 61,f1 63 62,dI 64 .lss 60 63] [1,2,3,6,64] (.cond 64 .skip (.exit 4))) (.seq (.block 5 (.seq (boG [dO 7 (ki 0)] [1,2,3,6,7] (.block 6 (.loop (.seq (boG [RM 67 7,RF 68 3 1,RL 69 68,RM 70 6,e0 71 3 69 70,RF 72 0 71,RL 73 72,f1 74 73,dI 75 .lss 67 74] [1,2,3,6,7,75] (.cond 75 .skip (.exit 6))) (.seq (.block 7 (m2 [RF 78 3 3,RL 79 78,RF 80 3 1,RL 81 80,RM 82 6,e0 83 3 81 82,RF 84 0 83,RL 85 84,RM 86 7,e0 87 3 85 86,RF 88 0 87,RL 89 88,RF 90 3 1,RL 91 90,RM 92 6,e0 93 3 91 92,RF 94 0 93,RL 95 94,RM 96 7,e0 97 3 95 96,RF 98 1 97,RL 99 98,rq 100 (.build [VZ,VZ,VZ,VZ,OZ] [(0,1,89),(1,1,99)]),f6 101 aJS [79,100],RF 102 3 3,g0 1 false 102 101] [1,2,3,6,7])) (m2 [RM 76 7,dI 77 .add 76 (ki 1),RM 7 77] [1,2,3,6,7])))))) (boG [dO 8 (ki 0)] [1,2,3,6,8] (.block 8 (.loop (.seq (boG [RM 103 8,RF 104 3 1,RL 105 104,RM 106 6,e0 107 3 105 106,RF 108 1 107,RL 109 108,f1 110 109,dI 111 .lss 103 110] [1,2,3,6,8,111] (.cond 111 .skip (.exit 8))) (.seq (.block 9 (m2 [RF 114 4 3,RL 115 114,RF 116 3 1,RL 117 116,RM 118 6,e0 119 3 117 118,RF 120 1 119,RL 121 120,RM 122 8,e0 123 5 121 122,f8 124 5 123,f6 125 aJS [115,124],RF 126 4 3,g0 1 false 126 125] [1,2,3,6,8])) (m2 [RM 112 8,dI 113 .add 112 (ki 1),RM 8 113] [1,2,3,6,8])))))))) (m2 [RM 65 6,dI 66 .add 65 (ki 1),RM 6 66] [1,2,3,6])))))) (boG [f8 127 6 3,f6 128 aI0 [127],g0 6 true 2 128] [2] .ret)))))
def aJV:List aW:=[.cell 2 6 true]
theorem aK2:aO Tryz.prog Tryz.f103 (bnD aJA)=some (aJA,aJV):=by kernel_rfl
theorem aLK:aN Tryz.prog aIZ Tryz.f103 aJA aJV:=
 aN.mk Tryz.func103 (by kernel_rfl) aK2
def a3F:AC:= (boG [f5 4 0,dO 8 boD] [1,2,3,4] (.seq (boG [RM 11 1,f6 12 y2 [11,(ki 0),(ki 2)],f4 13 12] [1,2,3,4,13] (.cond 13 (boG [dO 8 boD] [8] .ret) .skip)) (boG [RF 14 2 4,RL 15 14,RM 16 1,e0 17 4 15 16,RF 18 2 17,RL 19 18,RM 9 19] [2,3,9] (.seq (boG [dO 10 (ki 0)] [2,3,9,10] (.block 0 (.loop (.seq (boG [RM 20 10,RM 21 9,f1 22 21,dI 23 .lss 20 22] [2,3,9,10,23] (.cond 23 .skip (.exit 0))) (.seq (.block 1 (boG [RM 26 9,RM 27 10,e0 28 3 26 27,RF 29 1 28,RL 30 29,RM 31 2,dI 32 .eql 30 31,RM 33 32,hG 34 9 33 true,hG 35 10 33 true,j0 36 3 34 35 33 true,g9 37 2 36 33 true,hD 38 37 33 true,hG 39 3 33 true,hO 40 .eql 38 39 33 true,f3 41 33 40 boD] [2,3,9,10,41] (.cond 41 (boG [dO 8 boE] [8] .ret) .skip))) (m2 [RM 24 10,dI 25 .add 24 (ki 1),RM 10 25] [2,3,9,10])))))) (boG [dO 8 boD] [8] .ret)))))
def a5H:List aW:=[.tm 8]
theorem bc0:aO Tryz.prog Tryz.f186 (bnD a3F)=some (a3F,a5H):=by kernel_rfl
theorem bcJ:aN Tryz.prog aJX Tryz.f186 a3F a5H:=
 aN.mk Tryz.func186 (by kernel_rfl) bc0
end Go.Proofs.YtmccpdapaccnoaaGreat
namespace Go.AM
structure beV (c:Cfg) (who:Nat) (p:fR) (k:Nat):Prop where
 all: ∀i,i<k→a5K c who p (p.out.getD i default)
 srt: ∀i j,i<j→j<k→(p.out.getD i default).n<(p.out.getD j default).n
 ids: ∀i j,i<j→j<k→(bT c who (p.out.getD i default).n).id=(bT c who (p.out.getD j default).n).id→(p.out.getD i default).left=(p.out.getD j default).left
theorem beV.next {c:Cfg} {who:Nat} {p:fR} {k:Nat} (h:beV c who p k) (h1:a5K c who p (p.out.getD k default)) (h2:0<k→(p.out.getD (k-1) default).n<(p.out.getD k default).n)
 (h3: ∀i,i<k→(bT c who (p.out.getD i default).n).id=(bT c who (p.out.getD k default).n).id→(p.out.getD i default).left=(p.out.getD k default).left):beV c who p (k+1):=by
 refine⟨iS h.all h1,fun i j hij hj=> ?_,fun i j hij hj he=> ?_⟩
 ·by_cases hjk:j<k
  ·exact h.srt i j hij hjk
  ·obtain rfl:j=k:=by omega
   have h4:=h2 (by omega)
   by_cases hi:i=j-1
   ·subst hi;omega
   ·have:=h.srt i (j-1) (by omega) (by omega);omega
 ·by_cases hjk:j<k
  ·exact h.ids i j hij hjk he
  ·obtain rfl:j=k:=by omega
   exact h3 i hij he
theorem beV.end {c:Cfg} {who:Nat} {p:fR} (h:beV c who p p.out.length):(∀j∈p.out,a5K c who p j)∧(p.out.Pairwise fun a b=>a.n<b.n)∧ ∀a∈p.out,∀b∈p.out,(bT c who a.n).id=(bT c who b.n).id→a.left=b.left:=by
 have hg: ∀i (hi:i<p.out.length),p.out.getD i default=p.out[i]:=fun i hi=>by simp[List.getD,hi]
 refine⟨fun j hj=> ?_,Z6.2 fun i j hi hj hij=> ?_,fun a ha b hb he=> ?_⟩
 ·obtain⟨i,hi,rfl⟩:=bqY.1 hj
  rw[←hg i hi];exact h.all i hi
 ·rw[←hg i hi,←hg j hj];exact h.srt i j hij hj
 ·obtain⟨i,hi,rfl⟩:=bqY.1 ha
  obtain⟨j,hj,rfl⟩:=bqY.1 hb
  rw[←hg i hi,←hg j hj] at he ⊢
  rcases Nat.lt_trichotomy i j with hij|hij|hij
  ·exact h.ids i j hij hj he
  ·subst hij;rfl
  ·exact(h.ids j i hij hi he.symm).symm
def a23 (s:CSt) (who n:Int) (st:Nat):Prop:=(0≤who∧who≤2)∧ ∃j∈(aF s who.toNat).out,j.n=n∧j.left=st
noncomputable def oaB (s:CSt) (who n:Int) (st:Nat):Bool:=@decide (a23 s who n st) (Classical.propDecidable _)
theorem be2 {s:CSt} {who n:Int} {st:Nat} (h:a23 s who n st):oaB s who n st=true:=by simp[oaB,h]
theorem beO {s:CSt} {who n:Int} {st:Nat} (h: ¬a23 s who n st):oaB s who n st=false:=by simp[oaB,h]
end Go.AM
namespace Go.Proofs.YtmccpdapaccnoaaGreat
open Go Go.AM
attribute [local irreducible] aM wv aB vd wvH
section
variable {H : aA} {nx : Nat} {K : D → aA → Nat → Prop}
theorem a5O {c:Cfg} {s:CSt} {who:Nat} (hb:aQ c) (hpl:s.bM.length=3) (hw:who<3) (hpq:(aF s who).queue.length<2^21) (hpo:(aF s who).out.length<2^21) (h:K (dB (ptB c who (aF s who))) H nx):aB Tryz.prog aIY [boR (cU c),boR (eI s),boP who] H nx K:=by
 refine aB.pure (args0:=[boR (cU c),boR (eI s),boP who]) (R:=fun rr=>rr=dB (ptB c who (aF s who))) ?_ rfl (aI ⟨aE rfl,aE rfl,aE rfl,trivial⟩) (fun r hr=>hr▸h)
 clear h
 refine aLA rfl fun Q hQ=> ?_
 unfold aJG
 obtain⟨hp3,hp12⟩:=hC hb
 have hpw:=hp12 who
 have hmo:DH c.map:=hb.1
 have hml:=hb.1.1
 obtain⟨p,boS⟩: ∃p,p=aF s who:=⟨_,rfl⟩
 have hP':s.bM.getD who default=p:=boS.symm
 rw[←boS] at hpq hpo
 have hF: ¬mD c who p→dB false=dB (ptB c who (aF s who)):=fun h=>by rw[←boS,a8A h]
 have aAI:mD c who p→dB true=dB (ptB c who (aF s who)):=fun h=>by rw[←boS,beT h]
 obtain⟨P,hPr⟩: ∃P,c.cP.getD who default=P:=⟨_,rfl⟩
 rw[hPr] at hpw
 have hre: ∀n:Int,bT c who n=P.getD n.toNat default:=fun n=>by unfold bT;rw[Int.toNat_natCast,hPr]
 by_cases h0:(0≤p.next∧p.next≤(P.length:Int))∧((p.queue.length:Int)≤2∧(p.queue.length:Int)≤p.next)∧(p.out.length:Int)≤4∧0≤p.last∧p.last≤3
 case neg=>
  have hno: ¬mD c who p:=fun h=>h0 ⟨by have:=h.next;rw[hPr] at this;exact this,by have:=h.ql;omega,by have:=h.ol;omega,h.last⟩
  repeat' first| (first|apply bn1|refine bpL (fun h=> ?_) fun h=> ?_|apply aBC)<;>(simp only[go_sem,hp3,hpl,hP',hPr])|apply bn2 (by omega)|refine⟨by omega,?_⟩|fail
  all_goals first|exact aZ hQ _ rfl rfl (hF hno)| (exfalso;omega)
 obtain⟨⟨hn1,hn2⟩,⟨hq1,hq2⟩,hol,hl1,hl2⟩:=h0
 have bpN:(0≤p.next∧p.next≤(P.length:Int))=True:=eq_true ⟨hn1,hn2⟩
 have bpO:(0≤p.last∧p.last≤3)=True:=eq_true ⟨hl1,hl2⟩
 repeat' first| (first|apply bn1|apply bpK (by omega)|apply aBC)<;>(simp only[go_sem,hp3,hpl,hP',hPr,bpN,bpO])|refine⟨by omega,?_⟩|fail
 refine aM.gP (β:=Nat) (fun k=>en [(8,boP k),(7,.one (.c (.ptr 4 8 0 0))),(3,.one (.c (.ptr 3 0 0 0))),(2,boP who)]) (fun k H1 _=>k≤p.queue.length∧(∀i,i<k→p.queue.getD i default=p.next-p.queue.length+i)∧H1 0=some ⟨3,1,[cU c]⟩∧H1 8=some ⟨4,1,[cD p]⟩) (fun k=>p.queue.length-k) 0 ⟨noF,_,by repeat' first|exact bo2|refine xqI rfl rfl ?_|refine xqP (by omega) rfl rfl ?_|fail,aK,by omega,fun i hi=>by omega,rfl,rfl⟩ ?_
 rintro k H1 nx1 hnx1 ⟨hk,hqi,bqC,bp4⟩ bpQ hKL
 by_cases hlt:k<p.queue.length
 ·by_cases hqk:p.queue.getD k default=p.next-p.queue.length+k
  ·repeat' first|apply bn1<;>(simp only[go_sem,bp4];try simp (disch:=omega) only[Iw])|apply bn2 (by omega)|apply bn3 (by omega)|refine⟨by omega,?_⟩|fail
   all_goals first|exact hKL _ _ _ (k+1) noF _ (by omega) (by omega) (by repeat' first|exact bo2|refine xqI rfl rfl ?_|refine xqP (by omega) rfl rfl ?_|fail) aK ⟨by omega,iS hqi hqk,bqC,bp4⟩| (exfalso;omega)
  ·repeat' first|apply bn1<;>(simp only[go_sem,bp4];try simp (disch:=omega) only[Iw])|apply bn2 (by omega)|refine⟨by omega,?_⟩|fail
   all_goals first|exact aZ hQ _ rfl rfl (hF fun h=>hqk (h.queue k hlt))| (exfalso;omega)
 ·have hk2:k=p.queue.length:=by omega
  rw[hk2] at hqi
  repeat' first|apply bn1<;>(simp only[go_sem,bp4])|apply bn3 (by omega)|fail
  refine aM.gP (β:=Nat) (fun k=>en [(9,boP k),(7,.one (.c (.ptr 4 8 0 0))),(3,.one (.c (.ptr 3 0 0 0))),(2,boP who)]) (fun k H1 _=>k≤p.out.length∧beV c who p k∧H1 0=some ⟨3,1,[cU c]⟩∧H1 8=some ⟨4,1,[cD p]⟩) (fun k=>p.out.length-k) 0 ⟨noF,_,by repeat' first|exact bo2|refine xqI rfl rfl ?_|refine xqP (by omega) rfl rfl ?_|fail,aK,by omega,⟨fun i hi=>by omega,fun i j _ hj=>by omega,fun i j _ hj=>by omega⟩,bqC,bp4⟩ ?_
  clear bqC bp4
  rintro k H2 nx2 hnx2 ⟨hk,hI,bqC,bp4⟩ bqG hKM
  have hA:bQ nx2 [0,8]:=AM.apart (by simp) (by simp;omega)
  simp only[bQ,eZ] at hA
  by_cases hlt:k<p.out.length
  ·have hm:=cC hlt
   have hbad:mD c who p→a5K c who p (p.out.getD k default)∧(0<k→(p.out.getD (k-1) default).n<(p.out.getD k default).n)∧ ∀i,i<k→(bT c who (p.out.getD i default).n).id=(bT c who (p.out.getD k default).n).id→(p.out.getD i default).left=(p.out.getD k default).left:=fun h=>
    ⟨h.out _ hm,fun h0=>by
      have:=Z6.1 h.acX (k-1) k (by omega) hlt (by omega)
      simpa [List.getD,hlt,show k-1<p.out.length by omega] using this,fun i hi he=>h.akF _ (cC (by omega)) _ hm he⟩
   have hnext:=hI.next
   generalize ho:p.out.getD k default=o at hbad hnext
   have ek1:((k:Int)-1).toNat=k-1:=by omega
   by_cases ho1:o.who=who
   case neg=>
    have e1:(o.who=(who:Int))=False:=eq_false ho1
    repeat' first|apply bn1<;>(simp only[go_sem,t1,bqT,bqC,bp4,ho,e1,hA])|apply bn2 (by omega)|refine⟨by omega,?_⟩|fail
    all_goals exact aZ hQ _ rfl rfl (hF fun h=>ho1 (hbad h).1.1)
   have e1:(o.who=(who:Int))=True:=eq_true ho1
   by_cases ho2:0≤o.n∧o.n≤p.next-p.queue.length-1
   case neg=>
    have e2:(0≤o.n∧o.n≤p.next-p.queue.length-1)=False:=eq_false ho2
    repeat' first| (first|apply bn1|apply aBC)<;>(simp only[go_sem,t1,bqT,bqC,bp4,ho,e1,e2,hA];try simp (disch:=omega) only[Iw])|apply bn2 (by omega)|refine⟨by omega,?_⟩|fail
    all_goals first|exact aZ hQ _ rfl rfl (hF fun h=>ho2 (by have:=(hbad h).1.2.1;omega))| (exfalso;omega)
   have e2:(0≤o.n∧o.n≤p.next-p.queue.length-1)=True:=eq_true ho2
   by_cases ho3:0<k→(p.out.getD (k-1) default).n<o.n
   case neg=>
    have hk0:0<k:=by omega
    have ho3:o.n≤(p.out.getD (k-1) default).n:=by omega
    have e3:(o.n≤(p.out.getD ((k:Int)-1).toNat default).n)=True:=eq_true (by rw[ek1];exact ho3)
    repeat' first| (first|apply bn1|apply bpJ (by omega)|refine bpL (fun h=> ?_) fun h=> ?_|apply aBC)<;>(simp only[go_sem,t1,bqT,bqC,bp4,ho,e1,e2,e3,hA];try simp (disch:=omega) only[Iw])|apply bn2 (by omega)|refine⟨by omega,?_⟩|fail
    all_goals first|exact aZ hQ _ rfl rfl (hF fun h=>by have:=(hbad h).2.1 hk0;omega)| (exfalso;omega)|exact absurd (of_eq_true e3) (by assumption)
   obtain⟨q,hq⟩: ∃q,P.getD o.n.toNat default=q:=⟨_,rfl⟩
   have hq':bT c who o.n=q:=by rw[hre];exact hq
   have hask:oA c who o.n:=⟨by omega,by omega,by rw[Int.toNat_natCast,hPr];omega⟩
   have hqo:dH q:=hq'▸GK hb hask
   by_cases ho4:o.left=gZ c.map q
   case neg=>
    have e4:(o.left=gZ c.map q)=False:=eq_false ho4
    by_cases hk0:0<k
    ·have e3:(o.n≤(p.out.getD ((k:Int)-1).toNat default).n)=False:=eq_false (by rw[ek1];have:=ho3 hk0;omega)
     repeat' first| (first|apply bn1|apply bpJ (by omega)|refine bpL (fun h=> ?_) fun h=> ?_|apply aBC|apply a20 hmo hqo (by omega))<;>(simp only[go_sem,t1,bqT,bqC,bp4,ho,hp3,hPr,hq,e1,e2,e3,e4,hA];try simp (disch:=omega) only[Iw])|apply bn2 (by omega)|refine⟨by omega,?_⟩|fail
     all_goals first|exact aZ hQ _ rfl rfl (hF fun h=>ho4 (by have:=(hbad h).1.2.2;rw[hq'] at this;exact this))| (exfalso;omega)
    ·repeat' first| (first|apply bn1|apply bpK (by omega)|apply aBC|apply a20 hmo hqo (by omega))<;>(simp only[go_sem,t1,bqT,bqC,bp4,ho,hp3,hPr,hq,e1,e2,e4,hA];try simp (disch:=omega) only[Iw])|apply bn2 (by omega)|refine⟨by omega,?_⟩|fail
     all_goals first|exact aZ hQ _ rfl rfl (hF fun h=>ho4 (by have:=(hbad h).1.2.2;rw[hq'] at this;exact this))| (exfalso;omega)
   have e4:(o.left=gZ c.map q)=True:=eq_true ho4
   have hoo:a5K c who p o:=⟨ho1,by omega,by rw[hq'];exact ho4⟩
   repeat' first| (first|apply bn1|refine bpL (fun h=> ?_) fun h=> ?_|apply aBC|apply a20 hmo hqo (by omega))<;>(simp only[go_sem,t1,bqT,bqC,bp4,ho,hp3,hPr,hq,e1,e2,e4,hA];try simp (disch:=omega) only[Iw])|apply bn2 (by omega)|refine⟨by omega,?_⟩|fail
   all_goals try (exfalso;have h3:=ho3 (by omega);rw[←ek1] at h3;omega)
   all_goals (
    refine aM.gP (β:=Nat) (fun j=>en [(11,boP j),(10,.one (.c (.ptr 3 (nx2+10) 0 0))),(9,boP k),(7,.one (.c (.ptr 4 8 0 0))),(3,.one (.c (.ptr 3 0 0 0))),(2,boP who)]) (fun j H3 _=>j≤k∧(∀i,i<j→(bT c who (p.out.getD i default).n).id=(bT c who o.n).id→(p.out.getD i default).left=o.left)∧H3 0=some ⟨3,1,[cU c]⟩∧H3 8=some ⟨4,1,[cD p]⟩∧H3 (nx2+10)=some ⟨3,1,[eCJ o]⟩) (fun j=>k-j) 0 ⟨noF,_,by repeat' first|exact bo2|refine xqI rfl rfl ?_|refine xqP (by omega) rfl rfl ?_|fail,aK,by omega,fun i hi=>by omega,by rw[aA.aC (by omega)];exact bqC,by rw[aA.aC (by omega)];exact bp4,aA.bH⟩ ?_
    rintro j H3 nx3 hnx3 ⟨hj,aIF,bfZ,bpX,f10⟩ bqR hKN
    by_cases hjk:j<k
    ·obtain⟨x,hx⟩: ∃x,p.out.getD j default=x:=⟨_,rfl⟩
     have hxo:=hI.all j hjk
     rw[hx] at hxo
     obtain⟨q2,hq2⟩: ∃q2,P.getD x.n.toNat default=q2:=⟨_,rfl⟩
     have hq2':bT c who x.n=q2:=by rw[hre];exact hq2
     obtain⟨_,hx2,_⟩:=hxo
     by_cases hc:q2.id=q.id∧x.left≠o.left
     ·have c1:(q2.id=q.id)=True:=eq_true hc.1
      have c2:(x.left=o.left)=False:=eq_false hc.2
      repeat' first|apply bn1<;>(simp only[go_sem,t1,bqT,bfZ,bpX,f10,hx,hp3,hPr,hq,hq2,c1,c2])|apply bn2 (by omega)|refine⟨by omega,?_⟩|fail
      all_goals exact aZ hQ _ rfl rfl (hF fun h=>hc.2 (by
       have h1:=(hbad h).2.2 j hjk
       rw[hx,hq',hq2'] at h1
       exact h1 hc.1))
     ·repeat' first| (first|apply bn1|apply bpJ (by omega)|refine bpL (fun h=> ?_) fun h=> ?_)<;>(simp only[go_sem,t1,bqT,bfZ,bpX,f10,hx,hp3,hPr,hq,hq2];try simp (disch:=omega) only[Iw])|apply bn2 (by omega)|apply bn3 (by omega)|refine⟨by omega,?_⟩|fail
      all_goals first
       |exact hKN _ _ _ (j+1) noF _ (by omega) (by omega) (by repeat' first|exact bo2|refine xqI rfl rfl ?_|refine xqP (by omega) rfl rfl ?_|fail) aK ⟨by omega,iS aIF (by rw[hx,hq',hq2'];intro he;omega),bfZ,bpX,f10⟩
       | (exfalso;omega)
    ·have hj2:j=k:=by omega
     subst hj2
     have hI2:=hnext hoo (fun h=>by have:=ho3 h;omega) aIF
     repeat' first|apply bn1<;>(simp only[go_sem,f10];try simp (disch:=omega) only[Iw])|apply bn3 (by omega)|fail
     exact hKM _ _ _ (j+1) noF _ (by omega) (by omega) (by repeat' first|exact bo2|refine xqI rfl rfl ?_|refine xqP (by omega) rfl rfl ?_|fail) aK ⟨by omega,hI2,bfZ,bpX⟩)
  ·repeat' first|apply bn1<;>(simp only[go_sem,bp4])|apply bn3 (by omega)|fail
   have hk2:k=p.out.length:=by omega
   rw[hk2] at hI
   obtain⟨q1,q2,q3⟩:=hI.end
   exact aZ hQ _ rfl rfl (aAI ⟨⟨hn1,by rw[hPr];exact hn2⟩,by omega,by omega,⟨hl1,hl2⟩,hqi,q1,q2,q3⟩)
end
end Go.Proofs.YtmccpdapaccnoaaGreat
namespace Go.AM
theorem a23.asks {c:Cfg} {s:CSt} {st:Nat} {who n:Int} (hp:a19 c s) (h:a23 s who n st):oA c who n:=by
 obtain⟨hw,j,hj,h1,_⟩:=h
 have hpo:=hp.port who.toNat (by omega)
 obtain⟨_,h2,_⟩:=hpo.out _ hj
 have:=hpo.asks (n:=n) (by omega) (by omega) (by omega)
 rwa [show ((who.toNat:Nat):Int)=who by omega] at this
def a80 (x:Int×Int):Job:=⟨x.1,x.2,oW⟩
theorem bfM {G:aA} {bpZ cap nx':Nat} {W:List Job} {k n:Int} (g2:G bpZ=some ⟨5,cap,W.map aS++[[cI k,cI n,cI 0,cI 0,.osl 0 0 0 0 0]]⟩):CvX noF nx' G (G.set bpZ ⟨5,cap,(W++[(⟨k,n,oW⟩:Job)]).map aS⟩):=
 KO (i:=bpZ) (o':=⟨5,cap,(W++[(⟨k,n,oW⟩:Job)]).map aS⟩) g2 (uO (R:=W.map aS) (r':=aS (⟨k,n,oW⟩:Job)) (by rw[bqX];rfl) rfl (fun r hr=>(aG dZ _ r hr).2) rfl (aH (bB rfl) (aH (bB rfl) (aH (bB rfl) (aH (bB rfl) (aH (.frz (.nil ..)) eP))))))
end Go.AM
namespace Go.Proofs.YtmccpdapaccnoaaGreat
open Go Go.AM
attribute [local irreducible] aM wv aB vd wvH
section
variable {H : aA} {nx : Nat} {K : D → aA → Nat → Prop}
theorem w6 {s:CSt} {who:Int} {n:Int} {st:Nat} (hpl:s.bM.length=3) (hol: ∀w,w<3→(aF s w).out.length<2^40) {d0:D} (hd0:CvD H (fun _=>True) id 0 (boR (eI s)) d0) (h:K (dB (oaB s who n st)) H nx):aB Tryz.prog aJX [d0,boP who,boP n,boP st] H nx K:=by
 refine aB.pure (args0:=[boR (eI s),boP who,boP n,boP st]) (R:=fun rr=>rr=dB (oaB s who n st)) ?_ rfl (aI ⟨hd0,aE rfl,aE rfl,aE rfl,trivial⟩) (fun r hr=>hr▸h)
 clear h
 refine bcJ rfl fun Q hQ=> ?_
 unfold a3F
 by_cases hw:0≤who∧who≤2
 case neg=>
  have e1:(0≤who∧who≤2)=False:=eq_false hw
  repeat' first| (first|apply bn1|apply aBC)<;>(simp only[go_sem,e1])|fail
  all_goals first|exact aZ hQ _ rfl rfl (congrArg dB (beO fun h=>hw h.1).symm)| (exfalso;omega)
 have e1:(0≤who∧who≤2)=True:=eq_true hw
 obtain⟨p,boS⟩: ∃p,p=aF s who.toNat:=⟨_,rfl⟩
 have hP':s.bM.getD who.toNat default=p:=boS.symm
 have hol:=hol who.toNat (by omega)
 rw[←boS] at hol
 repeat' first| (first|apply bn1|apply aBC)<;>(simp only[go_sem,e1,hpl,hP'])|refine⟨by omega,?_⟩|fail
 (refine aM.loop (α:={k:Nat//k≤p.out.length∧(∀i,i<k→¬((p.out.getD i default).n=n∧(p.out.getD i default).left=st))}) (fun u=>en [(10,boP u.1),(9,dS (p.out.map eCJ)),(3,boP st),(2,boP n)]) (fun _=>.nil) _ (fun u=>p.out.length-u.1) ⟨0,by omega,(by intros;first|trivial|omega)⟩ (bU (m5 _) (by repeat' first|exact bo2|refine xqI rfl rfl ?_|fail)) ?_);(rintro⟨k,hk,hinv⟩ bpQ hKL)
 by_cases hlt:k<p.out.length
 ·by_cases hc:(p.out.getD k default).n=n∧(p.out.getD k default).left=st
  ·have c1:((p.out.getD k default).n=n)=True:=eq_true hc.1
   have c2:((p.out.getD k default).left=(st:Int))=True:=eq_true hc.2
   repeat' first|apply bn1<;>(simp only[go_sem,c1,c2])|apply bn2 (by omega)|refine⟨by omega,?_⟩|fail
   all_goals first|exact aZ hQ _ rfl rfl (congrArg dB (be2 ⟨hw,_,by rw[←boS];exact cC hlt,hc⟩).symm)| (exfalso;omega)
  ·repeat' first| (first|apply bn1|refine bpL (fun h=> ?_) fun h=> ?_)<;>(simp only[go_sem];try simp (disch:=omega) only[Iw])|apply bn2 (by omega)|apply bn3 (by omega)|refine⟨by omega,?_⟩|fail
   all_goals first| (exfalso;omega)| (refine hKL _ _ _ ⟨k+1,by omega,iS hinv hc⟩ (by omega) (by(try dsimp only);omega) (bU (m5 _) (by repeat' first|exact bo2|refine xqI rfl rfl ?_|fail)))
 ·repeat' first|apply bn1<;>(simp only[go_sem])|apply bn3 (by omega)|fail
  all_goals exact aZ hQ _ rfl rfl (congrArg dB (beO fun⟨_,j,hj,h⟩=>by
   rw[←boS] at hj
   obtain⟨i,hi,rfl⟩:=bqY.1 hj
   have:=hinv i (by omega)
   rw[show p.out.getD i default=p.out[i] by simp[List.getD,hi]] at this
   exact this h).symm)
theorem a4N {r:Rsp} (hd:r.data.length<2^40) (h:K (dB (decide (pA r))) H nx):aB Tryz.prog aIP [boR [cI r.id,cI r.code,.isl (r.data.map aJ)]] H nx K:=aMP hd h
theorem a5I {c:Cfg} {s:CSt} {st:Nat} (hb:aQ c) (hp:a19 c s) (hsl:s.dD.length=4) (hst:st<4) (hf1:(aL s st).pipe.length<2^21) (hf2:(aL s st).done.length<2^21) (hf3: ∀j∈(aL s st).done,j.rsp.data.length<2^21) (h:K (dB (slB c s st)) H nx):aB Tryz.prog aIT [boR (cU c),boR (eI s),boP st] H nx K:=by
 refine aB.pure (args0:=[boR (cU c),boR (eI s),boP st]) (R:=fun rr=>rr=dB (slB c s st)) ?_ rfl (aI ⟨aE rfl,aE rfl,aE rfl,trivial⟩) (fun r hr=>hr▸h)
 clear h
 refine aKP rfl fun Q hQ=> ?_
 unfold aI4
 obtain⟨hp3,hp12⟩:=hC hb
 obtain⟨v,hvd⟩: ∃v,v=aL s st:=⟨_,rfl⟩
 have hvd':s.dD.getD st default=v:=hvd.symm
 rw[←hvd] at hf1 hf2 hf3
 have hF: ¬Z0 c s st→dB false=dB (slB c s st):=fun h=>by rw[a6D h]
 have aAI:Z0 c s st→dB true=dB (slB c s st):=fun h=>by rw[beR h]
 have hlat4:=hb.2.1
 have hlat:=S0 hb hst
 by_cases h0:(v.pipe.length:Int)≤2∧(v.done.length:Int)≤2∧0≤v.last∧v.last≤2
 case neg=>
  have hno: ¬Z0 c s st:=fun h=>h0 ⟨by have:=h.pl;rw[←hvd] at this;omega,by have:=h.dl;rw[←hvd] at this;omega,by have:=h.last;rw[←hvd] at this;omega⟩
  repeat' first| (first|apply bn1|refine bpL (fun h=> ?_) fun h=> ?_|apply aBC)<;>(simp only[go_sem,hsl,hvd'])|apply bn2 (by omega)|refine⟨by omega,?_⟩|fail
  all_goals first|exact aZ hQ _ rfl rfl (hF hno)| (exfalso;omega)
 obtain⟨hpl,hdl,hl1,hl2⟩:=h0
 have bpO:(0≤v.last∧v.last≤2)=True:=eq_true ⟨hl1,hl2⟩
 have hol: ∀w,w<3→(aF s w).out.length<2^40:=fun w hw=>by have:=(hp.port w hw).ol;omega
 obtain⟨V,hV⟩: ∃V,V=cS v:=⟨_,rfl⟩
 have hVl:V.length=v.done.length+v.pipe.length:=by rw[hV];simp[cS]
 have hV1: ∀k,k<v.done.length→V[k]?=some ((v.done.getD k default).who,(v.done.getD k default).n):=fun k hk=>by
  rw[hV];unfold cS
  rw[brO (by simpa using hk)];simp[List.getD,hk,key]
 have hV2: ∀k,k<v.pipe.length→V[v.done.length+k]?=some ((v.pipe.getD k default).who,(v.pipe.getD k default).n):=fun k hk=>by
  rw[hV];unfold cS
  rw[brX (by simp)];simp[List.getD,hk]
 have hVs: ∀k x,V[k]?=some x→(V.map a80).take (k+1)=(V.map a80).take k++[a80 x]:=fun k x h=>by
  obtain⟨hk,h2⟩:=m3.1 h
  rw[brQ (by simpa using hk),bsD,h2]
 have hVm: ∀(k:Nat) (x:Int×Int),V[k]?=some x→Z0 c s st→a23 s x.1 x.2 st:=fun k x h hs=>hs.out x (by rw[←hvd,←hV];exact s3 h)
 repeat' first| (first|apply bn1|apply bpK (by omega)|apply aBC)<;>(simp only[go_sem,hsl,hvd',bpO])|refine⟨by omega,?_⟩|fail
 refine aM.gP (β:=Nat×Nat×Nat) (fun u=>en [(9,boP u.1),(8,.one (.c (.osl 5 u.2.1 0 u.1 u.2.2))),(7,.one (.c (.ptr 3 8 0 0))),(4,.one (.c (.ptr 5 1 0 0))),(3,.one (.c (.ptr 3 0 0 0))),(2,boP st)])
  (fun u H1 bp0=>u.1≤v.done.length∧(∀i,i<u.1→a23 s (v.done.getD i default).who (v.done.getD i default).n st∧as5 c (v.done.getD i default))∧H1 0=some ⟨3,1,[cU c]⟩∧H1 1=some ⟨5,1,[eI s]⟩∧H1 8=some ⟨3,1,[gF v]⟩∧(∃m,H1 u.2.1=some ⟨5,m,((V.map a80).take u.1).map aS⟩∧u.1≤u.2.2∧u.2.2≤m)∧26≤u.2.1∧u.2.1<bp0)
  (fun u=>v.done.length-u.1) (0,26,0) ⟨noF,_,by repeat' first|exact bo2|refine xqI rfl rfl ?_|refine xqP (by omega) rfl rfl ?_| (with_reducible apply bo3)| ((with_reducible apply bo0);exact bpA)| ((with_reducible apply bo1);apply bo7)|fail,aK,by dsimp only;omega,fun i hi=>by dsimp only at hi;omega,rfl,rfl,rfl,⟨0,rfl,by dsimp only;omega,by dsimp only;omega⟩,by dsimp only;omega,by dsimp only;omega⟩ ?_
 rintro⟨k,b,cap0⟩ H1 nx1 hnx1 ⟨hk,hI,bqC,g1,bp4,⟨m,gb,gb1,gb2⟩,hb1,hb2⟩ bpQ hKL
 dsimp only at hk hI gb gb1 gb2 hb1 hb2
 have hA:bQ nx1 [0,1,8,b]:=AM.apart (by simp;omega) (by simp;omega)
 simp only[bQ,eZ] at hA
 have hkl:((V.map a80).take k).length=k:=by simp;omega
 have hkt:(((V.map a80).take k).map aS).length=k:=by rw[bqW,hkl]
 by_cases hlt:k<v.done.length
 ·obtain⟨d,hdd⟩: ∃d,v.done.getD k default=d:=⟨_,rfl⟩
  have hdm:d∈(aL s st).done:=by rw[←hdd,←hvd];exact cC hlt
  have hx:=hV1 k hlt
  have hIn:=iS hI (k:=k)
  rw[hdd] at hx hIn
  have hrl:d.rsp.data.length<2^40:=by have h1:=hf3 d (by rw[hvd];exact hdm);omega
  by_cases ho:a23 s d.who d.n st
  case neg=>
   have e1:=beO ho
   repeat' first| (first|apply bn1|refine w6 (s:=s) (who:=d.who) (n:=d.n) (st:=st) hp.pl hol (aE rfl) ?_)<;>(simp only[go_sem,t1,bqT,bqC,g1,bp4,hdd,e1,hA])|apply bn2 (by omega)|refine⟨by omega,?_⟩|fail
   all_goals first|exact aZ hQ _ rfl rfl (hF fun h=>ho (hVm _ _ hx h))| (exfalso;omega)
  have e1:=be2 ho
  have hask:=ho.asks hp
  obtain⟨hk1,hk2,hk3⟩:=hask
  obtain⟨P,boS⟩: ∃P,c.cP.getD d.who.toNat default=P:=⟨_,rfl⟩
  rw[boS] at hk3
  obtain⟨q,hq⟩: ∃q,P.getD d.n.toNat default=q:=⟨_,rfl⟩
  have hq':bT c d.who d.n=q:=by unfold bT;rw[boS,hq]
  by_cases hr:as5 c d
  case neg=>
   have hno: ¬Z0 c s st:=fun h=>hr (h.rsp d hdm)
   unfold as5 at hr
   rw[hq'] at hr
   by_cases hr1:pA d.rsp
   ·have e2:=eq_true hr1
    have e3:(d.rsp.id=q.id)=False:=eq_false fun h=>hr ⟨hr1,h⟩
    repeat' first| (first|apply bn1|refine w6 (s:=s) (who:=d.who) (n:=d.n) (st:=st) hp.pl hol (aE rfl) ?_|apply a4N hrl)<;>(simp only[go_sem,t1,bqT,bqC,g1,bp4,hdd,hp3,boS,hq,e1,e2,e3,hA])|apply bn2 (by omega)|refine⟨by omega,?_⟩|fail
    all_goals first|exact aZ hQ _ rfl rfl (hF hno)| (exfalso;omega)
   ·have e2:=eq_false hr1
    repeat' first| (first|apply bn1|refine w6 (s:=s) (who:=d.who) (n:=d.n) (st:=st) hp.pl hol (aE rfl) ?_|apply a4N hrl)<;>(simp only[go_sem,t1,bqT,bqC,g1,bp4,hdd,hp3,boS,hq,e1,e2,hA])|apply bn2 (by omega)|refine⟨by omega,?_⟩|fail
    all_goals first|exact aZ hQ _ rfl rfl (hF hno)| (exfalso;omega)
  have e2:=eq_true hr.1
  have e3:(d.rsp.id=q.id)=True:=eq_true (by rw[←hq'];exact hr.2)
  repeat' first| (first|apply bn1|refine w6 (s:=s) (who:=d.who) (n:=d.n) (st:=st) hp.pl hol (aE rfl) ?_|apply a4N hrl)<;>(simp only[go_sem,t1,bqT,bqC,g1,bp4,gb,hdd,hp3,boS,hq,e1,e2,e3,hkt,hA];try simp (disch:=omega) only[Iw])|apply bn2 (by omega)| (with_reducible first|refine fun(cap:Nat) (hcap:_≤cap)=> ?_|refine fun(hcp:_≤cap)=> ?_)|refine⟨by omega,?_⟩|fail
  refine af0 (K:=bpQ) fun G bqK=> ?_
  have q1:G (nx1+50)=some ⟨5,cap,((V.map a80).take k).map aS++[[cI d.who,cI d.n,cI 0,cI 0,.osl 0 0 0 0 0]]⟩:=by rw[bqK];exact aA.bH
  have q2: ∀id,id<nx1→id≠b→G id=H1 id:=fun id h1 h2=>by rw[bqK,aA.aC (by omega),aA.aC (by omega),aA.aC (by omega),aA.jG h2]
  have q3:=hVs k _ hx
  refine hKL _ _ _ (k+1,nx1+50,cap) noF _ (by omega) (by dsimp only;omega) (by dsimp only;repeat' first|exact bo2|refine xqI rfl rfl ?_|refine xqP (by omega) rfl rfl ?_|refine xqO (by omega) rfl rfl (by rfl) ?_|fail) (bfM q1) ⟨by dsimp only;omega,hIn ⟨ho,hr⟩,?_,?_,?_,⟨cap,by dsimp only;rw[q3];exact aA.bH,by dsimp only;omega,m5 _⟩,by dsimp only;omega,by dsimp only;omega⟩
  ·rw[aA.aC (by omega),q2 _ (by omega) (by omega)];exact bqC
  ·rw[aA.aC (by omega),q2 _ (by omega) (by omega)];exact g1
  ·rw[aA.aC (by omega),q2 _ (by omega) (by omega)];exact bp4
 ·repeat' first|apply bn1<;>(simp only[go_sem,bp4])|apply bn3 (by omega)|fail
  have hk2:k=v.done.length:=by omega
  subst hk2
  clear hlt hkl hkt hA hk
  refine aM.gP (β:=Nat×Nat×Nat) (fun u=>en [(11,boP u.1),(8,.one (.c (.osl 5 u.2.1 0 (v.done.length+u.1) u.2.2))),(7,.one (.c (.ptr 3 8 0 0))),(4,.one (.c (.ptr 5 1 0 0))),(3,.one (.c (.ptr 3 0 0 0))),(2,boP st)])
   (fun u H1 bp0=>u.1≤v.pipe.length∧(∀i,i<u.1→a23 s (v.pipe.getD i default).who (v.pipe.getD i default).n st∧beA c st i (v.pipe.getD i default))∧H1 0=some ⟨3,1,[cU c]⟩∧H1 1=some ⟨5,1,[eI s]⟩∧H1 8=some ⟨3,1,[gF v]⟩∧(∃m,H1 u.2.1=some ⟨5,m,((V.map a80).take (v.done.length+u.1)).map aS⟩∧v.done.length+u.1≤u.2.2∧u.2.2≤m)∧26≤u.2.1∧u.2.1<bp0)
   (fun u=>v.pipe.length-u.1) (0,b,cap0) ⟨noF,_,by dsimp only;repeat' first|exact bo2|refine xqI rfl rfl ?_|refine xqP (by omega) rfl rfl ?_|refine xqO (by omega) rfl rfl (by rfl) ?_|fail,aK,by dsimp only;omega,fun i hi=>by dsimp only at hi;omega,bqC,g1,bp4,⟨m,gb,by dsimp only;omega,gb2⟩,by dsimp only;omega,by dsimp only;omega⟩ ?_
  clear bqC g1 bp4 gb gb1 gb2 hb1 hb2
  rintro⟨k,b,cap0⟩ H2 nx2 hnx2 ⟨hk,aIF,bqC,g1,bp4,⟨m,gb,gb1,gb2⟩,hb1,hb2⟩ bqG hKM
  dsimp only at hk aIF gb gb1 gb2 hb1 hb2
  have hA:bQ nx2 [0,1,8,b]:=AM.apart (by simp;omega) (by simp;omega)
  simp only[bQ,eZ] at hA
  have hkl:((V.map a80).take (v.done.length+k)).length=v.done.length+k:=by simp;omega
  have hkt:(((V.map a80).take (v.done.length+k)).map aS).length=v.done.length+k:=by rw[bqW,hkl]
  by_cases hlt:k<v.pipe.length
  ·obtain⟨d,hdd⟩: ∃d,v.pipe.getD k default=d:=⟨_,rfl⟩
   have hx:=hV2 k hlt
   have hIn:=iS aIF (k:=k)
   rw[hdd] at hx hIn
   have hleft:Z0 c s st→beA c st k d:=fun h=>by
    have:=h.left k (by rw[←hvd];exact hlt)
    rw[←hvd,hdd] at this
    exact this
   by_cases ho:a23 s d.who d.n st
   case neg=>
    have e1:=beO ho
    repeat' first| (first|apply bn1|refine w6 (s:=s) (who:=d.who) (n:=d.n) (st:=st) hp.pl hol (aE rfl) ?_)<;>(simp only[go_sem,t1,bqT,bqC,g1,bp4,hdd,e1,hA])|apply bn2 (by omega)|refine⟨by omega,?_⟩|fail
    all_goals first|exact aZ hQ _ rfl rfl (hF fun h=>ho (hVm _ _ hx h))| (exfalso;omega)
   have e1:=be2 ho
   by_cases hl:beA c st k d
   case neg=>
    have hno: ¬Z0 c s st:=fun h=>hl (hleft h)
    unfold beA at hl
    by_cases hl1:0≤d.left∧d.left≤c.lat.getD st default
    ·have e2:(0≤d.left∧d.left≤c.lat.getD st default)=True:=eq_true hl1
     have hk0:0<k:=by
      rcases CR k with h|h
      ·exact absurd ⟨hl1,fun h2=>by omega⟩ hl
      ·exact h
     have e3:(d.left=c.lat.getD st default)=False:=eq_false fun h=>hl ⟨hl1,fun _=>h⟩
     repeat' first| (first|apply bn1|apply bpJ (by omega)|refine w6 (s:=s) (who:=d.who) (n:=d.n) (st:=st) hp.pl hol (aE rfl) ?_|apply aBC)<;>(simp only[go_sem,t1,bqT,bqC,g1,bp4,hdd,e1,e2,e3,hA])|apply bn2 (by omega)|refine⟨by omega,?_⟩|fail
     all_goals first|exact aZ hQ _ rfl rfl (hF hno)| (exfalso;omega)
    ·have e2:(0≤d.left∧d.left≤c.lat.getD st default)=False:=eq_false hl1
     repeat' first| (first|apply bn1|refine w6 (s:=s) (who:=d.who) (n:=d.n) (st:=st) hp.pl hol (aE rfl) ?_|apply aBC)<;>(simp only[go_sem,t1,bqT,bqC,g1,bp4,hdd,e1,e2,hA])|apply bn2 (by omega)|refine⟨by omega,?_⟩|fail
     all_goals first|exact aZ hQ _ rfl rfl (hF hno)| (exfalso;omega)
   have e2:(0≤d.left∧d.left≤c.lat.getD st default)=True:=eq_true hl.1
   have hl2:=hl.2
   repeat' first| (first|apply bn1|refine bpL (fun h=> ?_) fun h=> ?_|refine w6 (s:=s) (who:=d.who) (n:=d.n) (st:=st) hp.pl hol (aE rfl) ?_|apply aBC)<;>(simp only[go_sem,t1,bqT,bqC,g1,bp4,gb,hdd,e1,e2,hkt,hA];try simp (disch:=omega) only[Iw])|apply bn2 (by omega)|apply bn3 (by omega)| (with_reducible first|refine fun(cap:Nat) (hcap:_≤cap)=> ?_|refine fun(hcp:_≤cap)=> ?_)|refine⟨by omega,?_⟩|fail
   all_goals first| (exfalso;have:=hl2 (by omega);omega)|skip
   all_goals (
    refine af0 (K:=bqG) fun G bqK=> ?_
    have q3:=hVs _ _ hx
    have q1:G (nx2+52)=some ⟨5,cap,((V.map a80).take (v.done.length+k)).map aS++[[cI d.who,cI d.n,cI 0,cI 0,.osl 0 0 0 0 0]]⟩:=by rw[bqK];exact aA.bH
    have q2: ∀id,id<nx2→id≠b→G id=H2 id:=fun id h1 h2=>by rw[bqK,aA.aC (by omega),aA.aC (by omega),aA.aC (by omega),aA.jG h2]
    refine hKM _ _ _ (k+1,nx2+52,cap) noF _ (by omega) (by dsimp only;omega) (by dsimp only;repeat' first|exact bo2|refine xqI rfl rfl ?_|refine xqP (by omega) rfl rfl ?_|refine xqO (by omega) rfl rfl (by rfl) ?_|fail) (bfM q1) ⟨by dsimp only;omega,hIn ⟨ho,hl⟩,?_,?_,?_,⟨cap,by dsimp only;rw[←t1,q3];exact aA.bH,by dsimp only;omega,m5 _⟩,by dsimp only;omega,by dsimp only;omega⟩
    ·rw[aA.aC (by omega),q2 _ (by omega) (by omega)];exact bqC
    ·rw[aA.aC (by omega),q2 _ (by omega) (by omega)];exact g1
    ·rw[aA.aC (by omega),q2 _ (by omega) (by omega)];exact bp4)
  ·repeat' first|apply bn1<;>(simp only[go_sem,bp4])|apply bn3 (by omega)|fail
   have hk2:k=v.pipe.length:=by omega
   subst hk2
   obtain⟨L,hL⟩: ∃L,L=V.map a80:=⟨_,rfl⟩
   have hLg: ∀i (hi:i<V.length),L.getD i default=a80 V[i]:=fun i hi=>by rw[hL];simp[List.getD,hi]
   have hLl:L.length=v.done.length+v.pipe.length:=by rw[hL,bqW,hVl]
   rw[←hL,boL (by omega)] at gb
   clear hlt hkl hkt hA hk bqC g1 bp4
   refine aM.gP (β:=Nat) (fun k=>en [(13,boP k),(8,.one (.c (.osl 5 b 0 (v.done.length+v.pipe.length) cap0)))])
    (fun k H3 _=>k≤L.length∧(∀i j,i<j→j<k→(L.getD i default).who=(L.getD j default).who→(L.getD i default).n<(L.getD j default).n)∧H3 b=some ⟨5,m,L.map aS⟩) (fun k=>L.length-k) 0 ⟨noF,_,by repeat' first|exact bo2|refine xqI rfl rfl ?_|refine xqO (by omega) rfl rfl (by rfl) ?_|fail,aK,by omega,fun i j _ hj=>by omega,gb⟩ ?_
   clear gb
   rintro k H3 nx3 hnx3 ⟨hk,bf2,gb⟩ bqR hKN
   by_cases hlt:k<L.length
   ·repeat' first|apply bn1<;>(simp only[go_sem])|apply bn2 (by omega)|fail
    refine aM.gP (β:=Nat) (fun j=>en [(14,boP j),(13,boP k),(8,.one (.c (.osl 5 b 0 (v.done.length+v.pipe.length) cap0)))])
     (fun j bqL _=>j≤k∧(∀i,i<j→(L.getD i default).who=(L.getD k default).who→(L.getD i default).n<(L.getD k default).n)∧bqL b=some ⟨5,m,L.map aS⟩) (fun j=>k-j) 0 ⟨noF,_,by repeat' first|exact bo2|refine xqI rfl rfl ?_|refine xqO (by omega) rfl rfl (by rfl) ?_|fail,aK,by omega,fun i hi=>by omega,gb⟩ ?_
    clear gb
    rintro j bqL nx4 hnx4 ⟨hj,bqA,gb⟩ aNB hKO
    by_cases hjk:j<k
    ·by_cases hc:(L.getD j default).who=(L.getD k default).who∧(L.getD k default).n≤(L.getD j default).n
     ·have c1:((L.getD j default).who=(L.getD k default).who)=True:=eq_true hc.1
      have c2:((L.getD k default).n≤(L.getD j default).n)=True:=eq_true hc.2
      repeat' first|apply bn1<;>(simp only[go_sem,t1,bqT,gb,hLl,c1,c2])|apply bn2 (by omega)|refine⟨by omega,?_⟩|fail
      all_goals first
       | (exfalso;omega)
       |exact aZ hQ _ rfl rfl (hF fun h=>by
        have h1:=Z6.1 h.inc j k (by rw[←hvd,←hV];omega) (by rw[←hvd,←hV];omega) hjk
        simp only[←hvd,←hV] at h1
        have e1:=hLg j (by omega)
        have e2:=hLg k (by omega)
        rw[e1,e2] at hc
        have:=h1 hc.1
        have:=hc.2
        simp only[a80] at this
        omega)
     ·repeat' first| (first|apply bn1|refine bpL (fun h=> ?_) fun h=> ?_)<;>(simp only[go_sem,t1,bqT,gb,hLl];try simp (disch:=omega) only[Iw])|apply bn2 (by omega)|apply bn3 (by omega)|refine⟨by omega,?_⟩|fail
      all_goals first
       | (exfalso;omega)
       |exact hKO _ _ _ (j+1) noF _ (by omega) (by omega) (by repeat' first|exact bo2|refine xqI rfl rfl ?_|refine xqO (by omega) rfl rfl (by rfl) ?_|fail) aK ⟨by omega,iS bqA (by intro he;omega),gb⟩
    ·repeat' first|apply bn1<;>(simp only[go_sem];try simp (disch:=omega) only[Iw])|apply bn3 (by omega)|fail
     have hj2:j=k:=by omega
     subst hj2
     exact hKN _ _ _ (j+1) noF _ (by omega) (by omega) (by repeat' first|exact bo2|refine xqI rfl rfl ?_|refine xqO (by omega) rfl rfl (by rfl) ?_|fail) aK ⟨by omega,fun a e hae he=>by
      by_cases h:e<j
      ·exact bf2 a e hae h
      ·obtain rfl:e=j:=by omega
       exact bqA a hae,gb⟩
   ·repeat' first|apply bn1<;>(simp only[go_sem])|apply bn3 (by omega)|fail
    refine aZ hQ _ rfl rfl (aAI ⟨?_,?_,?_,?_,?_,?_,?_⟩)
    ·rw[←hvd];omega
    ·rw[←hvd];omega
    ·rw[←hvd];exact⟨hl1,hl2⟩
    ·rw[←hvd,←hV]
     refine Z6.2 fun i j hi hj hij he=> ?_
     have e1:=hLg i hi
     have e2:=hLg j hj
     have:=bf2 i j hij (by omega)
     rw[e1,e2] at this
     exact this he
    ·rw[←hvd]
     intro x hx
     rcases o3.1 hx with hx|hx
     ·obtain⟨d,hd,rfl⟩:=CF.1 hx
      exact(aKJ (P:=fun d=>a23 s d.who d.n st∧as5 c d) hI d hd).1
     ·obtain⟨d,hd,rfl⟩:=CF.1 hx
      exact aKJ (P:=fun d=>a23 s d.who d.n st) (fun i hi=>(aIF i hi).1) d hd
    ·rw[←hvd];exact fun d hd=>(aKJ (P:=fun d=>a23 s d.who d.n st∧as5 c d) hI d hd).2
    ·rw[←hvd];exact fun i hi=>(aIF i hi).2
end
def aJP:AC:= (boG [f5 2 0,f5 3 1,dO 4 boD] [2,3] (.seq (boG [f8 9 3 2,f6 10 aIV [9],f4 11 10,RM 12 11,g9 13 0 3 12 false,GQ 14 (.load 2 true 13) 12 false,GQ 15 (.call aIU [14]) 12 false,hP 16 15 12 false,f3 17 12 boE 16,RM 18 17,g9 19 2 3 18 false,hD 20 19 18 false,GQ 21 (.len false 20) 18 false,hO 22 .neq 21 (ki 3) 18 false,f3 23 18 boE 22] [2,3,23] (.cond 23 (boG [dO 4 boD] [4] .ret) .skip)) (boG [dO 5 (ki 0)] [2,3,5] (.seq (boG [dO 6 (ki 0)] [2,3,5,6] (.block 0 (.loop (.seq (boG [RM 24 6,dI 25 .lss 24 (ki 3)] [2,3,5,6,25] (.cond 25 .skip (.exit 0))) (.seq (.block 1 (.seq (boG [RF 28 2 3,RL 29 28,RM 30 6,e0 31 1 29 30,RL 32 31,RF 33 2 2,RL 34 33,RM 35 6,e0 36 1 34 35,RL 37 36,f1 38 37,f6 39 y2 [32,(ki 0),38],f4 40 39] [2,3,5,6,40] (.cond 40 (boG [dO 4 boD] [4] .ret) .skip)) (m2 [RM 41 5,RF 42 2 3,RL 43 42,RM 44 6,e0 45 1 43 44,RL 46 45,dI 47 .add 41 46,RM 5 47] [2,3,5,6]))) (m2 [RM 26 6,dI 27 .add 26 (ki 1),RM 6 27] [2,3,5,6])))))) (.seq (boG [f8 48 3 2,RF 49 2 3,RL 50 49,RF 51 3 3,RL 52 51,f6 53 aIQ [48,50,52,boD],f4 54 53,RM 55 54,GQ 56 (.load 3 true 2) 55 false,g9 57 2 3 55 false,hD 58 57 55 false,g9 59 4 3 55 false,hD 60 59 55 false,GQ 61 (.call aIQ [56,58,60,boE]) 55 false,hP 62 61 55 false,f3 63 55 boE 62,RM 64 63,GQ 65 (.load 3 true 2) 64 false,GQ 66 (.load 6 true 3) 64 false,GQ 67 (.call aIX [65,66]) 64 false,hP 68 67 64 false,f3 69 64 boE 68,RM 70 69,g9 71 3 3 70 false,hD 72 71 70 false,GQ 73 (.len false 72) 70 false,g9 74 4 3 70 false,hD 75 74 70 false,GQ 76 (.len false 75) 70 false,hO 77 .add 73 76 70 false,g9 78 5 3 70 false,hD 79 78 70 false,GQ 80 (.len false 79) 70 false,hO 81 .add 77 80 70 false,hG 82 5 70 false,hO 83 .neq 81 82 70 false,f3 84 70 boE 83] [3,84] (.cond 84 (boG [dO 4 boD] [4] .ret) .skip)) (.seq (boG [dO 7 (ki 0)] [3,7] (.block 2 (.loop (.seq (boG [RM 85 7,RF 86 5 3,RL 87 86,f1 88 87,dI 89 .lss 85 88] [3,7,89] (.cond 89 .skip (.exit 2))) (.seq (.block 3 (boG [RF 92 3 3,RL 93 92,RF 94 5 3,RL 95 94,RM 96 7,e0 97 5 95 96,RF 98 0 97,RL 99 98,RF 100 5 3,RL 101 100,RM 102 7,e0 103 5 101 102,RF 104 1 103,RL 105 104,f6 106 aIN [93,99,105],dI 107 .geq 106 (ki 0),RM 108 107,g9 109 4 3 108 false,hD 110 109 108 false,g9 111 5 3 108 false,hD 112 111 108 false,hG 113 7 108 false,j0 114 5 112 113 108 false,g9 115 0 114 108 false,hD 116 115 108 false,g9 117 5 3 108 false,hD 118 117 108 false,hG 119 7 108 false,j0 120 5 118 119 108 false,g9 121 1 120 108 false,hD 122 121 108 false,GQ 123 (.call aIN [110,116,122]) 108 false,hO 124 .geq 123 (ki 0) 108 false,f3 125 108 boE 124] [3,7,125] (.cond 125 (boG [dO 4 boD] [4] .ret) .skip))) (m2 [RM 90 7,dI 91 .add 90 (ki 1),RM 7 91] [3,7])))))) (.seq (boG [dO 8 (ki 0)] [3,8] (.block 4 (.loop (.seq (boG [RM 126 8,RF 127 4 3,RL 128 127,f1 129 128,dI 130 .lss 126 129] [3,8,130] (.cond 130 .skip (.exit 4))) (.seq (.block 5 (boG [RF 133 3 3,RL 134 133,RF 135 4 3,RL 136 135,RM 137 8,e0 138 5 136 137,RF 139 0 138,RL 140 139,RF 141 4 3,RL 142 141,RM 143 8,e0 144 5 142 143,RF 145 1 144,RL 146 145,f6 147 aIN [134,140,146],dI 148 .geq 147 (ki 0)] [3,8,148] (.cond 148 (boG [dO 4 boD] [4] .ret) .skip))) (m2 [RM 131 8,dI 132 .add 131 (ki 1),RM 8 132] [3,8])))))) (boG [dO 4 boE] [4] .ret))))))))
def aKC:List aW:=[.tm 4]
theorem aMJ:aO Tryz.prog Tryz.f72 (bnD aJP)=some (aJP,aKC):=by kernel_rfl
theorem aMM:aN Tryz.prog aI6 Tryz.f72 aJP aKC:=
 aN.mk Tryz.func72 (by kernel_rfl) aMJ
def aI9:AC:= (boG [f5 4 0,dO 8 boD] [1,2,3,4] (.seq (boG [dO 9 (ki 0)] [1,2,3,4,9] (.block 0 (.loop (.seq (boG [RM 11 9,RM 12 2,f1 13 12,dI 14 .lss 11 13] [1,2,3,4,9,14] (.cond 14 .skip (.exit 0))) (.seq (.block 1 (boG [RM 17 2,RM 18 9,e0 19 5 17 18,f8 20 5 19,f7 10 [VZ,VZ,VZ,VZ,OZ],g0 5 true 10 20] [1,2,3,4,9,10] (.seq (boG [RF 21 0 10,RL 22 21,f6 23 y2 [22,(ki 0),(ki 2)],f4 24 23,RM 25 24,g9 26 1 10 25 false,hD 27 26 25 false,hG 28 1 25 false,g9 29 0 10 25 false,hD 30 29 25 false,j0 31 1 28 30 25 false,hD 32 31 25 false,hO 33 .sub 32 (ki 1) 25 false,GQ 34 (.call y2 [27,(ki 0),33]) 25 false,hP 35 34 25 false,f3 36 25 boE 35,RM 37 36,hG 38 9 37 false,hO 39 .gtr 38 (ki 0) 37 false,hG 40 39 37 false,hG 41 2 40 true,hG 42 9 40 true,hO 43 .sub 42 (ki 1) 40 true,j0 44 5 41 43 40 true,GQ 45 (.load 5 true 44) 40 true,GQ 46 (.load 5 true 10) 40 true,GQ 47 (.call aKL [45,46]) 40 true,hP 48 47 40 true,GQ 49 (.pick 40 48 boD) 37 false,f3 50 37 boE 49] [1,2,3,4,9,10,50] (.cond 50 (boG [dO 8 boD] [8] .ret) .skip)) (boG [RM 51 3,RM 52 51,g9 53 2 10 52 true,GQ 54 (.load 3 true 53) 52 true,GQ 55 (.call aIP [54]) 52 true,hP 56 55 52 true,hG 57 56 52 true,g9 58 2 10 57 false,g9 59 0 58 57 false,hD 60 59 57 false,g9 61 2 4 57 false,hD 62 61 57 false,g9 63 0 10 57 false,hD 64 63 57 false,j0 65 1 62 64 57 false,hD 66 65 57 false,g9 67 1 10 57 false,hD 68 67 57 false,j0 69 7 66 68 57 false,g9 70 0 69 57 false,hD 71 70 57 false,hO 72 .neq 60 71 57 false,GQ 73 (.pick 57 boE 72) 52 true,f3 74 52 73 boD,RM 75 74,hG 76 3 75 false,hP 77 76 75 false,hG 78 77 75 false,g9 79 2 10 78 true,g9 80 0 79 78 true,hD 81 80 78 true,hO 82 .neq 81 (ki 0) 78 true,hG 83 82 78 true,g9 84 2 10 83 false,g9 85 1 84 83 false,hD 86 85 83 false,hO 87 .neq 86 (ki 0) 83 false,GQ 88 (.pick 83 boE 87) 78 true,hG 89 88 78 true,g9 90 2 10 89 false,g9 91 2 90 89 false,hD 92 91 89 false,GQ 93 (.len false 92) 89 false,hO 94 .neq 93 (ki 0) 89 false,GQ 95 (.pick 89 boE 94) 78 true,GQ 96 (.pick 78 95 boD) 75 false,f3 97 75 boE 96] [1,2,3,4,9,97] (.cond 97 (boG [dO 8 boD] [8] .ret) .skip))))) (m2 [RM 15 9,dI 16 .add 15 (ki 1),RM 9 16] [1,2,3,4,9])))))) (boG [dO 8 boE] [8] .ret)))
def aJ1:List aW:=[.tm 8]
theorem aKV:aO Tryz.prog Tryz.f150 (bnD aI9)=some (aI9,aJ1):=by kernel_rfl
theorem aKZ:aN Tryz.prog aIQ Tryz.f150 aI9 aJ1:=
 aN.mk Tryz.func150 (by kernel_rfl) aKV
def aJD:AC:= (boG [f5 2 0,f5 3 1,dO 4 boD] [2,3] (.seq (boG [dO 5 (ki 0)] [2,3,5] (.block 0 (.loop (.seq (boG [RM 7 5,RF 8 5 3,RL 9 8,f1 10 9,dI 11 .lss 7 10] [2,3,5,11] (.cond 11 .skip (.exit 0))) (.seq (.block 1 (boG [RF 14 5 3,RL 15 14,RM 16 5,e0 17 5 15 16,f8 18 5 17,f7 6 [VZ,VZ,VZ,VZ,OZ],g0 5 true 6 18] [2,3,5,6] (boG [RF 19 0 6,RL 20 19,f6 21 y2 [20,(ki 0),(ki 2)],f4 22 21,RM 23 22,g9 24 1 6 23 false,hD 25 24 23 false,g9 26 2 3 23 false,hD 27 26 23 false,g9 28 0 6 23 false,hD 29 28 23 false,j0 30 1 27 29 23 false,hD 31 30 23 false,hO 32 .sub 31 (ki 1) 23 false,GQ 33 (.call y2 [25,(ki 0),32]) 23 false,hP 34 33 23 false,f3 35 23 boE 34,RM 36 35,g9 37 2 6 36 false,GQ 38 (.load 3 true 37) 36 false,GQ 39 (.call aIP [38]) 36 false,hP 40 39 36 false,f3 41 36 boE 40,RM 42 41,g9 43 2 6 42 false,g9 44 0 43 42 false,hD 45 44 42 false,g9 46 2 2 42 false,hD 47 46 42 false,g9 48 0 6 42 false,hD 49 48 42 false,j0 50 1 47 49 42 false,hD 51 50 42 false,g9 52 1 6 42 false,hD 53 52 42 false,j0 54 7 51 53 42 false,g9 55 0 54 42 false,hD 56 55 42 false,hO 57 .neq 45 56 42 false,f3 58 42 boE 57,RM 59 58,g9 60 5 3 59 false,hD 61 60 59 false,hG 62 5 59 false,GQ 63 (.slc 5 61 none (some 62) none) 59 false,g9 64 0 6 59 false,hD 65 64 59 false,g9 66 1 6 59 false,hD 67 66 59 false,GQ 68 (.call aIN [63,65,67]) 59 false,hO 69 .geq 68 (ki 0) 59 false,f3 70 59 boE 69] [2,3,5,70] (.cond 70 (boG [dO 4 boD] [4] .ret) .skip)))) (m2 [RM 12 5,dI 13 .add 12 (ki 1),RM 5 13] [2,3,5])))))) (boG [dO 4 boE] [4] .ret)))
def aJY:List aW:=[.tm 4]
theorem aK1:aO Tryz.prog Tryz.f151 (bnD aJD)=some (aJD,aJY):=by kernel_rfl
theorem aK7:aN Tryz.prog aIX Tryz.f151 aJD aJY:=
 aN.mk Tryz.func151 (by kernel_rfl) aK1
end Go.Proofs.YtmccpdapaccnoaaGreat
