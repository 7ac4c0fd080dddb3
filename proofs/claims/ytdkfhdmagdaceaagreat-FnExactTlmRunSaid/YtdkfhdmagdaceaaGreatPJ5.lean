/- Texts laid together by a program: rules, contracts and the walk that leads to the law. -/
import Derived.Test.YtdkfhdmagdaceaaGreatPJ3
import Derived.Test.YtdkfhdmagdaceaaGreatProg
set_option linter.unusedVariables false
set_option linter.unusedSimpArgs false
set_option linter.unusedSectionVars false
set_option maxRecDepth 100000
set_option maxHeartbeats 8000000
namespace Go.Proofs.YtdkfhdmagdaceaaGreat
open Go Go.AM
def bHD:Nat:=4
def a1J:Nat:=10
def bzR:Nat:=11
def aXQ:Nat:=12
def aZL:Nat:=13
def byP:Nat:=14
def byY:Nat:=15
def byS:Nat:=17
def a1B:Nat:=18
def bAD:Nat:=19
def bzH:Nat:=20
def by0:Nat:=21
def bG3:Nat:=22
def aYN:Nat:=23
def bGX:Nat:=24
def auW:Nat:=25
def bG5:Nat:=26
def bG7:Nat:=27
def aZ5:Nat:=61
def g7:Nat:=62
def a0C:Nat:=63
def a0M:Nat:=64
def aZS:Nat:=65
def aI6:Nat:=66
def v5:Nat:=67
def aI0:Nat:=68
def aZ4:Nat:=69
def p8:Nat:=70
def a0G:Nat:=71
def a0K:Nat:=72
def aZR:Nat:=73
def au7:Nat:=74
def iG:Nat:=75
def auN:Nat:=76
def auD:Nat:=77
def a0N:Nat:=78
def o6:Nat:=79
def aZX:Nat:=80
def aZ8:Nat:=81
def a0O:Nat:=82
def bzT:Nat:=83
def byU:Nat:=84
def bz0:Nat:=85
def bz1:Nat:=86
def by3:Nat:=87
def bz2:Nat:=88
def by5:Nat:=89
def by2:Nat:=90
def bG6:Nat:=91
def wR:Nat:=105
def wD:Nat:=106
def nI:Nat:=108
def aIV:Nat:=119
def aIU:Nat:=120
def bJ:Nat:=131
def cQ:Nat:=138
def aA3:Nat:=140
def a0U:Nat:=146
def a09:Nat:=147
def a1A:Nat:=148
def y2:Nat:=149
def aIQ:Nat:=150
def aIX:Nat:=151
def aIN:Nat:=152
def aJS:Nat:=153
def b8:Nat:=154
def aN2:Nat:=155
def gR:Nat:=156
def aIR:Nat:=157
def aIM:Nat:=158
def a0B:Nat:=159
def a0S:Nat:=160
def a1G:Nat:=161
def a1H:Nat:=162
def wF:Nat:=163
def j9:Nat:=164
def fL:Nat:=165
def eX:Nat:=166
def eO:Nat:=167
def at3:Nat:=168
def auK:Nat:=169
def atY:Nat:=170
def auE:Nat:=171
def x4:Nat:=172
def pL:Nat:=173
def a07:Nat:=174
def a1I:Nat:=175
def a0A:Nat:=176
def a0W:Nat:=177
def bz8:Nat:=178
def bAB:Nat:=179
def bAF:Nat:=180
def rG:Nat:=181
def bX:Nat:=194
def rE:Nat:=195
def eY:Nat:=196
def jB:Nat:=197
def bN:Nat:=198
def rT:Nat:=199
def mZ:Nat:=200
def aBG:Nat:=206
def aI2:Nat:=207
def aI7:Nat:=208
def aIP:Nat:=211
def wC:Nat:=215
def jC:Nat:=216
def a06:Nat:=225
def a1F:Nat:=226
def aKL:Nat:=227
def aAY:Nat:=228
def aA4:Nat:=229
def aAZ:Nat:=230
def W3:Nat:=231
def H5:Nat:=232
def v9:Nat:=233
def aIW:Nat:=234
def aI8:Nat:=235
def a1D:Nat:=236
def a05:Nat:=237
def qK:Nat:=238
def cF:Nat:=239
def rR:Nat:=240
def cN:Nat:=241
def nH:Nat:=242
def oI:Nat:=243
def jA:Nat:=244
def iT:Nat:=245
def m6:Nat:=246
def fB:Nat:=247
def iD:Nat:=248
def gO:Nat:=249
def gG:Nat:=250
def hZ:Nat:=251
def avA:Nat:=252
def wB:Nat:=253
def at5:Nat:=254
def eR:Nat:=255
def atU:Nat:=256
def fP:Nat:=257
def DA:Nat:=258
def fK:Nat:=259
def a1E:Nat:=260
def a1K:Nat:=261
def wP:Nat:=262
def rC:Nat:=263
def bR:Nat:=275
def lX:Nat:=276
def tR:Nat:=277
def fF:Nat:=278
def qX:Nat:=279
def aBF:Nat:=283
def lG:Nat:=287
def aA6:Nat:=290
def aAX:Nat:=291
def aNH:Nat:=292
def cT:Nat:=293
def dC:Nat:=294
def eS:Nat:=295
def eG:Nat:=296
def auV:Nat:=297
def avU:Nat:=298
def oS:Nat:=299
def gN:Nat:=300
def nJ:Nat:=305
def avV:AC:= (boG [f5 3 0,f5 4 1,f7 6 [OZ,OZ,OZ,OZ,OZ,OZ],dO 7 (ki 0)] [2,3,4,6] (.seq (boG [f8 11 3 3,f8 12 6 4,f6 13 au7 [11,12],f4 14 13,RM 15 14,hG 16 2 15 false,GQ 17 (.len false 16) 15 false,hO 18 .gtr 17 (ki 200) 15 false,f3 19 15 boE 18] [2,3,4,6,19] (.cond 19 (boG [rq 20 (.build [OZ,OZ,OZ,OZ,OZ,OZ] []),g0 6 true 6 20,rq 7 (.move (.kv (.int .i64 (-1))))] [6,7] .ret) .skip)) (boG [f8 21 6 4,f6 22 iG [21],f7 8 [OZ,OZ,OZ,OZ,OZ,OZ],g0 6 true 8 22] [2,3,6,8] (.seq (boG [RM 23 2,f1 24 23,dO 25 (ki 0)] [2,3,6,8,23,24,25] (.block 0 (.loop (boG [dI 26 .lss 25 24] [2,3,6,8,23,24,25,26] (.seq (.cond 26 .skip (.exit 0)) (.seq (.block 1 (boG [RM 27 25,e0 28 3 23 25,f8 29 3 28,f7 10 [VZ,VZ,VZ],RM 9 27,g0 3 true 10 29] [2,3,6,8,9,10,23,24,25] (.seq (boG [f8 30 3 3,f8 31 6 8,f8 32 3 10,f6 33 auN [30,31,32],dI 34 .neq 33 (ki 0)] [2,3,6,8,9,10,23,24,25,34] (.cond 34 (boG [f8 35 6 8,f6 36 iG [35],RM 37 9,g0 6 true 6 36,RM 7 37] [6,7] .ret) .skip)) (m2 [f8 38 3 3,f8 39 3 10,f6 40 auD [38,8,39]] [2,3,6,8,23,24,25])))) (m2 [dI 41 .add 25 (ki 1),RM 25 41] [2,3,6,8,23,24,25]))))))) (boG [f8 42 6 8,f6 43 iG [42],RM 44 2,f1 45 44,g0 6 true 6 43,RM 7 45] [6,7] .ret)))))
def awK:List aW:=[.cell 6 6 true,.tm 7]
theorem ax8:aO Tryz.prog Tryz.f25 (bnD avV)=some (avV,awK):=by kernel_rfl
theorem axV:aN Tryz.prog auW Tryz.f25 avV awK:=aN.mk Tryz.func25 (by kernel_rfl) ax8
def aNV:AC:= (boG [f5 3 0,f5 4 1,f5 5 2,f7 6 [OZ,OZ,OZ,OZ,OZ,OZ],dO 7 boD] [3,4,5,6] (.seq (boG [RF 12 1 5,RL 13 12,f6 14 y2 [13,(ki 0),(ki 2)],f4 15 14,RM 16 15,g9 17 2 5 16 false,hD 18 17 16 false,g9 19 2 3 16 false,hD 20 19 16 false,g9 21 1 5 16 false,hD 22 21 16 false,j0 23 1 20 22 16 false,hD 24 23 16 false,GQ 25 (.len false 24) 16 false,hO 26 .sub 25 (ki 1) 16 false,GQ 27 (.call y2 [18,(ki 0),26]) 16 false,hP 28 27 16 false,f3 29 16 boE 28] [3,4,5,6,29] (.cond 29 (boG [f8 30 6 4,g0 6 true 6 30,dO 7 boD] [6,7] .ret) .skip)) (.seq (boG [RF 31 0 5,RL 32 31] [3,4,5,6,32] (.block 0 (boG [dI 34 .eql 32 (ki 1),RM 33 34] [3,4,5,6,32,33] (.cond 33 (.seq (boG [RF 35 2 5,RL 36 35,RF 37 2 4,RL 38 37,RF 39 1 5,RL 40 39,e0 41 1 38 40,RL 42 41,dI 43 .neq 36 42] [4,5,6,43] (.cond 43 (boG [f8 44 6 4,g0 6 true 6 44,dO 7 boD] [6,7] .ret) .skip)) (boG [RF 45 2 4,RL 46 45,RF 47 1 5,RL 48 47,RF 49 2 5,RL 50 49,dI 51 .add 50 (ki 1),e0 52 1 46 48,g0 1 false 52 51] [4,5,6] (boG [RF 53 3 4,RL 54 53,RF 55 1 5,RL 56 55,RF 57 2 5,RL 58 57,rq 59 (.build [VZ,VZ,VZ,VZ,OZ] [(0,1,56),(1,1,58)]),f6 60 aJS [54,59],RF 61 3 4,g0 1 false 61 60] [4,6] (boG [f8 62 6 4,g0 6 true 6 62,dO 7 boE] [6,7] .ret)))) (boG [dI 64 .eql 32 (ki 2),RM 63 64] [3,4,5,6,32,63] (.cond 63 (boG [RF 65 3 4,RL 66 65,RF 67 1 5,RL 68 67,RF 69 2 5,RL 70 69,f6 71 aIN [66,68,70],RM 8 71] [3,4,5,6,8] (.seq (boG [RM 72 8,dI 73 .lss 72 (ki 0),RM 74 73,GQ 75 (.load 3 true 3) 74 false,g9 76 3 4 74 false,hD 77 76 74 false,g9 78 1 5 74 false,hD 79 78 74 false,g9 80 2 5 74 false,hD 81 80 74 false,GQ 82 (.call b8 [75,77,79,81]) 74 false,hP 83 82 74 false,f3 84 74 boE 83] [3,4,5,6,8,84] (.cond 84 (boG [f8 85 6 4,g0 6 true 6 85,dO 7 boD] [6,7] .ret) .skip)) (.seq (.region [RF 87 0 3 0,g8 88 87 [20,21] [] false 1,RF 89 0 4 2,boF 90 (.load 2 true 89) [20,21] [] false 3,RF 91 1 5 4,g8 92 91 [20,21] [] false 5,RF 93 2 3 6,g8 94 93 [20,21] [] false 7,RF 95 1 5 8,g8 96 95 [20,21] [] false 9,e0 97 1 94 96 10,g8 98 97 [20,21] [] false 11,RF 99 2 5 12,g8 100 99 [20,21] [] false 13,e0 101 7 98 100 14,boF 102 (.load 7 true 101) [20,21] [] false 15,f7 9 [OZ,OZ] 20,f7 10 [VZ,VZ,OZ] 21,boF 103 (.call aN2 [88,90,92,102]) [20,21] [] false 16,RM 86 103 17,rq 104 (.ext 86 0) 18,rq 105 (.ext 86 1) 19,g0 2 true 9 104 22,g0 3 true 10 105 23] 24 [4,5,6,8,9,10]) (boG [f8 106 2 9,RF 107 0 4,g0 2 true 107 106] [4,5,6,8,10] (boG [RF 108 3 4,RL 109 108,RM 110 8,f6 111 gR [109,110],RF 112 3 4,g0 1 false 112 111] [4,5,6,10] (boG [RF 113 4 4,RL 114 113,RF 115 1 5,RL 116 115,RF 117 2 5,RL 118 117,f8 119 3 10,rq 120 (.build [VZ,VZ,VZ,VZ,OZ] [(0,1,116),(1,1,118),(2,3,119)]),f6 121 aJS [114,120],RF 122 4 4,g0 1 false 122 121] [4,6] (boG [f8 123 6 4,g0 6 true 6 123,dO 7 boE] [6,7] .ret))))))) (boG [dI 125 .eql 32 (ki 3),RM 124 125] [3,4,5,6,124] (.cond 124 (boG [RF 126 4 4,RL 127 126,RF 128 1 5,RL 129 128,RF 130 2 5,RL 131 130,f6 132 aIN [127,129,131],RM 11 132] [3,4,5,6,11] (.seq (boG [RM 133 11,dI 134 .lss 133 (ki 0),RM 135 134,GQ 136 (.load 3 true 3) 135 false,g9 137 3 4 135 false,hD 138 137 135 false,g9 139 1 5 135 false,hD 140 139 135 false,g9 141 2 5 135 false,hD 142 141 135 false,GQ 143 (.call b8 [136,138,140,142]) 135 false,hP 144 143 135 false,f3 145 135 boE 144,RM 146 145,GQ 147 (.load 3 true 3) 146 false,g9 148 4 4 146 false,hD 149 148 146 false,g9 150 1 5 146 false,hD 151 150 146 false,g9 152 2 5 146 false,hD 153 152 146 false,GQ 154 (.call b8 [147,149,151,153]) 146 false,hP 155 154 146 false,f3 156 146 boE 155] [4,6,11,156] (.cond 156 (boG [f8 157 6 4,g0 6 true 6 157,dO 7 boD] [6,7] .ret) .skip)) (boG [RF 158 5 4,g8 159 158 [7] [] false,RF 160 4 4,RL 161 160,RM 162 11,e0 163 5 161 162,f8 164 5 163,rq 165 (.bC 5 1 [VZ,VZ,VZ,VZ,OZ] [(0,5,164)]),rq 166 (.append 5 159 165),RF 167 5 4,g0 1 false 167 166] [4,6,11] (boG [RF 168 4 4,RL 169 168,RM 170 11,f6 171 gR [169,170],RF 172 4 4,g0 1 false 172 171] [4,6] (boG [f8 173 6 4,g0 6 true 6 173,dO 7 boE] [6,7] .ret))))) .skip)))))))) (boG [f8 174 6 4,g0 6 true 6 174,dO 7 boD] [6,7] .ret))))
def aOS:List aW:=[.cell 6 6 true,.tm 7]
theorem aRI:aO Tryz.prog Tryz.f67 (bnD aNV)=some (aNV,aOS):=by kernel_rfl
theorem aQG:aN Tryz.prog v5 Tryz.f67 aNV aOS:=aN.mk Tryz.func67 (by kernel_rfl) aRI
def aJB:AC:= (boG [f5 1 0,f7 2 [OZ,OZ,OZ,OZ,OZ,OZ]] [1,2] (.seq (.region [RF 3 0 1 0,boF 4 (.load 2 true 3) [3] [] false 1,rq 6 (.bC 1 0 [VZ] []) 3,RF 7 2 1 4,g8 8 7 [3] [] true 5,RF 10 3 1 7,g8 11 10 [3] [] true 8,RF 13 4 1 10,g8 14 13 [3] [] true 11,RF 16 5 1 13,g8 17 16 [3] [] true 14,boF 5 (.call aIR [4]) [3] [5,8,11,14] false 2,boF 9 (.append 1 6 8) [] [8,11,14] false 6,boF 12 (.call aIM [11]) [] [11,14] false 9,boF 15 (.call aIM [14]) [] [14] false 12,f6 18 aIM [17] 15,rq 19 (.build [OZ,OZ,OZ,OZ,OZ,OZ] [(0,2,5),(2,1,9),(3,1,12),(4,1,15),(5,1,18)]) 16,g0 6 true 2 19 17] 18 [2]) .ret))
def aJW:List aW:=[.cell 2 6 true]
theorem aLD:aO Tryz.prog Tryz.f68 (bnD aJB)=some (aJB,aJW):=by kernel_rfl
theorem aK9:aN Tryz.prog aI0 Tryz.f68 aJB aJW:=aN.mk Tryz.func68 (by kernel_rfl) aLD
def av2:AC:= (boG [f5 2 0,f5 3 1,dO 4 boD] [2,3] (boG [f8 5 3 2,f6 6 wF [5],RM 7 6,GQ 8 (.load 3 true 2) 7 true,GQ 9 (.load 6 true 3) 7 true,GQ 10 (.call j9 [8,9]) 7 true,f3 11 7 10 boD,RM 4 11] [4] .ret))
def aw0:List aW:=[.tm 4]
theorem ayI:aO Tryz.prog Tryz.f74 (bnD av2)=some (av2,aw0):=by kernel_rfl
theorem ayK:aN Tryz.prog au7 Tryz.f74 av2 aw0:=aN.mk Tryz.func74 (by kernel_rfl) ayI
def kD:AC:= (boG [f5 1 0,f7 2 [OZ,OZ,OZ,OZ,OZ,OZ]] [1,2] (.seq (.region [RF 3 0 1 0,f8 4 2 3 1,RF 6 2 1 3,g8 7 6 [] [] true 4,RF 9 3 1 6,g8 10 9 [] [] true 7,RF 12 4 1 9,g8 13 12 [] [] true 10,RF 15 5 1 12,g8 16 15 [] [] true 13,boF 5 (.call fL [4]) [] [4,7,10,13] false 2,boF 8 (.call eX [7]) [] [7,10,13] false 5,boF 11 (.call eO [10]) [] [10,13] false 8,boF 14 (.call eO [13]) [] [13] false 11,f6 17 eO [16] 14,rq 18 (.build [OZ,OZ,OZ,OZ,OZ,OZ] [(0,2,5),(2,1,8),(3,1,11),(4,1,14),(5,1,17)]) 15,g0 6 true 2 18 16] 17 [2]) .ret))
def pT:List aW:=[.cell 2 6 true]
theorem A3:aO Tryz.prog Tryz.f75 (bnD kD)=some (kD,pT):=by kernel_rfl
theorem AY:aN Tryz.prog iG Tryz.f75 kD pT:=aN.mk Tryz.func75 (by kernel_rfl) A3
def au0:AC:= (boG [f5 3 0,f5 4 1,f5 5 2,dO 6 (ki 0)] [3,4,5] (.seq (boG [f8 7 3 3,RF 8 1 5,RL 9 8,RF 10 2 5,RL 11 10,f6 12 at3 [7,9,11],f4 13 12,RM 14 13,g9 15 0 5 14 false,hD 16 15 14 false,GQ 17 (.call cQ [16,(ki 1),(ki 3)]) 14 false,hP 18 17 14 false,f3 19 14 boE 18] [3,4,5,19] (.cond 19 (boG [dO 6 (ki 1)] [6] .ret) .skip)) (.seq (boG [RF 20 0 5,RL 21 20] [3,4,5,21] (.block 0 (boG [dI 23 .eql 21 (ki 1),RM 22 23] [3,4,5,21,22] (.cond 22 (boG [RF 24 2 5,RL 25 24,RF 26 2 4,RL 27 26,RF 28 1 5,RL 29 28,e0 30 1 27 29,RL 31 30,dI 32 .neq 25 31] [32] (.cond 32 (boG [dO 6 (ki 2)] [6] .ret) .skip)) (boG [dI 34 .eql 21 (ki 2),RM 33 34] [3,4,5,21,33] (.cond 33 (.block 1 (boG [RF 36 3 4,RL 37 36,RF 38 1 5,RL 39 38,RF 40 2 5,RL 41 40,f6 42 auK [37,39,41],dI 43 .lss 42 (ki 0),RM 35 43] [3,4,5,35] (.cond 35 (boG [dO 6 (ki 3)] [6] .ret) (boG [f8 45 3 3,RF 46 3 4,RL 47 46,f8 48 3 5,f6 49 atY [45,47,48],RM 44 49] [44] (.cond 44 (boG [dO 6 (ki 4)] [6] .ret) .skip))))) (boG [dI 51 .eql 21 (ki 3),RM 50 51] [3,4,5,50] (.cond 50 (.block 2 (boG [RF 53 4 4,RL 54 53,RF 55 1 5,RL 56 55,RF 57 2 5,RL 58 57,f6 59 auK [54,56,58],dI 60 .lss 59 (ki 0),RM 52 60] [3,4,5,52] (.cond 52 (boG [dO 6 (ki 5)] [6] .ret) (boG [f8 62 3 3,RF 63 3 4,RL 64 63,f8 65 3 5,f6 66 atY [62,64,65],RM 67 66,GQ 68 (.load 3 true 3) 67 false,g9 69 4 4 67 false,hD 70 69 67 false,GQ 71 (.load 3 true 5) 67 false,GQ 72 (.call atY [68,70,71]) 67 false,f3 73 67 boE 72,RM 61 73] [61] (.cond 61 (boG [dO 6 (ki 6)] [6] .ret) .skip))))) .skip)))))))) (boG [dO 6 (ki 0)] [6] .ret))))
def avY:List aW:=[.tm 6]
theorem aw8:aO Tryz.prog Tryz.f76 (bnD au0)=some (au0,avY):=by kernel_rfl
theorem axA:aN Tryz.prog auN Tryz.f76 au0 avY:=aN.mk Tryz.func76 (by kernel_rfl) aw8
def auM:AC:= (boG [f5 3 0,f5 5 2] [1,3,5] (boG [RF 8 0 5,RL 9 8] [1,3,5,9] (.block 0 (boG [dI 11 .eql 9 (ki 1),RM 10 11] [1,3,5,9,10] (.cond 10 (boG [RM 12 1,RK 13 12,RF 14 2 13,RL 15 14,RF 16 1 5,RL 17 16,e0 18 1 15 17,RL 19 18,dI 20 .add 19 (ki 1),e0 21 1 15 17,g0 1 false 21 20] [1,5] (m2 [RM 22 1,RM 23 1,RK 24 23,RF 25 3 24,RL 26 25,RF 27 1 5,RL 28 27,RF 29 2 5,RL 30 29,rq 31 (.build [VZ,VZ,VZ,VZ,OZ] [(0,1,28),(1,1,30)]),f6 32 auE [26,31],RK 33 22,RF 34 3 33,g0 1 false 34 32] [])) (boG [dI 36 .eql 9 (ki 2),RM 35 36] [1,3,5,9,35] (.cond 35 (boG [RM 37 1,RK 38 37,RF 39 3 38,RL 40 39,RF 41 1 5,RL 42 41,RF 43 2 5,RL 44 43,f6 45 auK [40,42,44],RM 6 45] [1,3,5,6] (boG [RM 46 1,RM 47 1,RK 48 47,RF 49 3 48,RL 50 49,RM 51 6,RM 52 6,dI 53 .add 52 (ki 1),f6 54 x4 [50,51,53],RK 55 46,RF 56 3 55,g0 1 false 56 54] [1,3,5] (m2 [RM 57 1,RM 58 1,RK 59 58,RF 60 4 59,g8 61 60 [] [] true,RF 62 1 5,g8 63 62 [] [] true,RF 64 2 5,g8 65 64 [] [] true,RM 66 1,RK 67 66,RF 68 0 67,RF 69 0 3,RL 70 69,RF 71 1 5,RL 72 71,RF 73 2 3,RL 74 73,RF 75 1 5,RL 76 75,e0 77 1 74 76,RL 78 77,RF 79 2 5,RL 80 79,e0 81 7 78 80,f8 82 7 81,boF 83 (.call pL [68,70,72,82]) [] [4,6,8] false,rq 84 (.build [VZ,VZ,VZ,VZ,OZ] [(0,1,63),(1,1,65),(2,3,83)]),f6 85 auE [61,84],RK 86 57,RF 87 4 86,g0 1 false 87 85] []))) (boG [dI 89 .eql 9 (ki 3),RM 88 89] [1,5,88] (.cond 88 (boG [RM 90 1,RK 91 90,RF 92 4 91,RL 93 92,RF 94 1 5,RL 95 94,RF 96 2 5,RL 97 96,f6 98 auK [93,95,97],RM 7 98] [1,7] (boG [RM 99 1,RM 100 1,RK 101 100,RF 102 5 101,g8 103 102 [12] [] false,RM 104 1,RK 105 104,RF 106 4 105,RL 107 106,RM 108 7,e0 109 5 107 108,f8 110 5 109,rq 111 (.bC 5 1 [VZ,VZ,VZ,VZ,OZ] [(0,5,110)]),rq 112 (.append 5 103 111),RK 113 99,RF 114 5 113,g0 1 false 114 112] [1,7] (m2 [RM 115 1,RM 116 1,RK 117 116,RF 118 4 117,RL 119 118,RM 120 7,RM 121 7,dI 122 .add 121 (ki 1),f6 123 x4 [119,120,122],RK 124 115,RF 125 4 124,g0 1 false 125 123] []))) .skip)))))))))
def avH:List aW:=[]
theorem awF:aO Tryz.prog Tryz.f77 (bnD auM)=some (auM,avH):=by kernel_rfl
theorem awG:aN Tryz.prog auD Tryz.f77 auM avH:=aN.mk Tryz.func77 (by kernel_rfl) awF
def zQ:AC:= (boG [dO 2 boD] [0] (.seq (boG [RM 5 0,f1 6 5,dO 7 (ki 0)] [0,5,6,7] (.block 0 (.loop (boG [dI 8 .lss 7 6] [0,5,6,7,8] (.seq (.cond 8 .skip (.exit 0)) (.seq (.block 1 (boG [RM 9 7,e0 10 4 5 7,f8 11 4 10,f7 4 [VZ,VZ,VZ,(.v (.bool false))],RM 3 9,g0 4 true 4 11] [0,3,4,5,6,7] (boG [RF 12 0 4,RL 13 12,f6 14 cQ [13,(ki 0),(ki 63)],f4 15 14,RM 16 15,g9 17 1 4 16 false,hD 18 17 16 false,g9 19 0 4 16 false,hD 20 19 16 false,GQ 21 (.call cQ [18,20,(ki 63)]) 16 false,hP 22 21 16 false,f3 23 16 boE 22,RM 24 23,g9 25 2 4 24 false,hD 26 25 24 false,GQ 27 (.call cQ [26,(ki 0),(ki 2)]) 24 false,hP 28 27 24 false,f3 29 24 boE 28,RM 30 29,hG 31 0 30 false,hG 32 3 30 false,GQ 33 (.slc 4 31 none (some 32) none) 30 false,GQ 34 (.xop (.zI rE) [4]) 30 false,GQ 35 (.call bX [33,34]) 30 false,f3 36 30 boE 35] [0,5,6,7,36] (.cond 36 (boG [dO 2 boD] [2] .ret) .skip)))) (m2 [dI 37 .add 7 (ki 1),RM 7 37] [0,5,6,7]))))))) (boG [RM 38 0,f1 39 38,dI 40 .leq 39 (ki 4),RM 2 40] [2] .ret)))
def I5:List aW:=[.tm 2]
theorem VT:aO Tryz.prog Tryz.f105 (bnD zQ)=some (zQ,I5):=by kernel_rfl
theorem VB:aN Tryz.prog wR Tryz.f105 zQ I5:=aN.mk Tryz.func105 (by kernel_rfl) VT
def zP:AC:= (boG [f5 1 0,dO 2 boD] [1] (boG [dO 3 (ki 0)] [1,3] (.seq (boG [f8 4 7 1,f6 5 eY [4]] [1,3,5] (.cond 5 (m2 [RF 6 3 1,RL 7 6,RM 3 7] [1,3]) .skip)) (boG [RF 8 0 1,RL 9 8,f6 10 cQ [9,(ki 0),(ki 1)],RM 11 10,g9 12 1 1 11 true,hD 13 12 11 true,GQ 14 (.call cQ [13,(ki 1),(ki 4)]) 11 true,f3 15 11 14 boD,RM 16 15,g9 17 2 1 16 true,hD 18 17 16 true,g9 19 3 1 16 true,hD 20 19 16 true,g9 21 4 1 16 true,hD 22 21 16 true,GQ 23 (.call nI [18,20,22]) 16 true,f3 24 16 23 boD,RM 25 24,g9 26 5 1 25 true,hD 27 26 25 true,GQ 28 (.len false 27) 25 true,hG 29 3 25 true,hO 30 .eql 28 29 25 true,f3 31 25 30 boD,RM 32 31,g9 33 6 1 32 true,hD 34 33 32 true,GQ 35 (.len false 34) 32 true,hG 36 3 32 true,hO 37 .eql 35 36 32 true,f3 38 32 37 boD,RM 39 38,g9 40 5 1 39 true,hD 41 40 39 true,GQ 42 (.call jB [41]) 39 true,f3 43 39 42 boD,RM 44 43,g9 45 6 1 44 true,hD 46 45 44 true,GQ 47 (.call bN [46,(.fn rT)]) 44 true,hP 48 47 44 true,f3 49 44 48 boD,RM 50 49,g9 51 1 1 50 true,hD 52 51 50 true,hO 53 .eql 52 (ki 1) 50 true,hG 54 53 50 true,g9 55 1 1 54 false,hD 56 55 54 false,hO 57 .eql 56 (ki 2) 54 false,GQ 58 (.pick 54 boE 57) 50 true,hG 59 58 50 true,g9 60 3 1 59 false,hD 61 60 59 false,hO 62 .eql 61 (ki 1) 59 false,GQ 63 (.pick 59 boE 62) 50 true,f3 64 50 63 boD,RM 2 64] [2] .ret))))
def I9:List aW:=[.tm 2]
theorem UO:aO Tryz.prog Tryz.f106 (bnD zP)=some (zP,I9):=by kernel_rfl
theorem VJ:aN Tryz.prog wD Tryz.f106 zP I9:=aN.mk Tryz.func106 (by kernel_rfl) UO
def z5:AC:= (boG [dO 6 boD] [0,1,2] (boG [RM 7 1,dI 8 .eql 7 (ki 1),RM 9 8,hG 10 1 9 false,hO 11 .eql 10 (ki 2) 9 false,f3 12 9 boE 11,RM 13 12,hG 14 1 13 false,hO 15 .eql 14 (ki 4) 13 false,f3 16 13 boE 15,RM 17 16,hG 18 0 17 true,GQ 19 (.call cQ [18,(ki 0),(ki 63)]) 17 true,f3 20 17 19 boD,RM 21 20,hG 22 2 21 true,hG 23 22 21 true,hG 24 0 23 false,hG 25 1 23 false,hO 26 .add 24 25 23 false,hO 27 .sub 26 (ki 1) 23 false,hO 28 .leq 27 (ki 63) 23 false,GQ 29 (.pick 23 boE 28) 21 true,f3 30 21 29 boD,RM 6 30] [6] .ret))
def IN:List aW:=[.tm 6]
theorem VH:aO Tryz.prog Tryz.f108 (bnD z5)=some (z5,IN):=by kernel_rfl
theorem VQ:aN Tryz.prog nI Tryz.f108 z5 IN:=aN.mk Tryz.func108 (by kernel_rfl) VH
def nP:AC:= (boG [f5 2 0,f5 3 1,dO 4 (ki 0)] [2,3] (.seq (.region [RF 5 0 2 0,RL 6 5 1,RF 7 0 3 2,RL 8 7 3,RF 10 1 2 5,g8 11 10 [10] [] true 6,RF 12 1 3 7,g8 13 12 [10] [] true 8,boF 9 (.call jC [6,8]) [] [6,8] false 4,f6 14 jC [11,13] 9,rq 15 (.bC 1 2 [VZ] [(0,1,9),(1,1,14)]) 10,f6 16 wC [15] 11,RM 4 16 12] 13 [4]) .ret))
def vV:List aW:=[.tm 4]
theorem HE:aO Tryz.prog Tryz.f131 (bnD nP)=some (nP,vV):=by kernel_rfl
theorem HI:aN Tryz.prog bJ Tryz.f131 nP vV:=aN.mk Tryz.func131 (by kernel_rfl) HE
def JX:AC:= (boG [dO 6 boD] [0,1,2] (boG [RM 7 0,RM 8 1,dI 9 .geq 7 8,RM 10 9,hG 11 0 10 true,hG 12 2 10 true,hO 13 .leq 11 12 10 true,f3 14 10 13 boD,RM 6 14] [6] .ret))
def SP:List aW:=[.tm 6]
theorem acJ:aO Tryz.prog Tryz.f138 (bnD JX)=some (JX,SP):=by kernel_rfl
theorem ae0:aN Tryz.prog cQ Tryz.f138 JX SP:=aN.mk Tryz.func138 (by kernel_rfl) acJ
def aBW:AC:= (boG [dO 6 boD] [0,1,2] (boG [RM 7 0,RM 8 1,dI 9 .geq 7 8,RM 10 9,hG 11 0 10 true,hG 12 2 10 true,hO 13 .leq 11 12 10 true,f3 14 10 13 boD,RM 6 14] [6] .ret))
def aCD:List aW:=[.tm 6]
theorem aD3:aO Tryz.prog Tryz.f149 (bnD aBW)=some (aBW,aCD):=by kernel_rfl
theorem aD6:aN Tryz.prog y2 Tryz.f149 aBW aCD:=aN.mk Tryz.func149 (by kernel_rfl) aD3
def aJR:AC:= (boG [dO 6 (ki 0)] [0,1,2] (.seq (boG [dO 7 (ki 0)] [0,1,2,7] (.block 0 (.loop (.seq (boG [RM 8 7,RM 9 0,f1 10 9,dI 11 .lss 8 10] [0,1,2,7,11] (.cond 11 .skip (.exit 0))) (.seq (.block 1 (boG [RM 14 0,RM 15 7,e0 16 5 14 15,RF 17 0 16,RL 18 17,RM 19 1,dI 20 .eql 18 19,RM 21 20,hG 22 0 21 true,hG 23 7 21 true,j0 24 5 22 23 21 true,g9 25 1 24 21 true,hD 26 25 21 true,hG 27 2 21 true,hO 28 .eql 26 27 21 true,f3 29 21 28 boD] [0,1,2,7,29] (.cond 29 (boG [RM 30 7,RM 6 30] [6] .ret) .skip))) (m2 [RM 12 7,dI 13 .add 12 (ki 1),RM 7 13] [0,1,2,7])))))) (boG [rq 6 (.move (.kv (.int .i64 (-1))))] [6] .ret)))
def aKI:List aW:=[.tm 6]
theorem aMV:aO Tryz.prog Tryz.f152 (bnD aJR)=some (aJR,aKI):=by kernel_rfl
theorem aM1:aN Tryz.prog aIN Tryz.f152 aJR aKI:=aN.mk Tryz.func152 (by kernel_rfl) aMV
def aN3:AC:= (boG [f5 3 1,dO 4 (.kv (.slice none 0 0))] [0,3] (boG [rq 8 (.bC 5 0 [VZ,VZ,VZ,VZ,OZ] []),RM 5 8] [0,3,5] (boG [dO 6 boD] [0,3,5,6] (.seq (boG [dO 7 (ki 0)] [0,3,5,6,7] (.block 0 (.loop (.seq (boG [RM 9 7,RM 10 0,f1 11 10,dI 12 .lss 9 11] [0,3,5,6,7,12] (.cond 12 .skip (.exit 0))) (.seq (.block 1 (.seq (boG [RM 15 6,f4 16 15,RM 17 16,GQ 18 (.load 5 true 3) 17 true,hG 19 0 17 true,hG 20 7 17 true,j0 21 5 19 20 17 true,GQ 22 (.load 5 true 21) 17 true,GQ 23 (.call aKL [18,22]) 17 true,f3 24 17 23 boD] [0,3,5,6,7,24] (.cond 24 (boG [RM 25 5,f8 26 5 3,rq 27 (.bC 5 1 [VZ,VZ,VZ,VZ,OZ] [(0,5,26)]),rq 28 (.append 5 25 27),RM 5 28] [0,3,5,7] (m2 [dO 6 boE] [0,3,5,6,7])) .skip)) (m2 [RM 29 5,RM 30 0,RM 31 7,e0 32 5 30 31,f8 33 5 32,rq 34 (.bC 5 1 [VZ,VZ,VZ,VZ,OZ] [(0,5,33)]),rq 35 (.append 5 29 34),RM 5 35] [0,3,5,6,7]))) (m2 [RM 13 7,dI 14 .add 13 (ki 1),RM 7 14] [0,3,5,6,7])))))) (.seq (boG [RM 36 6,f4 37 36] [3,5,37] (.cond 37 (m2 [RM 38 5,f8 39 5 3,rq 40 (.bC 5 1 [VZ,VZ,VZ,VZ,OZ] [(0,5,39)]),rq 41 (.append 5 38 40),RM 5 41] [5]) .skip)) (boG [RM 42 5,RM 4 42] [4] .ret))))))
def aO7:List aW:=[.tm 4]
theorem aSI:aO Tryz.prog Tryz.f153 (bnD aN3)=some (aN3,aO7):=by kernel_rfl
theorem aSO:aN Tryz.prog aJS Tryz.f153 aN3 aO7:=aN.mk Tryz.func153 (by kernel_rfl) aSI
def aNK:AC:= (boG [f5 4 0,dO 8 boD] [1,2,3,4] (.seq (boG [dO 9 (ki 0)] [1,2,3,4,9] (.block 0 (.loop (.seq (boG [RM 11 9,RM 12 1,f1 13 12,dI 14 .lss 11 13] [1,2,3,4,9,14] (.cond 14 .skip (.exit 0))) (.seq (.block 1 (boG [RM 17 1,RM 18 9,e0 19 5 17 18,f8 20 5 19,f7 10 [VZ,VZ,VZ,VZ,OZ],g0 5 true 10 20] [1,2,3,4,9,10] (boG [RF 21 0 10,RL 22 21,RM 23 2,dI 24 .eql 22 23,RM 25 24,g9 26 1 10 25 true,hD 27 26 25 true,hG 28 3 25 true,hO 29 .lss 27 28 25 true,f3 30 25 29 boD,RM 31 30,g9 32 2 4 31 true,hD 33 32 31 true,hG 34 2 31 true,j0 35 1 33 34 31 true,hD 36 35 31 true,g9 37 1 10 31 true,hD 38 37 31 true,j0 39 7 36 38 31 true,g9 40 0 39 31 true,hD 41 40 31 true,g9 42 2 4 31 true,hD 43 42 31 true,hG 44 2 31 true,j0 45 1 43 44 31 true,hD 46 45 31 true,hG 47 3 31 true,j0 48 7 46 47 31 true,g9 49 0 48 31 true,hD 50 49 31 true,hO 51 .eql 41 50 31 true,f3 52 31 51 boD] [1,2,3,4,9,52] (.cond 52 (boG [dO 8 boD] [8] .ret) .skip)))) (m2 [RM 15 9,dI 16 .add 15 (ki 1),RM 9 16] [1,2,3,4,9])))))) (boG [dO 8 boE] [8] .ret)))
def aOG:List aW:=[.tm 8]
theorem aP7:aO Tryz.prog Tryz.f154 (bnD aNK)=some (aNK,aOG):=by kernel_rfl
theorem aP9:aN Tryz.prog b8 Tryz.f154 aNK aOG:=aN.mk Tryz.func154 (by kernel_rfl) aP7
def aOF:AC:= (boG [f5 5 1,f5 7 3,f7 8 [OZ,OZ],f7 9 [VZ,VZ,OZ]] [0,2,5,7,8,9] (boG [RF 14 2 7,RL 15 14,RF 16 3 7,RL 17 16,RF 18 4 7,RL 19 18,f6 20 aAY [15,17,19],RM 10 20] [0,2,5,7,8,9,10] (boG [RM 21 0,RM 22 10,f6 23 aA4 [21,22],RM 11 23] [0,2,5,7,8,9,10,11] (boG [RF 24 0 7,RL 25 24,rq 26 (.build [VZ,VZ,OZ] [(0,1,25),(1,1,(ki 1))]),f7 12 [VZ,VZ,OZ],g0 3 true 12 26] [0,2,5,7,8,9,10,11,12] (.seq (boG [RM 27 11,dI 28 .lss 27 (ki 0)] [0,2,5,7,8,9,10,11,12,28] (.cond 28 (boG [RF 29 1 12,g0 1 false 29 (ki 4)] [5,8,9,12] (boG [f8 30 2 5,boF 31 (.load 3 true 12) [] [] true,dA none (.store 2 true 8 30) none [] [1] false,g0 3 true 9 31] [8,9] .ret)) .skip)) (.seq (boG [f8 32 7 7,f6 33 aAZ [32],RM 34 33,hG 35 0 34 true,hG 36 11 34 true,j0 37 4 35 36 34 true,g9 38 3 37 34 true,hD 39 38 34 true,f3 40 34 39 boD] [2,5,7,8,9,10,12,40] (.cond 40 (boG [RF 41 1 12,g0 1 false 41 (ki 3)] [5,8,9,12] (boG [f8 42 2 5,boF 43 (.load 3 true 12) [] [] true,dA none (.store 2 true 8 42) none [] [1] false,g0 3 true 9 43] [8,9] .ret)) .skip)) (boG [RM 44 2,dI 45 .mul 44 (ki 2),RF 46 0 7,RL 47 46,dI 48 .add 45 47,RM 13 48] [5,7,8,9,10,12,13] (.seq (boG [RF 49 1 7,RL 50 49] [5,7,8,9,10,12,13,50] (.block 0 (boG [dI 64 .eql 50 (ki 1),RM 63 64] [5,7,8,9,10,12,13,50,63] (.cond 63 (m2 [RF 65 0 5,f8 66 1 65,RM 67 10,f6 68 W3 [66,67],RF 69 2 12,g0 1 false 69 68] [5,8,9,12]) (boG [dI 71 .eql 50 (ki 3),RM 70 71] [5,7,8,9,10,12,13,50,70] (.cond 70 (boG [RF 72 0 5,f8 73 1 72,RM 74 10,f6 75 W3 [73,74],RF 76 2 12,g0 1 false 76 75] [5,7,8,9,12,13] (boG [RF 77 1 12,g0 1 false 77 (ki 2)] [5,7,8,9,12,13] (m2 [RF 78 1 5,RL 79 78,RM 80 13,RF 81 2 7,RL 82 81,e0 83 1 79 80,g0 1 false 83 82] [5,8,9,12]))) (boG [dI 85 .eql 50 (ki 4),RM 84 85] [5,7,8,9,10,12,13,84] (.cond 84 (.seq (boG [RF 86 1 5,RL 87 86,RM 88 13,e0 89 1 87 88,RL 90 89,RF 91 2 7,RL 92 91,dI 93 .neq 90 92] [5,7,8,9,10,12,93] (.cond 93 (boG [f8 94 2 5,boF 95 (.load 3 true 12) [] [] true,dA none (.store 2 true 8 94) none [] [1] false,g0 3 true 9 95] [8,9] .ret) .skip)) (boG [RF 96 1 12,g0 1 false 96 (ki 2)] [5,7,8,9,10,12] (boG [RF 97 0 5,f8 98 1 97,RM 99 10,RF 100 5 7,RL 101 100,RF 102 6 7,RL 103 102,f6 104 H5 [98,99,101,103],RF 105 0 5,g0 1 true 105 104] [5,8,9,10,12] (m2 [f8 106 2 5,RM 107 10,f6 108 v9 [106,107],g0 2 true 5 108] [5,8,9,12])))) (boG [RF 51 0 5,f8 52 1 51,RM 53 10,RF 54 5 7,RL 55 54,RF 56 6 7,RL 57 56,f6 58 H5 [52,53,55,57],RF 59 0 5,g0 1 true 59 58] [5,8,9,10,12] (m2 [f8 60 2 5,RM 61 10,f6 62 v9 [60,61],g0 2 true 5 62] [5,8,9,12])))))))))) (boG [f8 109 2 5,boF 110 (.load 3 true 12) [] [] true,dA none (.store 2 true 8 109) none [] [1] false,g0 3 true 9 110] [8,9] .ret)))))))))
def aPI:List aW:=[.cell 8 2 true,.cell 9 3 true]
theorem aS3:aO Tryz.prog Tryz.f155 (bnD aOF)=some (aOF,aPI):=by kernel_rfl
theorem aSX:aN Tryz.prog aN2 Tryz.f155 aOF aPI:=aN.mk Tryz.func155 (by kernel_rfl) aS3
def aN5:AC:= (boG [dO 4 (.kv (.slice none 0 0))] [0,1] (boG [rq 7 (.bC 5 0 [VZ,VZ,VZ,VZ,OZ] []),RM 5 7] [0,1,5] (.seq (boG [dO 6 (ki 0)] [0,1,5,6] (.block 0 (.loop (.seq (boG [RM 8 6,RM 9 0,f1 10 9,dI 11 .lss 8 10] [0,1,5,6,11] (.cond 11 .skip (.exit 0))) (.seq (.block 1 (boG [RM 14 6,RM 15 1,dI 16 .neq 14 15] [0,1,5,6,16] (.cond 16 (m2 [RM 17 5,RM 18 0,RM 19 6,e0 20 5 18 19,f8 21 5 20,rq 22 (.bC 5 1 [VZ,VZ,VZ,VZ,OZ] [(0,5,21)]),rq 23 (.append 5 17 22),RM 5 23] [0,1,5,6]) .skip))) (m2 [RM 12 6,dI 13 .add 12 (ki 1),RM 6 13] [0,1,5,6])))))) (boG [RM 24 5,RM 4 24] [4] .ret))))
def aO2:List aW:=[.tm 4]
theorem aR0:aO Tryz.prog Tryz.f156 (bnD aN5)=some (aN5,aO2):=by kernel_rfl
theorem aRY:aN Tryz.prog gR Tryz.f156 aN5 aO2:=aN.mk Tryz.func156 (by kernel_rfl) aR0
def aJH:AC:= (boG [f5 1 0,f7 2 [OZ,OZ]] [1,2] (.seq (.region [RF 3 0 1 0,boF 4 (.load 1 true 3) [3] [] false 1,rq 6 (.bC 1 0 [VZ] []) 3,RF 7 1 1 4,g8 8 7 [3] [] true 5,boF 5 (.call aIW [4]) [3] [5] false 2,rq 9 (.append 1 6 8) 6,rq 10 (.build [OZ,OZ] [(0,1,5),(1,1,9)]) 7,g0 2 true 2 10 8] 9 [2]) .ret))
def aJ4:List aW:=[.cell 2 2 true]
theorem aLG:aO Tryz.prog Tryz.f157 (bnD aJH)=some (aJH,aJ4):=by kernel_rfl
theorem aKW:aN Tryz.prog aIR Tryz.f157 aJH aJ4:=aN.mk Tryz.func157 (by kernel_rfl) aLG
def aJF:AC:= (boG [dO 2 (.kv (.slice none 0 0))] [0] (boG [rq 5 (.bC 5 0 [VZ,VZ,VZ,VZ,OZ] []),RM 3 5] [0,3] (.seq (boG [dO 4 (ki 0)] [0,3,4] (.block 0 (.loop (.seq (boG [RM 6 4,RM 7 0,f1 8 7,dI 9 .lss 6 8] [0,3,4,9] (.cond 9 .skip (.exit 0))) (.seq (.block 1 (m2 [RM 12 3,RM 13 0,RM 14 4,e0 15 5 13 14,RF 16 0 15,g8 17 16 [18] [] true,RM 18 0,RM 19 4,e0 20 5 18 19,RF 21 1 20,g8 22 21 [18] [] true,RM 23 0,RM 24 4,e0 25 5 23 24,RF 26 2 25,f8 27 3 26,boF 28 (.call aI8 [27]) [] [5,10] false,rq 29 (.build [VZ,VZ,VZ,VZ,OZ] [(0,1,17),(1,1,22),(2,3,28)]),rq 30 (.bC 5 1 [VZ,VZ,VZ,VZ,OZ] [(0,5,29)]),rq 31 (.append 5 12 30),RM 3 31] [0,3,4])) (m2 [RM 10 4,dI 11 .add 10 (ki 1),RM 4 11] [0,3,4])))))) (boG [RM 32 3,RM 2 32] [2] .ret))))
def aJZ:List aW:=[.tm 2]
theorem aLH:aO Tryz.prog Tryz.f158 (bnD aJF)=some (aJF,aJZ):=by kernel_rfl
theorem aLL:aN Tryz.prog aIM Tryz.f158 aJF aJZ:=aN.mk Tryz.func158 (by kernel_rfl) aLH
def z4:AC:= (boG [f5 1 0,dO 2 boD] [1] (boG [RF 3 0 1,RL 4 3,f6 5 wR [4],RM 6 5,g9 7 1 1 6 true,hD 8 7 6 true,GQ 9 (.len false 8) 6 true,hO 10 .eql 9 (ki 4) 6 true,f3 11 6 10 boD,RM 12 11,g9 13 1 1 12 true,hD 14 13 12 true,GQ 15 (.call bN [14,(.fn qK)]) 12 true,hP 16 15 12 true,f3 17 12 16 boD,RM 18 17,g9 19 2 1 18 true,hD 20 19 18 true,GQ 21 (.len false 20) 18 true,hO 22 .eql 21 (ki 3) 18 true,f3 23 18 22 boD,RM 24 23,g9 25 2 1 24 true,hD 26 25 24 true,GQ 27 (.call cF [26,(.fn rR)]) 24 true,hP 28 27 24 true,f3 29 24 28 boD,RM 2 29] [2] .ret))
def H7:List aW:=[.tm 2]
theorem T6:aO Tryz.prog Tryz.f163 (bnD z4)=some (z4,H7):=by kernel_rfl
theorem T9:aN Tryz.prog wF Tryz.f163 z4 H7:=aN.mk Tryz.func163 (by kernel_rfl) T6
def mC:AC:= (boG [f5 2 0,f5 3 1,dO 4 boD] [2,3] (.seq (boG [RF 13 0 3,f8 14 2 13,f6 15 rG [14],f4 16 15,RM 17 16,g9 18 2 3 17 false,hD 19 18 17 false,GQ 20 (.len false 19) 17 false,hO 21 .neq 20 (ki 3) 17 false,f3 22 17 boE 21,RM 23 22,g9 24 3 3 23 false,hD 25 24 23 false,GQ 26 (.call oI [25]) 23 false,hP 27 26 23 false,f3 28 23 boE 27,RM 29 28,g9 30 4 3 29 false,hD 31 30 29 false,GQ 32 (.call oI [31]) 29 false,hP 33 32 29 false,f3 34 29 boE 33] [2,3,34] (.cond 34 (boG [dO 4 boD] [4] .ret) .skip)) (boG [dO 5 (ki 0)] [2,3,5] (.seq (boG [RF 35 2 3,RL 36 35,f1 37 36,dO 38 (ki 0)] [2,3,5,36,37,38] (.block 0 (.loop (boG [dI 39 .lss 38 37] [2,3,5,36,37,38,39] (.seq (.cond 39 .skip (.exit 0)) (.seq (.block 1 (boG [RM 40 38,e0 41 1 36 38,RL 42 41,RM 6 40,RM 7 42] [2,3,5,6,7,36,37,38] (.seq (boG [RM 43 7,RF 44 2 2,RL 45 44,RM 46 6,e0 47 1 45 46,RL 48 47,f1 49 48,f6 50 cQ [43,(ki 0),49],f4 51 50] [2,3,5,7,36,37,38,51] (.cond 51 (boG [dO 4 boD] [4] .ret) .skip)) (m2 [RM 52 5,RM 53 7,dI 54 .add 52 53,RM 5 54] [2,3,5,36,37,38])))) (m2 [dI 55 .add 38 (ki 1),RM 38 55] [2,3,5,36,37,38]))))))) (boG [rq 56 (.xop (.DS 2 true) []),RM 8 56] [2,3,5,8] (.seq (boG [RF 57 3 3,RL 58 57,RF 59 4 3,RL 60 59,RF 61 5 3,RL 62 61,rq 63 (.bC 1 3 [OZ] [(0,1,58),(1,1,60),(2,1,62)]),f1 64 63,dO 65 (ki 0)] [2,3,5,8,63,64,65] (.block 2 (.loop (boG [dI 66 .lss 65 64] [2,3,5,8,63,64,65,66] (.seq (.cond 66 .skip (.exit 2)) (.seq (.block 3 (boG [RM 67 65,e0 68 1 63 65,RL 69 68,RM 9 67,RM 10 69] [2,3,5,8,9,10,63,64,65] (boG [RM 70 10,f1 71 70,dO 72 (ki 0)] [2,3,5,8,9,63,64,65,70,71,72] (.block 4 (.loop (boG [dI 73 .lss 72 71] [2,3,5,8,9,63,64,65,70,71,72,73] (.seq (.cond 73 .skip (.exit 4)) (.seq (.block 5 (boG [e0 74 5 70 72,f8 75 5 74,f7 12 [VZ,VZ,VZ,VZ,OZ],g0 5 true 12 75] [2,3,5,8,9,12,63,64,65,70,71,72] (.seq (boG [RF 76 0 12,RL 77 76,f6 78 jA [77],f4 79 78,RM 80 79,g9 81 1 12 80 false,hD 82 81 80 false,g9 83 2 3 80 false,hD 84 83 80 false,g9 85 0 12 80 false,hD 86 85 80 false,j0 87 1 84 86 80 false,hD 88 87 80 false,hO 89 .sub 88 (ki 1) 80 false,GQ 90 (.call cQ [82,(ki 0),89]) 80 false,hP 91 90 80 false,f3 92 80 boE 91,RM 93 92,hG 94 8 93 false,g9 95 0 12 93 false,hD 96 95 93 false,g9 97 1 12 93 false,hD 98 97 93 false,GQ 99 (.build [VZ,VZ] [(0,1,96),(1,1,98)]) 93 false,GQ 100 (.xop (.rA 2 true false) [94,99]) 93 false,f3 101 93 boE 100] [2,3,5,8,9,12,63,64,65,70,71,72,101] (.cond 101 (boG [dO 4 boD] [4] .ret) .skip)) (boG [RM 102 8,RF 103 0 12,RL 104 103,RF 105 1 12,RL 106 105,rq 107 (.build [VZ,VZ] [(0,1,104),(1,1,106)]),rn (.xop (.vM 2 true) [102,107,boE])] [2,3,5,8,9,12,63,64,65,70,71,72] (boG [RM 108 9,dI 109 .eql 108 (ki 0),RM 110 109,g9 111 2 12 110 true,GQ 112 (.load 3 true 111) 110 true,GQ 113 (.call iT [112]) 110 true,hP 114 113 110 true,f3 115 110 114 boD,RM 116 115,hG 117 9 116 false,hO 118 .gtr 117 (ki 0) 116 false,hG 119 118 116 false,g9 120 2 12 119 true,GQ 121 (.load 3 true 120) 119 true,GQ 122 (.call m6 [121]) 119 true,hP 123 122 119 true,hG 124 123 119 true,g9 125 2 12 124 false,g9 126 0 125 124 false,dA (some 127) (.load 1 false 126) (some (124,false)) [] [] true,GQ 128 (.load 3 true 2) 124 false,g9 129 0 12 124 false,hD 130 129 124 false,g9 131 1 12 124 false,hD 132 131 124 false,dA (some 133) (.call fB [128,130,132]) (some (124,false)) [] [19] false,hO 134 .neq 127 133 124 false,GQ 135 (.pick 124 boE 134) 119 true,GQ 136 (.pick 119 135 boD) 116 false,f3 137 116 boE 136] [2,3,5,8,9,63,64,65,70,71,72,137] (.cond 137 (boG [dO 4 boD] [4] .ret) .skip)))))) (m2 [dI 138 .add 72 (ki 1),RM 72 138] [2,3,5,8,9,63,64,65,70,71,72]))))))))) (m2 [dI 139 .add 65 (ki 1),RM 65 139] [2,3,5,8,63,64,65]))))))) (boG [RM 140 8,rq 141 (.xop .sS [140]),RM 142 5,dI 143 .eql 141 142,RM 4 143] [4] .ret)))))))
def uT:List aW:=[.tm 4]
theorem FR:aO Tryz.prog Tryz.f164 (bnD mC)=some (mC,uT):=by kernel_rfl
theorem GV:aN Tryz.prog j9 Tryz.f164 mC uT:=aN.mk Tryz.func164 (by kernel_rfl) FR
def kI:AC:= (boG [f5 1 0,f7 2 [OZ,OZ]] [1,2] (.seq (.region [RF 3 0 1 0,RF 4 0 3 1,RL 5 4 2,RF 8 1 1 5,g8 9 8 [] [] true 6,boF 6 (.call eX [5]) [] [6] false 3,rq 7 (.build [OZ] [(0,1,6)]) 4,f6 10 eX [9] 7,rq 11 (.build [OZ,OZ] [(0,1,7),(1,1,10)]) 8,g0 2 true 2 11 9] 10 [2]) .ret))
def pS:List aW:=[.cell 2 2 true]
theorem BE:aO Tryz.prog Tryz.f165 (bnD kI)=some (kI,pS):=by kernel_rfl
theorem A9:aN Tryz.prog fL Tryz.f165 kI pS:=aN.mk Tryz.func165 (by kernel_rfl) BE
def rI:AC:= (boG [dO 2 (.kv (.slice none 0 0))] [0] (boG [RM 3 0,f6 4 gO [3],f6 5 iD [4],RM 2 5] [2] .ret))
def zA:List aW:=[.tm 2]
theorem KH:aO Tryz.prog Tryz.f166 (bnD rI)=some (rI,zA):=by kernel_rfl
theorem LI:aN Tryz.prog eX Tryz.f166 rI zA:=aN.mk Tryz.func166 (by kernel_rfl) KH
def tD:AC:= (boG [dO 2 (.kv (.slice none 0 0))] [0] (boG [RM 6 0,f6 7 gG [6],RM 3 7] [3] (.seq (boG [RM 8 3,f1 9 8,dO 10 (ki 0)] [3,8,9,10] (.block 0 (.loop (boG [dI 11 .lss 10 9] [3,8,9,10,11] (.seq (.cond 11 .skip (.exit 0)) (.seq (.block 1 (boG [RM 12 10,e0 13 5 8 10,f8 14 5 13,f7 5 [VZ,VZ,VZ,VZ,OZ],RM 4 12,g0 5 true 5 14] [3,4,5,8,9,10] (m2 [RM 15 3,RM 16 4,RF 17 2 5,RF 18 2 17,RL 19 18,f6 20 eX [19],e0 21 5 15 16,RF 22 2 21,RF 23 2 22,g0 1 false 23 20] [3,8,9,10]))) (m2 [dI 24 .add 10 (ki 1),RM 10 24] [3,8,9,10]))))))) (boG [RM 25 3,RM 2 25] [2] .ret))))
def BL:List aW:=[.tm 2]
theorem MI:aO Tryz.prog Tryz.f167 (bnD tD)=some (tD,BL):=by kernel_rfl
theorem MD:aN Tryz.prog eO Tryz.f167 tD BL:=aN.mk Tryz.func167 (by kernel_rfl) MI
def auT:AC:= (boG [f5 3 0,dO 6 boD] [1,2,3] (boG [RM 7 1,f6 8 jA [7],RM 9 8,hG 10 2 9 true,g9 11 2 3 9 true,hD 12 11 9 true,hG 13 1 9 true,j0 14 1 12 13 9 true,hD 15 14 9 true,GQ 16 (.len false 15) 9 true,hO 17 .sub 16 (ki 1) 9 true,GQ 18 (.call cQ [10,(ki 0),17]) 9 true,f3 19 9 18 boD,RM 6 19] [6] .ret))
def avR:List aW:=[.tm 6]
theorem awT:aO Tryz.prog Tryz.f168 (bnD auT)=some (auT,avR):=by kernel_rfl
theorem awU:aN Tryz.prog at3 Tryz.f168 auT avR:=aN.mk Tryz.func168 (by kernel_rfl) awT
def av3:AC:= (boG [rq 4 (.box false 1),rq 5 (.box false 2),dO 6 (ki 0)] [0,4,5] (boG [RM 7 0,rq 8 (.xop (.zI avA) [4,5]),f6 9 hZ [7,8],RM 6 9] [6] .ret))
def aw1:List aW:=[.tm 6]
theorem ayJ:aO Tryz.prog Tryz.f169 (bnD av3)=some (av3,aw1):=by kernel_rfl
theorem ayD:aN Tryz.prog auK Tryz.f169 av3 aw1:=aN.mk Tryz.func169 (by kernel_rfl) ayJ
def auO:AC:= (boG [f5 3 0,f5 5 2,dO 6 boD] [1,3,5] (boG [RM 7 1,rq 8 (.xop (.zI at5) [5,3]),f6 9 wB [7,8],RM 6 9] [6] .ret))
def avN:List aW:=[.tm 6]
theorem awR:aO Tryz.prog Tryz.f170 (bnD auO)=some (auO,avN):=by kernel_rfl
theorem awL:aN Tryz.prog atY Tryz.f170 auO avN:=aN.mk Tryz.func170 (by kernel_rfl) awR
def avZ:AC:= (boG [f5 3 1,dO 4 (.kv (.slice none 0 0))] [0,3] (boG [RM 8 0,f8 9 5 3,f6 10 eR [8,9,(.fn bJ)],RM 7 10,rq 11 (.ext 7 0),rq 12 (.ext 7 1),RM 5 11,RM 6 12] [0,3,5] (boG [RM 13 0,RM 14 5,f8 15 5 3,rq 16 (.bC 5 1 [VZ,VZ,VZ,VZ,OZ] [(0,5,15)]),f6 17 atU [13,14,16],RM 4 17] [4] .ret)))
def awP:List aW:=[.tm 4]
theorem ax2:aO Tryz.prog Tryz.f171 (bnD avZ)=some (avZ,awP):=by kernel_rfl
theorem ax5:aN Tryz.prog auE Tryz.f171 avZ awP:=aN.mk Tryz.func171 (by kernel_rfl) ax2
def at0:AC:= (boG [dO 6 (.kv (.slice none 0 0))] [0,1,2] (boG [RM 8 0,RM 9 1,RM 10 2,RM 11 0,f1 12 11,rq 13 (.slc 5 8 (some 9) (some 10) (some 12))] [0,1,2] (.seq (boG [RM 14 1,RM 15 2,dI 16 .eql 14 15] [0,1,2,16] (.cond 16 (boG [RM 17 0,RM 6 17] [6] .ret) .skip)) (boG [RM 18 0,f1 19 18,RM 7 19] [0,1,2,7] (boG [RM 20 0,RM 21 1,rq 22 (.slc 5 20 none (some 21) none),RM 23 0,RM 24 2,rq 25 (.slc 5 23 (some 24) none none),rq 26 (.append 5 22 25),RM 0 26] [0,7] (boG [RM 27 0,RM 28 0,f1 29 28,RM 30 7,rq 31 (.slc 5 27 (some 29) (some 30) none),rn (.xop (.clear 5 [VZ,VZ,VZ,VZ,OZ]) [31])] [0] (boG [RM 32 0,RM 6 32] [6] .ret)))))))
def auG:List aW:=[.tm 6]
theorem avG:aO Tryz.prog Tryz.f172 (bnD at0)=some (at0,auG):=by kernel_rfl
theorem avF:aN Tryz.prog x4 Tryz.f172 at0 auG:=aN.mk Tryz.func172 (by kernel_rfl) avG
def nS:AC:= (boG [f5 7 3,f7 8 [VZ,VZ,OZ]] [0,1,2,7,8] (boG [RM 19 1,f8 20 7 7,f6 21 mZ [19,20],RM 9 21] [0,1,2,7,8,9] (boG [RF 22 0 7,RL 23 22,rq 24 (.build [VZ,VZ,OZ] [(0,1,23),(1,1,(ki 1))]),f7 10 [VZ,VZ,OZ],g0 3 true 10 24] [0,1,2,7,8,9,10] (boG [RM 25 0,RK 26 25,RF 27 1 26,RL 28 27,RM 29 2,dI 30 .mul 29 (ki 2),RF 31 0 7,RL 32 31,dI 33 .add 30 32,e0 34 1 28 33,RM 11 34] [0,1,7,8,9,10,11] (.seq (.block 0 (boG [RM 36 9,dI 37 .lss 36 (ki 0),RM 35 37] [0,1,7,8,9,10,11,35] (.cond 35 (boG [RF 38 1 10,g0 1 false 38 (ki 4)] [8,10] (boG [f8 39 3 10,g0 3 true 8 39] [8] .ret)) (boG [f8 41 7 7,f6 42 eY [41],RM 43 42,hG 44 1 43 true,hG 45 9 43 true,j0 46 4 44 45 43 true,g9 47 3 46 43 true,hD 48 47 43 true,f3 49 43 48 boD,RM 40 49] [0,7,8,10,11,40] (.cond 40 (boG [RF 50 1 10,g0 1 false 50 (ki 3)] [8,10] (boG [f8 51 3 10,g0 3 true 8 51] [8] .ret)) (boG [RF 53 1 7,RL 54 53,dI 55 .eql 54 (ki 4),RM 56 55,hG 57 11 56 true,GQ 58 (.tF 57) 56 true,hD 59 58 56 true,g9 60 2 7 56 true,hD 61 60 56 true,hO 62 .neq 59 61 56 true,f3 63 56 62 boD,RM 52 63] [0,7,8,10,11,52] (.cond 52 (boG [f8 64 3 10,g0 3 true 8 64] [8] .ret) .skip))))))) (boG [f8 65 7 7,f6 66 fP [65],RM 12 66] [0,7,8,10,11,12] (.seq (boG [f8 67 7 7,f6 68 eY [67],f4 69 68] [0,7,8,10,11,12,69] (.cond 69 (boG [RM 70 12,f1 71 70,rq 72 (.kY 1 [VZ] 71 71),RF 73 2 10,g0 1 false 73 72] [0,7,8,10,11,12] (.seq (boG [RM 74 12,f1 75 74,dO 76 (ki 0)] [0,7,8,10,11,74,75,76] (.block 1 (.loop (boG [dI 77 .lss 76 75] [0,7,8,10,11,74,75,76,77] (.seq (.cond 77 .skip (.exit 1)) (.seq (.block 2 (boG [RM 78 76,e0 79 1 74 76,RL 80 79,RM 13 78,RM 14 80] [0,7,8,10,11,13,14,74,75,76] (m2 [RF 81 2 10,RL 82 81,RM 83 13,RM 84 0,RK 85 84,RF 86 0 85,RF 87 0 86,RL 88 87,RM 89 14,e0 90 1 88 89,RL 91 90,e0 92 1 82 83,g0 1 false 92 91] [0,7,8,10,11,74,75,76]))) (m2 [dI 93 .add 76 (ki 1),RM 76 93] [0,7,8,10,11,74,75,76]))))))) (.seq (boG [RF 94 1 7,RL 95 94,dI 96 .eql 95 (ki 3)] [7,8,10,11,96] (.cond 96 (boG [RF 97 1 10,g0 1 false 97 (ki 2)] [7,8,10,11] (m2 [RM 98 11,RF 99 2 7,RL 100 99,RK 101 98,g0 1 false 101 100] [8,10])) .skip)) (boG [f8 102 3 10,g0 3 true 8 102] [8] .ret)))) .skip)) (.seq (boG [RF 103 1 7,RL 104 103,dI 105 .eql 104 (ki 4)] [0,7,8,10,12,105] (.cond 105 (m2 [RF 106 1 10,g0 1 false 106 (ki 2)] [0,7,8,10,12]) .skip)) (.seq (boG [RM 107 12,f1 108 107,dO 109 (ki 0)] [0,7,8,10,12,107,108,109] (.block 3 (.loop (boG [dI 110 .lss 109 108] [0,7,8,10,12,107,108,109,110] (.seq (.cond 110 .skip (.exit 3)) (.seq (.block 4 (boG [RM 111 109,e0 112 1 107 109,RL 113 112,RM 15 111,RM 16 113] [0,7,8,10,12,15,16,107,108,109] (m2 [RM 114 0,RK 115 114,RF 116 0 115,RF 117 0 116,g8 118 117 [] [] true,RM 119 16,RM 120 0,RK 121 120,RF 122 0 121,RF 123 0 122,RL 124 123,RM 125 16,e0 126 1 124 125,RL 127 126,RF 128 5 7,RL 129 128,RM 130 15,e0 131 1 129 130,RL 132 131,RF 133 6 7,RL 134 133,RM 135 15,e0 136 1 134 135,RL 137 136,boF 138 (.call DA [127,132,137]) [] [4] false,e0 139 1 118 119,g0 1 false 139 138] [0,7,8,10,12,107,108,109]))) (m2 [dI 140 .add 109 (ki 1),RM 109 140] [0,7,8,10,12,107,108,109]))))))) (.seq (boG [RM 141 0,RK 142 141,RF 143 1 142,RL 144 143,f1 145 144,dO 146 (ki 0)] [0,8,10,12,144,145,146] (.block 5 (.loop (boG [dI 147 .lss 146 145] [0,8,10,12,144,145,146,147] (.seq (.cond 147 .skip (.exit 5)) (.seq (.block 6 (boG [RM 148 146,e0 149 1 144 146,RL 150 149,RM 17 148,RM 18 150] [0,8,10,12,17,18,144,145,146] (boG [RM 151 12,RM 152 18,f6 153 fK [151,152]] [0,8,10,12,17,144,145,146,153] (.cond 153 (m2 [RM 154 0,RK 155 154,RF 156 1 155,RL 157 156,RM 158 17,e0 159 1 157 158,rn (.store 1 false 159 (.kv (.int .i64 (-1))))] [0,8,10,12,144,145,146]) .skip)))) (m2 [dI 160 .add 146 (ki 1),RM 146 160] [0,8,10,12,144,145,146]))))))) (boG [f8 161 3 10,g0 3 true 8 161] [8] .ret)))))))))))
def vR:List aW:=[.cell 8 3 true]
theorem HL:aO Tryz.prog Tryz.f173 (bnD nS)=some (nS,vR):=by kernel_rfl
theorem avS:aN Tryz.prog pL Tryz.f173 nS vR:=aN.mk Tryz.func173 (by kernel_rfl) HL
def z3:AC:= (boG [f5 1 0,dO 2 boD] [1] (boG [RF 3 0 1,f8 4 1 3,f6 5 wP [4],RM 6 5,g9 7 1 1 6 true,hD 8 7 6 true,GQ 9 (.len false 8) 6 true,hO 10 .eql 9 (ki 6) 6 true,f3 11 6 10 boD,RM 12 11,g9 13 1 1 12 true,hD 14 13 12 true,GQ 15 (.call bN [14,(.fn rC)]) 12 true,hP 16 15 12 true,f3 17 12 16 boD,RM 2 17] [2] .ret))
def H9:List aW:=[.tm 2]
theorem U4:aO Tryz.prog Tryz.f181 (bnD z3)=some (z3,H9):=by kernel_rfl
theorem UK:aN Tryz.prog rG Tryz.f181 z3 H9:=aN.mk Tryz.func181 (by kernel_rfl) U4
def cY:AC:= (boG [dO 4 boD] [0,1] (boG [RM 5 0,RM 6 1,f6 7 bR [5,6],dI 8 .geq 7 (ki 0),RM 4 8] [4] .ret))
def fT:List aW:=[.tm 4]
theorem lH:aO Tryz.prog Tryz.f194 (bnD cY)=some (cY,fT):=by kernel_rfl
theorem lF:aN Tryz.prog bX Tryz.f194 cY fT:=aN.mk Tryz.func194 (by kernel_rfl) lH
def u3:AC:= (boG [f5 2 0,dO 3 boD] [1,2] (boG [RF 4 0 2,RL 5 4,RF 6 1 1,RL 7 6,dI 8 .leq 5 7,RM 9 8,g9 10 0 1 9 true,hD 11 10 9 true,g9 12 1 2 9 true,hD 13 12 9 true,hO 14 .leq 11 13 9 true,f3 15 9 14 boD,RM 3 15] [3] .ret))
def DO:List aW:=[.tm 3]
theorem OP:aO Tryz.prog Tryz.f195 (bnD u3)=some (u3,DO):=by kernel_rfl
theorem N2:aN Tryz.prog rE Tryz.f195 u3 DO:=aN.mk Tryz.func195 (by kernel_rfl) OP
def lM:AC:= (boG [f5 1 0,dO 2 boD] [1] (boG [RF 3 1 1,RL 4 3,dI 5 .eql 4 (ki 2),RM 6 5,g9 7 1 1 6 false,hD 8 7 6 false,hO 9 .eql 8 (ki 4) 6 false,f3 10 6 boE 9,RM 2 10] [2] .ret))
def sE:List aW:=[.tm 2]
theorem D4:aO Tryz.prog Tryz.f196 (bnD lM)=some (lM,sE):=by kernel_rfl
theorem EO:aN Tryz.prog eY Tryz.f196 lM sE:=aN.mk Tryz.func196 (by kernel_rfl) D4
def sO:AC:= (boG [dO 2 boD] [0] (boG [RM 3 0,f6 4 bN [3,(.fn lX)],f4 5 4,RM 2 5] [2] .ret))
def BP:List aW:=[.tm 2]
theorem L9:aO Tryz.prog Tryz.f197 (bnD sO)=some (sO,BP):=by kernel_rfl
theorem NB:aN Tryz.prog jB Tryz.f197 sO BP:=aN.mk Tryz.func197 (by kernel_rfl) L9
def fX:AC:= (boG [dO 4 boD] [0,1] (boG [RM 5 0,RM 6 1,f6 7 fF [5,6],dI 8 .geq 7 (ki 0),RM 4 8] [4] .ret))
def jY:List aW:=[.tm 4]
theorem rV:aO Tryz.prog Tryz.f198 (bnD fX)=some (fX,jY):=by kernel_rfl
theorem r8:aN Tryz.prog bN Tryz.f198 fX jY:=aN.mk Tryz.func198 (by kernel_rfl) rV
def vC:AC:= (boG [dO 2 boD] [0] (boG [RM 3 0,f6 4 cQ [3,(ki 0),(ki 3)],f4 5 4,RM 2 5] [2] .ret))
def D3:List aW:=[.tm 2]
theorem N5:aO Tryz.prog Tryz.f199 (bnD vC)=some (vC,D3):=by kernel_rfl
theorem ON:aN Tryz.prog rT Tryz.f199 vC D3:=aN.mk Tryz.func199 (by kernel_rfl) N5
def zZ:AC:= (boG [f5 3 1,dO 4 (ki 0)] [0,3] (boG [rq 5 (.move (.kv (.int .i64 (-1))))] [0,3,5] (.seq (boG [f8 9 7 3,f6 10 fP [9],f1 11 10,dO 12 (ki 0)] [0,5,10,11,12] (.block 0 (.loop (boG [dI 13 .lss 12 11] [0,5,10,11,12,13] (.seq (.cond 13 .skip (.exit 0)) (.seq (.block 1 (boG [RM 14 12,e0 15 1 10 12,RL 16 15,RM 6 14,RM 7 16] [0,5,6,7,10,11,12] (boG [RM 17 0,RM 18 7,f6 19 qX [17,18],RM 8 19] [0,5,6,8,10,11,12] (.seq (boG [RM 20 8,dI 21 .lss 20 (ki 0),RM 22 21,hG 23 6 22 false,hO 24 .gtr 23 (ki 0) 22 false,hG 25 24 22 false,hG 26 8 25 true,hG 27 5 25 true,hO 28 .neq 26 27 25 true,GQ 29 (.pick 25 28 boD) 22 false,f3 30 22 boE 29] [0,8,10,11,12,30] (.cond 30 (boG [rq 4 (.move (.kv (.int .i64 (-1))))] [4] .ret) .skip)) (m2 [RM 31 8,RM 5 31] [0,5,10,11,12]))))) (m2 [dI 32 .add 12 (ki 1),RM 12 32] [0,5,10,11,12]))))))) (boG [RM 33 5,RM 4 33] [4] .ret))))
def IE:List aW:=[.tm 4]
theorem VF:aO Tryz.prog Tryz.f200 (bnD zZ)=some (zZ,IE):=by kernel_rfl
theorem TU:aN Tryz.prog mZ Tryz.f200 zZ IE:=aN.mk Tryz.func200 (by kernel_rfl) VF
def z6:AC:= (boG [dO 2 (ki 0)] [0] (boG [dO 3 (ki 0)] [0,3] (.seq (boG [RM 6 0,f1 7 6,dO 8 (ki 0)] [3,6,7,8] (.block 0 (.loop (boG [dI 9 .lss 8 7] [3,6,7,8,9] (.seq (.cond 9 .skip (.exit 0)) (.seq (.block 1 (boG [e0 10 1 6 8,RL 11 10,RM 5 11] [3,5,6,7,8] (boG [RM 12 5,RM 13 3,dI 14 .neq 12 13] [3,5,6,7,8,14] (.cond 14 (boG [RM 15 5,RM 2 15] [2] .ret) .skip)))) (m2 [dI 16 .add 8 (ki 1),RM 8 16] [3,6,7,8]))))))) (boG [RM 17 3,RM 2 17] [2] .ret))))
def IP:List aW:=[.tm 2]
theorem UR:aO Tryz.prog Tryz.f215 (bnD z6)=some (z6,IP):=by kernel_rfl
theorem T8:aN Tryz.prog wC Tryz.f215 z6 IP:=aN.mk Tryz.func215 (by kernel_rfl) UR
def pI:AC:= (boG [dO 4 (ki 0)] [0,1] (boG [RM 7 0,f6 8 lG [7],RM 5 8] [0,1,5] (boG [RM 9 1,f6 10 lG [9],RM 6 10] [0,1,5,6] (.seq (boG [RM 11 5] [0,1,6,11] (.cond 11 (.seq (boG [RM 12 6] [12] (.cond 12 (boG [dO 4 (ki 0)] [4] .ret) .skip)) (boG [rq 4 (.move (.kv (.int .i64 (-1))))] [4] .ret)) .skip)) (.seq (boG [RM 13 6] [0,1,13] (.cond 13 (boG [dO 4 (ki 1)] [4] .ret) .skip)) (.seq (boG [RM 14 0,RM 15 1,dI 16 .lss 14 15] [0,1,16] (.cond 16 (boG [rq 4 (.move (.kv (.int .i64 (-1))))] [4] .ret) .skip)) (.seq (boG [RM 17 0,RM 18 1,dI 19 .gtr 17 18] [19] (.cond 19 (boG [dO 4 (ki 1)] [4] .ret) .skip)) (boG [dO 4 (ki 0)] [4] .ret))))))))
def x5:List aW:=[.tm 4]
theorem JD:aO Tryz.prog Tryz.f216 (bnD pI)=some (pI,x5):=by kernel_rfl
theorem JR:aN Tryz.prog jC Tryz.f216 pI x5:=aN.mk Tryz.func216 (by kernel_rfl) JD
def ap2:AC:= (boG [f5 2 0,f5 3 1,dO 4 boD] [2,3] (boG [RF 5 0 2,RL 6 5,RF 7 0 3,RL 8 7,dI 9 .lss 6 8,RM 10 9,g9 11 0 2 10 false,hD 12 11 10 false,g9 13 0 3 10 false,hD 14 13 10 false,hO 15 .eql 12 14 10 false,hG 16 15 10 false,g9 17 1 2 16 true,hD 18 17 16 true,g9 19 1 3 16 true,hD 20 19 16 true,hO 21 .lss 18 20 16 true,GQ 22 (.pick 16 21 boD) 10 false,f3 23 10 boE 22,RM 4 23] [4] .ret))
def aOC:List aW:=[.tm 4]
theorem aPW:aO Tryz.prog Tryz.f227 (bnD ap2)=some (ap2,aOC):=by kernel_rfl
theorem aPS:aN Tryz.prog aKL Tryz.f227 ap2 aOC:=aN.mk Tryz.func227 (by kernel_rfl) aPW
def aBA:AC:= (boG [dO 6 (.kv (.slice none 0 0))] [0,1,2] (boG [rq 10 (.bC 1 0 [VZ] []),RM 7 10] [0,1,2,7] (.seq (boG [RM 11 0,RM 12 1,RM 13 2,f6 14 aA6 [11,12,13],f4 15 14] [0,1,2,7,15] (.cond 15 (boG [RM 16 7,RM 6 16] [6] .ret) .skip)) (boG [RM 17 0,RM 18 0,RM 19 1,dI 20 .rem 18 19,dI 21 .sub 17 20,RM 8 21] [0,1,2,7,8] (.seq (boG [dO 9 (ki 0)] [0,1,2,7,8,9] (.block 0 (.loop (.seq (boG [RM 22 9,RM 23 1,dI 24 .lss 22 23] [0,1,2,7,8,9,24] (.cond 24 .skip (.exit 0))) (.seq (.block 1 (boG [RM 27 2] [0,1,2,7,8,9,27] (.cond 27 (m2 [RM 28 7,RM 29 8,RM 30 0,RM 31 8,dI 32 .sub 30 31,RM 33 9,dI 34 .add 32 33,RM 35 1,dI 36 .rem 34 35,dI 37 .add 29 36,rq 38 (.bC 1 1 [VZ] [(0,1,37)]),rq 39 (.append 1 28 38),RM 7 39] [0,1,2,7,8,9]) (m2 [RM 40 7,RM 41 0,RM 42 9,dI 43 .add 41 42,rq 44 (.bC 1 1 [VZ] [(0,1,43)]),rq 45 (.append 1 40 44),RM 7 45] [0,1,2,7,8,9])))) (m2 [RM 25 9,dI 26 .add 25 (ki 1),RM 9 26] [0,1,2,7,8,9])))))) (boG [RM 46 7,RM 6 46] [6] .ret))))))
def aBS:List aW:=[.tm 6]
theorem aCP:aO Tryz.prog Tryz.f228 (bnD aBA)=some (aBA,aBS):=by kernel_rfl
theorem aCR:aN Tryz.prog aAY Tryz.f228 aBA aBS:=aN.mk Tryz.func228 (by kernel_rfl) aCP
def aBD:AC:= (boG [dO 4 (ki 0)] [0,1] (.seq (boG [RM 7 1,f1 8 7,dI 9 .eql 8 (ki 0)] [0,1,9] (.cond 9 (boG [rq 4 (.move (.kv (.int .i64 (-1))))] [4] .ret) .skip)) (boG [RM 10 0,RM 11 1,e0 12 1 11 (ki 0),RL 13 12,f6 14 aAX [10,13],RM 5 14] [0,1,5] (.seq (boG [dO 6 (ki 1)] [0,1,5,6] (.block 0 (.loop (.seq (boG [RM 15 6,RM 16 1,f1 17 16,dI 18 .lss 15 17] [0,1,5,6,18] (.cond 18 .skip (.exit 0))) (.seq (.block 1 (boG [RM 21 0,RM 22 1,RM 23 6,e0 24 1 22 23,RL 25 24,f6 26 aAX [21,25],RM 27 5,dI 28 .neq 26 27] [0,1,5,6,28] (.cond 28 (boG [rq 4 (.move (.kv (.int .i64 (-1))))] [4] .ret) .skip))) (m2 [RM 19 6,dI 20 .add 19 (ki 1),RM 6 20] [0,1,5,6])))))) (boG [RM 29 5,RM 4 29] [4] .ret)))))
def aBX:List aW:=[.tm 4]
theorem aDB:aO Tryz.prog Tryz.f229 (bnD aBD)=some (aBD,aBX):=by kernel_rfl
theorem aDA:aN Tryz.prog aA4 Tryz.f229 aBD aBX:=aN.mk Tryz.func229 (by kernel_rfl) aDB
def aBB:AC:= (boG [f5 1 0,dO 2 boD] [1] (boG [RF 3 1 1,RL 4 3,dI 5 .eql 4 (ki 2),RM 6 5,g9 7 1 1 6 false,hD 8 7 6 false,hO 9 .eql 8 (ki 4) 6 false,f3 10 6 boE 9,RM 2 10] [2] .ret))
def aBR:List aW:=[.tm 2]
theorem aCS:aO Tryz.prog Tryz.f230 (bnD aBB)=some (aBB,aBR):=by kernel_rfl
theorem aCU:aN Tryz.prog aAZ Tryz.f230 aBB aBR:=aN.mk Tryz.func230 (by kernel_rfl) aCS
def aN4:AC:= (boG [f5 2 0,dO 4 (.kv (.slice none 0 0))] [1,2] (boG [rq 7 (.bC 1 0 [VZ] []),RM 5 7] [1,2,5] (.seq (boG [dO 6 (ki 0)] [1,2,5,6] (.block 0 (.loop (.seq (boG [RM 8 6,RM 9 1,f1 10 9,dI 11 .lss 8 10] [1,2,5,6,11] (.cond 11 .skip (.exit 0))) (.seq (.block 1 (m2 [RM 14 5,RF 15 0 2,RL 16 15,RM 17 1,RM 18 6,e0 19 1 17 18,RL 20 19,e0 21 1 16 20,RL 22 21,rq 23 (.bC 1 1 [VZ] [(0,1,22)]),rq 24 (.append 1 14 23),RM 5 24] [1,2,5,6])) (m2 [RM 12 6,dI 13 .add 12 (ki 1),RM 6 13] [1,2,5,6])))))) (boG [RM 25 5,RM 4 25] [4] .ret))))
def aO3:List aW:=[.tm 4]
theorem aR6:aO Tryz.prog Tryz.f231 (bnD aN4)=some (aN4,aO3):=by kernel_rfl
theorem aR8:aN Tryz.prog W3 Tryz.f231 aN4 aO3:=aN.mk Tryz.func231 (by kernel_rfl) aR6
def aN6:AC:= (boG [f5 4 0,f7 8 [OZ]] [1,2,3,4,8] (.seq (boG [dO 9 (ki 0)] [1,2,3,4,8,9] (.block 0 (.loop (.seq (boG [RM 10 9,RM 11 1,f1 12 11,dI 13 .lss 10 12] [1,2,3,4,8,9,13] (.cond 13 .skip (.exit 0))) (.seq (.block 1 (m2 [RF 16 0 4,g8 17 16 [] [] true,RM 18 1,RM 19 9,e0 20 1 18 19,g8 21 20 [] [] true,RF 22 0 4,RL 23 22,RM 24 1,RM 25 9,e0 26 1 24 25,RL 27 26,e0 28 1 23 27,RL 29 28,RM 30 2,RM 31 9,e0 32 1 30 31,RL 33 32,RM 34 3,RM 35 9,e0 36 1 34 35,RL 37 36,boF 38 (.call aNH [29,33,37]) [] [1,5] false,e0 39 1 17 21,g0 1 false 39 38] [1,2,3,4,8,9])) (m2 [RM 14 9,dI 15 .add 14 (ki 1),RM 9 15] [1,2,3,4,8,9])))))) (boG [f8 40 1 4,g0 1 true 8 40] [8] .ret)))
def aO6:List aW:=[.cell 8 1 true]
theorem aSE:aO Tryz.prog Tryz.f232 (bnD aN6)=some (aN6,aO6):=by kernel_rfl
theorem aRX:aN Tryz.prog H5 Tryz.f232 aN6 aO6:=aN.mk Tryz.func232 (by kernel_rfl) aSE
def aNU:AC:= (boG [f5 2 0,f7 4 [OZ,OZ]] [1,2,4] (.seq (boG [dO 5 (ki 0)] [1,2,4,5] (.block 0 (.loop (.seq (boG [RM 7 5,RF 8 1 2,RL 9 8,f1 10 9,dI 11 .lss 7 10] [1,2,4,5,11] (.cond 11 .skip (.exit 0))) (.seq (.block 1 (boG [dO 6 (ki 0)] [1,2,4,5,6] (.block 2 (.loop (.seq (boG [RM 14 6,RM 15 1,f1 16 15,dI 17 .lss 14 16] [1,2,4,5,6,17] (.cond 17 .skip (.exit 2))) (.seq (.block 3 (boG [RF 20 1 2,RL 21 20,RM 22 5,e0 23 1 21 22,RL 24 23,RM 25 1,RM 26 6,e0 27 1 25 26,RL 28 27,dI 29 .eql 24 28] [1,2,4,5,6,29] (.cond 29 (m2 [RF 30 1 2,RL 31 30,RM 32 5,e0 33 1 31 32,rn (.store 1 false 33 (.kv (.int .i64 (-1))))] [1,2,4,5,6]) .skip))) (m2 [RM 18 6,dI 19 .add 18 (ki 1),RM 6 19] [1,2,4,5,6]))))))) (m2 [RM 12 5,dI 13 .add 12 (ki 1),RM 5 13] [1,2,4,5])))))) (boG [f8 34 2 2,g0 2 true 4 34] [4] .ret)))
def aOK:List aW:=[.cell 4 2 true]
theorem aRS:aO Tryz.prog Tryz.f233 (bnD aNU)=some (aNU,aOK):=by kernel_rfl
theorem aRM:aN Tryz.prog v9 Tryz.f233 aNU aOK:=aN.mk Tryz.func233 (by kernel_rfl) aRS
def aJE:AC:= (boG [f5 1 0,f7 2 [OZ]] [1,2] (boG [rq 3 (.bC 1 0 [VZ] []),RF 4 0 1,RL 5 4,rq 6 (.append 1 3 5),rq 7 (.build [OZ] [(0,1,6)]),g0 1 true 2 7] [2] .ret))
def aJ3:List aW:=[.cell 2 1 true]
theorem aK8:aO Tryz.prog Tryz.f234 (bnD aJE)=some (aJE,aJ3):=by kernel_rfl
theorem aKY:aN Tryz.prog aIW Tryz.f234 aJE aJ3:=aN.mk Tryz.func234 (by kernel_rfl) aK8
def aJN:AC:= (boG [f5 1 0,f7 2 [VZ,VZ,OZ]] [1,2] (boG [RF 3 0 1,g8 4 3 [4] [] true,RF 5 1 1,g8 6 5 [4] [] true,rq 7 (.bC 1 0 [VZ] []),RF 8 2 1,g8 9 8 [4] [] false,boF 10 (.append 1 7 9) [] [1,3] false,rq 11 (.build [VZ,VZ,OZ] [(0,1,4),(1,1,6),(2,1,10)]),g0 3 true 2 11] [2] .ret))
def aJ5:List aW:=[.cell 2 3 true]
theorem aL4:aO Tryz.prog Tryz.f235 (bnD aJN)=some (aJN,aJ5):=by kernel_rfl
theorem aLO:aN Tryz.prog aI8 Tryz.f235 aJN aJ5:=aN.mk Tryz.func235 (by kernel_rfl) aL4
def vK:AC:= (boG [dO 2 boD] [0] (boG [RM 3 0,f6 4 cQ [3,(ki 0),(ki 3)],f4 5 4,RM 2 5] [2] .ret))
def DT:List aW:=[.tm 2]
theorem OL:aO Tryz.prog Tryz.f238 (bnD vK)=some (vK,DT):=by kernel_rfl
theorem PF:aN Tryz.prog qK Tryz.f238 vK DT:=aN.mk Tryz.func238 (by kernel_rfl) OL
def dG:AC:= (boG [dO 4 boD] [0,1] (boG [RM 5 0,RM 6 1,f6 7 cT [5,6],dI 8 .geq 7 (ki 0),RM 4 8] [4] .ret))
def gE:List aW:=[.tm 4]
theorem l6:aO Tryz.prog Tryz.f239 (bnD dG)=some (dG,gE):=by kernel_rfl
theorem l7:aN Tryz.prog cF Tryz.f239 dG gE:=aN.mk Tryz.func239 (by kernel_rfl) l6
def u6:AC:= (boG [dO 2 boD] [0] (boG [RM 3 0,f1 4 3,dI 5 .gtr 4 (ki 12),RM 6 5,hG 7 0 6 false,GQ 8 (.call cN [7,(.fn nH)]) 6 false,f3 9 6 boE 8,RM 2 9] [2] .ret))
def DW:List aW:=[.tm 2]
theorem OD:aO Tryz.prog Tryz.f240 (bnD u6)=some (u6,DW):=by kernel_rfl
theorem OS:aN Tryz.prog rR Tryz.f240 u6 DW:=aN.mk Tryz.func240 (by kernel_rfl) OD
def dX:AC:= (boG [dO 4 boD] [0,1] (boG [RM 5 0,RM 6 1,f6 7 dC [5,6],dI 8 .geq 7 (ki 0),RM 4 8] [4] .ret))
def gQ:List aW:=[.tm 4]
theorem nA:aO Tryz.prog Tryz.f241 (bnD dX)=some (dX,gQ):=by kernel_rfl
theorem m7:aN Tryz.prog cN Tryz.f241 dX gQ:=aN.mk Tryz.func241 (by kernel_rfl) nA
def rM:AC:= (boG [f5 1 0,dO 2 boD] [1] (boG [f8 3 7 1,f6 4 wD [3],f4 5 4,RM 2 5] [2] .ret))
def y9:List aW:=[.tm 2]
theorem J8:aO Tryz.prog Tryz.f242 (bnD rM)=some (rM,y9):=by kernel_rfl
theorem KW:aN Tryz.prog nH Tryz.f242 rM y9:=aN.mk Tryz.func242 (by kernel_rfl) J8
def x7:AC:= (boG [dO 2 boD] [0] (.seq (boG [dO 3 (ki 1)] [0,3] (.block 0 (.loop (.seq (boG [RM 4 3,RM 5 0,f1 6 5,dI 7 .lss 4 6] [0,3,7] (.cond 7 .skip (.exit 0))) (.seq (.block 1 (boG [RM 10 0,RM 11 3,dI 12 .sub 11 (ki 1),e0 13 5 10 12,f8 14 5 13,RM 15 0,RM 16 3,e0 17 5 15 16,f8 18 5 17,f6 19 bJ [14,18],dI 20 .geq 19 (ki 0)] [0,3,20] (.cond 20 (boG [dO 2 boD] [2] .ret) .skip))) (m2 [RM 8 3,dI 9 .add 8 (ki 1),RM 3 9] [0,3])))))) (boG [dO 2 boE] [2] .ret)))
def FX:List aW:=[.tm 2]
theorem P5:aO Tryz.prog Tryz.f243 (bnD x7)=some (x7,FX):=by kernel_rfl
theorem Q2:aN Tryz.prog oI Tryz.f243 x7 FX:=aN.mk Tryz.func243 (by kernel_rfl) P5
def sZ:AC:= (boG [dO 2 boD] [0] (boG [RM 3 0,f6 4 cQ [3,(ki 0),(ki 2)],RM 2 4] [2] .ret))
def A0:List aW:=[.tm 2]
theorem MB:aO Tryz.prog Tryz.f244 (bnD sZ)=some (sZ,A0):=by kernel_rfl
theorem MZ:aN Tryz.prog jA Tryz.f244 sZ A0:=aN.mk Tryz.func244 (by kernel_rfl) MB
def nO:AC:= (boG [f5 1 0,dO 2 boD] [1] (boG [RF 3 0 1,RL 4 3,dI 5 .eql 4 (ki 0),RM 6 5,g9 7 1 1 6 true,hD 8 7 6 true,hO 9 .eql 8 (ki 0) 6 true,f3 10 6 9 boD,RM 11 10,g9 12 2 1 11 true,hD 13 12 11 true,GQ 14 (.len false 13) 11 true,hO 15 .eql 14 (ki 0) 11 true,f3 16 11 15 boD,RM 2 16] [2] .ret))
def vS:List aW:=[.tm 2]
theorem HW:aO Tryz.prog Tryz.f245 (bnD nO)=some (nO,vS):=by kernel_rfl
theorem HU:aN Tryz.prog iT Tryz.f245 nO vS:=aN.mk Tryz.func245 (by kernel_rfl) HW
def z8:AC:= (boG [f5 1 0,dO 2 boD] [1] (boG [RF 3 0 1,RL 4 3,f6 5 cQ [4,(ki 0),(ki 1)],RM 6 5,g9 7 1 1 6 true,hD 8 7 6 true,GQ 9 (.call cQ [8,(ki 1),(ki 4)]) 6 true,f3 10 6 9 boD,RM 11 10,g9 12 2 1 11 true,hD 13 12 11 true,GQ 14 (.len false 13) 11 true,hO 15 .leq 14 (ki 4) 11 true,f3 16 11 15 boD,RM 17 16,g9 18 2 1 17 true,hD 19 18 17 true,GQ 20 (.call jB [19]) 17 true,f3 21 17 20 boD,RM 2 21] [2] .ret))
def I0:List aW:=[.tm 2]
theorem VO:aO Tryz.prog Tryz.f246 (bnD z8)=some (z8,I0):=by kernel_rfl
theorem UX:aN Tryz.prog m6 Tryz.f246 z8 I0:=aN.mk Tryz.func246 (by kernel_rfl) VO
def rD:AC:= (boG [f5 3 0,dO 6 (ki 0)] [1,2,3] (boG [RF 7 2 3,RL 8 7,RM 9 1,e0 10 1 8 9,RL 11 10,RM 12 2,e0 13 7 11 12,RF 14 0 13,RL 15 14,RM 6 15] [6] .ret))
def zC:List aW:=[.tm 6]
theorem KU:aO Tryz.prog Tryz.f247 (bnD rD)=some (rD,zC):=by kernel_rfl
theorem KX:aN Tryz.prog fB Tryz.f247 rD zC:=aN.mk Tryz.func247 (by kernel_rfl) KU
def kB:AC:= (boG [dO 2 (.kv (.slice none 0 0))] [0] (boG [RM 3 0,RM 4 0,f1 5 4,RM 6 0,f1 7 6,rq 8 (.slc 1 3 none (some 5) (some 7)),RM 2 8] [2] .ret))
def pX:List aW:=[.tm 2]
theorem A6:aO Tryz.prog Tryz.f248 (bnD kB)=some (kB,pX):=by kernel_rfl
theorem BK:aN Tryz.prog iD Tryz.f248 kB pX:=aN.mk Tryz.func248 (by kernel_rfl) A6
def jL:AC:= (boG [dO 2 (.kv (.slice none 0 0))] [0] (.seq (boG [RM 3 0,rq 4 (.xop (.qJ false) [3])] [0,4] (.cond 4 (boG [dO 2 (.kv (.slice none 0 0))] [2] .ret) .skip)) (boG [rq 5 (.bC 1 0 [VZ] []),RM 6 0,rq 7 (.append 1 5 6),RM 2 7] [2] .ret)))
def n7:List aW:=[.tm 2]
theorem AB:aO Tryz.prog Tryz.f249 (bnD jL)=some (jL,n7):=by kernel_rfl
theorem zU:aN Tryz.prog gO Tryz.f249 jL n7:=aN.mk Tryz.func249 (by kernel_rfl) AB
def i6:AC:= (boG [dO 2 (.kv (.slice none 0 0))] [0] (boG [RM 3 0,f6 4 eG [3],f6 5 eS [4],RM 2 5] [2] .ret))
def nL:List aW:=[.tm 2]
theorem yR:aO Tryz.prog Tryz.f250 (bnD i6)=some (i6,nL):=by kernel_rfl
theorem yQ:aN Tryz.prog gG Tryz.f250 i6 nL:=aN.mk Tryz.func250 (by kernel_rfl) yR
def atW:AC:= (boG [dO 4 (ki 0)] [0,1] (.seq (boG [RM 6 0,f1 7 6,dO 8 (ki 0)] [0,1,7,8] (.block 0 (.loop (boG [dI 9 .lss 8 7] [0,1,7,8,9] (.seq (.cond 9 .skip (.exit 0)) (.seq (.block 1 (boG [RM 10 8,RM 5 10] [0,1,5,7,8] (boG [RM 11 1,RM 12 0,RM 13 5,e0 14 5 12 13,f8 15 5 14,rq 16 (.t5 11 [15])] [0,1,5,7,8,16] (.cond 16 (boG [RM 17 5,RM 4 17] [4] .ret) .skip)))) (m2 [dI 18 .add 8 (ki 1),RM 8 18] [0,1,7,8]))))))) (boG [rq 4 (.move (.kv (.int .i64 (-1))))] [4] .ret)))
def at2:List aW:=[.tm 4]
theorem au1:aO Tryz.prog Tryz.f251 (bnD atW)=some (atW,at2):=by kernel_rfl
theorem auZ:aN Tryz.prog hZ Tryz.f251 atW at2:=aN.mk Tryz.func251 (by kernel_rfl) au1
def avO:AC:= (boG [f5 3 0,dO 4 boD] [1,2,3] (boG [RF 5 0 3,RL 6 5,RL 7 1,dI 8 .eql 6 7,RM 9 8,g9 10 1 3 9 true,hD 11 10 9 true,hD 12 2 9 true,hO 13 .eql 11 12 9 true,f3 14 9 13 boD,RM 4 14] [4] .ret))
def awE:List aW:=[.tm 4]
theorem axN:aO Tryz.prog Tryz.f252 (bnD avO)=some (avO,awE):=by kernel_rfl
theorem axO:aN Tryz.prog avA Tryz.f252 avO awE:=aN.mk Tryz.func252 (by kernel_rfl) axN
def atT:AC:= (boG [dO 4 boD] [0,1] (boG [RM 5 0,RM 6 1,f6 7 hZ [5,6],dI 8 .geq 7 (ki 0),RM 4 8] [4] .ret))
def at1:List aW:=[.tm 4]
theorem auQ:aO Tryz.prog Tryz.f253 (bnD atT)=some (atT,at1):=by kernel_rfl
theorem auP:aN Tryz.prog wB Tryz.f253 atT at1:=aN.mk Tryz.func253 (by kernel_rfl) auQ
def auI:AC:= (boG [f5 3 0,dO 4 boD] [1,2,3] (.seq (.region [RF 5 0 3 0,RL 6 5 1,RF 7 1 1 2,RL 8 7 3,dI 9 .eql 6 8 4,RM 10 9 5,g9 11 1 3 10 true 6,hD 12 11 10 true 7,g9 13 2 1 10 true 8,hD 14 13 10 true 9,hO 15 .lss 12 14 10 true 10,f3 16 10 15 boD 11,RM 17 16 12,GQ 18 (.load 3 true 2) 17 true 13,g9 19 0 3 17 true 14,hD 20 19 17 true 15,g9 21 1 3 17 true 16,hD 22 21 17 true 17,dA (some 24) (.load 3 true 2) (some (17,true)) [] [] true 19,g9 25 1 1 17 true 20,dA (some 26) (.load 1 false 25) (some (17,true)) [] [] true 21,g9 27 2 1 17 true 22,dA (some 28) (.load 1 false 27) (some (17,true)) [] [] true 23,dA (some 23) (.call fB [18,20,22]) (some (17,true)) [] [19,21,23] false 18,GQ 29 (.call fB [24,26,28]) 17 true 24,hO 30 .eql 23 29 17 true 25,f3 31 17 30 boD 26,RM 4 31 27] 28 [4]) .ret))
def au8:List aW:=[.tm 4]
theorem awD:aO Tryz.prog Tryz.f254 (bnD auI)=some (auI,au8):=by kernel_rfl
theorem awC:aN Tryz.prog at5 Tryz.f254 auI au8:=aN.mk Tryz.func254 (by kernel_rfl) awD
def rB:AC:= (boG [f5 4 1,dO 6 (ki 0),dO 7 boD] [0,2,4] (boG [RM 12 0,f1 13 12,RM 8 13] [0,2,4,8] (boG [RM 14 8,dO 9 (ki 0),RM 10 14] [0,2,4,8,9,10] (.seq (.block 0 (.loop (.seq (boG [RM 15 9,RM 16 10,dI 17 .lss 15 16] [0,2,4,8,9,10,17] (.cond 17 .skip (.exit 0))) (.block 1 (boG [RM 18 9,RM 19 10,dI 20 .add 18 19,rq 21 (.conv .u64 20),dI 22 .shr 21 (.kv (.int .u64 1)),rq 23 (.conv .i64 22),RM 11 23] [0,2,4,8,9,10,11] (boG [RM 24 2,RM 25 0,RM 26 11,e0 27 5 25 26,f8 28 5 27,f8 29 5 4,rq 30 (.t5 24 [28,29]),dI 31 .lss 30 (ki 0)] [0,2,4,8,9,10,11,31] (.cond 31 (m2 [RM 32 11,dI 33 .add 32 (ki 1),RM 9 33] [0,2,4,8,9,10]) (m2 [RM 34 11,RM 10 34] [0,2,4,8,9,10])))))))) (boG [RM 35 9,RM 36 9,RM 37 8,dI 38 .lss 36 37,RM 39 38,hG 40 2 39 true,hG 41 0 39 true,hG 42 9 39 true,j0 43 5 41 42 39 true,GQ 44 (.load 5 true 43) 39 true,GQ 45 (.load 5 true 4) 39 true,GQ 46 (.t5 40 [44,45]) 39 true,hO 47 .eql 46 (ki 0) 39 true,f3 48 39 47 boD,RM 6 35,RM 7 48] [6,7] .ret)))))
def atV:List aW:=[.tm 6,.tm 7]
theorem at8:aO Tryz.prog Tryz.f255 (bnD rB)=some (rB,atV):=by kernel_rfl
theorem auA:aN Tryz.prog eR Tryz.f255 rB atV:=aN.mk Tryz.func255 (by kernel_rfl) at8
end Go.Proofs.YtdkfhdmagdaceaaGreat
