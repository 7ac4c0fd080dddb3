/- Texts laid together by a program: rules, contracts and the walk that leads to the law. -/
import Derived.Test.YtmccpdapaccnoaaGreatPT3
import Derived.Test.YtmccpdapaccnoaaGreatPT6
set_option linter.unusedVariables false
set_option linter.unusedSimpArgs false
set_option linter.unusedSectionVars false
set_option maxRecDepth 100000
set_option maxHeartbeats 8000000
namespace Go.Proofs.YtmccpdapaccnoaaGreat
open Go Go.AM
def lK:AC:= (boG [f5 4 1,f5 5 2,f7 6 [OZ,VZ,VZ,VZ,VZ]] [0,4,5,6] (boG [f7 7 [OZ,VZ,VZ,VZ,VZ]] [0,4,5,6,7] (boG [RM 8 0,f8 9 3 5,f6 10 mG [8,9,7]] [0,4,5,6,7] (boG [RM 11 0,f8 12 3 4,f8 13 3 5,f6 14 mM [11,12,13,7]] [0,4,5,6,7] (boG [RM 15 0,f8 16 3 4,f6 17 n6 [15,16,7]] [0,4,5,6,7] (boG [RM 18 0,f8 19 3 4,f8 20 3 5,f6 21 nX [18,19,20,7]] [6,7] (boG [f8 22 5 7,g0 5 true 6 22] [6] .ret)))))))
def sL:List aW:=[.cell 6 5 true]
theorem D7:aO Tryz.prog Tryz.f118 (bnD lK)=some (lK,sL):=by kernel_rfl
def z2:AC:= (boG [f5 3 1,dO 4 (ki 0)] [0,3] (boG [RM 6 0,f8 7 7 3,f6 8 mZ [6,7],RM 5 8] [0,5] (.seq (boG [RM 9 5,dI 10 .lss 9 (ki 0)] [0,5,10] (.cond 10 (boG [dO 4 (ki 3)] [4] .ret) .skip)) (boG [RM 11 0,RM 12 5,e0 13 4 11 12,RF 14 2 13,RL 15 14,RM 4 15] [4] .ret))))
def I3:List aW:=[.tm 4]
theorem US:aO Tryz.prog Tryz.f128 (bnD z2)=some (z2,I3):=by kernel_rfl
theorem UU:aN Tryz.prog rN Tryz.f128 z2 I3:=
 aN.mk Tryz.func128 (by kernel_rfl) US
def AR:AC:= (boG [f5 2 0,rq 3 (.box false 1),dO 4 (ki 0)] [2,3] (boG [RF 5 2 2,RL 6 5,rq 7 (.xop (.zI rQ) [3]),f6 8 bZ [6,7],RM 4 8] [4] .ret))
def IJ:List aW:=[.tm 4]
theorem TP:aO Tryz.prog Tryz.f201 (bnD AR)=some (AR,IJ):=by kernel_rfl
theorem UN:aN Tryz.prog kV Tryz.f201 AR IJ:=
 aN.mk Tryz.func201 (by kernel_rfl) TP
def lR:AC:= (boG [f5 4 1] [0,2,4] (boG [RM 13 0,RK 14 13,RF 15 2 14,RL 16 15,f1 17 16,dO 18 (ki 0)] [0,2,4,17,18] (.block 0 (.loop (boG [dI 19 .lss 18 17] [0,2,4,17,18,19] (.seq (.cond 19 .skip (.exit 0)) (.seq (.block 1 (boG [RM 20 18,RM 6 20] [0,2,4,6,17,18] (boG [RM 21 0,RK 22 21,RF 23 2 22,RL 24 23,RM 25 6,e0 26 4 24 25,RM 7 26] [0,2,4,6,7,17,18] (boG [dO 8 (ki 1)] [0,2,4,6,7,8,17,18] (.block 2 (.loop (.seq (boG [RM 27 8,dI 28 .leq 27 (ki 4),RM 29 28,g9 30 0 4 29 true,hD 31 30 29 true,hG 32 6 29 true,j0 33 1 31 32 29 true,hD 34 33 29 true,f3 35 29 34 boD] [0,2,4,6,7,8,17,18,35] (.cond 35 .skip (.exit 2))) (.seq (.block 3 (boG [RM 38 7,RK 39 38,RF 40 3 39,RL 41 40,RM 42 8,dI 43 .add 41 42,dI 44 .rem 43 (ki 4),RM 9 44] [0,2,4,6,7,8,9,17,18] (boG [RM 45 0,RK 46 45,RF 47 3 46,RL 48 47,RM 49 9,e0 50 3 48 49,RM 10 50] [0,2,4,6,7,8,9,10,17,18] (.seq (boG [RM 51 10,RK 52 51,RF 53 1 52,RL 54 53,f1 55 54,dI 56 .eql 55 (ki 0),RM 57 56,hG 58 10 57 false,GQ 59 (.tF 58) 57 false,g9 60 1 59 57 false,hD 61 60 57 false,j0 62 5 61 (ki 0) 57 false,g9 63 0 62 57 false,hD 64 63 57 false,hG 65 6 57 false,hO 66 .neq 64 65 57 false,f3 67 57 boE 66] [0,2,4,6,7,8,9,10,17,18,67] (.cond 67 (.exit 3) .skip)) (boG [RM 68 10,RK 69 68,RF 70 1 69,RL 71 70,e0 72 5 71 (ki 0),f8 73 5 72,f7 11 [VZ,VZ,VZ,VZ,OZ],g0 5 true 11 73] [0,2,4,6,7,9,10,11,17,18] (boG [RM 74 0,RM 75 0,RK 76 75,RF 77 4 76,g8 78 77 [6] [] false,f8 79 5 11,rq 80 (.bC 5 1 [VZ,VZ,VZ,VZ,OZ] [(0,5,79)]),rq 81 (.append 5 78 80),RK 82 74,RF 83 4 82,g0 1 false 83 81] [0,2,4,6,7,9,10,11,17,18] (boG [RM 84 10,RM 85 10,RK 86 85,RF 87 1 86,RL 88 87,rq 89 (.slc 5 88 (some (ki 1)) none none),RK 90 84,RF 91 1 90,g0 1 false 91 89] [0,2,4,6,7,9,11,17,18] (boG [RM 92 7,RK 93 92,f8 94 4 93,RF 95 1 11,RL 96 95,f6 97 kV [94,96],RM 12 97] [0,2,4,6,7,9,11,12,17,18] (boG [RM 98 7,RM 99 7,RK 100 99,RF 101 2 100,RL 102 101,RM 103 12,RM 104 12,dI 105 .add 104 (ki 1),f6 106 eA [102,103,105],RK 107 98,RF 108 2 107,g0 1 false 108 106] [0,2,4,6,7,9,11,17,18] (boG [RM 109 7,RM 110 9,RK 111 109,RF 112 3 111,g0 1 false 112 110] [0,2,4,6,11,17,18] (boG [RM 113 2,RM 114 6,RF 115 1 11,RL 116 115,f6 117 eC [113,(ki 3),114,116]] [0,2,4,17,18] (.exit 2)))))))))))) (m2 [RM 36 8,dI 37 .add 36 (ki 1),RM 8 37] [0,2,4,6,7,8,17,18]))))))))) (m2 [dI 118 .add 18 (ki 1),RM 18 118] [0,2,4,17,18]))))))))
def sK:List aW:=[]
theorem D6:aO Tryz.prog Tryz.f214 (bnD lR)=some (lR,sK):=by kernel_rfl
def lQ:AC:= (boG [f5 5 1,f5 6 2] [0,3,5,6] (boG [RM 11 0,RK 12 11,RF 13 3 12,RL 14 13,f1 15 14,dO 16 (ki 0)] [0,3,5,6,15,16] (.block 0 (.loop (boG [dI 17 .lss 16 15] [0,3,5,6,15,16,17] (.seq (.cond 17 .skip (.exit 0)) (.seq (.block 1 (boG [RM 18 16,RM 8 18] [0,3,5,6,8,15,16] (boG [RM 19 0,RK 20 19,RF 21 3 20,RL 22 21,RM 23 8,e0 24 3 22 23,RM 9 24] [0,3,5,6,8,9,15,16] (.seq (boG [RF 25 1 6,RL 26 25,RM 27 8,e0 28 1 26 27,RL 29 28,RM 30 29,hG 31 9 30 false,GQ 32 (.tF 31) 30 false,g9 33 0 32 30 false,hD 34 33 30 false,GQ 35 (.len false 34) 30 false,hO 36 .eql 35 (ki 0) 30 false,f3 37 30 boE 36] [0,3,5,6,9,15,16,37] (.cond 37 (.exit 1) .skip)) (boG [RM 38 9,RK 39 38,RF 40 0 39,RL 41 40,e0 42 3 41 (ki 0),f8 43 3 42,f7 10 [VZ,VZ,VZ],g0 3 true 10 43] [0,3,5,6,9,10,15,16] (.block 2 (boG [RF 45 2 10,RL 46 45,dI 47 .gtr 46 (ki 0),RM 44 47] [0,3,5,6,9,10,15,16,44] (.cond 44 (m2 [RM 48 9,RK 49 48,RF 50 0 49,RL 51 50,e0 52 3 51 (ki 0),RF 53 2 52,RL 54 53,dI 55 .sub 54 (ki 1),e0 56 3 51 (ki 0),RF 57 2 56,g0 1 false 57 55] [0,3,5,6,15,16]) (boG [RM 59 9,RK 60 59,RF 61 1 60,RL 62 61,f1 63 62,dI 64 .lss 63 (ki 2),RM 58 64] [0,3,5,6,9,10,15,16,58] (.cond 58 (boG [RM 65 9,RM 66 9,RK 67 66,RF 68 0 67,RL 69 68,rq 70 (.slc 3 69 (some (ki 1)) none none),RK 71 65,RF 72 0 71,g0 1 false 72 70] [0,3,5,6,9,10,15,16] (boG [RM 73 9,RM 74 9,RK 75 74,RF 76 1 75,g8 77 76 [28] [] true,RF 78 0 10,g8 79 78 [28] [] true,RF 80 1 10,g8 81 80 [28] [] true,RM 82 0,RK 83 82,RF 84 0 83,RF 85 0 5,RL 86 85,RF 87 0 10,RL 88 87,RF 89 2 5,RL 90 89,RF 91 0 10,RL 92 91,e0 93 1 90 92,RL 94 93,RF 95 1 10,RL 96 95,e0 97 7 94 96,f8 98 7 97,boF 99 (.call pL [84,86,88,98]) [] [4,6,8] false,rq 100 (.build [VZ,VZ,VZ,VZ,OZ] [(0,1,79),(1,1,81),(2,3,99)]),rq 101 (.bC 5 1 [VZ,VZ,VZ,VZ,OZ] [(0,5,100)]),rq 102 (.append 5 77 101),RK 103 73,RF 104 1 103,g0 1 false 104 102] [0,3,5,6,10,15,16] (m2 [RM 105 3,RF 106 0 10,RL 107 106,RF 108 1 10,RL 109 108,f6 110 eC [105,(ki 2),107,109]] [0,3,5,6,15,16]))) .skip)))))))))) (m2 [dI 111 .add 16 (ki 1),RM 16 111] [0,3,5,6,15,16]))))))))
def sI:List aW:=[]
theorem EC:aO Tryz.prog Tryz.f215 (bnD lQ)=some (lQ,sI):=by kernel_rfl
def mL:AC:= (boG [f5 4 1] [0,2,4] (boG [f7 6 [(.v (.bool false)),(.v (.bool false)),(.v (.bool false))]] [0,2,4,6] (boG [RM 13 0,RK 14 13,RF 15 3 14,RL 16 15,f1 17 16,dO 18 (ki 0)] [0,2,4,6,17,18] (.block 0 (.loop (boG [dI 19 .lss 18 17] [0,2,4,6,17,18,19] (.seq (.cond 19 .skip (.exit 0)) (.seq (.block 1 (boG [RM 20 18,RM 7 20] [0,2,4,6,7,17,18] (boG [RM 21 0,RK 22 21,RF 23 3 22,RL 24 23,RM 25 7,e0 26 3 24 25,RM 8 26] [0,2,4,6,7,8,17,18] (boG [dO 9 (ki 1)] [0,2,4,6,7,8,9,17,18] (.block 2 (.loop (.seq (boG [RM 27 9,dI 28 .leq 27 (ki 3),RM 29 28,hG 30 8 29 true,GQ 31 (.tF 30) 29 true,g9 32 0 31 29 true,hD 33 32 29 true,GQ 34 (.len false 33) 29 true,hO 35 .lss 34 (ki 2) 29 true,f3 36 29 35 boD] [0,2,4,6,7,8,9,17,18,36] (.cond 36 .skip (.exit 2))) (.seq (.block 3 (boG [RM 39 8,RK 40 39,RF 41 2 40,RL 42 41,RM 43 9,dI 44 .add 42 43,dI 45 .rem 44 (ki 3),RM 10 45] [0,2,4,6,7,8,9,10,17,18] (.seq (boG [RM 46 10,rq 47 (.TL 1 3 6 46),RL 48 47,RM 49 48,hG 50 0 49 false,GQ 51 (.load 3 true 4) 49 false,hG 52 10 49 false,hG 53 7 49 false,GQ 54 (.call j8 [50,51,52,53]) 49 false,hP 55 54 49 false,f3 56 49 boE 55] [0,2,4,6,7,8,9,10,17,18,56] (.cond 56 (.exit 3) .skip)) (boG [RM 57 0,RK 58 57,RF 59 2 58,RL 60 59,RM 61 10,e0 62 4 60 61,RM 11 62] [0,2,4,6,7,8,10,11,17,18] (boG [RM 63 11,RK 64 63,RF 65 1 64,RL 66 65,e0 67 1 66 (ki 0),RL 68 67,RM 12 68] [0,2,4,6,7,8,10,11,12,17,18] (boG [RM 69 11,RM 70 11,RK 71 70,RF 72 1 71,RL 73 72,rq 74 (.slc 1 73 (some (ki 1)) none none),RK 75 69,RF 76 1 75,g0 1 false 76 74] [0,2,4,6,7,8,10,11,12,17,18] (boG [RM 77 11,RM 78 11,RK 79 78,RF 80 2 79,RL 81 80,RM 82 10,RM 83 12,RM 84 7,rq 85 (.build [VZ,VZ,VZ] [(0,1,82),(1,1,83),(2,1,84)]),rq 86 (.bC 3 1 [VZ,VZ,VZ] [(0,3,85)]),rq 87 (.append 3 81 86),RK 88 77,RF 89 2 88,g0 1 false 89 87] [0,2,4,6,7,8,10,12,17,18] (boG [RM 90 8,RM 91 8,RK 92 91,RF 93 0 92,g8 94 93 [13] [] false,RM 95 10,RM 96 12,RF 97 1 4,RL 98 97,RM 99 7,e0 100 1 98 99,RL 101 100,rq 102 (.build [VZ,VZ,VZ] [(0,1,95),(1,1,96),(2,1,101)]),rq 103 (.bC 3 1 [VZ,VZ,VZ] [(0,3,102)]),rq 104 (.append 3 94 103),RK 105 90,RF 106 0 105,g0 1 false 106 104] [0,2,4,6,7,8,10,17,18] (boG [RM 107 8,RM 108 10,RK 109 107,RF 110 2 109,g0 1 false 110 108] [0,2,4,6,7,10,17,18] (boG [RM 111 10,rq 112 (.TL 1 3 6 111),g0 1 false 112 boE] [0,2,4,6,7,17,18] (boG [RM 113 2,RM 114 7,RK 115 113,RF 116 1 115,rq 117 (.TL 1 4 116 114),g0 1 false 117 (ki 1)] [0,2,4,6,17,18] (.exit 2)))))))))))) (m2 [RM 37 9,dI 38 .add 37 (ki 1),RM 9 38] [0,2,4,6,7,8,9,17,18]))))))))) (m2 [dI 118 .add 18 (ki 1),RM 18 118] [0,2,4,6,17,18])))))))))
def uR:List aW:=[]
theorem FB:aO Tryz.prog Tryz.f216 (bnD mL)=some (mL,uR):=by kernel_rfl
def mI:AC:= (boG [f5 5 1,f5 6 2] [0,3,5,6] (boG [RM 10 0,RK 11 10,RF 12 2 11,RL 13 12,f1 14 13,dO 15 (ki 0)] [0,3,5,6,14,15] (.block 0 (.loop (boG [dI 16 .lss 15 14] [0,3,5,6,14,15,16] (.seq (.cond 16 .skip (.exit 0)) (.seq (.block 1 (boG [RM 17 15,RM 8 17] [0,3,5,6,8,14,15] (boG [RM 18 0,RK 19 18,RF 20 2 19,RL 21 20,RM 22 8,e0 23 4 21 22,RM 9 23] [0,3,5,6,8,9,14,15] (boG [RF 24 2 6,RL 25 24,RM 26 8,e0 27 1 25 26,RL 28 27,RM 29 28,hG 30 9 29 true,GQ 31 (.tF 30) 29 true,g9 32 1 31 29 true,hD 33 32 29 true,GQ 34 (.len false 33) 29 true,hO 35 .lss 34 (ki 2) 29 true,f3 36 29 35 boD,RM 37 36,hG 38 9 37 true,GQ 39 (.tF 38) 37 true,g9 40 0 39 37 true,hD 41 40 37 true,g9 42 2 5 37 true,hD 43 42 37 true,hG 44 8 37 true,j0 45 1 43 44 37 true,hD 46 45 37 true,GQ 47 (.len false 46) 37 true,hO 48 .lss 41 47 37 true,f3 49 37 48 boD] [0,3,5,6,8,9,14,15,49] (.cond 49 (boG [RM 50 9,RM 51 9,RK 52 51,RF 53 1 52,g8 54 53 [9] [] false,RM 55 9,RK 56 55,RF 57 0 56,RL 58 57,rq 59 (.bC 1 1 [VZ] [(0,1,58)]),rq 60 (.append 1 54 59),RK 61 50,RF 62 1 61,g0 1 false 62 60] [0,3,5,6,8,9,14,15] (boG [RM 63 3,RM 64 8,RM 65 9,RK 66 65,RF 67 0 66,RL 68 67,f6 69 eC [63,(ki 1),64,68]] [0,3,5,6,9,14,15] (m2 [RM 70 9,RK 71 70,RF 72 0 71,RL 73 72,dI 74 .add 73 (ki 1),RK 75 70,RF 76 0 75,g0 1 false 76 74] [0,3,5,6,14,15]))) .skip))))) (m2 [dI 77 .add 15 (ki 1),RM 15 77] [0,3,5,6,14,15]))))))))
def uE:List aW:=[]
theorem FG:aO Tryz.prog Tryz.f217 (bnD mI)=some (mI,uE):=by kernel_rfl
def eU:AC:= (boG [dO 4 (ki 0)] [0,1] (.seq (boG [RM 6 0,f1 7 6,dO 8 (ki 0)] [0,1,7,8] (.block 0 (.loop (boG [dI 9 .lss 8 7] [0,1,7,8,9] (.seq (.cond 9 .skip (.exit 0)) (.seq (.block 1 (boG [RM 10 8,RM 5 10] [0,1,5,7,8] (boG [RM 11 1,RM 12 0,RM 13 5,e0 14 3 12 13,f8 15 3 14,rq 16 (.t5 11 [15])] [0,1,5,7,8,16] (.cond 16 (boG [RM 17 5,RM 4 17] [4] .ret) .skip)))) (m2 [dI 18 .add 8 (ki 1),RM 8 18] [0,1,7,8]))))))) (boG [rq 4 (.move (.kv (.int .i64 (-1))))] [4] .ret)))
def iO:List aW:=[.tm 4]
theorem pK:aO Tryz.prog Tryz.f267 (bnD eU)=some (eU,iO):=by kernel_rfl
theorem pH:aN Tryz.prog bZ Tryz.f267 eU iO:=
 aN.mk Tryz.func267 (by kernel_rfl) pK
def vD:AC:= (boG [f5 2 0,dO 3 boD] [1,2] (boG [RF 4 1 2,RL 5 4,RL 6 1,dI 7 .eql 5 6,RM 3 7] [3] .ret))
def DM:List aW:=[.tm 3]
theorem N9:aO Tryz.prog Tryz.f268 (bnD vD)=some (vD,DM):=by kernel_rfl
theorem OM:aN Tryz.prog rQ Tryz.f268 vD DM:=
 aN.mk Tryz.func268 (by kernel_rfl) N9
def fW:AC:= (boG [dO 6 (.kv (.slice none 0 0))] [0,1,2] (boG [RM 8 0,RM 9 1,RM 10 2,RM 11 0,f1 12 11,rq 13 (.slc 3 8 (some 9) (some 10) (some 12))] [0,1,2] (.seq (boG [RM 14 1,RM 15 2,dI 16 .eql 14 15] [0,1,2,16] (.cond 16 (boG [RM 17 0,RM 6 17] [6] .ret) .skip)) (boG [RM 18 0,f1 19 18,RM 7 19] [0,1,2,7] (boG [RM 20 0,RM 21 1,rq 22 (.slc 3 20 none (some 21) none),RM 23 0,RM 24 2,rq 25 (.slc 3 23 (some 24) none none),rq 26 (.append 3 22 25),RM 0 26] [0,7] (boG [RM 27 0,RM 28 0,f1 29 28,RM 30 7,rq 31 (.slc 3 27 (some 29) (some 30) none),rn (.xop (.clear 3 [VZ,VZ,VZ]) [31])] [0] (boG [RM 32 0,RM 6 32] [6] .ret)))))))
def jV:List aW:=[.tm 6]
theorem sA:aO Tryz.prog Tryz.f282 (bnD fW)=some (fW,jV):=by kernel_rfl
theorem rZ:aN Tryz.prog eA Tryz.f282 fW jV:=
 aN.mk Tryz.func282 (by kernel_rfl) sA
def mR:AC:= (m2 [RM 8 0,RM 9 0,RK 10 9,RF 11 0 10,RL 12 11,RM 13 1,RM 14 2,RM 15 3,rq 16 (.build [VZ,VZ,VZ] [(0,1,13),(1,1,14),(2,1,15)]),rq 17 (.bC 3 1 [VZ,VZ,VZ] [(0,3,16)]),rq 18 (.append 3 12 17),RK 19 8,RF 20 0 19,g0 1 false 20 18] [])
def uC:List aW:=[]
theorem FN:aO Tryz.prog Tryz.f283 (bnD mR)=some (mR,uC):=by kernel_rfl
def mN:AC:= (boG [f5 5 1,rq 6 (.box false 2),rq 7 (.box false 3),dO 8 boD] [0,5,6,7] (boG [RM 11 0,RK 12 11,RF 13 2 12,g8 14 13 [7] [] false,g8 15 6 [7] [] false,e0 16 4 14 15,boF 17 (.load 4 true 16) [7] [] false,f7 9 [VZ,OZ,OZ,VZ],g0 4 true 9 17] [5,6,7,9] (.seq (.seq (.region [RF 18 1 9 0,RL 19 18 1,f1 20 19 2,dI 21 .eql 20 (ki 0) 3,RM 22 21 4,g9 23 2 9 22 false 5,hD 24 23 22 false 6,GQ 25 (.len false 24) 22 false 7,hO 26 .geq 25 (ki 4) 22 false 8,f3 27 22 boE 26 9,RM 28 27 10,g9 29 0 5 28 false 11,hD 30 29 28 false 12,g9 31 2 5 28 false 13,hD 32 31 28 false 14,hD 33 6 28 false 15,j0 34 1 32 33 28 false 16,hD 35 34 28 false 17,g9 36 1 9 28 false 18,hD 37 36 28 false 19,j0 38 1 37 (ki 0) 28 false 20,hD 39 38 28 false 21,j0 40 7 35 39 28 false 22,GQ 41 (.load 7 true 40) 28 false 23,dA (some 43) (.load 1 false 7) (some (28,false)) [] [] true 25,dA (some 42) (.call rN [30,41]) (some (28,false)) [] [25] false 24,hO 44 .neq 42 43 28 false 26,f3 45 28 boE 44 27] 28 [5,6,7,9,45]) (.cond 45 (boG [dO 8 boD] [8] .ret) .skip)) (.seq (.region [boF 46 (.load 3 true 5) [7] [] false 0,g8 47 6 [7] [] false 1,RF 48 1 9 2,g8 49 48 [7] [] false 3,e0 50 1 49 (ki 0) 4,g8 51 50 [7] [] false 5,f7 10 [VZ] 7,boF 52 (.call fB [46,47,51]) [7] [] false 6,g0 1 false 10 52 8] 9 [5,6,7,9,10]) (boG [RF 53 2 9,RL 54 53,rq 55 (.xop (.zI iW) [5,6,10,7]),f6 56 cM [54,55],f4 57 56,RM 8 57] [8] .ret)))))
def uD:List aW:=[.tm 8]
theorem FP:aO Tryz.prog Tryz.f284 (bnD mN)=some (mN,uD):=by kernel_rfl
theorem FT:aN Tryz.prog j8 Tryz.f284 mN uD:=
 aN.mk Tryz.func284 (by kernel_rfl) FP
def dY:AC:= (boG [dO 4 boD] [0,1] (boG [RM 5 0,RM 6 1,f6 7 bZ [5,6],dI 8 .geq 7 (ki 0),RM 4 8] [4] .ret))
def gV:List aW:=[.tm 4]
theorem nB:aO Tryz.prog Tryz.f308 (bnD dY)=some (dY,gV):=by kernel_rfl
theorem nD:aN Tryz.prog cM Tryz.f308 dY gV:=
 aN.mk Tryz.func308 (by kernel_rfl) nB
def kX:AC:= (boG [f5 5 0,dO 6 boD] [1,2,3,4,5] (.seq (.region [f8 7 3 1 0,RL 8 2 1,RF 9 1 5 2,RL 10 9 3,g8 12 3 [] [] true 5,boF 11 (.call fB [7,8,10]) [] [5] false 4,dI 13 .eql 11 12 6,RM 14 13 7,g9 15 2 5 14 true 8,hD 16 15 14 true 9,hD 17 4 14 true 10,hO 18 .neq 16 17 14 true 11,f3 19 14 18 boD 12,RM 6 19 13] 14 [6]) .ret))
def qT:List aW:=[.tm 6]
theorem CK:aO Tryz.prog Tryz.f309 (bnD kX)=some (kX,qT):=by kernel_rfl
theorem CY:aN Tryz.prog iW Tryz.f309 kX qT:=
 aN.mk Tryz.func309 (by kernel_rfl) CK
end Go.Proofs.YtmccpdapaccnoaaGreat
namespace Go.AM
open Go.RowKit
def aaS (e' e:Env):Prop:=∀t,e' t=e t∨e' t= .dead
theorem aaS.refl (e:Env):aaS e e:=fun _=>.inl rfl
theorem ER.le {c:Cf} {T:Nat} {e e':Env} {a:Act} (he:ER c T e a) (h:aaS e' e):ER c T e' a:=by
 refine⟨he.1,he.2.1,fun t=> ?_⟩
 rcases h t with h1|h1
 ·rw[h1];exact he.2.2 t
 ·rw[h1];exact trivial
section
variable {P : Program} {T : Nat} {e : Env} {H : aA} {nx : Nat} {Q : AQ}
theorem AWP.le {x:AC} {e':Env} (hE:aaS e' e) (h:AWP P T x e' H nx Q):AWP P T x e H nx Q:=
 fun code hc c a hs he hN=>h code hc c a hs (he.le hE) hN
theorem aM.le {x:AC} {zs:List AC} {e':Env} (hE:aaS e' e) (h:aM P T (x::zs) e' H nx Q):aM P T (x::zs) e H nx Q:=AWP.le hE h
theorem aB.ofH {f:FuncId} {fn:Func} {code:Code} {ac:AC} {rs:List aW} {cs cs':List Cert} {args:List D} {K:D→aA→Nat→Prop}
 (hok:qY P f=true) (hf:P.funcs[f]?=some fn) (hb:fn.body=some code) (hc:compile P fn.ntmps code cs=some (ac,cs')) (hr:AJ P fn.results.toList=some rs) (hl:args.length≤fn.ntmps)
 (h: ∀Q:AQ,(∀ex e' H' nx' d,ex= .normal∨ex= .ret→yT H' e' rs=some d→K d H' nx'→Q ex e' H' nx')→AWP P fn.ntmps ac (Env.args 0 args) H nx Q):aB P f args H nx K:=by
 refine⟨hok,fun c vs hs hN hlen hrel=> ?_⟩
 apply calls_of_wp hf hb
 have hcm:=JA _ _ _ _ hc
 have her:ER c fn.ntmps (Env.args 0 args) {tmps:=vs.toArray++Array.replicate (fn.ntmps-vs.toArray.size) undef,defers:=[]}:=by
  refine⟨by simp;omega,rfl,fun t=> ?_⟩
  rw[Env.ML]
  simp only[Nat.zero_le,if_true,Nat.sub_zero]
  cases hd:args[t]? with
  |none=>exact trivial
  |some d=>
   have ht:t<vs.length:=by rw[hlen];exact(m3.1 hd).1
   have hv:(vs.toArray++Array.replicate (fn.ntmps-vs.toArray.size) undef).getD t undef=vs[t]:=by
    rw[boK,Y6]
    simp[ht]
   rw[hv]
   exact hrel t d _ hd (n1 ht)
 refine wp_mono (h _ (fun ex e' H' nx' d h1 h2 h4=>(⟨h1,d,h2,h4⟩:(ex= .normal∨ex= .ret)∧ ∃d,yT H' e' rs=some d∧K d H' nx')) code hcm c _ hs her hN) ?_
 rintro ex a w ⟨aex,e',H',nx',c',rfl,rfl,p1,p2,p3,p4,p5,p6,d,q1,q3⟩
 obtain⟨v,hv,hd⟩:=aa3 p1 p3 hr q1
 have hfin:a.defers=[]∧ ∃v,(results fn a.tmps).run P c'.w= .ok v c'.w∧ ∃v' c'' r H'' nx',Ending.returned v= .returned v'∧c''.w=c'.w∧St c'' H''∧Step c H c'' H''∧(∀i,c''.N i→c.N i∨(nx≤i∧i<nx'))∧nx≤nx'∧fD c'' r v'∧K r H'' nx':=
  ⟨p3.2.1,v,hv,v,c',d,H',nx',rfl,rfl,p1,p2,p4,p5,hd,q3⟩
 rcases p6 with rfl|rfl
 ·exact hfin
 ·exact hfin
def cJ (P:Program) (f:FuncId) (fn:Func) (ac:AC) (rs:List aW):Prop:=
 ∀{args:List D} {H:aA} {nx:Nat} {KK:D→aA→Nat→Prop} (_hl:Nat.ble args.length fn.ntmps=true)
  (_h: ∀Q:AQ,(∀ex e2 H2 nx2 d,ex= .normal∨ex= .ret→yT H2 e2 rs=some d→KK d H2 nx2→Q ex e2 H2 nx2)→aM P fn.ntmps [ac] (Env.args 0 args) H nx Q),aB P f args H nx KK
theorem cJ.mk {P:Program} {f:FuncId} {fn:Func} {ac:AC} {rs:List aW} {cs:List Cert}
 (hf:P.funcs[f]?=some fn) (hok:qY P f=true) (hc:aO P fn cs=some (ac,rs)):cJ P f fn ac rs:=by
 intro args H nx KK hl h
 unfold aO at hc
 split at hc
 ·rename_i b hb
  split at hc
  ·rename_i ac' cs' rs' h1 h2
   simp only[Option.some.injEq,Prod.mk.injEq] at hc
   obtain⟨rfl,rfl⟩:=hc
   exact aB.ofH hok hf hb h1 h2 (boM hl) fun Q hQ=>(h Q hQ).run
  ·simp at hc
 ·simp at hc
end
def CvX (F:Nat→Prop) (nx:Nat) (H H':aA):Prop:=∀i o',H' i=some o'→¬F i∧ ∃o,H i=some o∧(o'=o∨CvO H F id nx o' o)
variable{nx:Nat}
theorem MR{c:Cf}{I':Nat→Prop} (hI: ∀b,c.I b→I' b) (hN: ∀i,c.N i→i<nx){d:D1}{x:Value} (h:Rel c d x):Rel (c.conv nx nx id I') d x:=by
 have h0: ∀d x,bY c d x→bY (c.conv nx nx id I') d x:=by
  intro d x h
  cases d<;>simp only[bY] at h ⊢ <;>first
   |exact h.wT hI (fun _ _=>rfl)
   |exact⟨h.1,h.2.imp (fun h=>h) fun⟨h1,h2,h3⟩=>⟨h1,.inl ⟨hN _ h2,h2⟩,h3⟩⟩
   |exact⟨.inl ⟨hN _ h.1,h.1⟩,h.2⟩
   |exact h
 cases d with
 |clo f caps=>obtain⟨vs,hx,hl,hf⟩:=h;exact⟨vs,hx,hl,fun i d u h1 h2=>h0 _ _ (hf i d u h1 h2)⟩
 |_=>simp only[Rel] at h ⊢;exact h0 _ _ h
theorem ac6{c:Cf}{I':Nat→Prop} (hI: ∀b,c.I b→I' b) (hN: ∀i,c.N i→i<nx){d:D}{x:Value} (h:fD c d x):fD (c.conv nx nx id I') d x:=by
 have hV: ∀d x,jZ c d x→jZ (c.conv nx nx id I') d x:=by
  intro d x h
  cases d with
  |c d=>exact MR hI hN h
  |agg cs=>obtain⟨vs,hx,hl,hf⟩:=h;exact⟨vs,hx,hl,fun i d u h1 h2=>MR hI hN (hf i d u h1 h2)⟩
 cases d with
 |one d=>exact hV d x h
 |tup ds=>obtain⟨vs,hx,hl,hf⟩:=h;exact⟨vs,hx,hl,fun i d u h1 h2=>hV d u (hf i d u h1 h2)⟩
 |dead=>trivial
theorem YO{c c0:Cf}{H H0 H':aA}{F:Nat→Prop} (hs:St c H) (hstep:Step c0 H0 c H) (hN: ∀i,c.N i→i<nx) (hH:CvX F nx H H'):
 St (c.conv nx nx id (c.frI H F)) H'∧Step c0 H0 (c.conv nx nx id (c.frI H F)) H':=by
 have boT: ∀{i:Nat} {o':bA},H' i=some o'→¬F i∧ ∃o,H i=some o∧o'.n=o.n∧o'.ext=o.ext∧o'.rows.length≤o.rows.length∧(o.n=0→o'.rows=[]→o.rows=[]):=by
  intro i o' h
  obtain⟨h1,o,h2,rfl|h3⟩:=hH i o' h
  ·exact⟨h1,_,h2,rfl,rfl,m5 _,fun _ h=>h⟩
  ·exact⟨h1,o,h2,h3.1,h3.2.1,h3.2.2.1,h3.2.2.2.1⟩
 refine⟨?_,?_⟩
 ·refine {named:= ?_,wf:= ?_,blk:= ?_,cells:= ?_,sep:= ?_,imm:= ?_,old:= ?_}
  ·intro id o' h
   obtain⟨_,o,h2,_⟩:=boT h
   exact .inl ⟨hN _ (hs.named _ o h2),hs.named _ o h2⟩
  ·intro id o' h
   obtain⟨_,o,h2,rfl|⟨h3,h4,h5,_,h6⟩⟩:=hH id o' h
   ·exact hs.wf _ _ h2
   ·obtain⟨k1,k2⟩:=hs.wf _ o h2
    refine⟨by omega,fun i r hr=> ?_⟩
    obtain⟨r0,h7,h8⟩:=h6 i r hr
    rw[h8.1,k2 i r0 h7,h3]
  ·intro id o' h he
   obtain⟨_,o,h2,h3,h4,h5,h7⟩:=boT h
   exact(hs.blk _ o h2 (by omega)).arW h3 h4 fun h0=>⟨h7 h0,fun hr=>by rw[hr] at h5;exact H4.1 (by simpa using h5)⟩
  ·intro id o' i j r d h h1 h2
   obtain⟨_,o,k2,rfl|⟨k3,k4,k5,_,k6⟩⟩:=hH id o' h
   ·obtain⟨u,k9,k10⟩:=hs.cells _ _ i j r d k2 h1 h2
    exact⟨u,k9,MR (fun b h=>.inl h) hN k10⟩
   ·obtain⟨r0,k7,k8⟩:=k6 i r h1
    have hj:j<r0.length:=by rw[←k8.1];exact(m3.1 h2).1
    obtain⟨u,k9,k10⟩:=hs.cells _ o i j r0 _ k2 k7 (n1 hj)
    refine⟨u,by rw[k3];exact k9,?_⟩
    exact PM hs (fun b h=>.inl h) (fun id o h1 h2 h3=>.inr ⟨id,o,h1,h2,h3,rfl⟩) (fun _ _=>rfl) (k8.2 j d _ h2 (n1 hj)) k10
  ·intro i j o o' hi hj he he' hne
   obtain⟨_,o1,k2,k3,k4,_⟩:=boT hi
   obtain⟨_,o2,k6,k7,k8,_⟩:=boT hj
   exact hs.sep i j o1 o2 k2 k6 (by omega) (by omega) hne
  ·intro i o' h he
   obtain⟨hnF,o,h2,h3,h4,_⟩:=boT h
   rintro(hI|⟨id2,o2,k1,k2,k3,k4⟩)
   ·exact hs.imm _ o h2 (by omega) hI
   ·have hne:id2≠i:=by rintro rfl;exact hnF k1
    exact hs.sep id2 i o2 o k2 h2 k3 (by omega) hne k4
  ·rintro b (hI|⟨id2,o2,k1,k2,k3,rfl⟩)
   ·exact hs.old b hI
   ·exact(hs.blk id2 o2 k2 k3).lt
 ·exact {
   ρ:=fun i hid=>hstep.ρ i hid
   N:=fun i hid=>.inl ⟨hN i (hstep.N i hid),hstep.N i hid⟩
   I:=fun b hb=>.inl (hstep.I b hb)
   I':=by
    rintro b (hI|⟨id2,o2,k1,k2,k3,rfl⟩)
    ·exact hstep.I' b hI
    ·exact .inr (hstep.own _ ⟨id2,o2,k2,k3,rfl⟩)
   size:=hstep.size
   os:=hstep.os
   tape:=hstep.tape
   output:=hstep.output
   frame:=hstep.frame
   own:=by
    rintro b ⟨id,o',h,he,hb⟩
    obtain⟨_,o,h2,h3,h4,_⟩:=boT h
    exact hstep.own b ⟨id,o,h2,by omega,hb⟩}
theorem aK{H:aA}:CvX noF nx H H:=fun _ o h=>⟨fun h=>h,o,h,.inl rfl⟩
theorem aM.gP{P:Program}{T:Nat}{e:Env}{H:aA}{Q:AQ}{x:AC}{zs:List AC}{β:Type} (E:β→Env) (Φ:β→aA→Nat→Prop) (μ:β→Nat) (boW:β) (h0: ∃F H1,CvE H F id nx (E boW) e∧CvX F nx H H1∧Φ boW H1 nx)
 (h: ∀b H1 nx1,nx≤nx1→Φ b H1 nx1→∀K:Env→aA→Nat→Prop,(∀e' H' nx' b' F H2,nx1≤nx'→μ b'<μ b→CvE H' F id nx' (E b') e'→CvX F nx' H' H2→Φ b' H2 nx'→K e' H' nx')→aM P T [x] (E b) H1 nx1 (AQ.then K Q)):aM P T (.loop x::zs) e H nx Q:=by
 intro code hc c a hs he hN
 obtain⟨bp6,H0,g1,g2,g3⟩:=h0
 have hc0: ∀{c1:Cf} {H1 H2:aA} {nx1:Nat} {F:Nat→Prop} {e1 e2:Env} {a:Act},St c1 H1→Step c H c1 H1→(∀i,c1.N i→i<nx1)→ER c1 T e1 a→CvE H1 F id nx1 e2 e1→CvX F nx1 H1 H2→
  ∃c2:Cf,c2.w=c1.w∧St c2 H2∧Step c H c2 H2∧ER c2 T e2 a∧ ∀i,c2.N i→c1.N i:=by
  intro c1 H1 H2 nx1 F e1 e2 a k1 k2 k3 k4 k5 k6
  obtain⟨q1,q2⟩:=YO k1 k2 k3 k6
  refine⟨c1.conv nx1 nx1 id (c1.frI H1 F),rfl,q1,q2,⟨k4.1,k4.2.1,fun t=>zD k1 (fun b h=>.inl h) (fun id o h1 h2 h3=>.inr ⟨id,o,h1,h2,h3,rfl⟩) (fun _ _=>rfl) (k5 t) (k4.2.2 t)⟩,fun i hi=> ?_⟩
  rcases hi with⟨_,hi⟩|⟨h1,h2,h3⟩
  ·exact hi
  ·omega
 cases hc with
 |loop h1=>
  obtain⟨c1,r1,r2,r3,r4,r5⟩:=hc0 hs (Step.refl c H) hN he g1 g2
  refine wp_loop_ghost (fun n a w=>∃b c1 H1 nx1,μ b=n∧c1.w=w∧St c1 H1∧ER c1 T (E b) a∧Step c H c1 H1∧(∀i,c1.N i→c.N i∨(nx≤i∧i<nx1))∧nx≤nx1∧Φ b H1 nx1) (μ boW) ⟨boW,c1,H0,nx,rfl,r1,r2,r4,r3,fun i hi=>.inl (r5 i hi),m5 _,g3⟩ ?_
  rintro n a w ⟨b,c1,H1,nx1,rfl,rfl,j1,j2,j3,j4,j5,j6⟩
  refine wp_mono (h b H1 nx1 j5 j6 (fun e' H' nx'=>∃b' F H2,nx1≤nx'∧μ b'<μ b∧CvE H' F id nx' (E b') e'∧CvX F nx' H' H2∧Φ b' H2 nx') (fun _ _ _ b' F H2 h1 h2 h3 h4 h5=>⟨b',F,H2,h1,h2,h3,h4,h5⟩) _ h1 c1 a j1 j2 fun i hi=> ?_) fun ex a' w' ⟨aex,e',H',nx',c',hp⟩=> ?_
  ·rcases j4 i hi with h|h
   ·have:=hN i h;omega
   ·omega
  ·obtain⟨rfl,rfl,p1,p2,p3,p4,p5,p6⟩:=hp
   have hNc: ∀i,c'.N i→c.N i∨(nx≤i∧i<nx'):=by
    intro i hi
    rcases p4 i hi with h|h
    ·rcases j4 i h with h|h
     ·exact .inl h
     ·exact .inr ⟨h.1,by omega⟩
    ·exact .inr ⟨by omega,h.2⟩
   cases aex with
   |normal=>
    obtain⟨b',F,H2,q1,q2,q3,q4,q5⟩:=p6
    obtain⟨c2,s1,s2,bp7,bp8,bp9⟩:=hc0 p1 (j3.trans p2) (fun i hi=>by rcases hNc i hi with h|h;have:=hN i h;omega;exact h.2) p3 q3 q4
    exact⟨μ b',q2,b',c2,H2,nx',rfl,s1,s2,bp8,bp7,fun i hi=>hNc i (bp9 i hi),by omega,q5⟩
   |exit id=>exact⟨.exit id,e',H',nx',c',rfl,rfl,p1,j3.trans p2,p3,hNc,by omega,p6⟩
   |ret=>exact⟨.ret,e',H',nx',c',rfl,rfl,p1,j3.trans p2,p3,hNc,by omega,p6⟩
theorem aB.tW {P:Program} {f:FuncId} {args:List D} {H:aA} {nx:Nat} {K:D→aA→Nat→Prop}
 (h:aB P f args H nx fun r H' n'=>∃r2 H2 F,CvD H' F id n' r2 r∧CvX F n' H' H2∧K r2 H2 n'):aB P f args H nx K:=by
 refine⟨h.1,fun c vs hs hN hl hr=> ?_⟩
 refine(h.2 c vs hs hN hl hr).mono ?_
 rintro x w' ⟨v,c2,r,H2,n2,rfl,rfl,p1,p2,p3,p4,p5,r2,H3,F,q1,q2,q3⟩
 have hN2: ∀i,c2.N i→i<n2:=fun i hi=>by
  rcases p3 i hi with h|h
  ·have:=hN i h;omega
  ·exact h.2
 obtain⟨k1,k2⟩:=YO p1 p2 hN2 q2
 refine⟨v,c2.conv n2 n2 id (c2.frI H2 F),r2,H3,n2,rfl,rfl,k1,k2,fun i hi=> ?_,p4,zD p1 (fun b h=>.inl h) (fun id o h1 h2 h3=>.inr ⟨id,o,h1,h2,h3,rfl⟩) (fun _ _=>rfl) q1 p5,q3⟩
 rcases hi with⟨_,hi⟩|⟨h1,h2,h3⟩
 ·exact p3 i hi
 ·omega
section
variable {P : Program} {T : Nat} {e : Env} {H : aA} {nx : Nat} {Q : AQ}
theorem AWP.tW {x:AC} (e':Env) (H':aA) (F:Nat→Prop) (hE: ∀t,e' t=e t∨CvD H F id nx (e' t) (e t)) (hH:CvX F nx H H') (h:AWP P T x e' H' nx Q):AWP P T x e H nx Q:=by
 intro code hc c a hs he hN
 obtain⟨k1,k2⟩:=YO hs (Step.refl c H) hN hH
 refine wp_mono (h code hc (c.conv nx nx id (c.frI H F)) a k1 ⟨he.1,he.2.1,fun t=> ?_⟩ fun i hi=> ?_) ?_
 ·rcases hE t with h1|h1
  ·rw[h1]
   exact ac6 (fun b h=>.inl h) hN (he.2.2 t)
  ·exact zD hs (fun b h=>.inl h) (fun id o h1 h2 h3=>.inr ⟨id,o,h1,h2,h3,rfl⟩) (fun _ _=>rfl) h1 (he.2.2 t)
 ·rcases hi with⟨_,hi⟩|⟨h1,h2,h3⟩
  ·exact hN i hi
  ·omega
 ·rintro ex a w ⟨aex,e',H',nx',c',rfl,rfl,p1,p2,p3,p4,p5,p6⟩
  refine⟨aex,e',H',nx',c',rfl,rfl,p1,k2.trans p2,p3,fun i hi=> ?_,p5,p6⟩
  rcases p4 i hi with h|h
  ·rcases h with⟨_,hi⟩|⟨h1,h2,h3⟩
   ·exact .inl hi
   ·omega
  ·exact .inr h
theorem aM.tW {x:AC} {zs:List AC} (e':Env) (H':aA) (F:Nat→Prop) (hE: ∀t,e' t=e t∨CvD H F id nx (e' t) (e t)) (hH:CvX F nx H H') (h:aM P T (x::zs) e' H' nx Q):aM P T (x::zs) e H nx Q:=AWP.tW e' H' F hE hH h
theorem AWP.BW {x:AC} (h:(∀i,nx≤i→H i=none)→AWP P T x e H nx Q):AWP P T x e H nx Q:=
 fun code hc c a hs he hN=>h (fun i hi=>by
  cases ho:H i with
  |none=>rfl
  |some o=>have:=hN i (hs.named i o ho);omega) code hc c a hs he hN
theorem aM.BW {x:AC} {zs:List AC} (h:(∀i,nx≤i→H i=none)→aM P T (x::zs) e H nx Q):aM P T (x::zs) e H nx Q:=AWP.BW h
variable{l:List Nat}
theorem BV{b:Nat}{H:aA} (h: ∀i,nx≤i→H i=none) (hb:nx≤b):msk b l H=H:=by
 funext i
 simp only[msk]
 split
 ·rename_i hi
  obtain⟨j,_,rfl⟩:=CF.1 hi
  exact(h _ (by omega)).symm
 ·rfl
theorem umS{b i:Nat}{H G:aA}{o:bA}:dT b l (H.set i o) G=if i∈l.map (b+ ·) then (dT b l H G).set i o else dT b l H G:=by
 split
 ·rename_i h
  funext j;simp only[dT,aA.set]
  by_cases hj:j=i
  ·subst hj;simp only[h,if_true]
  ·simp only[hj,if_false]
 ·rename_i h
  funext j;simp only[dT,aA.set]
  by_cases hj:j=i
  ·subst hj;simp only[h,if_false]
  ·simp only[hj,if_false]
theorem umD{b i:Nat}{H G:aA}:dT b l (H.del i) G=if i∈l.map (b+ ·) then (dT b l H G).del i else dT b l H G:=by
 split
 ·rename_i h
  funext j;simp only[dT,aA.del]
  by_cases hj:j=i
  ·subst hj;simp only[h,if_true]
  ·simp only[hj,if_false]
 ·rename_i h
  funext j;simp only[dT,aA.del]
  by_cases hj:j=i
  ·subst hj;simp only[h,if_false]
  ·simp only[hj,if_false]
theorem umB{b:Nat}{G:aA}:dT b l G G=G:=by
 funext j;simp only[dT];split<;>rfl
end
end Go.AM
namespace Go.AM
structure Sam (k:Int) (s s':TSt):Prop where
 asked:s'.asked.getD k.toNat default=s.asked.getD k.toNat default
 wait: ∀n,(k,n)∈s'.wait.map key↔(k,n)∈s.wait.map key
 done: ∀n,(k,n)∈s'.done.map key↔(k,n)∈s.done.map key
variable{s:TSt}
theorem Sam.refl{k:Int}:Sam k s s:=⟨rfl,fun _=>.rfl,fun _=>.rfl⟩
theorem Sam.symm {k:Int} {s s':TSt} (h:Sam k s s'):Sam k s' s:=⟨h.asked.symm,fun n=>(h.wait n).symm,fun n=>(h.done n).symm⟩
theorem Sam.trans {k:Int} {s s' s2:TSt} (h:Sam k s s') (h2:Sam k s' s2):Sam k s s2:=⟨h2.asked.trans h.asked,fun n=>(h2.wait n).trans (h.wait n),fun n=>(h2.done n).trans (h.done n)⟩
def kP (q:Req):List Int:=bE q.addr q.many q.wrap
def hB (br:Nat) (who:Int) (q:Req) (h:List Int):List Int:=if br=5 then iU h (kP q) else if br=3 then h.set (who*2+q.id).toNat q.addr else h
def u9 (a b:Req):Prop:=∀x∈kP a,x∉kP b
theorem u9.symm {a b:Req} (h:u9 a b):u9 b a:=fun x hx hy=>h x hy hx
def ajR (c:Cfg) (a b:Ev):Prop:=a.who≠b.who∧ ¬(a.kind=3∧b.kind=3)∧(a.kind=2→b.kind=2→u9 (bT c a.who a.n) (bT c b.who b.n))
instance {a b:Req}:Decidable (u9 a b):=by unfold u9;infer_instance
instance {c:Cfg} {a b:Ev}:Decidable (ajR c a b):=by unfold ajR;infer_instance
theorem SD: ∀{l l':List Job},kW l→kW l'→(∀x,x∈l↔x∈l')→l=l'
 | [],[],_,_,_=>rfl
 | [],y::l',_,_,hm=>by have:=(hm y).2 (by simp);cases this
 |x::l,[],_,_,hm=>by have:=(hm x).1 (by simp);cases this
 |x::l,y::l',h,h',hm=>by
  have irr: ∀z:Job,uL z z=false:=fun z=>by simp[uL]
  obtain⟨h1,h2⟩:=G0.1 h
  obtain⟨h3,h4⟩:=G0.1 h'
  have hxy:x=y:=by
   rcases t3.1 ((hm x).1 (by simp)) with hx|hx
   ·exact hx
   ·rcases t3.1 ((hm y).2 (by simp)) with hy|hy
    ·exact hy.symm
    ·have b1:=h3 x hx
     have b2:=h1 y hy
     rw[qL] at b1 b2
     omega
  subst hxy
  congr 1
  refine SD h2 h4 fun z=>⟨fun hz=> ?_,fun hz=> ?_⟩
  ·rcases t3.1 ((hm z).1 (by simp[hz])) with he|he
   ·subst he;have:=h1 z hz;rw[irr] at this;cases this
   ·exact he
  ·rcases t3.1 ((hm z).2 (by simp[hz])) with he|he
   ·subst he;have:=h3 z hz;rw[irr] at this;cases this
   ·exact he
variable{c:Cfg}
theorem wW{e:Ev}{l:List Ev}:runM c s (e::l)=runM c (lS c s e) l:=rfl
theorem ZL{a b:List Ev}:runM c s (a++b)=runM c (runM c s a) b:=by simp[runM]
theorem xB{e:Ev}{l:List Ev}:F9 c s (e::l)↔X6 c s e=0∧F9 c (lS c s e) l:=by
 constructor
 ·intro h
  refine⟨h 0 (by simp),fun k hk=> ?_⟩
  have:=h (k+1) (by simpa using hk)
  rwa [List.take_succ_cons,wW,List.getD_cons_succ] at this
 ·rintro⟨h1,h2⟩ k hk
  match k with
  |0=>exact h1
  |k+1=>
   rw[List.take_succ_cons,wW,List.getD_cons_succ]
   exact h2 k (by simpa using hk)
theorem WS{a b:List Ev}:F9 c s (a++b)↔F9 c s a∧F9 c (runM c s a) b:=by
 induction a generalizing s with
 |nil=>simp[runM,pV]
 |cons e a ih=>rw[List.cons_append,xB,xB,ih,wW,and_assoc]
structure aTQ (s:TSt):Prop where
 words:s.words.length<2^21
 holds:s.holds.length<2^21
 asked:s.asked.length<2^21
 wait:s.wait.length<2^21
 done:s.done.length<2^21
 told:s.told.length<2^21
 data: ∀j∈s.wait++s.done++s.told,j.rsp.data.length<2^21
def InA (asked:List Int) (j:Job):Prop:=(0≤j.who∧j.who≤2)∧0≤j.n∧j.n<asked.getD j.who.toNat default
def as5 (c:Cfg) (j:Job):Prop:=pA j.rsp∧j.rsp.id=(bT c j.who j.n).id
def aTF (c:Cfg) (asked:List Int):Prop:=∀k,k<3→0≤asked.getD k default∧asked.getD k default≤(c.cP.getD k default).length
noncomputable def stB (c:Cfg) (s:TSt):Bool:=@decide (BA c s) (Classical.propDecidable _)
theorem aXJ (h:BA c s):stB c s=true:=by simp[stB,h]
theorem aWH (h: ¬BA c s):stB c s=false:=by simp[stB,h]
noncomputable def tlB (c:Cfg) (s:TSt):Bool:=@decide (aQ c∧BA c s) (Classical.propDecidable _)
theorem aTX (hb:aQ c) (h:BA c s):tlB c s=true:=by simp[tlB,h,hb]
theorem aOH (h: ¬(aQ c∧BA c s)):tlB c s=false:=by simp[tlB,h]
theorem aXH (hb:aQ c):tlB c s=stB c s:=by simp[tlB,stB,hb]
variable{l:List Job}
theorem zG (h:kW l):(l.map key).Nodup:=by
 refine brY.2 (h.imp ?_)
 intro a b hab he
 rw[qL] at hab
 simp only[key,Prod.mk.injEq] at he
 omega
theorem aUA (h1:JS s.words s.holds) (h2:s.asked.length=3) (h3:aTF c s.asked) (h4:kW s.wait) (h5:kW s.done) (h6: ∀j∈s.wait++s.done++s.told,InA s.asked j) (h7:(keys s).Nodup)
 (h8:(s.wait.length:Int)+s.done.length+s.told.length=s.asked.getD 0 default+s.asked.getD 1 default+s.asked.getD 2 default) (h9: ∀j∈s.wait,j.rsp=oW) (h10: ∀j∈s.done++s.told,as5 c j):BA c s:=
 ⟨⟨by have:=h1.1.1;omega,h1.1.2,by have:=h1.2.1;omega,h1.2.2⟩,h2,h3,h4,h5,fun p hp=>by
   obtain⟨j,hj,rfl⟩:=CF.1 hp
   exact h6 j hj,h7,h8,h9,h10⟩
theorem aS8{w d t:List Job} (hw:kW w) (hd:kW d) (ht:(t.map key).Nodup) (h1: ∀j∈t,key j∉w.map key∧key j∉d.map key) (h2: ∀j∈d,key j∉w.map key):((w++d++t).map key).Nodup:=by
 rw[bqX,bqX,brG,brG]
 refine⟨⟨zG hw,zG hd,fun a ha b hb he=> ?_⟩,ht,fun a ha b hb he=> ?_⟩
 ·obtain⟨j,hj,rfl⟩:=CF.1 hb
  exact h2 j hj (he▸ha)
 ·obtain⟨j,hj,rfl⟩:=CF.1 hb
  rcases o3.1 ha with ha|ha
  ·exact(h1 j hj).1 (he▸ha)
  ·exact(h1 j hj).2 (he▸ha)
theorem ZP{who n:Int}:0≤bK (iM who n) l↔(who,n)∈l.map key:=by
 rw[cH,CF]
 refine⟨fun⟨x,hx,h⟩=>⟨x,hx,?_⟩,fun⟨x,hx,h⟩=>⟨x,hx,?_⟩⟩
 ·have:=of_decide_eq_true h;simp[key,this.1,this.2]
 ·simp only[key,Prod.mk.injEq] at h;exact decide_eq_true h
theorem BA.apart (h:BA c s):(s.told.map key).Nodup∧(∀j∈s.told,key j∉s.wait.map key∧key j∉s.done.map key)∧(∀j∈s.done,key j∉s.wait.map key):=by
 have hn:=h.nodup
 unfold keys at hn
 rw[bqX,bqX,brG,brG] at hn
 obtain⟨⟨h1,h2,h3⟩,h4,h5⟩:=hn
 refine⟨h4,fun j hj=>⟨fun hm=> ?_,fun hm=> ?_⟩,fun j hj hm=> ?_⟩
 ·exact h5 _ (brA _ hm) _ (brI hj) rfl
 ·exact h5 _ (brH _ hm) _ (brI hj) rfl
 ·exact h3 _ hm _ (brI hj) rfl
structure aPN (c:Cfg) (asked:List Int) (l:List Job) (done:Bool):Prop where
 inA: ∀j∈l,InA asked j
 sorted:kW l
 rsp: ∀j∈l,if done then as5 c j else j.rsp=oW
noncomputable def aPK (c:Cfg) (asked:List Int) (l:List Job) (done:Bool):Bool:=@decide (aPN c asked l done) (Classical.propDecidable _)
theorem aQD{asked:List Int}{done:Bool} (h:aPN c asked l done):aPK c asked l done=true:=by simp[aPK,h]
theorem aSY{asked:List Int}{done:Bool} (h: ¬aPN c asked l done):aPK c asked l done=false:=by simp[aPK,h]
structure aSQ (c:Cfg) (s:TSt):Prop where
 inA: ∀j∈s.told,InA s.asked j
 once:(s.told.map key).Nodup
 rsp: ∀j∈s.told,as5 c j
noncomputable def aRF (c:Cfg) (s:TSt):Bool:=@decide (aSQ c s) (Classical.propDecidable _)
theorem aTM (h:aSQ c s):aRF c s=true:=by simp[aRF,h]
theorem aTL (h: ¬aSQ c s):aRF c s=false:=by simp[aRF,h]
theorem aTG (h1:JS s.words s.holds) (h2:s.asked.length=3) (h3:aTF c s.asked) (h4:aPN c s.asked s.wait false) (h5:aPN c s.asked s.done true) (h6:aSQ c s)
 (h8:(s.wait.length:Int)+s.done.length+s.told.length=s.asked.getD 0 default+s.asked.getD 1 default+s.asked.getD 2 default) (h7: ∀j∈s.told,key j∉s.wait.map key∧key j∉s.done.map key) (h9: ∀j∈s.done,key j∉s.wait.map key):BA c s:=by
 refine aUA h1 h2 h3 h4.sorted h5.sorted (fun j hj=> ?_) (aS8 h4.sorted h5.sorted h6.once h7 h9) h8 (fun j hj=>by simpa using h4.rsp j hj) fun j hj=> ?_
 ·simp only[o3] at hj
  rcases hj with(hj|hj)|hj
  ·exact h4.inA j hj
  ·exact h5.inA j hj
  ·exact h6.inA j hj
 ·rcases o3.1 hj with hj|hj
  ·have:=h5.rsp j hj
   rwa [if_pos rfl] at this
  ·exact h6.rsp j hj
theorem BA.inA (h:BA c s): ∀j∈s.wait++s.done++s.told,InA s.asked j:=fun j hj=>h.ab8 (key j) (brI hj)
theorem BA.aUL (h:BA c s):aPN c s.asked s.wait false:=⟨fun j hj=>h.inA j (by simp[hj]),h.NR,fun j hj=>by simpa using h.P4 j hj⟩
theorem BA.aUM (h:BA c s):aPN c s.asked s.done true:=⟨fun j hj=>h.inA j (by simp[hj]),h.NW,fun j hj=>by rw[if_pos rfl];exact h.R8 j (by simp[hj])⟩
theorem BA.aUN (h:BA c s):aSQ c s:=⟨fun j hj=>h.inA j (by simp[hj]),h.apart.1,fun j hj=>h.R8 j (by simp[hj])⟩
theorem aEA{l:List Int}{lo up:Int} (h: ∀i,i<l.length→lo≤l.getD i default∧l.getD i default≤up):All l lo up:=fun x hx=>by
 obtain⟨i,hi,rfl⟩:=bqY.1 hx
 simpa [List.getD,hi] using h i hi
theorem aj1{l:List Int}{lo up:Int} (h:All l lo up){i:Nat} (hi:i<l.length):lo≤l.getD i default∧l.getD i default≤up:=h _ (by simp[List.getD,hi])
theorem aKJ{α:Type} [Inhabited α]{l:List α}{P:α→Prop} (h: ∀i,i<l.length→P (l.getD i default)): ∀x∈l,P x:=fun x hx=>by
 obtain⟨i,hi,rfl⟩:=bqY.1 hx
 simpa [List.getD,hi] using h i hi
structure fC where
 who:Int
 n:Int
 left:Int
 deriving Inhabited,DecidableEq
structure fR where
 next:Int
 queue:List Int
 out:List fC
 last:Int
 deriving Inhabited,DecidableEq
structure nY where
 pipe:List fC
 done:List Job
 last:Int
 deriving Inhabited,DecidableEq
structure CSt where
 words:List Int
 holds:List Int
 bM:List fR
 dD:List nY
 told:List Job
 deriving Inhabited,DecidableEq
structure CIn where
 ready:List Bool
 n9:List Bool
 send:List Bool
 deriving Inhabited,DecidableEq
def gZ (m:List Rng) (q:Req):Int:=if bV m (bE q.addr q.many q.wrap)<0 then 3 else (m.getD (bV m (bE q.addr q.many q.wrap)).toNat default).K5
def aF (s:CSt) (k:Nat):fR:=s.bM.getD k default
def aL (s:CSt) (k:Nat):nY:=s.dD.getD k default
def jX (l:List Job):List Job:=l.foldl BM []
def jJ (s:CSt) (k:Nat):List Job:=(aF s k).queue.map fun n=>⟨k,n,oW⟩
def hJ (s:CSt) (k:Nat):List Job:=(aL s k).pipe.map fun j=>⟨j.who,j.n,oW⟩
def qU (s:CSt):List Job:=(List.range s.bM.length).flatMap (jJ s)++(List.range s.dD.length).flatMap (hJ s)
def uQ (s:CSt):List Job:=(List.range s.dD.length).flatMap fun k=>(aL s k).done
def cX (s:CSt):TSt:=⟨s.words,s.holds,s.bM.map (·.next),jX (qU s),jX (uQ s),s.told⟩
def B3 {α:Type} (l:List α) (k:Nat):List α:=l.take k++l.drop (k+1)
def isC (n:Int) (j:fC):Bool:=decide (j.n=n)
def PE (l:List fC) (n:Int):List fC:=B3 l (bK (isC n) l).toNat
inductive Mic where
 |tell (who st:Nat)
 |tick (st:Nat)
 |work (st:Nat)
 |adm (who st:Nat)
 |ask (who:Nat)
def HV (c:Cfg) (s:CSt) (who st:Nat):Prop:=0<(aF s who).queue.length∧(aF s who).out.length<4∧gZ c.map (bT c who ((aF s who).queue.getD 0 default))=st∧
 ∀j∈(aF s who).out,(bT c who j.n).id=(bT c who ((aF s who).queue.getD 0 default)).id→j.left=st
instance {c:Cfg} {s:CSt} {who st:Nat}:Decidable (HV c s who st):=by unfold HV;infer_instance
def EH (c:Cfg) (s:CSt):Mic→Prop
 | .tell who st=>who<3∧st<4∧0<(aL s st).done.length∧((aL s st).done.getD 0 default).who=who
 | .tick st=>st<4∧0<(aL s st).pipe.length∧0<((aL s st).pipe.getD 0 default).left
 | .work st=>st<4∧0<(aL s st).pipe.length∧ ¬0<((aL s st).pipe.getD 0 default).left∧(aL s st).done.length<2
 | .adm who st=>who<3∧st<4∧(aL s st).pipe.length<2∧HV c s who st
 | .ask who=>who<3∧(aF s who).queue.length<2∧(aF s who).next<(c.cP.getD who default).length
def iF (s:CSt) (st:Nat):Job:=(aL s st).done.getD 0 default
def bI (s:CSt) (st:Nat):fC:=(aL s st).pipe.getD 0 default
def jD (c:Cfg) (s:CSt) (st:Nat):(List Int×List Int)×Rsp:=doM c.map s.words s.holds (bI s st).who (bT c (bI s st).who (bI s st).n)
def aR (c:Cfg) (s:CSt):Mic→CSt
 | .tell who st=>{s with told:=s.told++[iF s st],dD:=s.dD.set st {aL s st with done:=(aL s st).done.drop 1},bM:=s.bM.set who {aF s who with out:=PE (aF s who).out (iF s st).n,last:=st}}
 | .tick st=>{s with dD:=s.dD.set st {aL s st with pipe:=(aL s st).pipe.set 0 {bI s st with left:=(bI s st).left-1}}}
 | .work st=>{s with words:=(jD c s st).1.1,holds:=(jD c s st).1.2,dD:=s.dD.set st {aL s st with pipe:=(aL s st).pipe.drop 1,done:=(aL s st).done++[⟨(bI s st).who,(bI s st).n,(jD c s st).2⟩]}}
 | .adm who st=>{s with bM:=s.bM.set who {aF s who with queue:=(aF s who).queue.drop 1,out:=(aF s who).out++[⟨who,(aF s who).queue.getD 0 default,st⟩]},dD:=s.dD.set st {aL s st with pipe:=(aL s st).pipe++[⟨who,(aF s who).queue.getD 0 default,c.lat.getD st default⟩],last:=who}}
 | .ask who=>{s with bM:=s.bM.set who {aF s who with queue:=(aF s who).queue++[(aF s who).next],next:=(aF s who).next+1}}
def y0 (s:CSt):Mic→List Ev
 | .tell who st=>[⟨3,who,(iF s st).n⟩]
 | .work st=>[⟨2,(bI s st).who,(bI s st).n⟩]
 | .ask who=>[⟨1,who,(aF s who).next⟩]
 |_=>[]
theorem fH (l:List Job):(jX l).Perm l:=by
 have h: ∀(l acc:List Job),(l.foldl BM acc).Perm (acc++l):=by
  intro l
  induction l with
  |nil=>intro acc;simp
  |cons x l ih=>
   intro acc
   simp only[List.foldl_cons]
   refine(ih _).trans ?_
   refine((nE acc x).append_right l).trans ?_
   simpa using brR.symm
 simpa [jX] using h l []
theorem J9 (hn:(l.map key).Nodup):kW (jX l):=by
 have h: ∀(l acc:List Job),kW acc→((acc++l).map key).Nodup→kW (l.foldl BM acc):=by
  intro l
  induction l with
  |nil=>intro acc hs _;exact hs
  |cons x l ih=>
   intro acc hs hn
   simp only[List.foldl_cons]
   have hp:(BM acc x++l).Perm (acc++x::l):=((nE acc x).append_right l).trans (by simpa using brR.symm)
   refine ih _ (FW hs fun hm=> ?_) ((hp.map key).nodup_iff.2 hn)
   rw[bqX,brG] at hn
   exact hn.2.2 _ hm (key x) (by simp) rfl
 exact h l [] List.Pairwise.nil (by simpa using hn)
theorem GN{l':List Job} (hs:kW l') (hp:l.Perm l'):jX l=l':=
 SD (J9 ((hp.map key).nodup_iff.2 (zG hs))) hs fun x=>((fH l).trans hp).mem_iff
theorem aoD{β:Type}{n k:Nat} (hk:k<n): ∃a b:List Nat,List.range n=a++k::b∧ ∀f g:Nat→List β,(∀i,i≠k→f i=g i)→a.flatMap f=a.flatMap g∧b.flatMap f=b.flatMap g:=by
 obtain⟨a,b,h⟩:=List.append_of_mem (C2.2 hk)
 have hn:(List.range n).Nodup:=List.nodup_range
 rw[h,brG] at hn
 obtain⟨h1,h2,h3⟩:=hn
 refine⟨a,b,h,fun f g hfg=>⟨?_,?_⟩⟩
 ·simp only[List.flatMap_def]
  congr 1
  exact brC fun i hi=>hfg i fun he=>h3 i hi k (by simp) he
 ·simp only[List.flatMap_def]
  congr 1
  exact brC fun i hi=>hfg i fun he=>(bq8.1 h2).1 (he▸hi)
theorem tE{β:Type} [DecidableEq β]{n k:Nat} (hk:k<n){f g:Nat→List β} (hfg: ∀i,i≠k→f i=g i) (z:β):((List.range n).flatMap f).count z+(g k).count z=((List.range n).flatMap g).count z+(f k).count z:=by
 obtain⟨a,b,h1,h2⟩:=aoD (β:=β) hk
 obtain⟨h3,h4⟩:=h2 f g hfg
 rw[h1]
 simp only[List.flatMap_append,br4,brS]
 rw[h3,h4]
 omega
theorem pY{α:Type} [Inhabited α]{l:List α}{k i:Nat}{x:α} (hk:k<l.length):(l.set k x).getD i default=if i=k then x else l.getD i default:=by
 simp only[List.getD,D0]
 by_cases h:k=i
 ·subst h;simp[hk]
 ·simp[h,Ne.symm h,eq_comm]
structure mD (c:Cfg) (who:Nat) (p:fR):Prop where
 next:0≤p.next∧p.next≤(c.cP.getD who default).length
 ql:p.queue.length≤2∧(p.queue.length:Int)≤p.next
 ol:p.out.length≤4
 last:0≤p.last∧p.last≤3
 queue: ∀i,i<p.queue.length→p.queue.getD i default=p.next-p.queue.length+i
 out: ∀j∈p.out,j.who=who∧(0≤j.n∧j.n<p.next-p.queue.length)∧j.left=gZ c.map (bT c who j.n)
 acX:p.out.Pairwise fun a b=>a.n<b.n
 akF: ∀a∈p.out,∀b∈p.out,(bT c who a.n).id=(bT c who b.n).id→a.left=b.left
def cS (v:nY):List (Int×Int):=v.done.map key++v.pipe.map fun j=>(j.who,j.n)
structure Z0 (c:Cfg) (s:CSt) (st:Nat):Prop where
 pl:(aL s st).pipe.length≤2
 dl:(aL s st).done.length≤2
 last:0≤(aL s st).last∧(aL s st).last≤2
 inc:(cS (aL s st)).Pairwise fun a b=>a.1=b.1→a.2<b.2
 out: ∀x∈cS (aL s st),(0≤x.1∧x.1≤2)∧ ∃j∈(aF s x.1.toNat).out,j.n=x.2∧j.left=st
 rsp: ∀j∈(aL s st).done,as5 c j
 left: ∀i,i<(aL s st).pipe.length→(0≤((aL s st).pipe.getD i default).left∧((aL s st).pipe.getD i default).left≤c.lat.getD st default)∧(0<i→((aL s st).pipe.getD i default).left=c.lat.getD st default)
def hU (s:CSt) (k:Nat):Nat:=(aL s k).pipe.length+(aL s k).done.length
structure COk (c:Cfg) (s:CSt):Prop where
 atm:WK s.words s.holds
 pl:s.bM.length=3
 sl:s.dD.length=4
 port: ∀k,k<3→mD c k (aF s k)
 slv: ∀k,k<4→Z0 c s k
 count:(aF s 0).out.length+(aF s 1).out.length+(aF s 2).out.length=hU s 0+hU s 1+hU s 2+hU s 3
 st:BA c (cX s)
theorem wU{s:CSt}{j:Job}:j∈qU s↔(∃k,k<s.bM.length∧ ∃m∈(aF s k).queue,j=⟨k,m,oW⟩)∨(∃st,st<s.dD.length∧ ∃x∈(aL s st).pipe,j=⟨x.who,x.n,oW⟩):=by
 unfold qU jJ hJ
 simp only[o3,Y8,C2,CF]
 constructor
 ·rintro(⟨k,hk,m,hm,rfl⟩|⟨st,hs,x,hx,rfl⟩)
  ·exact .inl ⟨k,hk,m,hm,rfl⟩
  ·exact .inr ⟨st,hs,x,hx,rfl⟩
 ·rintro(⟨k,hk,m,hm,rfl⟩|⟨st,hs,x,hx,rfl⟩)
  ·exact .inl ⟨k,hk,m,hm,rfl⟩
  ·exact .inr ⟨st,hs,x,hx,rfl⟩
theorem BU{s:CSt}{j:Job}:j∈uQ s↔∃st,st<s.dD.length∧j∈(aL s st).done:=by
 unfold uQ
 simp only[Y8,C2]
theorem mD.asks{who:Nat}{p:fR} (h:mD c who p) (hw:who<3){n:Int} (h0:0≤n) (h1:n<p.next):oA c who n:=by
 have:=h.next
 refine⟨by omega,h0,?_⟩
 rw[Int.toNat_natCast];omega
theorem mD.qIn{who:Nat}{p:fR} (h:mD c who p){m:Int} (hm:m∈p.queue):p.next-p.queue.length≤m∧m<p.next:=by
 obtain⟨i,hi,rfl⟩:=bqY.1 hm
 have:=h.queue i hi
 simp only[List.getD,hi,n1,Option.getD_some] at this
 omega
theorem COk.vIn{s:CSt} (h:COk c s){st:Nat} (hs:st<4){x:Int×Int} (hx:x∈cS (aL s st)):(0≤x.1∧x.1≤2)∧0≤x.2∧x.2<(aF s x.1.toNat).next-(aF s x.1.toNat).queue.length:=by
 obtain⟨h1,j,hj,h2,h3⟩:=(h.slv st hs).out x hx
 have:=(h.port x.1.toNat (by omega)).out j hj
 exact⟨h1,by omega,by omega⟩
theorem COk.same{s:CSt} (h:COk c s){st st':Nat} (hs:st<4) (hs':st'<4){x y:Int×Int} (hx:x∈cS (aL s st)) (hy:y∈cS (aL s st')) (he:x.1=y.1) (hi:(bT c x.1 x.2).id=(bT c y.1 y.2).id):st=st':=by
 obtain⟨h1,j,hj,h2,h3⟩:=(h.slv st hs).out x hx
 obtain⟨h4,j',hj',h5,h6⟩:=(h.slv st' hs').out y hy
 have hp:=h.port x.1.toNat (by omega)
 rw[←he] at hj'
 have:=hp.akF j hj j' hj' (by
  have e1:((x.1.toNat:Nat):Int)=x.1:=by omega
  rw[e1,h2,h5,hi,he])
 omega
theorem JB{v:nY}{x:fC} (h:x∈v.pipe):(x.who,x.n)∈cS v:=brH _ (CF.2 ⟨x,h,rfl⟩)
theorem M9{v:nY}{x:Job} (h:x∈v.done):key x∈cS v:=brA _ (brI h)
theorem gT{α:Type} [Inhabited α]{l:List α} (h:0<l.length):l=l.getD 0 default::l.drop 1:=by
 cases l with
 |nil=>simp at h
 |cons x l=>simp
theorem BF{j:Job}:j∈jX l↔j∈l:=(fH l).mem_iff
theorem R6{s:CSt}{k:Nat} (hk:k<s.bM.length):(cX s).asked.getD k default=(aF s k).next:=by
 simp[cX,aF,List.getD,hk]
theorem XZ{s:CSt} (h:COk c s){m:Mic} (hg:EH c s m): ∀e∈y0 s m,X6 c (cX s) e=0:=by
 intro e he
 have hpl:=h.pl
 have hsl:=h.sl
 cases m with
 |tick st=>simp[y0] at he
 |adm who st=>simp[y0] at he
 |ask who=>
  simp only[y0,CJ] at he
  subst he
  obtain⟨h1,h2,h3⟩:=hg
  have hp:=h.port who h1
  have hask:oA c (who:Int) (aF s who).next:=by
   refine⟨by omega,hp.next.1,?_⟩
   rw[Int.toNat_natCast];omega
  unfold X6
  dsimp only
  rw[if_neg (by exact fun hn=>hn ⟨hask,by omega,by omega⟩),if_pos rfl,if_neg]
  rw[Int.toNat_natCast,R6 (by omega)]
  simp
 |work st=>
  simp only[y0,CJ] at he
  subst he
  obtain⟨h1,h2,h3,h4⟩:=hg
  have hmem:bI s st∈(aL s st).pipe:=cC h2
  have hk:=JB hmem
  obtain⟨hv1,hv2,hv3⟩:=h.vIn h1 hk
  dsimp only at hv1 hv2 hv3
  have hp:=h.port (bI s st).who.toNat (by omega)
  have e1:(((bI s st).who.toNat:Nat):Int)=(bI s st).who:=by omega
  have hask:oA c (bI s st).who (bI s st).n:=by
   have:=hp.asks (n:=(bI s st).n) (by omega) hv2 (by have:=hp.ql;omega)
   rwa [e1] at this
  have hin: ¬bK (iM (bI s st).who (bI s st).n) (cX s).wait<0:=by
   have:0≤bK (iM (bI s st).who (bI s st).n) (cX s).wait:=ZP.2 (CF.2 ⟨⟨(bI s st).who,(bI s st).n,oW⟩,BF.2 (wU.2 (.inr ⟨st,by omega,bI s st,hmem,rfl⟩)),rfl⟩)
   omega
  unfold X6
  dsimp only
  rw[if_neg (by exact fun hn=>hn ⟨hask,by omega,by omega⟩),if_neg (by omega),if_pos rfl,if_neg hin,if_neg]
  rw[cH]
  rintro⟨x,hx,hxa⟩
  obtain⟨⟨ha1,ha2⟩,ha3⟩:=of_decide_eq_true hxa
  dsimp only at ha1 ha2 ha3
  rcases wU.1 (BF.1 hx) with⟨k,hkl,m,hm,rfl⟩|⟨st',hst',y,hy,rfl⟩
  ·dsimp only at ha1 ha2 ha3
   have hq:=(h.port k (by omega)).qIn hm
   have:(bI s st).who.toNat=k:=by omega
   rw[this] at hv3
   omega
  ·dsimp only at ha1 ha2 ha3
   have hss:=h.same (by omega) h1 (JB hy) hk ha1 ha3
   subst hss
   have hinc:=(brM.1 (h.slv st' h1).inc).2.1
   rw[gT h2,n3,G0] at hinc
   rw[gT h2] at hy
   rcases t3.1 hy with rfl|hy
   ·unfold bI at ha2;omega
   ·have:=hinc.1 (y.who,y.n) (CF.2 ⟨y,hy,rfl⟩)
    dsimp only at this
    unfold bI at ha1 ha2
    have:=this ha1.symm
    omega
 |tell who st=>
  simp only[y0,CJ] at he
  subst he
  obtain⟨h0,h1,h2,h3⟩:=hg
  have hmem:iF s st∈(aL s st).done:=cC h2
  have hk:=M9 hmem
  have h3':(iF s st).who=who:=h3
  obtain⟨hv1,hv2,hv3⟩:=h.vIn h1 hk
  simp only[key] at hv1 hv2 hv3
  rw[h3',Int.toNat_natCast] at hv3
  have hp:=h.port who h0
  have hask:oA c (who:Int) (iF s st).n:=hp.asks h0 hv2 (by have:=hp.ql;omega)
  have hin: ¬bK (iM who (iF s st).n) (cX s).done<0:=by
   have:0≤bK (iM who (iF s st).n) (cX s).done:=ZP.2 (CF.2 ⟨iF s st,BF.2 (BU.2 ⟨st,by omega,hmem⟩),by simp[key,h3']⟩)
   omega
  have hinc:=(h.slv st h1).inc
  unfold cS at hinc
  rw[gT h2,n3,List.cons_append,G0] at hinc
  unfold X6
  dsimp only
  rw[if_neg (by exact fun hn=>hn ⟨hask,by omega,by omega⟩),if_neg (by omega),if_neg (by omega),if_neg hin,if_neg]
  rw[cH,cH]
  rintro(⟨x,hx,hxa⟩|⟨x,hx,hxa⟩)
  ·obtain⟨⟨ha1,ha2⟩,ha3⟩:=of_decide_eq_true hxa
   dsimp only at ha1 ha2 ha3
   rcases wU.1 (BF.1 hx) with⟨k,hkl,m,hm,rfl⟩|⟨st',hst',y,hy,rfl⟩
   ·dsimp only at ha1 ha2 ha3
    have hq:=(h.port k (by omega)).qIn hm
    have:who=k:=by omega
    subst this
    omega
   ·dsimp only at ha1 ha2 ha3
    have hss:=h.same (by omega) h1 (JB hy) hk (by simp only[key];rw[h3'];exact ha1) (by simp only[key];rw[h3'];exact ha3)
    subst hss
    have:=hinc.1 (y.who,y.n) (brH _ (CF.2 ⟨y,hy,rfl⟩))
    have:=this (by show (iF s st').who=y.who;rw[h3',ha1])
    have e2:(key ((aL s st').done.getD 0 default)).2=(iF s st').n:=rfl
    dsimp only at this
    omega
  ·obtain⟨⟨ha1,ha2⟩,ha3⟩:=of_decide_eq_true hxa
   dsimp only at ha1 ha2 ha3
   obtain⟨st',hst',hy⟩:=BU.1 (BF.1 hx)
   have hss:=h.same (by omega) h1 (M9 hy) hk (by simp only[key];rw[h3'];exact ha1) (by simp only[key];rw[h3'];rw[ha1] at ha3;rw[ha1];exact ha3)
   subst hss
   rw[gT h2] at hy
   rcases t3.1 hy with rfl|hy
   ·unfold iF at ha2;omega
   ·have:=hinc.1 (key x) (brA _ (brI hy))
    have:=this (by show (iF s st').who=x.who;rw[h3',ha1])
    have e2:(key ((aL s st').done.getD 0 default)).2=(iF s st').n:=rfl
    simp only[key] at this e2
    omega
end Go.AM
