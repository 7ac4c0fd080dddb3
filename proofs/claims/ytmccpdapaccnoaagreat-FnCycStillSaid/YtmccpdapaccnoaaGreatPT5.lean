/- Texts laid together by a program: rules, contracts and the walk that leads to the law. -/
import Derived.Test.YtmccpdapaccnoaaGreatPT3
set_option linter.unusedVariables false
set_option linter.unusedSimpArgs false
set_option linter.unusedSectionVars false
set_option maxRecDepth 100000
set_option maxHeartbeats 8000000
namespace Go.Proofs.YtmccpdapaccnoaaGreat
open Go Go.AM
def GM:AC:= (boG [dO 6 (ki 0)] [0,1,2] (boG [RM 8 2,dI 9 .and 8 (ki 1),dI 10 .mul 9 (ki 255),RM 11 2,dI 12 .shr 11 (.kv (.int .u64 1)),dI 13 .mul 12 (ki 65280),dI 14 .or 10 13,RM 7 14] [0,1,7] (boG [RM 15 0,RM 16 7,dI 17 .andNot 15 16,RM 18 1,RM 19 7,dI 20 .and 18 19,dI 21 .or 17 20,RM 6 21] [6] .ret)))
def NL:List aW:=[.tm 6]
theorem aaH:aO Tryz.prog Tryz.f257 (bnD GM)=some (GM,NL):=by kernel_rfl
theorem ZG:aN Tryz.prog DA Tryz.f257 GM NL:=
 aN.mk Tryz.func257 (by kernel_rfl) aaH
def iC:AC:= (boG [dO 4 boD] [0,1] (boG [RM 5 0,RM 6 1,f6 7 gN [5,6],dI 8 .geq 7 (ki 0),RM 4 8] [4] .ret))
def lV:List aW:=[.tm 4]
theorem wI:aO Tryz.prog Tryz.f258 (bnD iC)=some (iC,lV):=by kernel_rfl
theorem wG:aN Tryz.prog fK Tryz.f258 iC lV:=
 aN.mk Tryz.func258 (by kernel_rfl) wI
def gX:AC:= (boG [dO 4 (ki 0)] [0,1] (.seq (boG [RM 6 0,f1 7 6,dO 8 (ki 0)] [0,1,7,8] (.block 0 (.loop (boG [dI 9 .lss 8 7] [0,1,7,8,9] (.seq (.cond 9 .skip (.exit 0)) (.seq (.block 1 (boG [RM 10 8,RM 5 10] [0,1,5,7,8] (boG [RM 11 1,RM 12 0,RM 13 5,e0 14 1 12 13,RL 15 14,rq 16 (.t5 11 [15])] [0,1,5,7,8,16] (.cond 16 (boG [RM 17 5,RM 4 17] [4] .ret) .skip)))) (m2 [dI 18 .add 8 (ki 1),RM 8 18] [0,1,7,8]))))))) (boG [rq 4 (.move (.kv (.int .i64 (-1))))] [4] .ret)))
def lE:List aW:=[.tm 4]
theorem vL:aO Tryz.prog Tryz.f264 (bnD gX)=some (gX,lE):=by kernel_rfl
theorem uY:aN Tryz.prog fF Tryz.f264 gX lE:=
 aN.mk Tryz.func264 (by kernel_rfl) vL
def eD:AC:= (boG [dO 4 (ki 0)] [0,1] (.seq (boG [RM 6 0,f1 7 6,dO 8 (ki 0)] [0,1,7,8] (.block 0 (.loop (boG [dI 9 .lss 8 7] [0,1,7,8,9] (.seq (.cond 9 .skip (.exit 0)) (.seq (.block 1 (boG [RM 10 8,RM 5 10] [0,1,5,7,8] (boG [RM 11 1,RM 12 0,RM 13 5,e0 14 1 12 13,RL 15 14,rq 16 (.t5 11 [15])] [0,1,5,7,8,16] (.cond 16 (boG [RM 17 5,RM 4 17] [4] .ret) .skip)))) (m2 [dI 18 .add 8 (ki 1),RM 8 18] [0,1,7,8]))))))) (boG [rq 4 (.move (.kv (.int .i64 (-1))))] [4] .ret)))
def hT:List aW:=[.tm 4]
theorem nQ:aO Tryz.prog Tryz.f265 (bnD eD)=some (eD,hT):=by kernel_rfl
theorem nU:aN Tryz.prog cT Tryz.f265 eD hT:=
 aN.mk Tryz.func265 (by kernel_rfl) nQ
def eV:AC:= (boG [dO 4 (ki 0)] [0,1] (.seq (boG [RM 6 0,f1 7 6,dO 8 (ki 0)] [0,1,7,8] (.block 0 (.loop (boG [dI 9 .lss 8 7] [0,1,7,8,9] (.seq (.cond 9 .skip (.exit 0)) (.seq (.block 1 (boG [RM 10 8,RM 5 10] [0,1,5,7,8] (boG [RM 11 1,RM 12 0,RM 13 5,e0 14 7 12 13,f8 15 7 14,rq 16 (.t5 11 [15])] [0,1,5,7,8,16] (.cond 16 (boG [RM 17 5,RM 4 17] [4] .ret) .skip)))) (m2 [dI 18 .add 8 (ki 1),RM 8 18] [0,1,7,8]))))))) (boG [rq 4 (.move (.kv (.int .i64 (-1))))] [4] .ret)))
def iQ:List aW:=[.tm 4]
theorem pF:aO Tryz.prog Tryz.f266 (bnD eV)=some (eV,iQ):=by kernel_rfl
theorem pO:aN Tryz.prog dC Tryz.f266 eV iQ:=
 aN.mk Tryz.func266 (by kernel_rfl) pF
def qQ:AC:= (boG [f7 4 [OZ,OZ,OZ]] [0,1,4] (boG [RM 11 0,f6 12 tN [11,(ki 99999)],rq 13 (.build [OZ,OZ,OZ] [(0,1,12)]),f7 5 [OZ,OZ,OZ],g0 3 true 5 13] [0,1,4,5] (.seq (boG [dO 6 (ki 0)] [0,1,4,5,6] (.block 0 (.loop (.seq (boG [RM 14 6,dI 15 .leq 14 (ki 3)] [0,1,4,5,6,15] (.cond 15 .skip (.exit 0))) (.seq (.block 1 (m2 [RF 18 1 5,g8 19 18 [4] [] true,RM 20 0,boF 21 (.call aD [20,(ki 4)]) [] [1] false,rq 22 (.bC 1 1 [VZ] [(0,1,21)]),rq 23 (.append 1 19 22),RF 24 1 5,g0 1 false 24 23] [0,1,4,5,6])) (m2 [RM 16 6,dI 17 .add 16 (ki 1),RM 6 17] [0,1,4,5,6])))))) (.seq (boG [dO 7 (ki 0)] [0,1,4,5,7] (.block 2 (.loop (.seq (boG [RM 25 7,dI 26 .lss 25 (ki 3)] [0,1,4,5,7,26] (.cond 26 .skip (.exit 2))) (.seq (.block 3 (boG [rq 29 (.bC 7 0 [VZ,VZ,VZ,VZ,(.v (.bool false)),OZ,OZ] []),RM 8 29] [0,1,4,5,7,8] (.seq (boG [RM 30 0,RM 31 1,dI 32 .add 31 (ki 1),f6 33 aD [30,32],RM 9 33] [0,1,4,5,7,8,9] (.block 4 (.loop (.seq (boG [RM 34 9,dI 35 .gtr 34 (ki 0)] [0,1,4,5,7,8,9,35] (.cond 35 .skip (.exit 4))) (.seq (.block 5 (boG [RM 38 0,f6 39 tS [38,(ki 99999)],f7 10 [VZ,VZ,VZ,VZ,(.v (.bool false)),OZ,OZ],g0 7 true 10 39] [0,1,4,5,7,8,9,10] (.seq (boG [RF 40 1 10,RL 41 40,dI 42 .eql 41 (ki 4),RM 43 42,hG 44 8 43 true,GQ 45 (.len false 44) 43 true,hO 46 .gtr 45 (ki 0) 43 true,f3 47 43 46 boD,RM 48 47,hG 49 0 48 true,GQ 50 (.call aD [49,(ki 2)]) 48 true,hO 51 .eql 50 (ki 0) 48 true,f3 52 48 51 boD] [0,1,4,5,7,8,9,10,52] (.cond 52 (m2 [RM 53 8,RF 54 0 10,RL 55 54,RF 56 2 10,RL 57 56,rq 58 (.build [VZ,VZ,VZ,VZ,(.v (.bool false)),OZ,OZ] [(0,1,55),(1,1,(ki 3)),(2,1,57),(3,1,(ki 1))]),rq 59 (.bC 7 1 [VZ,VZ,VZ,VZ,(.v (.bool false)),OZ,OZ] [(0,7,58)]),rq 60 (.append 7 53 59),RM 8 60] [0,1,4,5,7,8,9,10]) .skip)) (m2 [RM 61 8,f8 62 7 10,rq 63 (.bC 7 1 [VZ,VZ,VZ,VZ,(.v (.bool false)),OZ,OZ] [(0,7,62)]),rq 64 (.append 7 61 63),RM 8 64] [0,1,4,5,7,8,9])))) (m2 [RM 36 9,dI 37 .sub 36 (ki 1),RM 9 37] [0,1,4,5,7,8,9])))))) (m2 [RF 65 2 5,g8 66 65 [7] [] false,RM 67 8,RM 68 8,f1 69 68,rq 70 (.mmx true 69 (ki 12)),rq 71 (.slc 7 67 none (some 70) none),rq 72 (.bC 1 1 [OZ] [(0,1,71)]),rq 73 (.append 1 66 72),RF 74 2 5,g0 1 false 74 73] [0,1,4,5,7])))) (m2 [RM 27 7,dI 28 .add 27 (ki 1),RM 7 28] [0,1,4,5,7])))))) (boG [f8 75 3 5,g0 3 true 4 75] [4] .ret)))))
def FY:List aW:=[.cell 4 3 true]
theorem QV:aO Tryz.prog Tryz.f270 (bnD qQ)=some (qQ,FY):=by kernel_rfl
def aNO:AC:= (boG [f7 0 [OZ,OZ]] [0] (boG [f6 3 v8 [],rq 4 (.build [OZ,OZ] [(0,1,3)]),f7 1 [OZ,OZ],g0 2 true 1 4] [0,1] (.seq (boG [dO 2 (ki 0)] [0,1,2] (.block 0 (.loop (.seq (boG [RM 5 2,dI 6 .lss 5 (ki 6)] [0,1,2,6] (.cond 6 .skip (.exit 0))) (.seq (.block 1 (m2 [RF 9 1 1,RL 10 9,rq 11 (.bC 1 1 [VZ] [(0,1,(.kv (.int .i64 (-1))))]),rq 12 (.append 1 10 11),RF 13 1 1,g0 1 false 13 12] [0,1,2])) (m2 [RM 7 2,dI 8 .add 7 (ki 1),RM 2 8] [0,1,2])))))) (boG [f8 14 2 1,g0 2 true 0 14] [0] .ret))))
def aOU:List aW:=[.cell 0 2 true]
theorem aQF:aO Tryz.prog Tryz.f272 (bnD aNO)=some (aNO,aOU):=by kernel_rfl
theorem aQ1:aN Tryz.prog v7 Tryz.f272 aNO aOU:=
 aN.mk Tryz.func272 (by kernel_rfl) aQF
def w9:AC:= (boG [dO 4 (.kv (.slice none 0 0))] [0,1] (boG [rq 7 (.build [VZ,VZ,VZ,(.v (.bool false))] [(0,1,(ki 0)),(1,1,(ki 15))]),rq 8 (.build [VZ,VZ,VZ,(.v (.bool false))] [(0,1,(ki 16)),(1,1,(ki 31)),(2,1,(ki 1))]),RM 9 0,f6 10 aD [9,(ki 3)],dI 11 .eql 10 (ki 0),rq 12 (.build [VZ,VZ,VZ,(.v (.bool false))] [(0,1,(ki 32)),(1,1,(ki 47)),(2,1,(ki 2)),(3,1,11)]),rq 13 (.bC 4 3 [VZ,VZ,VZ,(.v (.bool false))] [(0,4,7),(4,4,8),(8,4,12)]),RM 5 13] [0,1,5] (.seq (boG [RM 14 0,f6 15 aD [14,(ki 4)]] [0,1,5,15] (.block 0 (boG [dI 17 .eql 15 (ki 0),RM 16 17] [0,1,5,15,16] (.cond 16 (m2 [rq 18 (.build [VZ,VZ,VZ,(.v (.bool false))] [(0,1,(ki 0)),(1,1,(ki 7))]),rq 19 (.build [VZ,VZ,VZ,(.v (.bool false))] [(0,1,(ki 8)),(1,1,(ki 15)),(2,1,(ki 1))]),RM 20 0,f6 21 aD [20,(ki 3)],rq 22 (.build [VZ,VZ,VZ,(.v (.bool false))] [(0,1,(ki 20)),(1,1,(ki 40)),(2,1,21)]),RM 23 0,f6 24 aD [23,(ki 2)],dI 25 .eql 24 (ki 0),rq 26 (.build [VZ,VZ,VZ,(.v (.bool false))] [(0,1,(ki 41)),(1,1,(ki 63)),(2,1,(ki 2)),(3,1,25)]),rq 27 (.bC 4 4 [VZ,VZ,VZ,(.v (.bool false))] [(0,4,18),(4,4,19),(8,4,22),(12,4,26)]),RM 5 27] [0,1,5]) (boG [dI 29 .eql 15 (ki 1),RM 28 29] [0,1,5,28] (.cond 28 (m2 [RM 30 5,RM 31 0,f6 32 aD [31,(ki 3)],dI 33 .add (ki 1) 32,rq 34 (.slc 4 30 none (some 33) none),RM 5 34] [0,1,5]) .skip)))))) (.seq (boG [RM 35 0,RM 36 1,f6 37 kE [35,36]] [0,5,37] (.cond 37 (boG [RM 38 0,RM 39 5,f1 40 39,f6 41 aD [38,40],RM 6 41] [0,5,6] (boG [RM 42 0,f6 43 aD [42,(ki 4)]] [0,5,6,43] (.block 1 (boG [dI 51 .eql 43 (ki 0),RM 50 51] [0,5,6,43,50] (.cond 50 (m2 [RM 52 5,RM 53 6,RM 54 5,RM 55 6,e0 56 4 54 55,RF 57 1 56,g8 58 57 [8] [] true,dI 59 .add 58 (ki 1),rq 60 (.bC 1 3 [VZ] [(0,1,(.kv (.int .i64 (-1)))),(1,1,59),(2,1,(ki 5))]),RM 61 0,boF 62 (.call aD [61,(ki 3)]) [8] [6] false,e0 63 1 60 62,RL 64 63,e0 65 4 52 53,RF 66 0 65,g0 1 false 66 64] [5]) (boG [dI 68 .eql 43 (ki 1),RM 67 68] [0,5,6,43,67] (.cond 67 (m2 [RM 69 5,RM 70 6,RM 71 5,RM 72 6,e0 73 4 71 72,RF 74 0 73,g8 75 74 [8] [] true,dI 76 .sub 75 (ki 1),rq 77 (.bC 1 3 [VZ] [(0,1,(ki 64)),(1,1,76),(2,1,(ki 40))]),RM 78 0,boF 79 (.call aD [78,(ki 3)]) [8] [6] false,e0 80 1 77 79,RL 81 80,e0 82 4 69 70,RF 83 1 82,g0 1 false 83 81] [5]) (boG [dI 85 .eql 43 (ki 2),RM 84 85] [0,5,6,84] (.cond 84 (m2 [RM 86 5,RM 87 6,rq 88 (.bC 1 2 [VZ] [(0,1,(.kv (.int .i64 (-1)))),(1,1,(ki 3))]),RM 89 0,f6 90 aD [89,(ki 2)],e0 91 1 88 90,RL 92 91,e0 93 4 86 87,RF 94 2 93,g0 1 false 94 92] [5]) (m2 [RM 44 5,rq 45 (.build [VZ,VZ,VZ,(.v (.bool false))] [(0,1,(ki 60)),(1,1,(ki 61))]),rq 46 (.build [VZ,VZ,VZ,(.v (.bool false))] [(0,1,(ki 62)),(1,1,(ki 62))]),rq 47 (.build [VZ,VZ,VZ,(.v (.bool false))] [(0,1,(ki 63)),(1,1,(ki 63))]),rq 48 (.bC 4 3 [VZ,VZ,VZ,(.v (.bool false))] [(0,4,45),(4,4,46),(8,4,47)]),rq 49 (.append 4 44 48),RM 5 49] [5])))))))))) .skip)) (boG [RM 95 5,RM 4 95] [4] .ret)))))
def GO:List aW:=[.tm 4]
theorem TD:aO Tryz.prog Tryz.f274 (bnD w9)=some (w9,GO):=by kernel_rfl
theorem RN:aN Tryz.prog tN Tryz.f274 w9 GO:=
 aN.mk Tryz.func274 (by kernel_rfl) TD
def sW:AC:= (boG [dO 2 boD] [0] (boG [RM 3 0,RM 4 0,dI 5 .neq 3 4,RM 2 5] [2] .ret))
def A2:List aW:=[.tm 2]
theorem M6:aO Tryz.prog Tryz.f287 (bnD sW)=some (sW,A2):=by kernel_rfl
theorem MP:aN Tryz.prog lG Tryz.f287 sW A2:=
 aN.mk Tryz.func287 (by kernel_rfl) M6
def dM:AC:= (boG [dO 4 (ki 0)] [0,1] (.seq (boG [RM 6 0,f1 7 6,dO 8 (ki 0)] [0,1,7,8] (.block 0 (.loop (boG [dI 9 .lss 8 7] [0,1,7,8,9] (.seq (.cond 9 .skip (.exit 0)) (.seq (.block 1 (boG [RM 10 8,RM 5 10] [0,1,5,7,8] (boG [RM 11 1,RM 12 0,RM 13 5,e0 14 4 12 13,f8 15 4 14,rq 16 (.t5 11 [15])] [0,1,5,7,8,16] (.cond 16 (boG [RM 17 5,RM 4 17] [4] .ret) .skip)))) (m2 [dI 18 .add 8 (ki 1),RM 8 18] [0,1,7,8]))))))) (boG [rq 4 (.move (.kv (.int .i64 (-1))))] [4] .ret)))
def gM:List aW:=[.tm 4]
theorem mU:aO Tryz.prog Tryz.f288 (bnD dM)=some (dM,gM):=by kernel_rfl
theorem mT:aN Tryz.prog bR Tryz.f288 dM gM:=
 aN.mk Tryz.func288 (by kernel_rfl) mU
def o8:AC:= (boG [dO 2 boD] [0] (boG [RM 3 0,f6 4 tR [3],f4 5 4,RM 2 5] [2] .ret))
def xF:List aW:=[.tm 2]
theorem JH:aO Tryz.prog Tryz.f289 (bnD o8)=some (o8,xF):=by kernel_rfl
theorem JM:aN Tryz.prog lX Tryz.f289 o8 xF:=
 aN.mk Tryz.func289 (by kernel_rfl) JH
def yN:AC:= (boG [dO 2 boD] [0] (boG [RM 3 0,f6 4 cQ [3,(ki 0),(ki 65535)],RM 2 4] [2] .ret))
def FL:List aW:=[.tm 2]
theorem SV:aO Tryz.prog Tryz.f290 (bnD yN)=some (yN,FL):=by kernel_rfl
theorem QH:aN Tryz.prog tR Tryz.f290 yN FL:=
 aN.mk Tryz.func290 (by kernel_rfl) SV
def u5:AC:= (boG [rq 3 (.box false 1),dO 4 (ki 0)] [0,3] (boG [RM 5 0,rq 6 (.xop (.zI nJ) [3]),f6 7 bR [5,6],RM 4 7] [4] .ret))
def DX:List aW:=[.tm 4]
theorem N7:aO Tryz.prog Tryz.f291 (bnD u5)=some (u5,DX):=by kernel_rfl
theorem O4:aN Tryz.prog qX Tryz.f291 u5 DX:=
 aN.mk Tryz.func291 (by kernel_rfl) N7
def aBN:AC:= (boG [dO 6 boD] [0,1,2] (.seq (boG [RM 7 0,f6 8 y2 [7,(ki 0),(ki 63)],f4 9 8,RM 10 9,hG 11 1 10 false,hO 12 .neq 11 (ki 1) 10 false,hG 13 12 10 false,hG 14 1 13 true,hO 15 .neq 14 (ki 2) 13 true,GQ 16 (.pick 13 15 boD) 10 false,hG 17 16 10 false,hG 18 1 17 true,hO 19 .neq 18 (ki 4) 17 true,GQ 20 (.pick 17 19 boD) 10 false,f3 21 10 boE 20] [0,1,2,21] (.cond 21 (boG [dO 6 boD] [6] .ret) .skip)) (boG [RM 22 2,RM 23 22,hG 24 0 23 false,hG 25 1 23 false,hO 26 .add 24 25 23 false,hO 27 .sub 26 (ki 1) 23 false,hO 28 .leq 27 (ki 63) 23 false,f3 29 23 boE 28,RM 6 29] [6] .ret)))
def aB2:List aW:=[.tm 6]
theorem aDS:aO Tryz.prog Tryz.f295 (bnD aBN)=some (aBN,aB2):=by kernel_rfl
theorem aDX:aN Tryz.prog aA6 Tryz.f295 aBN aB2:=
 aN.mk Tryz.func295 (by kernel_rfl) aDS
def aBH:AC:= (boG [dO 4 (ki 0)] [0,1] (.seq (boG [dO 5 (ki 0)] [0,1,5] (.block 0 (.loop (.seq (boG [RM 6 5,RM 7 0,f1 8 7,dI 9 .lss 6 8] [0,1,5,9] (.cond 9 .skip (.exit 0))) (.seq (.block 1 (boG [RM 12 1,RM 13 0,RM 14 5,e0 15 4 13 14,RF 16 0 15,RL 17 16,RM 18 0,RM 19 5,e0 20 4 18 19,RF 21 1 20,RL 22 21,f6 23 y2 [12,17,22]] [0,1,5,23] (.cond 23 (boG [RM 24 5,RM 4 24] [4] .ret) .skip))) (m2 [RM 10 5,dI 11 .add 10 (ki 1),RM 5 11] [0,1,5])))))) (boG [rq 4 (.move (.kv (.int .i64 (-1))))] [4] .ret)))
def aBZ:List aW:=[.tm 4]
theorem aDF:aO Tryz.prog Tryz.f296 (bnD aBH)=some (aBH,aBZ):=by kernel_rfl
theorem aDK:aN Tryz.prog aAX Tryz.f296 aBH aBZ:=
 aN.mk Tryz.func296 (by kernel_rfl) aDF
def aNS:AC:= (boG [dO 6 (ki 0)] [0,1,2] (.seq (boG [RM 9 0,f6 10 y2 [9,(ki 0),(ki 65535)],f4 11 10,RM 12 11,hG 13 1 12 false,GQ 14 (.call y2 [13,(ki 0),(ki 65535)]) 12 false,hP 15 14 12 false,f3 16 12 boE 15,RM 17 16,hG 18 2 17 false,GQ 19 (.call y2 [18,(ki 0),(ki 3)]) 17 false,hP 20 19 17 false,f3 21 17 boE 20] [0,1,2,21] (.cond 21 (boG [rq 6 (.move (.kv (.int .i64 (-1))))] [6] .ret) .skip)) (boG [RM 22 0,dI 23 .rem 22 (ki 256),RM 7 23] [0,1,2,7] (boG [RM 24 0,dI 25 .quo 24 (ki 256),RM 8 25] [1,2,7,8] (.seq (boG [RM 26 2,dI 27 .rem 26 (ki 2),dI 28 .eql 27 (ki 1)] [1,2,7,8,28] (.cond 28 (m2 [RM 29 1,dI 30 .rem 29 (ki 256),RM 7 30] [1,2,7,8]) .skip)) (.seq (boG [RM 31 2,dI 32 .quo 31 (ki 2),dI 33 .eql 32 (ki 1)] [1,7,8,33] (.cond 33 (m2 [RM 34 1,dI 35 .quo 34 (ki 256),RM 8 35] [7,8]) .skip)) (boG [RM 36 8,dI 37 .mul 36 (ki 256),RM 38 7,dI 39 .add 37 38,RM 6 39] [6] .ret)))))))
def aOV:List aW:=[.tm 6]
theorem aQX:aO Tryz.prog Tryz.f297 (bnD aNS)=some (aNS,aOV):=by kernel_rfl
theorem aQM:aN Tryz.prog aNH Tryz.f297 aNS aOV:=
 aN.mk Tryz.func297 (by kernel_rfl) aQX
def gI:AC:= (boG [dO 2 (.kv (.slice none 0 0))] [0] (boG [RM 3 0,RM 4 0,f1 5 4,RM 6 0,f1 7 6,rq 8 (.slc 5 3 none (some 5) (some 7)),RM 2 8] [2] .ret))
def kU:List aW:=[.tm 2]
theorem uF:aO Tryz.prog Tryz.f298 (bnD gI)=some (gI,kU):=by kernel_rfl
theorem uU:aN Tryz.prog eS Tryz.f298 gI kU:=
 aN.mk Tryz.func298 (by kernel_rfl) uF
def gC:AC:= (boG [dO 2 (.kv (.slice none 0 0))] [0] (.seq (boG [RM 3 0,rq 4 (.xop (.qJ false) [3])] [0,4] (.cond 4 (boG [dO 2 (.kv (.slice none 0 0))] [2] .ret) .skip)) (boG [rq 5 (.bC 5 0 [VZ,VZ,VZ,VZ,OZ] []),RM 6 0,rq 7 (.append 5 5 6),RM 2 7] [2] .ret)))
def kL:List aW:=[.tm 2]
theorem sU:aO Tryz.prog Tryz.f299 (bnD gC)=some (gC,kL):=by kernel_rfl
theorem s9:aN Tryz.prog eG Tryz.f299 gC kL:=
 aN.mk Tryz.func299 (by kernel_rfl) sU
def s6:AC:= (boG [dO 6 (.kv (.slice none 0 0))] [0,1,2] (.seq (boG [RM 9 0,RM 10 1,RM 11 2,f6 12 nI [9,10,11],f4 13 12] [0,1,2,13] (.cond 13 (boG [dO 6 (.kv (.slice none 0 0))] [6] .ret) .skip)) (boG [RM 14 1,rq 15 (.kY 1 [VZ] 14 14),RM 7 15] [0,1,2,7] (.seq (boG [RM 16 7,f1 17 16,dO 18 (ki 0)] [0,1,2,7,17,18] (.block 0 (.loop (boG [dI 19 .lss 18 17] [0,1,2,7,17,18,19] (.seq (.cond 19 .skip (.exit 0)) (.seq (.block 1 (boG [RM 20 18,RM 8 20] [0,1,2,7,8,17,18] (boG [RM 21 7,RM 22 8,RM 23 0,RM 24 8,dI 25 .add 23 24,e0 26 1 21 22,g0 1 false 26 25] [0,1,2,7,8,17,18] (boG [RM 27 2] [0,1,2,7,8,17,18,27] (.cond 27 (m2 [RM 28 7,RM 29 8,RM 30 0,RM 31 0,RM 32 1,dI 33 .rem 31 32,dI 34 .sub 30 33,RM 35 0,RM 36 8,dI 37 .add 35 36,RM 38 1,dI 39 .rem 37 38,dI 40 .add 34 39,e0 41 1 28 29,g0 1 false 41 40] [0,1,2,7,17,18]) .skip))))) (m2 [dI 42 .add 18 (ki 1),RM 18 42] [0,1,2,7,17,18]))))))) (boG [RM 43 7,RM 6 43] [6] .ret)))))
def BT:List aW:=[.tm 6]
theorem L6:aO Tryz.prog Tryz.f302 (bnD s6)=some (s6,BT):=by kernel_rfl
theorem M3:aN Tryz.prog oS Tryz.f302 s6 BT:=
 aN.mk Tryz.func302 (by kernel_rfl) L6
def jQ:AC:= (boG [dO 4 (ki 0)] [0,1] (.seq (boG [RM 6 0,f1 7 6,dO 8 (ki 0)] [0,1,7,8] (.block 0 (.loop (boG [dI 9 .lss 8 7] [0,1,7,8,9] (.seq (.cond 9 .skip (.exit 0)) (.seq (.block 1 (boG [RM 10 8,RM 5 10] [0,1,5,7,8] (boG [RM 11 1,RM 12 0,RM 13 5,e0 14 1 12 13,RL 15 14,dI 16 .eql 11 15] [0,1,5,7,8,16] (.cond 16 (boG [RM 17 5,RM 4 17] [4] .ret) .skip)))) (m2 [dI 18 .add 8 (ki 1),RM 8 18] [0,1,7,8]))))))) (boG [rq 4 (.move (.kv (.int .i64 (-1))))] [4] .ret)))
def oK:List aW:=[.tm 4]
theorem zS:aO Tryz.prog Tryz.f303 (bnD jQ)=some (jQ,oK):=by kernel_rfl
theorem AD:aN Tryz.prog gN Tryz.f303 jQ oK:=
 aN.mk Tryz.func303 (by kernel_rfl) zS
def aNN:AC:= (boG [f7 0 [OZ]] [0] (boG [rq 1 (.kY 1 [VZ] (ki 64) (ki 64)),rq 2 (.build [OZ] [(0,1,1)]),g0 1 true 0 2] [0] .ret))
def aOJ:List aW:=[.cell 0 1 true]
theorem aQL:aO Tryz.prog Tryz.f306 (bnD aNN)=some (aNN,aOJ):=by kernel_rfl
theorem aQI:aN Tryz.prog v8 Tryz.f306 aNN aOJ:=
 aN.mk Tryz.func306 (by kernel_rfl) aQL
def vH:AC:= (boG [dO 2 (ki 0)] [0] (boG [RM 3 0,f6 4 aD [3,(ki 4)],RM 5 0,f6 6 aD [5,(ki 4)],dI 7 .add (ki 16) 6,RM 8 0,f6 9 aD [8,(ki 4)],dI 10 .add (ki 32) 9,RM 11 0,f6 12 aD [11,(ki 64)],RM 13 0,f6 14 aD [13,(ki 5)],dI 15 .add (ki 13) 14,RM 16 0,f6 17 aD [16,(ki 4)],dI 18 .add (ki 60) 17,rq 19 (.bC 1 6 [VZ] [(0,1,4),(1,1,7),(2,1,10),(3,1,12),(4,1,15),(5,1,18)]),rq 20 (.bC 1 8 [VZ] [(0,1,(ki 0)),(1,1,(ki 0)),(2,1,(ki 1)),(3,1,(ki 1)),(4,1,(ki 2)),(5,1,(ki 3)),(6,1,(ki 4)),(7,1,(ki 5))]),RM 21 0,f6 22 aD [21,(ki 8)],e0 23 1 20 22,RL 24 23,e0 25 1 19 24,RL 26 25,RM 2 26] [2] .ret))
def DR:List aW:=[.tm 2]
theorem O8:aO Tryz.prog Tryz.f307 (bnD vH)=some (vH,DR):=by kernel_rfl
theorem N4:aN Tryz.prog qM Tryz.f307 vH DR:=
 aN.mk Tryz.func307 (by kernel_rfl) O8
def rO:AC:= (boG [f5 2 0,dO 3 boD] [1,2] (boG [RL 4 1,RF 5 0 2,RL 6 5,RF 7 1 2,RL 8 7,f6 9 cQ [4,6,8],RM 3 9] [3] .ret))
def zB:List aW:=[.tm 3]
theorem J5:aO Tryz.prog Tryz.f311 (bnD rO)=some (rO,zB):=by kernel_rfl
theorem J4:aN Tryz.prog nJ Tryz.f311 rO zB:=
 aN.mk Tryz.func311 (by kernel_rfl) J5
end Go.Proofs.YtmccpdapaccnoaaGreat
