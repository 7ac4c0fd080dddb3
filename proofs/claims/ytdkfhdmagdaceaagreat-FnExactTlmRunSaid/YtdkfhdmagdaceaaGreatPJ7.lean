/- Texts laid together by a program: rules, contracts and the walk that leads to the law. -/
import Derived.Test.YtdkfhdmagdaceaaGreatPJ5
import Derived.Test.YtdkfhdmagdaceaaGreatPJ4
set_option linter.unusedVariables false
set_option linter.unusedSimpArgs false
set_option linter.unusedSectionVars false
set_option maxRecDepth 100000
set_option maxHeartbeats 8000000
namespace Go.Proofs.YtdkfhdmagdaceaaGreat
open Go Go.AM
attribute [local irreducible] aM wv aB vd wvH
def atZ:AC:= (boG [dO 6 (.kv (.slice none 0 0))] [0,1,2] (boG [RM 10 0,RM 11 1,rq 12 (.slc 5 10 (some 11) none none)] [0,1,2] (boG [RM 13 2,f1 14 13,RM 7 14] [0,1,2,7] (.seq (boG [RM 15 7,dI 16 .eql 15 (ki 0)] [0,1,2,7,16] (.cond 16 (boG [RM 17 0,RM 6 17] [6] .ret) .skip)) (boG [RM 18 0,f1 19 18,RM 8 19] [0,1,2,7,8] (.seq (boG [RM 20 1,RM 21 8,dI 22 .eql 20 21] [0,1,2,7,8,22] (.cond 22 (boG [RM 23 0,RM 24 2,rq 25 (.append 5 23 24),RM 6 25] [6] .ret) .skip)) (.seq (boG [RM 26 8,RM 27 7,dI 28 .add 26 27,RM 29 0,rq 30 (.cap 29),dI 31 .gtr 28 30] [0,1,2,7,8,31] (.cond 31 (boG [RM 32 0,RM 33 1,rq 34 (.slc 5 32 none (some 33) none),RM 35 8,RM 36 7,dI 37 .add 35 36,RM 38 1,dI 39 .sub 37 38,rq 40 (.xop (.adT 5 [VZ,VZ,VZ,VZ,OZ]) [34,39]),RM 9 40] [0,1,2,7,9] (boG [RM 41 9,RM 42 1,rq 43 (.slc 5 41 (some 42) none none),RM 44 2,rq 45 (.xop (.copy 5) [43,44])] [0,1,7,9] (boG [RM 46 9,RM 47 1,RM 48 7,dI 49 .add 47 48,rq 50 (.slc 5 46 (some 49) none none),RM 51 0,RM 52 1,rq 53 (.slc 5 51 (some 52) none none),rq 54 (.xop (.copy 5) [50,53])] [9] (boG [RM 55 9,RM 6 55] [6] .ret)))) .skip)) (boG [RM 56 0,RM 57 8,RM 58 7,dI 59 .add 57 58,rq 60 (.slc 5 56 none (some 59) none),RM 0 60] [0,1,2,7,8] (.seq (boG [RM 61 2,RM 62 0,RM 63 1,RM 64 7,dI 65 .add 63 64,rq 66 (.slc 5 62 (some 65) none none),rq 67 (.xop (.aaN auV) [61,66]),f4 68 67] [0,1,2,7,8,68] (.cond 68 (boG [RM 69 0,RM 70 1,RM 71 7,dI 72 .add 70 71,rq 73 (.slc 5 69 (some 72) none none),RM 74 0,RM 75 1,rq 76 (.slc 5 74 (some 75) none none),rq 77 (.xop (.copy 5) [73,76])] [0,1,2] (boG [RM 78 0,RM 79 1,rq 80 (.slc 5 78 (some 79) none none),RM 81 2,rq 82 (.xop (.copy 5) [80,81])] [0] (boG [RM 83 0,RM 6 83] [6] .ret))) .skip)) (boG [RM 84 0,RM 85 8,rq 86 (.slc 5 84 (some 85) none none),RM 87 2,rq 88 (.xop (.copy 5) [86,87])] [0,1,7] (boG [RM 89 0,RM 90 1,rq 91 (.slc 5 89 (some 90) none none),RM 92 7,f6 93 avU [91,92]] [0] (boG [RM 94 0,RM 6 94] [6] .ret))))))))))))
def auF:List aW:=[.tm 6]
theorem avB:aO Tryz.prog Tryz.f256 (bnD atZ)=some (atZ,auF):=by kernel_rfl
theorem avE:aN Tryz.prog atU Tryz.f256 atZ auF:=aN.mk Tryz.func256 (by kernel_rfl) avB
def mQ:AC:= (boG [f5 1 0,dO 2 (.kv (.slice none 0 0))] [1] (boG [RF 3 2 1,RL 4 3,RF 5 3 1,RL 6 5,RF 7 4 1,RL 8 7,f6 9 oS [4,6,8],RM 2 9] [2] .ret))
def uP:List aW:=[.tm 2]
theorem GP:aO Tryz.prog Tryz.f257 (bnD mQ)=some (mQ,uP):=by kernel_rfl
theorem GL:aN Tryz.prog fP Tryz.f257 mQ uP:=aN.mk Tryz.func257 (by kernel_rfl) GP
def GM:AC:= (boG [dO 6 (ki 0)] [0,1,2] (boG [RM 8 2,dI 9 .and 8 (ki 1),dI 10 .mul 9 (ki 255),RM 11 2,dI 12 .shr 11 (.kv (.int .u64 1)),dI 13 .mul 12 (ki 65280),dI 14 .or 10 13,RM 7 14] [0,1,7] (boG [RM 15 0,RM 16 7,dI 17 .andNot 15 16,RM 18 1,RM 19 7,dI 20 .and 18 19,dI 21 .or 17 20,RM 6 21] [6] .ret)))
def NL:List aW:=[.tm 6]
theorem aaH:aO Tryz.prog Tryz.f258 (bnD GM)=some (GM,NL):=by kernel_rfl
theorem ZG:aN Tryz.prog DA Tryz.f258 GM NL:=aN.mk Tryz.func258 (by kernel_rfl) aaH
def iC:AC:= (boG [dO 4 boD] [0,1] (boG [RM 5 0,RM 6 1,f6 7 gN [5,6],dI 8 .geq 7 (ki 0),RM 4 8] [4] .ret))
def lV:List aW:=[.tm 4]
theorem wI:aO Tryz.prog Tryz.f259 (bnD iC)=some (iC,lV):=by kernel_rfl
theorem wG:aN Tryz.prog fK Tryz.f259 iC lV:=aN.mk Tryz.func259 (by kernel_rfl) wI
def AK:AC:= (boG [f5 1 0,dO 2 boD] [1] (boG [RF 3 0 1,RL 4 3,f1 5 4,dI 6 .eql 5 (ki 64),RM 7 6,g9 8 0 1 7 true,hD 9 8 7 true,GQ 10 (.call jB [9]) 7 true,f3 11 7 10 boD,RM 2 11] [2] .ret))
def H8:List aW:=[.tm 2]
theorem T7:aO Tryz.prog Tryz.f262 (bnD AK)=some (AK,H8):=by kernel_rfl
theorem T3:aN Tryz.prog wP Tryz.f262 AK H8:=aN.mk Tryz.func262 (by kernel_rfl) T7
def vO:AC:= (boG [dO 2 boD] [0] (boG [RM 3 0,f6 4 cQ [3,(.kv (.int .i64 (-1))),(ki 63)],f4 5 4,RM 2 5] [2] .ret))
def DZ:List aW:=[.tm 2]
theorem OJ:aO Tryz.prog Tryz.f263 (bnD vO)=some (vO,DZ):=by kernel_rfl
theorem OW:aN Tryz.prog rC Tryz.f263 vO DZ:=aN.mk Tryz.func263 (by kernel_rfl) OJ
def dM:AC:= (boG [dO 4 (ki 0)] [0,1] (.seq (boG [RM 6 0,f1 7 6,dO 8 (ki 0)] [0,1,7,8] (.block 0 (.loop (boG [dI 9 .lss 8 7] [0,1,7,8,9] (.seq (.cond 9 .skip (.exit 0)) (.seq (.block 1 (boG [RM 10 8,RM 5 10] [0,1,5,7,8] (boG [RM 11 1,RM 12 0,RM 13 5,e0 14 4 12 13,f8 15 4 14,rq 16 (.t5 11 [15])] [0,1,5,7,8,16] (.cond 16 (boG [RM 17 5,RM 4 17] [4] .ret) .skip)))) (m2 [dI 18 .add 8 (ki 1),RM 8 18] [0,1,7,8]))))))) (boG [rq 4 (.move (.kv (.int .i64 (-1))))] [4] .ret)))
def gM:List aW:=[.tm 4]
theorem mU:aO Tryz.prog Tryz.f275 (bnD dM)=some (dM,gM):=by kernel_rfl
theorem mT:aN Tryz.prog bR Tryz.f275 dM gM:=aN.mk Tryz.func275 (by kernel_rfl) mU
def o8:AC:= (boG [dO 2 boD] [0] (boG [RM 3 0,f6 4 tR [3],f4 5 4,RM 2 5] [2] .ret))
def xF:List aW:=[.tm 2]
theorem JH:aO Tryz.prog Tryz.f276 (bnD o8)=some (o8,xF):=by kernel_rfl
theorem JM:aN Tryz.prog lX Tryz.f276 o8 xF:=aN.mk Tryz.func276 (by kernel_rfl) JH
def yN:AC:= (boG [dO 2 boD] [0] (boG [RM 3 0,f6 4 cQ [3,(ki 0),(ki 65535)],RM 2 4] [2] .ret))
def FL:List aW:=[.tm 2]
theorem SV:aO Tryz.prog Tryz.f277 (bnD yN)=some (yN,FL):=by kernel_rfl
theorem QH:aN Tryz.prog tR Tryz.f277 yN FL:=aN.mk Tryz.func277 (by kernel_rfl) SV
def gX:AC:= (boG [dO 4 (ki 0)] [0,1] (.seq (boG [RM 6 0,f1 7 6,dO 8 (ki 0)] [0,1,7,8] (.block 0 (.loop (boG [dI 9 .lss 8 7] [0,1,7,8,9] (.seq (.cond 9 .skip (.exit 0)) (.seq (.block 1 (boG [RM 10 8,RM 5 10] [0,1,5,7,8] (boG [RM 11 1,RM 12 0,RM 13 5,e0 14 1 12 13,RL 15 14,rq 16 (.t5 11 [15])] [0,1,5,7,8,16] (.cond 16 (boG [RM 17 5,RM 4 17] [4] .ret) .skip)))) (m2 [dI 18 .add 8 (ki 1),RM 8 18] [0,1,7,8]))))))) (boG [rq 4 (.move (.kv (.int .i64 (-1))))] [4] .ret)))
def lE:List aW:=[.tm 4]
theorem vL:aO Tryz.prog Tryz.f278 (bnD gX)=some (gX,lE):=by kernel_rfl
theorem uY:aN Tryz.prog fF Tryz.f278 gX lE:=aN.mk Tryz.func278 (by kernel_rfl) vL
def u5:AC:= (boG [rq 3 (.box false 1),dO 4 (ki 0)] [0,3] (boG [RM 5 0,rq 6 (.xop (.zI nJ) [3]),f6 7 bR [5,6],RM 4 7] [4] .ret))
def DX:List aW:=[.tm 4]
theorem N7:aO Tryz.prog Tryz.f279 (bnD u5)=some (u5,DX):=by kernel_rfl
theorem O4:aN Tryz.prog qX Tryz.f279 u5 DX:=aN.mk Tryz.func279 (by kernel_rfl) N7
def sW:AC:= (boG [dO 2 boD] [0] (boG [RM 3 0,RM 4 0,dI 5 .neq 3 4,RM 2 5] [2] .ret))
def A2:List aW:=[.tm 2]
theorem M6:aO Tryz.prog Tryz.f287 (bnD sW)=some (sW,A2):=by kernel_rfl
theorem MP:aN Tryz.prog lG Tryz.f287 sW A2:=aN.mk Tryz.func287 (by kernel_rfl) M6
def aBN:AC:= (boG [dO 6 boD] [0,1,2] (.seq (boG [RM 7 0,f6 8 y2 [7,(ki 0),(ki 63)],f4 9 8,RM 10 9,hG 11 1 10 false,hO 12 .neq 11 (ki 1) 10 false,hG 13 12 10 false,hG 14 1 13 true,hO 15 .neq 14 (ki 2) 13 true,GQ 16 (.pick 13 15 boD) 10 false,hG 17 16 10 false,hG 18 1 17 true,hO 19 .neq 18 (ki 4) 17 true,GQ 20 (.pick 17 19 boD) 10 false,f3 21 10 boE 20] [0,1,2,21] (.cond 21 (boG [dO 6 boD] [6] .ret) .skip)) (boG [RM 22 2,RM 23 22,hG 24 0 23 false,hG 25 1 23 false,hO 26 .add 24 25 23 false,hO 27 .sub 26 (ki 1) 23 false,hO 28 .leq 27 (ki 63) 23 false,f3 29 23 boE 28,RM 6 29] [6] .ret)))
def aB2:List aW:=[.tm 6]
theorem aDS:aO Tryz.prog Tryz.f290 (bnD aBN)=some (aBN,aB2):=by kernel_rfl
theorem aDX:aN Tryz.prog aA6 Tryz.f290 aBN aB2:=aN.mk Tryz.func290 (by kernel_rfl) aDS
def aBH:AC:= (boG [dO 4 (ki 0)] [0,1] (.seq (boG [dO 5 (ki 0)] [0,1,5] (.block 0 (.loop (.seq (boG [RM 6 5,RM 7 0,f1 8 7,dI 9 .lss 6 8] [0,1,5,9] (.cond 9 .skip (.exit 0))) (.seq (.block 1 (boG [RM 12 1,RM 13 0,RM 14 5,e0 15 4 13 14,RF 16 0 15,RL 17 16,RM 18 0,RM 19 5,e0 20 4 18 19,RF 21 1 20,RL 22 21,f6 23 y2 [12,17,22]] [0,1,5,23] (.cond 23 (boG [RM 24 5,RM 4 24] [4] .ret) .skip))) (m2 [RM 10 5,dI 11 .add 10 (ki 1),RM 5 11] [0,1,5])))))) (boG [rq 4 (.move (.kv (.int .i64 (-1))))] [4] .ret)))
def aBZ:List aW:=[.tm 4]
theorem aDF:aO Tryz.prog Tryz.f291 (bnD aBH)=some (aBH,aBZ):=by kernel_rfl
theorem aDK:aN Tryz.prog aAX Tryz.f291 aBH aBZ:=aN.mk Tryz.func291 (by kernel_rfl) aDF
def aNS:AC:= (boG [dO 6 (ki 0)] [0,1,2] (.seq (boG [RM 9 0,f6 10 y2 [9,(ki 0),(ki 65535)],f4 11 10,RM 12 11,hG 13 1 12 false,GQ 14 (.call y2 [13,(ki 0),(ki 65535)]) 12 false,hP 15 14 12 false,f3 16 12 boE 15,RM 17 16,hG 18 2 17 false,GQ 19 (.call y2 [18,(ki 0),(ki 3)]) 17 false,hP 20 19 17 false,f3 21 17 boE 20] [0,1,2,21] (.cond 21 (boG [rq 6 (.move (.kv (.int .i64 (-1))))] [6] .ret) .skip)) (boG [RM 22 0,dI 23 .rem 22 (ki 256),RM 7 23] [0,1,2,7] (boG [RM 24 0,dI 25 .quo 24 (ki 256),RM 8 25] [1,2,7,8] (.seq (boG [RM 26 2,dI 27 .rem 26 (ki 2),dI 28 .eql 27 (ki 1)] [1,2,7,8,28] (.cond 28 (m2 [RM 29 1,dI 30 .rem 29 (ki 256),RM 7 30] [1,2,7,8]) .skip)) (.seq (boG [RM 31 2,dI 32 .quo 31 (ki 2),dI 33 .eql 32 (ki 1)] [1,7,8,33] (.cond 33 (m2 [RM 34 1,dI 35 .quo 34 (ki 256),RM 8 35] [7,8]) .skip)) (boG [RM 36 8,dI 37 .mul 36 (ki 256),RM 38 7,dI 39 .add 37 38,RM 6 39] [6] .ret)))))))
def aOV:List aW:=[.tm 6]
theorem aQX:aO Tryz.prog Tryz.f292 (bnD aNS)=some (aNS,aOV):=by kernel_rfl
theorem aQM:aN Tryz.prog aNH Tryz.f292 aNS aOV:=aN.mk Tryz.func292 (by kernel_rfl) aQX
def eD:AC:= (boG [dO 4 (ki 0)] [0,1] (.seq (boG [RM 6 0,f1 7 6,dO 8 (ki 0)] [0,1,7,8] (.block 0 (.loop (boG [dI 9 .lss 8 7] [0,1,7,8,9] (.seq (.cond 9 .skip (.exit 0)) (.seq (.block 1 (boG [RM 10 8,RM 5 10] [0,1,5,7,8] (boG [RM 11 1,RM 12 0,RM 13 5,e0 14 1 12 13,RL 15 14,rq 16 (.t5 11 [15])] [0,1,5,7,8,16] (.cond 16 (boG [RM 17 5,RM 4 17] [4] .ret) .skip)))) (m2 [dI 18 .add 8 (ki 1),RM 8 18] [0,1,7,8]))))))) (boG [rq 4 (.move (.kv (.int .i64 (-1))))] [4] .ret)))
def hT:List aW:=[.tm 4]
theorem nQ:aO Tryz.prog Tryz.f293 (bnD eD)=some (eD,hT):=by kernel_rfl
theorem nU:aN Tryz.prog cT Tryz.f293 eD hT:=aN.mk Tryz.func293 (by kernel_rfl) nQ
def eV:AC:= (boG [dO 4 (ki 0)] [0,1] (.seq (boG [RM 6 0,f1 7 6,dO 8 (ki 0)] [0,1,7,8] (.block 0 (.loop (boG [dI 9 .lss 8 7] [0,1,7,8,9] (.seq (.cond 9 .skip (.exit 0)) (.seq (.block 1 (boG [RM 10 8,RM 5 10] [0,1,5,7,8] (boG [RM 11 1,RM 12 0,RM 13 5,e0 14 7 12 13,f8 15 7 14,rq 16 (.t5 11 [15])] [0,1,5,7,8,16] (.cond 16 (boG [RM 17 5,RM 4 17] [4] .ret) .skip)))) (m2 [dI 18 .add 8 (ki 1),RM 8 18] [0,1,7,8]))))))) (boG [rq 4 (.move (.kv (.int .i64 (-1))))] [4] .ret)))
def iQ:List aW:=[.tm 4]
theorem pF:aO Tryz.prog Tryz.f294 (bnD eV)=some (eV,iQ):=by kernel_rfl
theorem pO:aN Tryz.prog dC Tryz.f294 eV iQ:=aN.mk Tryz.func294 (by kernel_rfl) pF
def gI:AC:= (boG [dO 2 (.kv (.slice none 0 0))] [0] (boG [RM 3 0,RM 4 0,f1 5 4,RM 6 0,f1 7 6,rq 8 (.slc 5 3 none (some 5) (some 7)),RM 2 8] [2] .ret))
def kU:List aW:=[.tm 2]
theorem uF:aO Tryz.prog Tryz.f295 (bnD gI)=some (gI,kU):=by kernel_rfl
theorem uU:aN Tryz.prog eS Tryz.f295 gI kU:=aN.mk Tryz.func295 (by kernel_rfl) uF
def gC:AC:= (boG [dO 2 (.kv (.slice none 0 0))] [0] (.seq (boG [RM 3 0,rq 4 (.xop (.qJ false) [3])] [0,4] (.cond 4 (boG [dO 2 (.kv (.slice none 0 0))] [2] .ret) .skip)) (boG [rq 5 (.bC 5 0 [VZ,VZ,VZ,VZ,OZ] []),RM 6 0,rq 7 (.append 5 5 6),RM 2 7] [2] .ret)))
def kL:List aW:=[.tm 2]
theorem sU:aO Tryz.prog Tryz.f296 (bnD gC)=some (gC,kL):=by kernel_rfl
theorem s9:aN Tryz.prog eG Tryz.f296 gC kL:=aN.mk Tryz.func296 (by kernel_rfl) sU
def s6:AC:= (boG [dO 6 (.kv (.slice none 0 0))] [0,1,2] (.seq (boG [RM 9 0,RM 10 1,RM 11 2,f6 12 nI [9,10,11],f4 13 12] [0,1,2,13] (.cond 13 (boG [dO 6 (.kv (.slice none 0 0))] [6] .ret) .skip)) (boG [RM 14 1,rq 15 (.kY 1 [VZ] 14 14),RM 7 15] [0,1,2,7] (.seq (boG [RM 16 7,f1 17 16,dO 18 (ki 0)] [0,1,2,7,17,18] (.block 0 (.loop (boG [dI 19 .lss 18 17] [0,1,2,7,17,18,19] (.seq (.cond 19 .skip (.exit 0)) (.seq (.block 1 (boG [RM 20 18,RM 8 20] [0,1,2,7,8,17,18] (boG [RM 21 7,RM 22 8,RM 23 0,RM 24 8,dI 25 .add 23 24,e0 26 1 21 22,g0 1 false 26 25] [0,1,2,7,8,17,18] (boG [RM 27 2] [0,1,2,7,8,17,18,27] (.cond 27 (m2 [RM 28 7,RM 29 8,RM 30 0,RM 31 0,RM 32 1,dI 33 .rem 31 32,dI 34 .sub 30 33,RM 35 0,RM 36 8,dI 37 .add 35 36,RM 38 1,dI 39 .rem 37 38,dI 40 .add 34 39,e0 41 1 28 29,g0 1 false 41 40] [0,1,2,7,17,18]) .skip))))) (m2 [dI 42 .add 18 (ki 1),RM 18 42] [0,1,2,7,17,18]))))))) (boG [RM 43 7,RM 6 43] [6] .ret)))))
def BT:List aW:=[.tm 6]
theorem L6:aO Tryz.prog Tryz.f299 (bnD s6)=some (s6,BT):=by kernel_rfl
theorem M3:aN Tryz.prog oS Tryz.f299 s6 BT:=aN.mk Tryz.func299 (by kernel_rfl) L6
def jQ:AC:= (boG [dO 4 (ki 0)] [0,1] (.seq (boG [RM 6 0,f1 7 6,dO 8 (ki 0)] [0,1,7,8] (.block 0 (.loop (boG [dI 9 .lss 8 7] [0,1,7,8,9] (.seq (.cond 9 .skip (.exit 0)) (.seq (.block 1 (boG [RM 10 8,RM 5 10] [0,1,5,7,8] (boG [RM 11 1,RM 12 0,RM 13 5,e0 14 1 12 13,RL 15 14,dI 16 .eql 11 15] [0,1,5,7,8,16] (.cond 16 (boG [RM 17 5,RM 4 17] [4] .ret) .skip)))) (m2 [dI 18 .add 8 (ki 1),RM 8 18] [0,1,7,8]))))))) (boG [rq 4 (.move (.kv (.int .i64 (-1))))] [4] .ret)))
def oK:List aW:=[.tm 4]
theorem zS:aO Tryz.prog Tryz.f300 (bnD jQ)=some (jQ,oK):=by kernel_rfl
theorem AD:aN Tryz.prog gN Tryz.f300 jQ oK:=aN.mk Tryz.func300 (by kernel_rfl) zS
def rO:AC:= (boG [f5 2 0,dO 3 boD] [1,2] (boG [RL 4 1,RF 5 0 2,RL 6 5,RF 7 1 2,RL 8 7,f6 9 cQ [4,6,8],RM 3 9] [3] .ret))
def zB:List aW:=[.tm 3]
theorem J5:aO Tryz.prog Tryz.f305 (bnD rO)=some (rO,zB):=by kernel_rfl
theorem J4:aN Tryz.prog nJ Tryz.f305 rO zB:=aN.mk Tryz.func305 (by kernel_rfl) J5
section
variable {H : aA} {nx : Nat} {K : D → aA → Nat → Prop}
theorem agS (n lo up:Int):aB Tryz.prog cQ [boP n,boP lo,boP up] .nil 0 fun a _ _=>a.plain=true∧a=dB (decide (lo≤n∧n≤up)):=by
 refine ae0 rfl fun Q b=> ?_;unfold JX;repeat' first| (first|apply bn1|refine bpL (fun h=> ?_) fun h=> ?_)<;>(simp only[go_sem])|fail
 all_goals first|with_reducible refine aZ b _ rfl rfl ?_|skip
 all_goals first|exact pD (by omega)|exact q9 (by omega)|exact j7 (by omega)|rfl
variable{n:Int}
theorem fE{lo:Int}{up:Int} (h:K (dB (decide (lo≤n∧n≤up))) H nx):aB Tryz.prog cQ [boP n,boP lo,boP up] H nx K:=(agS n lo up).pure rfl (aI ⟨aE rfl,aE rfl,aE rfl,trivial⟩) (fun r hr=>hr▸h)
theorem aBC{lo:Int}{up:Int} (h:K (dB (decide (lo≤n∧n≤up))) H nx):aB Tryz.prog y2 [boP n,boP lo,boP up] H nx K:=by
 refine aB.pure (args0:=[boP n,boP lo,boP up]) (R:=fun a=>a=dB (decide (lo≤n∧n≤up))) ?_ rfl (aI ⟨aE rfl,aE rfl,aE rfl,trivial⟩) (fun r hr=>hr▸h);clear h;refine aD6 rfl fun Q b=> ?_;unfold aBW;repeat' first| (first|apply bn1|refine bpL (fun h=> ?_) fun h=> ?_)<;>(simp only[go_sem])|fail
 all_goals first|with_reducible refine aZ b _ rfl rfl ?_|skip
 all_goals first|exact pD (by omega)|exact q9 (by omega)|exact j7 (by omega)|rfl
theorem OC (n:Int):aB Tryz.prog jA [boP n] .nil 0 fun a _ _=>a.plain=true∧a=dB (decide (0≤n∧n≤2)):=by
 refine MZ rfl fun Q b=> ?_;unfold sZ;repeat' first| (first|apply bn1|apply fE)<;>(simp only[go_sem])|fail
 all_goals first|with_reducible refine aZ b _ rfl rfl ?_|skip
 all_goals first|exact pD (by omega)|exact q9 (by omega)|exact j7 (by omega)|rfl
theorem oR (h:K (dB (decide (0≤n∧n≤2))) H nx):aB Tryz.prog jA [boP n] H nx K:=(OC n).pure rfl (aI ⟨aE rfl,trivial⟩) (fun r hr=>hr▸h)
theorem U5 (h:K (dB (decide (0≤n∧n≤65535))) H nx):aB Tryz.prog tR [boP n] H nx K:=by
 refine aB.pure (args0:=[boP n]) (R:=fun a=>a=dB (decide (0≤n∧n≤65535))) ?_ rfl (aI ⟨aE rfl,trivial⟩) (fun r hr=>hr▸h);clear h;refine QH rfl fun Q b=> ?_;unfold yN;repeat' first| (first|apply bn1|apply fE)<;>(simp only[go_sem])|fail
 all_goals first|with_reducible refine aZ b _ rfl rfl ?_|skip
 all_goals first|exact pD (by omega)|exact q9 (by omega)|exact j7 (by omega)|rfl
variable{addr:Int}
theorem wS{many:Int}{wrap:Bool} (h:K (dB (decide (o7 addr many wrap))) H nx):aB Tryz.prog nI [boP addr,boP many,dB wrap] H nx K:=by
 refine aB.pure (args0:=[boP addr,boP many,dB wrap]) (R:=fun a=>a=dB (decide (o7 addr many wrap))) ?_ rfl (aI ⟨aE rfl,aE rfl,aE rfl,trivial⟩) (fun r hr=>hr▸h);clear h;refine VQ rfl fun Q b=> ?_;unfold z5;repeat' first| (first|apply bn1|refine bpL (fun h=> ?_) fun h=> ?_| (refine bpM (fun h=> ?_) (fun h=> ?_)<;>try subst h)|apply fE)<;>(simp only[go_sem];try simp (disch:=omega) only[Iw])|fail
 all_goals first|with_reducible refine aZ b _ rfl rfl ?_|skip
 all_goals unfold o7
 all_goals first|exact pD (by simp;omega)|exact q9 (by simp;omega)|exact j7 (by simp;omega)
theorem aCI{many:Int}{wrap:Bool} (h:K (dB (decide (o7 addr many wrap))) H nx):aB Tryz.prog aA6 [boP addr,boP many,dB wrap] H nx K:=by
 refine aB.pure (args0:=[boP addr,boP many,dB wrap]) (R:=fun a=>a=dB (decide (o7 addr many wrap))) ?_ rfl (aI ⟨aE rfl,aE rfl,aE rfl,trivial⟩) (fun r hr=>hr▸h);clear h;refine aDX rfl fun Q b=> ?_;unfold aBN;repeat' first| (first|apply bn1|refine bpL (fun h=> ?_) fun h=> ?_| (refine bpM (fun h=> ?_) (fun h=> ?_)<;>try subst h)|apply aBC)<;>(simp only[go_sem];try simp (disch:=omega) only[Iw])|refine bnE (fun h=> ?_) fun h=> ?_|fail
 all_goals first|with_reducible refine aZ b _ rfl rfl ?_|skip
 all_goals unfold o7
 all_goals first|exact pD (by simp;omega)|exact q9 (by simp;omega)|exact j7 (by simp;omega)
variable{l:List Rng}
theorem aB0 (hl:l.length<2^40) (h:K (boP (bK (inR · addr) l)) H nx):aB Tryz.prog aAX [dS (l.map eN),boP addr] H nx K:=by
 refine aB.pure (args0:=[dS (l.map eN),boP addr]) (R:=fun c=>c=boP (bK (inR · addr) l)) ?_ rfl (aI ⟨aE rfl,aE rfl,trivial⟩) (fun r hr=>hr▸h);clear h;refine aDK rfl fun Q b=> ?_;unfold aBH;repeat' first|apply bn1<;>(simp only[go_sem])|fail
 (refine aM.loop (α:={k:Nat//k≤l.length∧(∀i,i<k→inR (l.getD i default) addr=false)}) (fun u=>en [(5,boP u.1),(1,boP addr),(0,dS (l.map eN))]) (fun _=>.nil) _ (fun u=>l.length-u.1) ⟨0,by omega,(by intros;first|trivial|omega)⟩ (bU (m5 _) (by repeat' first|exact bo2|refine xqI rfl rfl ?_|fail)) ?_);(rintro⟨k,d,hinv⟩ bpQ a);repeat' first| (first|apply bn1|apply aBC)<;>(simp only[go_sem];try simp (disch:=omega) only[Iw])|refine bnE (fun h=> ?_) fun h=> ?_|refine⟨by omega,?_⟩|fail
 ·refine aZ b _ rfl rfl (qA (bq3 (CU (by omega) (decide_eq_true (by omega)) hinv)))
 · (refine a _ _ _ ⟨k+1,by omega,iS hinv (decide_eq_false (by omega))⟩ (by omega) (by(try dsimp only);omega) (bU (m5 _) (by repeat' first|exact bo2|refine xqI rfl rfl ?_|fail)))
 ·refine aZ b _ rfl rfl (qA (bq3 (tI fun i hi=>hinv i (by omega))))
theorem aDG{all:List Int} (hl:l.length<2^40) (d:all.length<2^40) (h:K (boP (bV l all)) H nx):aB Tryz.prog aA4 [dS (l.map eN),dS (all.map aJ)] H nx K:=by
 refine aB.pure (args0:=[dS (l.map eN),dS (all.map aJ)]) (R:=fun c=>c=boP (bV l all)) ?_ rfl (aI ⟨aE rfl,aE rfl,trivial⟩) (fun r hr=>hr▸h);clear h;refine aDA rfl fun Q a=> ?_;unfold aBD;repeat' first| (first|apply bn1|apply aB0 hl)<;>(simp only[go_sem])|refine bnE (fun h=> ?_) fun h=> ?_|refine⟨by omega,?_⟩|fail
 ·exact aZ a _ rfl rfl (qA (adL (by omega)).symm)
 (refine aM.loop (α:={k:Nat//k≤all.length∧(∀i,i<k→1≤i→bK (inR · (all.getD i default)) l=bK (inR · (all.getD 0 default)) l)}) (fun u=>en [(6,boP u.1),(5,boP (bK (inR · (all.getD 0 default)) l)),(1,dS (all.map aJ)),(0,dS (l.map eN))]) (fun _=>.nil) _ (fun u=>all.length-u.1) ⟨1,by omega,(by intros;first|trivial|omega)⟩ (bU (m5 _) (by repeat' first|exact bo2|refine xqI rfl rfl ?_|fail)) ?_);(rintro⟨k,e,hinv⟩ bpQ b);repeat' first| (first|apply bn1|apply aB0 hl)<;>(simp only[go_sem];try simp (disch:=omega) only[Iw])|refine bnE (fun h=> ?_) fun h=> ?_|refine⟨by omega,?_⟩|fail
 ·exact aZ a _ rfl rfl (qA (L8 (i:=k) (by omega) (by omega)).symm)
 · (refine b _ _ _ ⟨k+1,by omega,iS hinv (fun _=>by omega)⟩ (by omega) (by(try dsimp only);omega) (bU (m5 _) (by repeat' first|exact bo2|refine xqI rfl rfl ?_|fail)))
 ·exact aZ a _ rfl rfl (qA (RH (by omega) (fun i hi=>hinv i (by omega))).symm)
theorem aC2{q:Req} (h:K (dB (wrM q)) H nx):aB Tryz.prog aAZ [boR (eB q)] H nx K:=by
 refine aB.pure (args0:=[boR (eB q)]) (R:=fun a=>a=dB (wrM q)) ?_ rfl (aI ⟨aE rfl,trivial⟩) (fun r hr=>hr▸h);clear h;refine aCU rfl fun Q b=> ?_;unfold aBB;repeat' first| (first|apply bn1|refine bpL (fun h=> ?_) fun h=> ?_)<;>(simp only[go_sem])|fail
 all_goals first|with_reducible refine aZ b _ rfl rfl ?_|skip
 all_goals unfold wrM
 all_goals first|exact pD (by omega)|exact q9 (by omega)|exact j7 (by omega)|rfl
theorem aC9{many:Int}{wrap:Bool} (h:K (dS ((bE addr many wrap).map aJ)) H nx):aB Tryz.prog aAY [boP addr,boP many,dB wrap] H nx K:=by
 refine aB.fresh (R:=fun i=>i=dS ((bE addr many wrap).map aJ)) ?_ rfl (fun r hr=>hr▸h);clear h;refine aCR rfl fun Q e=> ?_;unfold aBA;repeat' first| (first|apply bn1|apply aCI)<;>(simp only[go_sem])|refine bnE (fun h=> ?_) fun h=> ?_|fail
 ·exact V4 e (dS []) _ rfl xG rfl (by simp[bE,h])
 have a:=Classical.not_not.1 h;obtain⟨bpR,n,bpS,bpT,bpU,bpV,bpW,bpX⟩:=aaA a;clear h;rw[bpV];refine⟨bpR,?_⟩;rw[IntWalk.i64_in (addr-_) (by omega)];repeat' first|apply bn1<;>(simp only[go_sem])|fail
 refine aM.ar4 1 (α:={p:Nat×Nat//p.1≤many.toNat∧p.1≤p.2}) (fun b u=>en [(9,boP u.1.1),(8,boP (addr-addr%many)),(7,boQ 1 b u.1.1 u.1.2),(2,dB wrap),(1,boP many),(0,boP addr)])
  (fun b u=>hp [(b,⟨1,u.1.2,((List.range u.1.1).map (bAt addr many wrap)).map aJ⟩)]) (fun u=>many.toNat-u.1.1) ⟨(0,0),by omega,by omega⟩ (by(refine cR [1] (by omega) (by repeat' first|exact bo2|refine xqI rfl rfl ?_|refine xqO (by omega) rfl rfl (by rfl) ?_|fail) ⟨⟨by simp,by simp[sgL],_,rfl,bP (aG bF _) rfl rfl⟩,trivial⟩ (by simp[sgL]))) ?_
 rintro⟨⟨k,cap⟩,j,f⟩ bpQ c;dsimp only at j f;by_cases d:k<many.toNat
 ·obtain⟨o,q,l⟩:=agW a k d;repeat' first|apply bn1<;>(simp only[go_sem];try simp (disch:=omega) only[Iw])|apply bn2 (by omega)| (with_reducible first|refine fun(cap:Nat) (g:_≤cap)=> ?_|refine fun(m:_≤cap)=> ?_)| ((refine bnF (fun h=> ?_) (fun h=> ?_))<;>try subst h)|refine⟨by omega,?_⟩|fail
  ·refine c _ _ _ ⟨(k+1,cap),by omega,by omega⟩ (by omega) (by dsimp only;omega) (by(refine cR [31] (by omega) (by repeat' first|exact bo2|refine xqI rfl rfl ?_|refine xqO (by omega) rfl rfl (by rfl) ?_|fail) ⟨⟨by simp,by simp[sgL],_,rfl,bP (aG bF _) (congrArg _ (aDH (by simp only[bAt,if_true];exact l))) rfl⟩,trivial⟩ (by simp[sgL])))
  ·refine c _ _ _ ⟨(k+1,cap),by omega,by omega⟩ (by omega) (by dsimp only;omega) (by(refine cR [25] (by omega) (by repeat' first|exact bo2|refine xqI rfl rfl ?_|refine xqO (by omega) rfl rfl (by rfl) ?_|fail) ⟨⟨by simp,by simp[sgL],_,rfl,bP (aG bF _) (congrArg _ (aDH rfl)) rfl⟩,trivial⟩ (by simp[sgL])))
 ·repeat' first|apply bn1<;>(simp only[go_sem])|apply bn3 (by omega)|fail
  ·refine V4 e (dS _) _ rfl (yP bF rfl (by simp) (by simpa using f) trivial) rfl ?_;have:k=many.toNat:=(by omega);subst this;simp[bE,a]
theorem nC (l:List Rng) (f:FuncId) (caps:List D1) (p:Rng→Bool) (hl:l.length<2^40) (m:caps.all D1.dQ=true) (j: ∀x∈l,∀(H:aA) (nx:Nat) (K:D→aA→Nat→Prop),K (dB (p x)) H nx→aB Tryz.prog f (boR (eN x)::caps.map fun d=>.one (.c d)) H nx K):
 aB Tryz.prog bR [dS (l.map eN),.one (.c (.clo f caps))] .nil 0 fun r _ _=>r.plain=true∧r=boP (bK p l):=by
 refine mT rfl fun Q g=> ?_
 unfold dM
 repeat' first|apply bn1<;>(simp only[go_sem])|fail
 (refine aM.loop (α:={k:Nat//k≤l.length∧(∀i,i<k→p (l.getD i default)=false)}) (fun u=>en [(8,boP u.1),(7,boP l.length),(1,.one (.c (.clo f caps))),(0,dS (l.map eN))]) (fun _=>.nil) _ (fun u=>l.length-u.1) ⟨0,by omega,(by intros;first|trivial|omega)⟩ (bU (m5 _) (by repeat' first|exact bo2|refine xqI rfl rfl ?_| (with_reducible apply bo3)| ((with_reducible apply bo0);exact bpG (by assumption))| ((with_reducible apply bo1);apply bo7)|fail)) ?_);(rintro⟨k,n,hinv⟩ bpQ b)
 by_cases e:k<l.length
 ·have a:l.getD k default∈l:=by simp[List.getD,e]
  repeat' first| (first|apply bn1|apply j _ a _ _ _)<;>(simp only[go_sem];try simp (disch:=omega) only[Iw])|apply bn2 (by omega)| ((refine bnF (fun h=> ?_) (fun h=> ?_))<;>try subst h)|refine⟨by omega,?_⟩|fail
  ·refine aZ g _ rfl rfl (qA (bq3 (CU (by omega) (by assumption) hinv)))
  · (refine b _ _ _ ⟨k+1,by omega,iS hinv (by assumption)⟩ (by omega) (by(try dsimp only);omega) (bU (m5 _) (by repeat' first|exact bo2|refine xqI rfl rfl ?_| (with_reducible apply bo3)| ((with_reducible apply bo0);exact bpG (by assumption))| ((with_reducible apply bo1);apply bo7)|fail)))
 ·repeat' first|apply bn1<;>(simp only[go_sem])|apply bn3 (by omega)|fail
  ·refine aZ g _ rfl rfl (qA (bq3 (tI fun i hi=>hinv i (by omega))))
variable{f:FuncId}{caps caps0:List D1}{d:D}
theorem gS{p:Rng→Bool} (hl:l.length<2^40) (a:caps.all D1.dQ=true) (b:CvD H (fun _=>True) id 0 (dS (l.map eN)) d) (e:CvD H (fun _=>True) id 0 (.one (.c (.clo f caps))) (.one (.c (.clo f caps0)))) (g: ∀x∈l,∀(H:aA) (nx:Nat) (K:D→aA→Nat→Prop),K (dB (p x)) H nx→aB Tryz.prog f (boR (eN x)::caps.map fun d=>.one (.c d)) H nx K)
 (h:K (boP (bK p l)) H nx):aB Tryz.prog bR [d,.one (.c (.clo f caps0))] H nx K:=
 (nC l f caps p hl a g).pure rfl (aI ⟨b,e,trivial⟩) fun r hr=>hr▸h
theorem lO (l:List Rng) (f:FuncId) (caps:List D1) (p:Rng→Bool) (hl:l.length<2^40) (a:caps.all D1.dQ=true) (b: ∀x∈l,∀(H:aA) (nx:Nat) (K:D→aA→Nat→Prop),K (dB (p x)) H nx→aB Tryz.prog f (boR (eN x)::caps.map fun d=>.one (.c d)) H nx K):
 aB Tryz.prog bX [dS (l.map eN),.one (.c (.clo f caps))] .nil 0 fun r _ _=>r.plain=true∧r=dB (decide (0≤bK p l)):=by
 refine lF rfl fun Q e=> ?_
 unfold cY
 repeat' first| (first|apply bn1|refine gS hl a (aE rfl) (kC a) b ?_)<;>(simp only[go_sem])|fail
 all_goals exact aZ e _ rfl rfl rfl
theorem lN{p:Rng→Bool} (hl:l.length<2^40) (a:caps.all D1.dQ=true) (b:CvD H (fun _=>True) id 0 (dS (l.map eN)) d) (e:CvD H (fun _=>True) id 0 (.one (.c (.clo f caps))) (.one (.c (.clo f caps0)))) (g: ∀x∈l,∀(H:aA) (nx:Nat) (K:D→aA→Nat→Prop),K (dB (p x)) H nx→aB Tryz.prog f (boR (eN x)::caps.map fun d=>.one (.c d)) H nx K)
 (h:K (dB (decide (0≤bK p l))) H nx):aB Tryz.prog bX [d,.one (.c (.clo f caps0))] H nx K:=
 (lO l f caps p hl a g).pure rfl (aI ⟨b,e,trivial⟩) fun r hr=>hr▸h
theorem wN (l:List Int) (f:FuncId) (caps:List D1) (p:Int→Bool) (hl:l.length<2^40) (m:caps.all D1.dQ=true) (j: ∀x∈l,∀(H:aA) (nx:Nat) (K:D→aA→Nat→Prop),K (dB (p x)) H nx→aB Tryz.prog f (boP x::caps.map fun d=>.one (.c d)) H nx K):
 aB Tryz.prog fF [dS (l.map aJ),.one (.c (.clo f caps))] .nil 0 fun r _ _=>r.plain=true∧r=boP (bK p l):=by
 refine uY rfl fun Q g=> ?_
 unfold gX
 repeat' first|apply bn1<;>(simp only[go_sem])|fail
 (refine aM.loop (α:={k:Nat//k≤l.length∧(∀i,i<k→p (l.getD i default)=false)}) (fun u=>en [(8,boP u.1),(7,boP l.length),(1,.one (.c (.clo f caps))),(0,dS (l.map aJ))]) (fun _=>.nil) _ (fun u=>l.length-u.1) ⟨0,by omega,(by intros;first|trivial|omega)⟩ (bU (m5 _) (by repeat' first|exact bo2|refine xqI rfl rfl ?_| (with_reducible apply bo3)| ((with_reducible apply bo0);exact bpG (by assumption))| ((with_reducible apply bo1);apply bo7)|fail)) ?_);(rintro⟨k,n,hinv⟩ bpQ b)
 by_cases e:k<l.length
 ·have a:l.getD k default∈l:=by simp[List.getD,e]
  repeat' first| (first|apply bn1|apply j _ a _ _ _)<;>(simp only[go_sem];try simp (disch:=omega) only[Iw])|apply bn2 (by omega)| ((refine bnF (fun h=> ?_) (fun h=> ?_))<;>try subst h)|refine⟨by omega,?_⟩|fail
  ·refine aZ g _ rfl rfl (qA (bq3 (CU (by omega) (by assumption) hinv)))
  · (refine b _ _ _ ⟨k+1,by omega,iS hinv (by assumption)⟩ (by omega) (by(try dsimp only);omega) (bU (m5 _) (by repeat' first|exact bo2|refine xqI rfl rfl ?_| (with_reducible apply bo3)| ((with_reducible apply bo0);exact bpG (by assumption))| ((with_reducible apply bo1);apply bo7)|fail)))
 ·repeat' first|apply bn1<;>(simp only[go_sem])|apply bn3 (by omega)|fail
  ·refine aZ g _ rfl rfl (qA (bq3 (tI fun i hi=>hinv i (by omega))))
theorem wO{l:List Int}{p:Int→Bool} (hl:l.length<2^40) (a:caps.all D1.dQ=true) (b:CvD H (fun _=>True) id 0 (dS (l.map aJ)) d) (e:CvD H (fun _=>True) id 0 (.one (.c (.clo f caps))) (.one (.c (.clo f caps0)))) (g: ∀x∈l,∀(H:aA) (nx:Nat) (K:D→aA→Nat→Prop),K (dB (p x)) H nx→aB Tryz.prog f (boP x::caps.map fun d=>.one (.c d)) H nx K)
 (h:K (boP (bK p l)) H nx):aB Tryz.prog fF [d,.one (.c (.clo f caps0))] H nx K:=
 (wN l f caps p hl a g).pure rfl (aI ⟨b,e,trivial⟩) fun r hr=>hr▸h
theorem sR (l:List Int) (f:FuncId) (caps:List D1) (p:Int→Bool) (hl:l.length<2^40) (a:caps.all D1.dQ=true) (b: ∀x∈l,∀(H:aA) (nx:Nat) (K:D→aA→Nat→Prop),K (dB (p x)) H nx→aB Tryz.prog f (boP x::caps.map fun d=>.one (.c d)) H nx K):
 aB Tryz.prog bN [dS (l.map aJ),.one (.c (.clo f caps))] .nil 0 fun r _ _=>r.plain=true∧r=dB (decide (0≤bK p l)):=by
 refine r8 rfl fun Q e=> ?_
 unfold fX
 repeat' first| (first|apply bn1|refine wO hl a (aE rfl) (kC a) b ?_)<;>(simp only[go_sem])|fail
 all_goals exact aZ e _ rfl rfl rfl
theorem d8{l:List Int}{p:Int→Bool} (hl:l.length<2^40) (a:caps.all D1.dQ=true) (b:CvD H (fun _=>True) id 0 (dS (l.map aJ)) d) (e:CvD H (fun _=>True) id 0 (.one (.c (.clo f caps))) (.one (.c (.clo f caps0)))) (g: ∀x∈l,∀(H:aA) (nx:Nat) (K:D→aA→Nat→Prop),K (dB (p x)) H nx→aB Tryz.prog f (boP x::caps.map fun d=>.one (.c d)) H nx K)
 (h:K (dB (decide (0≤bK p l))) H nx):aB Tryz.prog bN [d,.one (.c (.clo f caps0))] H nx K:=
 (sR l f caps p hl a g).pure rfl (aI ⟨b,e,trivial⟩) fun r hr=>hr▸h
theorem au3 (l:List Job) (f:FuncId) (caps:List D1) (p:Job→Bool) (hl:l.length<2^40) (m:caps.all D1.dQ=true) (j: ∀x∈l,∀(H:aA) (nx:Nat) (K:D→aA→Nat→Prop),K (dB (p x)) H nx→aB Tryz.prog f (boR (aS x)::caps.map fun d=>.one (.c d)) H nx K):
 aB Tryz.prog hZ [dS (l.map aS),.one (.c (.clo f caps))] .nil 0 fun r _ _=>r.plain=true∧r=boP (bK p l):=by
 refine auZ rfl fun Q g=> ?_
 unfold atW
 repeat' first|apply bn1<;>(simp only[go_sem])|fail
 (refine aM.loop (α:={k:Nat//k≤l.length∧(∀i,i<k→p (l.getD i default)=false)}) (fun u=>en [(8,boP u.1),(7,boP l.length),(1,.one (.c (.clo f caps))),(0,dS (l.map aS))]) (fun _=>.nil) _ (fun u=>l.length-u.1) ⟨0,by omega,(by intros;first|trivial|omega)⟩ (bU (m5 _) (by repeat' first|exact bo2|refine xqI rfl rfl ?_| (with_reducible apply bo3)| ((with_reducible apply bo0);exact bpG (by assumption))| ((with_reducible apply bo1);apply bo7)|fail)) ?_);(rintro⟨k,n,hinv⟩ bpQ b)
 by_cases e:k<l.length
 ·have a:l.getD k default∈l:=by simp[List.getD,e]
  repeat' first| (first|apply bn1|apply j _ a _ _ _)<;>(simp only[go_sem];try simp (disch:=omega) only[Iw])|apply bn2 (by omega)| ((refine bnF (fun h=> ?_) (fun h=> ?_))<;>try subst h)|refine⟨by omega,?_⟩|fail
  ·refine aZ g _ rfl rfl (qA (bq3 (CU (by omega) (by assumption) hinv)))
  · (refine b _ _ _ ⟨k+1,by omega,iS hinv (by assumption)⟩ (by omega) (by(try dsimp only);omega) (bU (m5 _) (by repeat' first|exact bo2|refine xqI rfl rfl ?_| (with_reducible apply bo3)| ((with_reducible apply bo0);exact bpG (by assumption))| ((with_reducible apply bo1);apply bo7)|fail)))
 ·repeat' first|apply bn1<;>(simp only[go_sem])|apply bn3 (by omega)|fail
  ·refine aZ g _ rfl rfl (qA (bq3 (tI fun i hi=>hinv i (by omega))))
theorem at6{l:List Job}{p:Job→Bool} (hl:l.length<2^40) (a:caps.all D1.dQ=true) (b:CvD H (fun _=>True) id 0 (dS (l.map aS)) d) (e:CvD H (fun _=>True) id 0 (.one (.c (.clo f caps))) (.one (.c (.clo f caps0)))) (g: ∀x∈l,∀(H:aA) (nx:Nat) (K:D→aA→Nat→Prop),K (dB (p x)) H nx→aB Tryz.prog f (boR (aS x)::caps.map fun d=>.one (.c d)) H nx K)
 (h:K (boP (bK p l)) H nx):aB Tryz.prog hZ [d,.one (.c (.clo f caps0))] H nx K:=
 (au3 l f caps p hl a g).pure rfl (aI ⟨b,e,trivial⟩) fun r hr=>hr▸h
theorem auU (l:List Job) (f:FuncId) (caps:List D1) (p:Job→Bool) (hl:l.length<2^40) (a:caps.all D1.dQ=true) (b: ∀x∈l,∀(H:aA) (nx:Nat) (K:D→aA→Nat→Prop),K (dB (p x)) H nx→aB Tryz.prog f (boR (aS x)::caps.map fun d=>.one (.c d)) H nx K):
 aB Tryz.prog wB [dS (l.map aS),.one (.c (.clo f caps))] .nil 0 fun r _ _=>r.plain=true∧r=dB (decide (0≤bK p l)):=by
 refine auP rfl fun Q e=> ?_
 unfold atT
 repeat' first| (first|apply bn1|refine at6 hl a (aE rfl) (kC a) b ?_)<;>(simp only[go_sem])|fail
 all_goals exact aZ e _ rfl rfl rfl
theorem auS{l:List Job}{p:Job→Bool} (hl:l.length<2^40) (a:caps.all D1.dQ=true) (b:CvD H (fun _=>True) id 0 (dS (l.map aS)) d) (e:CvD H (fun _=>True) id 0 (.one (.c (.clo f caps))) (.one (.c (.clo f caps0)))) (g: ∀x∈l,∀(H:aA) (nx:Nat) (K:D→aA→Nat→Prop),K (dB (p x)) H nx→aB Tryz.prog f (boR (aS x)::caps.map fun d=>.one (.c d)) H nx K)
 (h:K (dB (decide (0≤bK p l))) H nx):aB Tryz.prog wB [d,.one (.c (.clo f caps0))] H nx K:=
 (auU l f caps p hl a g).pure rfl (aI ⟨b,e,trivial⟩) fun r hr=>hr▸h
theorem qH (l:List Req) (f:FuncId) (caps:List D1) (p:Req→Bool) (hl:l.length<2^40) (m:caps.all D1.dQ=true) (j: ∀x∈l,∀(H:aA) (nx:Nat) (K:D→aA→Nat→Prop),K (dB (p x)) H nx→aB Tryz.prog f (boR (eB x)::caps.map fun d=>.one (.c d)) H nx K):
 aB Tryz.prog dC [dS (l.map eB),.one (.c (.clo f caps))] .nil 0 fun r _ _=>r.plain=true∧r=boP (bK p l):=by
 refine pO rfl fun Q g=> ?_
 unfold eV
 repeat' first|apply bn1<;>(simp only[go_sem])|fail
 (refine aM.loop (α:={k:Nat//k≤l.length∧(∀i,i<k→p (l.getD i default)=false)}) (fun u=>en [(8,boP u.1),(7,boP l.length),(1,.one (.c (.clo f caps))),(0,dS (l.map eB))]) (fun _=>.nil) _ (fun u=>l.length-u.1) ⟨0,by omega,(by intros;first|trivial|omega)⟩ (bU (m5 _) (by repeat' first|exact bo2|refine xqI rfl rfl ?_| (with_reducible apply bo3)| ((with_reducible apply bo0);exact bpG (by assumption))| ((with_reducible apply bo1);apply bo7)|fail)) ?_);(rintro⟨k,n,hinv⟩ bpQ b)
 by_cases e:k<l.length
 ·have a:l.getD k default∈l:=by simp[List.getD,e]
  repeat' first| (first|apply bn1|apply j _ a _ _ _)<;>(simp only[go_sem];try simp (disch:=omega) only[Iw])|apply bn2 (by omega)| ((refine bnF (fun h=> ?_) (fun h=> ?_))<;>try subst h)|refine⟨by omega,?_⟩|fail
  ·refine aZ g _ rfl rfl (qA (bq3 (CU (by omega) (by assumption) hinv)))
  · (refine b _ _ _ ⟨k+1,by omega,iS hinv (by assumption)⟩ (by omega) (by(try dsimp only);omega) (bU (m5 _) (by repeat' first|exact bo2|refine xqI rfl rfl ?_| (with_reducible apply bo3)| ((with_reducible apply bo0);exact bpG (by assumption))| ((with_reducible apply bo1);apply bo7)|fail)))
 ·repeat' first|apply bn1<;>(simp only[go_sem])|apply bn3 (by omega)|fail
  ·refine aZ g _ rfl rfl (qA (bq3 (tI fun i hi=>hinv i (by omega))))
theorem qC{l:List Req}{p:Req→Bool} (hl:l.length<2^40) (a:caps.all D1.dQ=true) (b:CvD H (fun _=>True) id 0 (dS (l.map eB)) d) (e:CvD H (fun _=>True) id 0 (.one (.c (.clo f caps))) (.one (.c (.clo f caps0)))) (g: ∀x∈l,∀(H:aA) (nx:Nat) (K:D→aA→Nat→Prop),K (dB (p x)) H nx→aB Tryz.prog f (boR (eB x)::caps.map fun d=>.one (.c d)) H nx K)
 (h:K (boP (bK p l)) H nx):aB Tryz.prog dC [d,.one (.c (.clo f caps0))] H nx K:=
 (qH l f caps p hl a g).pure rfl (aI ⟨b,e,trivial⟩) fun r hr=>hr▸h
theorem nT (l:List Req) (f:FuncId) (caps:List D1) (p:Req→Bool) (hl:l.length<2^40) (a:caps.all D1.dQ=true) (b: ∀x∈l,∀(H:aA) (nx:Nat) (K:D→aA→Nat→Prop),K (dB (p x)) H nx→aB Tryz.prog f (boR (eB x)::caps.map fun d=>.one (.c d)) H nx K):
 aB Tryz.prog cN [dS (l.map eB),.one (.c (.clo f caps))] .nil 0 fun r _ _=>r.plain=true∧r=dB (decide (0≤bK p l)):=by
 refine m7 rfl fun Q e=> ?_
 unfold dX
 repeat' first| (first|apply bn1|refine qC hl a (aE rfl) (kC a) b ?_)<;>(simp only[go_sem])|fail
 all_goals exact aZ e _ rfl rfl rfl
theorem nW{l:List Req}{p:Req→Bool} (hl:l.length<2^40) (a:caps.all D1.dQ=true) (b:CvD H (fun _=>True) id 0 (dS (l.map eB)) d) (e:CvD H (fun _=>True) id 0 (.one (.c (.clo f caps))) (.one (.c (.clo f caps0)))) (g: ∀x∈l,∀(H:aA) (nx:Nat) (K:D→aA→Nat→Prop),K (dB (p x)) H nx→aB Tryz.prog f (boR (eB x)::caps.map fun d=>.one (.c d)) H nx K)
 (h:K (dB (decide (0≤bK p l))) H nx):aB Tryz.prog cN [d,.one (.c (.clo f caps0))] H nx K:=
 (nT l f caps p hl a g).pure rfl (aI ⟨b,e,trivial⟩) fun r hr=>hr▸h
theorem oH (l:List (List Req)) (f:FuncId) (caps:List D1) (p:(List Req)→Bool) (hl:l.length<2^40) (m:caps.all D1.dQ=true) (j: ∀x∈l,∀(H:aA) (nx:Nat) (K:D→aA→Nat→Prop),K (dB (p x)) H nx→aB Tryz.prog f (dS (x.map eB)::caps.map fun d=>.one (.c d)) H nx K):
 aB Tryz.prog cT [dS (l.map jR),.one (.c (.clo f caps))] .nil 0 fun r _ _=>r.plain=true∧r=boP (bK p l):=by
 refine nU rfl fun Q g=> ?_
 unfold eD
 repeat' first|apply bn1<;>(simp only[go_sem])|fail
 (refine aM.loop (α:={k:Nat//k≤l.length∧(∀i,i<k→p (l.getD i default)=false)}) (fun u=>en [(8,boP u.1),(7,boP l.length),(1,.one (.c (.clo f caps))),(0,dS (l.map jR))]) (fun _=>.nil) _ (fun u=>l.length-u.1) ⟨0,by omega,(by intros;first|trivial|omega)⟩ (bU (m5 _) (by repeat' first|exact bo2|refine xqI rfl rfl ?_| (with_reducible apply bo3)| ((with_reducible apply bo0);exact bpG (by assumption))| ((with_reducible apply bo1);apply bo7)|fail)) ?_);(rintro⟨k,n,hinv⟩ bpQ b)
 by_cases e:k<l.length
 ·have a:l.getD k default∈l:=by simp[List.getD,e]
  repeat' first| (first|apply bn1|apply j _ a _ _ _)<;>(simp only[go_sem];try simp (disch:=omega) only[Iw])|apply bn2 (by omega)| ((refine bnF (fun h=> ?_) (fun h=> ?_))<;>try subst h)|refine⟨by omega,?_⟩|fail
  ·refine aZ g _ rfl rfl (qA (bq3 (CU (by omega) (by assumption) hinv)))
  · (refine b _ _ _ ⟨k+1,by omega,iS hinv (by assumption)⟩ (by omega) (by(try dsimp only);omega) (bU (m5 _) (by repeat' first|exact bo2|refine xqI rfl rfl ?_| (with_reducible apply bo3)| ((with_reducible apply bo0);exact bpG (by assumption))| ((with_reducible apply bo1);apply bo7)|fail)))
 ·repeat' first|apply bn1<;>(simp only[go_sem])|apply bn3 (by omega)|fail
  ·refine aZ g _ rfl rfl (qA (bq3 (tI fun i hi=>hinv i (by omega))))
theorem oN{l:List (List Req)}{p:(List Req)→Bool} (hl:l.length<2^40) (a:caps.all D1.dQ=true) (b:CvD H (fun _=>True) id 0 (dS (l.map jR)) d) (e:CvD H (fun _=>True) id 0 (.one (.c (.clo f caps))) (.one (.c (.clo f caps0)))) (g: ∀x∈l,∀(H:aA) (nx:Nat) (K:D→aA→Nat→Prop),K (dB (p x)) H nx→aB Tryz.prog f (dS (x.map eB)::caps.map fun d=>.one (.c d)) H nx K)
 (h:K (boP (bK p l)) H nx):aB Tryz.prog cT [d,.one (.c (.clo f caps0))] H nx K:=
 (oH l f caps p hl a g).pure rfl (aI ⟨b,e,trivial⟩) fun r hr=>hr▸h
theorem mJ (l:List (List Req)) (f:FuncId) (caps:List D1) (p:(List Req)→Bool) (hl:l.length<2^40) (a:caps.all D1.dQ=true) (b: ∀x∈l,∀(H:aA) (nx:Nat) (K:D→aA→Nat→Prop),K (dB (p x)) H nx→aB Tryz.prog f (dS (x.map eB)::caps.map fun d=>.one (.c d)) H nx K):
 aB Tryz.prog cF [dS (l.map jR),.one (.c (.clo f caps))] .nil 0 fun r _ _=>r.plain=true∧r=dB (decide (0≤bK p l)):=by
 refine l7 rfl fun Q e=> ?_
 unfold dG
 repeat' first| (first|apply bn1|refine oN hl a (aE rfl) (kC a) b ?_)<;>(simp only[go_sem])|fail
 all_goals exact aZ e _ rfl rfl rfl
theorem mS{l:List (List Req)}{p:(List Req)→Bool} (hl:l.length<2^40) (a:caps.all D1.dQ=true) (b:CvD H (fun _=>True) id 0 (dS (l.map jR)) d) (e:CvD H (fun _=>True) id 0 (.one (.c (.clo f caps))) (.one (.c (.clo f caps0)))) (g: ∀x∈l,∀(H:aA) (nx:Nat) (K:D→aA→Nat→Prop),K (dB (p x)) H nx→aB Tryz.prog f (dS (x.map eB)::caps.map fun d=>.one (.c d)) H nx K)
 (h:K (dB (decide (0≤bK p l))) H nx):aB Tryz.prog cF [d,.one (.c (.clo f caps0))] H nx K:=
 (mJ l f caps p hl a g).pure rfl (aI ⟨b,e,trivial⟩) fun r hr=>hr▸h
theorem NC{r:Rng} (h:K (dB (inR r addr)) H nx):aB Tryz.prog nJ [boR (eN r),.one (.c (.fQ [cI addr]))] H nx K:=by
 refine aB.pure (args0:=[boR (eN r),.one (.c (.fQ [cI addr]))]) (R:=fun a=>a=dB (inR r addr)) ?_ rfl (aI ⟨aE rfl,aE rfl,trivial⟩) (fun r hr=>hr▸h);clear h;refine J4 rfl fun Q b=> ?_;unfold rO;repeat' first| (first|apply bn1|apply fE)<;>(simp only[go_sem])|fail
 all_goals first|with_reducible refine aZ b _ rfl rfl ?_|skip
 all_goals exact pD brL
theorem SX (hl:l.length<2^40) (h:K (boP (bK (inR · addr) l)) H nx):aB Tryz.prog qX [dS (l.map eN),boP addr] H nx K:=by
 refine aB.pure (args0:=[dS (l.map eN),boP addr]) (R:=fun a=>a=boP (bK (inR · addr) l)) ?_ rfl (aI ⟨aE rfl,aE rfl,trivial⟩) (fun r hr=>hr▸h);clear h;refine O4 rfl fun Q b=> ?_;unfold u5;repeat' first| (first|apply bn1|refine gS (caps:=[.fQ [cI addr]]) (p:=(inR · addr)) hl rfl (aE rfl) (PR ⟨zE rfl trivial rfl rfl rfl,trivial⟩) (fun x _ H nx K h=>NC h) ?_)<;>(simp only[go_sem])|fail
 all_goals first|with_reducible refine aZ b _ rfl rfl ?_|skip
 all_goals first|rfl|exact qA (by omega)
theorem RE{q:Rng}{r:Rng} (h:K (dB (aaM q r)) H nx):aB Tryz.prog rE [boR (eN q),.one (.c (.fQ (eN r)))] H nx K:=by
 refine aB.pure (args0:=[boR (eN q),.one (.c (.fQ (eN r)))]) (R:=fun a=>a=dB (aaM q r)) ?_ rfl (aI ⟨aE rfl,aE rfl,trivial⟩) (fun r hr=>hr▸h);clear h;refine N2 rfl fun Q b=> ?_;unfold u3;repeat' first| (first|apply bn1|refine bpL (fun h=> ?_) fun h=> ?_)<;>(simp only[go_sem])|fail
 all_goals first|with_reducible refine aZ b _ rfl rfl ?_|skip
 all_goals unfold aaM
 all_goals first|exact pD (by omega)|exact q9 (by omega)|exact j7 (by omega)
theorem YK (hl:l.length<2^40) (h:K (dB (decide (DH l))) H nx):aB Tryz.prog wR [dS (l.map eN)] H nx K:=by
 refine aB.pure (args0:=[dS (l.map eN)]) (R:=fun e=>e=dB (decide (DH l))) ?_ rfl (aI ⟨aE rfl,trivial⟩) (fun r hr=>hr▸h);clear h;refine VB rfl fun Q d=> ?_;unfold zQ;repeat' first|apply bn1<;>(simp only[go_sem])|fail
 (refine aM.loop (α:={k:Nat//k≤l.length∧(∀i,i<k→V9 l i)}) (fun u=>en [(7,boP u.1),(6,boP l.length),(5,dS (l.map eN)),(0,dS (l.map eN))]) (fun _=>.nil) _ (fun u=>l.length-u.1) ⟨0,by omega,(by intros;first|trivial|omega)⟩ (bU (m5 _) (by repeat' first|exact bo2|refine xqI rfl rfl ?_|fail)) ?_);(rintro⟨k,f,hinv⟩ bpQ a);by_cases b:k<l.length
 ·repeat' first| (first|apply bn1|refine bpL (fun h=> ?_) fun h=> ?_|apply fE| (refine lN (l:=l.take k) (caps:=[.fQ (eN (l.getD k default))]) (p:=fun q=>aaM q (l.getD k default)) (by simp;omega) rfl (aE rfl) (PR ⟨zE rfl trivial rfl rfl rfl,trivial⟩) (fun x _ H nx K h=>RE h) ?_))<;>(simp only[go_sem];try simp (disch:=omega) only[Iw])|apply bn2 (by omega)|refine bnE (fun h=> ?_) fun h=> ?_|refine⟨by omega,?_⟩|fail
  all_goals first
   | (refine aZ d _ rfl rfl (j7 fun hm=> ?_);have:=(hm.2 k b);unfold V9 SF at this;omega)
   | (refine a _ _ _ ⟨k+1,by omega,iS hinv (by unfold V9 SF;omega)⟩ (by omega) (by(try dsimp only);omega) (bU (m5 _) (by repeat' first|exact bo2|refine xqI rfl rfl ?_|fail)))
 ·repeat' first|apply bn1<;>(simp only[go_sem])|apply bn3 (by omega)|fail
  have c:k=l.length:=by omega
  subst c;exact aZ d _ rfl rfl (pD ⟨fun h=>⟨h,hinv⟩,fun h=>h.1⟩)
theorem gH{q:Req} (h:K (dB (wrM q)) H nx):aB Tryz.prog eY [boR (eB q)] H nx K:=by
 refine aB.pure (args0:=[boR (eB q)]) (R:=fun a=>a=dB (wrM q)) ?_ rfl (aI ⟨aE rfl,trivial⟩) (fun r hr=>hr▸h);clear h;refine EO rfl fun Q b=> ?_;unfold lM;repeat' first| (first|apply bn1|refine bpL (fun h=> ?_) fun h=> ?_)<;>(simp only[go_sem])|fail
 all_goals first|with_reducible refine aZ b _ rfl rfl ?_|skip
 all_goals unfold wrM
 all_goals first|exact pD (by omega)|exact q9 (by omega)|exact j7 (by omega)|rfl
theorem LA (h:K (dB (decide (¬(0≤n∧n≤65535)))) H nx):aB Tryz.prog lX [boP n] H nx K:=by
 refine aB.pure (args0:=[boP n]) (R:=fun a=>a=dB (decide (¬(0≤n∧n≤65535)))) ?_ rfl (aI ⟨aE rfl,trivial⟩) (fun r hr=>hr▸h);clear h;refine JM rfl fun Q b=> ?_;unfold o8;repeat' first| (first|apply bn1|apply U5)<;>(simp only[go_sem])|fail
 all_goals first|with_reducible refine aZ b _ rfl rfl ?_|skip
 all_goals first|exact pD (by omega)|exact q9 (by omega)|exact j7 (by omega)|rfl
theorem S7 (h:K (dB (decide (¬(-1≤n∧n≤63)))) H nx):aB Tryz.prog rC [boP n] H nx K:=by
 refine aB.pure (args0:=[boP n]) (R:=fun a=>a=dB (decide (¬(-1≤n∧n≤63)))) ?_ rfl (aI ⟨aE rfl,trivial⟩) (fun r hr=>hr▸h);clear h;refine OW rfl fun Q b=> ?_;unfold vO;repeat' first| (first|apply bn1|apply fE)<;>(simp only[go_sem])|fail
 all_goals first|with_reducible refine aZ b _ rfl rfl ?_|skip
 all_goals first|exact pD (by omega)|exact q9 (by omega)|exact j7 (by omega)|rfl
theorem QA (h:K (dB (decide (¬(0≤n∧n≤3)))) H nx):aB Tryz.prog qK [boP n] H nx K:=by
 refine aB.pure (args0:=[boP n]) (R:=fun a=>a=dB (decide (¬(0≤n∧n≤3)))) ?_ rfl (aI ⟨aE rfl,trivial⟩) (fun r hr=>hr▸h);clear h;refine PF rfl fun Q b=> ?_;unfold vK;repeat' first| (first|apply bn1|apply fE)<;>(simp only[go_sem])|fail
 all_goals first|with_reducible refine aZ b _ rfl rfl ?_|skip
 all_goals first|exact pD (by omega)|exact q9 (by omega)|exact j7 (by omega)|rfl
theorem S5 (h:K (dB (decide (¬(0≤n∧n≤3)))) H nx):aB Tryz.prog rT [boP n] H nx K:=by
 refine aB.pure (args0:=[boP n]) (R:=fun a=>a=dB (decide (¬(0≤n∧n≤3)))) ?_ rfl (aI ⟨aE rfl,trivial⟩) (fun r hr=>hr▸h);clear h;refine ON rfl fun Q b=> ?_;unfold vC;repeat' first| (first|apply bn1|apply fE)<;>(simp only[go_sem])|fail
 all_goals first|with_reducible refine aZ b _ rfl rfl ?_|skip
 all_goals first|exact pD (by omega)|exact q9 (by omega)|exact j7 (by omega)|rfl
theorem vG{l:List Int} (hl:l.length<2^40){b:D} (a:CvD H (fun _=>True) id 0 (dS (l.map aJ)) b) (h:K (dB (decide (All l 0 65535))) H nx):aB Tryz.prog jB [b] H nx K:=by
 refine aB.pure (args0:=[dS (l.map aJ)]) (R:=fun c=>c=dB (decide (All l 0 65535))) ?_ rfl (aI ⟨a,trivial⟩) (fun r hr=>hr▸h);clear h;refine NB rfl fun Q d=> ?_;unfold sO;repeat' first| (first|apply bn1|refine d8 (caps:=[]) (p:=fun x=>decide (¬(0≤x∧x≤65535))) hl rfl (aE rfl) (kC rfl) (fun x _ H nx K h=>LA h) ?_)<;>(simp only[go_sem])|fail
 all_goals first|with_reducible refine aZ d _ rfl rfl ?_|skip
 all_goals exact pD KP.symm
theorem X0{l:List Int} (hl:l.length<2^40){b:D} (a:CvD H (fun _=>True) id 0 (boR [.isl (l.map aJ)]) b) (h:K (dB (decide ((l.length:Int)=64∧All l 0 65535))) H nx):aB Tryz.prog wP [b] H nx K:=by
 refine aB.pure (args0:=[boR [.isl (l.map aJ)]]) (R:=fun c=>c=dB (decide ((l.length:Int)=64∧All l 0 65535))) ?_ rfl (aI ⟨a,trivial⟩) (fun r hr=>hr▸h);clear h;refine T3 rfl fun Q d=> ?_;unfold AK;repeat' first| (first|apply bn1|refine bpL (fun h=> ?_) fun h=> ?_|refine vG hl (aE rfl) ?_)<;>(simp only[go_sem])|fail
 all_goals first|with_reducible refine aZ d _ rfl rfl ?_|skip
 all_goals first|exact j7 (by grind)|exact pD (by grind)
theorem JZ{w:List Int}{u:List Int} (hw:w.length<2^40) (hu:u.length<2^40){b:D} (a:CvD H (fun _=>True) id 0 (boR [.isl (w.map aJ),.isl (u.map aJ)]) b) (h:K (dB (decide (JS w u))) H nx):aB Tryz.prog rG [b] H nx K:=by
 refine aB.pure (args0:=[boR [.isl (w.map aJ),.isl (u.map aJ)]]) (R:=fun c=>c=dB (decide (JS w u))) ?_ rfl (aI ⟨a,trivial⟩) (fun r hr=>hr▸h);clear h;refine UK rfl fun Q d=> ?_;unfold z3;repeat' first| (first|apply bn1|refine bpL (fun h=> ?_) fun h=> ?_|refine X0 hw (aE rfl) ?_|refine d8 (l:=u) (caps:=[]) (p:=fun x=>decide (¬(-1≤x∧x≤63))) hu rfl (aE rfl) (kC rfl) (fun x _ H nx K h=>S7 h) ?_)<;>(simp only[go_sem])|fail
 all_goals first|with_reducible refine aZ d _ rfl rfl ?_|skip
 all_goals first|exact j7 (by unfold JS;rw[KP (lo:=-1)];grind)|exact pD (by unfold JS;rw[KP (lo:=-1)];grind)
theorem W2{q:Req} (b:q.data.length<2^40) (hl:q.g6.length<2^40) (h:K (dB (decide (dH q))) H nx):aB Tryz.prog wD [boR (eB q)] H nx K:=by
 refine aB.pure (args0:=[boR (eB q)]) (R:=fun c=>c=dB (decide (dH q))) ?_ rfl (aI ⟨aE rfl,trivial⟩) (fun r hr=>hr▸h);clear h;refine VJ rfl fun Q a=> ?_;unfold zP;repeat' first| (first|apply bn1|refine bpL (fun h=> ?_) fun h=> ?_|apply fE|apply gH|apply wS|refine vG b (aE rfl) ?_|refine d8 (l:=q.g6) (caps:=[]) (p:=fun x=>decide (¬(0≤x∧x≤3))) hl rfl (aE rfl) (kC rfl) (fun x _ H nx K h=>S5 h) ?_)<;>(simp only[go_sem])| ((refine bnF (fun h=> ?_) (fun h=> ?_))<;>try subst h)|fail
 all_goals first|with_reducible refine aZ a _ rfl rfl ?_|skip
 all_goals
  have e:=@KP q.g6 0 3
  have d:wrM q=true↔(q.kind=2∨q.kind=4):=by simp[wrM]
  clear a
  first|exact j7 (by unfold dH n5;grind)|exact q9 (by unfold dH n5;grind)|exact pD (by unfold dH n5;grind)
theorem M0{q:Req} (a:q.data.length<2^40) (hl:q.g6.length<2^40) (h:K (dB (decide (¬dH q))) H nx):aB Tryz.prog nH [boR (eB q)] H nx K:=by
 refine aB.pure (args0:=[boR (eB q)]) (R:=fun b=>b=dB (decide (¬dH q))) ?_ rfl (aI ⟨aE rfl,trivial⟩) (fun r hr=>hr▸h);clear h;refine KW rfl fun Q c=> ?_;unfold rM;repeat' first| (first|apply bn1|apply W2 a hl)<;>(simp only[go_sem])|fail
 all_goals first|with_reducible refine aZ c _ rfl rfl ?_|skip
 all_goals first|exact pD (by omega)|exact q9 (by omega)|exact j7 (by omega)|rfl
theorem Q6{p:Prog} (hp:p.length<2^40) (a: ∀q∈p,q.data.length<2^40∧q.g6.length<2^40) (h:K (dB (decide (¬mV p))) H nx):aB Tryz.prog rR [dS (p.map eB)] H nx K:=by
 refine aB.pure (args0:=[dS (p.map eB)]) (R:=fun c=>c=dB (decide (¬mV p))) ?_ rfl (aI ⟨aE rfl,trivial⟩) (fun r hr=>hr▸h);clear h;refine OS rfl fun Q d=> ?_;unfold u6;repeat' first| (first|apply bn1|refine bpL (fun h=> ?_) fun h=> ?_|refine nW (l:=p) (caps:=[]) (p:=fun q=>decide (¬dH q)) hp rfl (aE rfl) (kC rfl) (fun x b H nx K h=>M0 (a x b).1 (a x b).2 h) ?_)<;>(simp only[go_sem])|fail
 all_goals first|with_reducible refine aZ d _ rfl rfl ?_|skip
 all_goals first|exact q9 (by unfold mV;grind)|exact j7 (by unfold mV;grind)|exact pD (by unfold mV;grind)
variable{c:Cfg}
theorem W6 (a:jO c) (h:K (dB (decide (aQ c))) H nx):aB Tryz.prog wF [boR (cU c)] H nx K:=by
 refine aB.pure (args0:=[boR (cU c)]) (R:=fun d=>d=dB (decide (aQ c))) ?_ rfl (aI ⟨aE rfl,trivial⟩) (fun r hr=>hr▸h);clear h;refine T9 rfl fun Q f=> ?_;unfold z4;repeat' first| (first|apply bn1|refine bpL (fun h=> ?_) fun h=> ?_|apply YK a.map|refine d8 (l:=c.lat) (caps:=[]) (p:=fun x=>decide (¬(0≤x∧x≤3))) a.lat rfl (aE rfl) (kC rfl) (fun x _ H nx K h=>QA h) ?_|refine mS (l:=c.cP) (caps:=[]) (p:=fun q=>decide (¬mV q)) a.cP rfl (aE rfl) (kC rfl) (fun x b H nx K h=>Q6 (a.prog x b) (a.req x b) h) ?_)<;>(simp only[go_sem])|fail
 all_goals first|with_reducible refine aZ f _ rfl rfl ?_|skip
 all_goals
  have e:=@KP c.lat 0 3
  first|exact q9 (by unfold aQ;grind)|exact j7 (by unfold aQ;grind)|exact pD (by unfold aQ;grind)
variable{who:Int}
theorem auJ (a:jO c) (hp:c.cP.length=3) (h:K (dB (decide (oA c who n))) H nx):aB Tryz.prog at3 [boR (cU c),boP who,boP n] H nx K:=by
 refine aB.pure (args0:=[boR (cU c),boP who,boP n]) (R:=fun b=>b=dB (decide (oA c who n))) ?_ rfl (aI ⟨aE rfl,aE rfl,aE rfl,trivial⟩) (fun r hr=>hr▸h);clear h;refine awU rfl fun Q d=> ?_;unfold auT;have e:=a.at who.toNat;repeat' first| (first|apply bn1|refine bpL (fun h=> ?_) fun h=> ?_|apply oR|apply fE)<;>(simp only[go_sem];try simp (disch:=omega) only[Iw])|refine⟨by omega,?_⟩|fail
 all_goals first|with_reducible refine aZ d _ rfl rfl ?_|skip
 all_goals first|exact pD (by unfold oA;omega)|exact j7 (by unfold oA;omega)
theorem iJ (hp:c.cP.length=3) (a:oA c who n) (h:K (boP (bT c who n).id) H nx):aB Tryz.prog fB [boR (cU c),boP who,boP n] H nx K:=by
 refine aB.pure (args0:=[boR (cU c),boP who,boP n]) (R:=fun b=>b=boP (bT c who n).id) ?_ rfl (aI ⟨aE rfl,aE rfl,aE rfl,trivial⟩) (fun r hr=>hr▸h);clear h;refine KX rfl fun Q d=> ?_;unfold rD;obtain⟨e,f,g⟩:=a;repeat' first|apply bn1<;>(simp only[go_sem])|refine⟨by omega,?_⟩|fail
 all_goals first|with_reducible refine aZ d _ rfl rfl ?_|skip
 all_goals first|rfl|exact qA (by omega)
theorem ax9{j:Job} (h:K (dB (iM who n j)) H nx):aB Tryz.prog avA [boR (aS j),.one (.c (.fQ [cI who])),.one (.c (.fQ [cI n]))] H nx K:=by
 refine aB.pure (args0:=[boR (aS j),.one (.c (.fQ [cI who])),.one (.c (.fQ [cI n]))]) (R:=fun a=>a=dB (iM who n j)) ?_ rfl (aI ⟨aE rfl,aE rfl,aE rfl,trivial⟩) (fun r hr=>hr▸h);clear h;refine axO rfl fun Q b=> ?_;unfold avO;repeat' first| (first|apply bn1|refine bpL (fun h=> ?_) fun h=> ?_)<;>(simp only[go_sem])|fail
 all_goals first|with_reducible refine aZ b _ rfl rfl ?_|skip
 all_goals first|exact q9 (by grind)|exact j7 (by grind)|exact pD (by grind)
theorem avT{l:List Job} (hl:l.length<2^40){b:D} (a:CvD H (fun _=>True) id 0 (dS (l.map aS)) b) (h:K (boP (bK (iM who n) l)) H nx):aB Tryz.prog auK [b,boP who,boP n] H nx K:=by
 refine aB.pure (args0:=[dS (l.map aS),boP who,boP n]) (R:=fun c=>c=boP (bK (iM who n) l)) ?_ rfl (aI ⟨a,aE rfl,aE rfl,trivial⟩) (fun r hr=>hr▸h);clear h;refine ayD rfl fun Q d=> ?_;unfold av3;repeat' first| (first|apply bn1|refine at6 (l:=l) (caps:=[.fQ [cI who],.fQ [cI n]]) (p:=iM who n) hl rfl (aE rfl) (PR ⟨zE rfl trivial rfl rfl rfl,zE rfl trivial rfl rfl rfl,trivial⟩) (fun x _ H nx K h=>ax9 h) ?_)<;>(simp only[go_sem])|fail
 all_goals first|with_reducible refine aZ d _ rfl rfl ?_|skip
 all_goals first|rfl|exact qA (by omega)
theorem awI{e:Ev}{j:Job} (hp:c.cP.length=3) (a:oA c e.who e.n) (b:j.who=e.who→j.n<e.n→oA c j.who j.n) (h:K (dB (adI c e j)) H nx):aB Tryz.prog at5 [boR (aS j),.one (.c (.fQ (eEv e))),.one (.c (.fQ (cU c)))] H nx K:=by
 refine aB.pure (args0:=[boR (aS j),.one (.c (.fQ (eEv e))),.one (.c (.fQ (cU c)))]) (R:=fun d=>d=dB (adI c e j)) ?_ rfl (aI ⟨aE rfl,aE rfl,aE rfl,trivial⟩) (fun r hr=>hr▸h);clear h;refine awC rfl fun Q f=> ?_;unfold auI;repeat' first| (first|apply bn1|refine bpL (fun h=> ?_) fun h=> ?_|apply iJ hp a|apply iJ hp (b (by omega) (by omega)))<;>(simp only[go_sem])|fail
 all_goals first|with_reducible refine aZ f _ rfl rfl ?_|skip
 all_goals first|exact j7 (by grind)|exact pD (by grind)
theorem avQ{e:Ev}{l:List Job} (hl:l.length<2^40) (hp:c.cP.length=3) (b:oA c e.who e.n) (d: ∀j∈l,j.who=e.who→j.n<e.n→oA c j.who j.n){d1:D} (a:CvD H (fun _=>True) id 0 (dS (l.map aS)) d1) (h:K (dB (decide (0≤bK (adI c e) l))) H nx):aB Tryz.prog atY [boR (cU c),d1,boR (eEv e)] H nx K:=by
 refine aB.pure (args0:=[boR (cU c),dS (l.map aS),boR (eEv e)]) (R:=fun f=>f=dB (decide (0≤bK (adI c e) l))) ?_ rfl (aI ⟨aE rfl,a,aE rfl,trivial⟩) (fun r hr=>hr▸h);clear h;refine awL rfl fun Q g=> ?_;unfold auO;repeat' first| (first|apply bn1|refine auS (l:=l) (caps:=[.fQ (eEv e),.fQ (cU c)]) (p:=adI c e) hl rfl (aE rfl) (PR ⟨zE rfl trivial rfl rfl rfl,zE rfl trivial rfl rfl rfl,trivial⟩) (fun x i H nx K h=>awI hp b (d x i) h) ?_)<;>(simp only[go_sem])|fail
 all_goals first|with_reducible refine aZ g _ rfl rfl ?_|skip
 all_goals first|exact pD (by omega)|exact q9 (by omega)|exact j7 (by omega)|rfl
theorem axC{s:TSt}{e:Ev} (g:jO c) (hp:c.cP.length=3) (a:azJ c s){d1:D} (d:CvD H (fun _=>True) id 0 (boR (eSt s)) d1) (h:K (boP (X6 c s e)) H nx):aB Tryz.prog auN [boR (cU c),d1,boR (eEv e)] H nx K:=by
 refine aB.pure (args0:=[boR (cU c),boR (eSt s),boR (eEv e)]) (R:=fun k=>k=boP (X6 c s e)) ?_ rfl (aI ⟨aE rfl,d,aE rfl,trivial⟩) (fun r hr=>hr▸h);clear h;refine axA rfl fun Q i=> ?_;unfold au0;have hl:=a.asked;by_cases b:oA c e.who e.n
 ·have m:=b.1;repeat' first| (first|apply bn1|refine bpL (fun h=> ?_) fun h=> ?_|apply auJ g hp|apply fE|refine avT (l:=s.wait) (byC a.qU (by decide)) (aE rfl) ?_|refine avT (l:=s.done) (byC a.uQ (by decide)) (aE rfl) ?_|refine avQ (l:=s.wait) (byC a.qU (by decide)) hp b (fun j f _ _=>a.wait j f) (aE rfl) ?_|refine avQ (l:=s.done) (byC a.uQ (by decide)) hp b (fun j f _ _=>a.done j f) (aE rfl) ?_)<;>(simp only[go_sem])|apply bn2 (by omega)|refine bnE (fun h=> ?_) fun h=> ?_|refine⟨by omega,?_⟩|fail
  all_goals
   refine aZ i _ rfl rfl (qA ?_)
   unfold X6
   grind
 ·repeat' first| (first|apply bn1|apply bpJ (by omega)|apply auJ g hp)<;>(simp only[go_sem])|fail
  all_goals
   refine aZ i _ rfl rfl (qA ?_)
   unfold X6
   grind
end
end Go.Proofs.YtdkfhdmagdaceaaGreat
