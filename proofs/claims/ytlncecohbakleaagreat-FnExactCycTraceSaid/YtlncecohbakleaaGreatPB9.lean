/- Texts laid together by a program: rules, contracts and the walk that leads to the law. -/
import Derived.Test.YtlncecohbakleaaGreatPB3
set_option linter.unusedVariables false
set_option linter.unusedSimpArgs false
set_option linter.unusedSectionVars false
set_option maxRecDepth 100000
set_option maxHeartbeats 8000000
namespace Go.Proofs.YtlncecohbakleaaGreat
open Go Go.AM
def rY:AC:= (SR [RO 2 0,RV 4 (ki 0)] [1,2] (SR [RF 5 0 2,RL 6 5,RM 7 1,RC 8 wO [6,7],RM 1 8] [1,2] (.seq (SR [RM 9 1,RB 10 .lss 9 (ki 0)] [1,2,10] (.cond 10 (SR [rq 4 (.move (.kv (.int .i64 (-1))))] [4] .ret) .skip)) (SR [RF 11 1 2,RL 12 11,RM 13 1,RC 14 i6 [12,13],RM 1 14] [1,2] (.seq (SR [RM 15 1,RB 16 .lss 15 (ki 0)] [1,2,16] (.cond 16 (SR [rq 4 (.move (.kv (.int .i64 (-1))))] [4] .ret) .skip)) (SR [RF 17 2 2,RL 18 17,RM 19 1,RC 20 yU [18,19],RM 1 20] [1] (.seq (SR [RM 21 1,RB 22 .lss 21 (ki 0)] [1,22] (.cond 22 (SR [rq 4 (.move (.kv (.int .i64 (-1))))] [4] .ret) .skip)) (SR [RM 23 1,RM 4 23] [4] .ret))))))))
def M8:List aR:=[.tm 4]
theorem fa:aK an2 Tryz.f13 (aV rY)=some (rY,M8):=by kernel_rfl
def sM:AC:= (SR [RV 4 (ki 0)] [0,1] (SR [RM 6 1,RM 7 0,RN 8 7,RB 9 .sub 6 8,RM 1 9] [0,1] (.seq (SR [RM 10 1,RB 11 .lss 10 (ki 0)] [0,1,11] (.cond 11 (SR [rq 4 (.move (.kv (.int .i64 (-1))))] [4] .ret) .skip)) (.seq (SR [RV 5 (ki 0)] [0,1,5] (.block 0 (.loop (.seq (SR [RM 12 5,RM 13 0,RN 14 13,RB 15 .lss 12 14] [0,1,5,15] (.cond 15 .skip (.exit 0))) (.seq (.block 1 (SR [RM 18 0,RM 19 5,RI 20 3 18 19,RD 21 3 20,RM 22 1,RC 23 HW [21,22],RM 1 23] [0,1,5] (SR [RM 24 1,RB 25 .lss 24 (ki 0)] [0,1,5,25] (.cond 25 (SR [rq 4 (.move (.kv (.int .i64 (-1))))] [4] .ret) .skip)))) (RG [RM 16 5,RB 17 .add 16 (ki 1),RM 5 17] [0,1,5])))))) (SR [RM 26 1,RM 4 26] [4] .ret)))))
def MX:List aR:=[.tm 4]
theorem ie:aK an2 Tryz.f14 (aV sM)=some (sM,MX):=by kernel_rfl
def tL:AC:= (SR [RO 1 0,RA 2 [OZ,OZ,OZ]] [1,2] (SR [RA 3 [OZ,OZ,OZ]] [1,2,3] (SR [RF 4 0 1,RL 5 4,RC 6 wJ [5],RF 7 0 3,WS 1 false 7 6] [1,2,3] (SR [RF 8 1 1,RL 9 8,RC 10 jA [9],RF 11 1 3,WS 1 false 11 10] [1,2,3] (SR [RF 12 2 1,RL 13 12,RC 14 y7 [13],RF 15 2 3,WS 1 false 15 14] [2,3] (SR [RD 16 3 3,WS 3 true 2 16] [2] .ret))))))
def MT:List aR:=[.cell 2 3 true]
theorem ef:aK an2 Tryz.f16 (aV tL)=some (tL,MT):=by kernel_rfl
def s7:AC:= (SR [RV 2 (.kv (.slice none 0 0))] [0] (SR [RM 5 0,RN 6 5,rq 7 (.iX 3 [OZ,OZ,OZ] 6 6),RM 3 7] [0,3] (.seq (SR [RV 4 (ki 0)] [0,3,4] (.block 0 (.loop (.seq (SR [RM 8 4,RM 9 0,RN 10 9,RB 11 .lss 8 10] [0,3,4,11] (.cond 11 .skip (.exit 0))) (.seq (.block 1 (RG [RM 14 3,RM 15 4,RM 16 0,RM 17 4,RI 18 3 16 17,RD 19 3 18,RC 20 z7 [19],RI 21 3 14 15,WS 3 true 21 20] [0,3,4])) (RG [RM 12 4,RB 13 .add 12 (ki 1),RM 4 13] [0,3,4])))))) (SR [RM 22 3,RM 2 22] [2] .ret))))
def LK:List aR:=[.tm 2]
theorem jg:aK an2 Tryz.f17 (aV s7)=some (s7,LK):=by kernel_rfl
def tB:AC:= (SR [RO 2 0,RO 3 1,RV 4 kF] [2,3] (.seq (SR [RF 5 0 2,RL 6 5,RF 7 0 3,RL 8 7,RC 9 w9 [6,8],RU 10 9] [2,3,10] (.cond 10 (SR [RV 4 kF] [4] .ret) .skip)) (.seq (SR [RF 11 1 2,RL 12 11,RF 13 1 3,RL 14 13,RC 15 iY [12,14],RU 16 15] [2,3,16] (.cond 16 (SR [RV 4 kF] [4] .ret) .skip)) (.seq (SR [RF 17 2 2,RL 18 17,RF 19 2 3,RL 20 19,RC 21 z9 [18,20],RU 22 21] [22] (.cond 22 (SR [RV 4 kF] [4] .ret) .skip)) (SR [RV 4 kT] [4] .ret)))))
def NO:List aR:=[.tm 4]
theorem iu:aK an2 Tryz.f20 (aV tB)=some (tB,NO):=by kernel_rfl
def sZ:AC:= (SR [RV 4 kF] [0,1] (.seq (SR [RM 6 0,RN 7 6,RM 8 1,RN 9 8,RB 10 .neq 7 9] [0,1,10] (.cond 10 (SR [RV 4 kF] [4] .ret) .skip)) (.seq (SR [RV 5 (ki 0)] [0,1,5] (.block 0 (.loop (.seq (SR [RM 11 5,RM 12 0,RN 13 12,RB 14 .lss 11 13] [0,1,5,14] (.cond 14 .skip (.exit 0))) (.seq (.block 1 (SR [RM 17 0,RM 18 5,RI 19 3 17 18,RD 20 3 19,RM 21 1,RM 22 5,RI 23 3 21 22,RD 24 3 23,RC 25 rC [20,24],RU 26 25] [0,1,5,26] (.cond 26 (SR [RV 4 kF] [4] .ret) .skip))) (RG [RM 15 5,RB 16 .add 15 (ki 1),RM 5 16] [0,1,5])))))) (SR [RV 4 kT] [4] .ret))))
def L8:List aR:=[.tm 4]
theorem iq:aK an2 Tryz.f21 (aV sZ)=some (sZ,L8):=by kernel_rfl
def oC:AC:= (SR [RO 2 0,RV 4 (ki 0)] [1,2] (SR [RF 5 0 2,RL 6 5,RM 7 1,RC 8 rM [6,7],RM 1 8] [1,2] (SR [RF 9 1 2,RL 10 9,RM 11 1,RC 12 gH [10,11],RM 1 12] [1,2] (SR [RF 13 2 2,RL 14 13,RM 15 1,RC 16 uD [14,15],RM 1 16] [1] (SR [RM 17 1,RM 4 17] [4] .ret)))))
def H9:List aR:=[.tm 4]
theorem XB:aK an2 Tryz.f22 (aV oC)=some (oC,H9):=by kernel_rfl
def oB:AC:= (SR [RV 4 (ki 0)] [0,1] (.seq (SR [RV 5 (ki 0)] [0,1,5] (.block 0 (.loop (.seq (SR [RM 6 5,RM 7 0,RN 8 7,RB 9 .lss 6 8] [0,1,5,9] (.cond 9 .skip (.exit 0))) (.seq (.block 1 (SR [RM 12 0,RM 13 5,RI 14 3 12 13,RF 15 0 14,RL 16 15,RM 17 1,RC 18 gP [16,17],RM 1 18] [0,1,5] (SR [RM 19 0,RM 20 5,RI 21 3 19 20,RF 22 1 21,RL 23 22,RM 24 1,RC 25 gP [23,24],RM 1 25] [0,1,5] (RG [RM 26 0,RM 27 5,RI 28 3 26 27,RF 29 2 28,RL 30 29,RM 31 1,RC 32 gP [30,31],RM 1 32] [0,1,5])))) (RG [RM 10 5,RB 11 .add 10 (ki 1),RM 5 11] [0,1,5])))))) (SR [RM 33 1,RM 4 33] [4] .ret)))
def IW:List aR:=[.tm 4]
theorem YL:aK an2 Tryz.f23 (aV oB)=some (oB,IW):=by kernel_rfl
def oS:AC:= (SR [RO 2 0,RV 4 (ki 0)] [1,2] (SR [RF 5 0 2,RD 6 2 5,RM 7 1,RC 8 yV [6,7],RM 1 8] [1,2] (.seq (SR [RM 9 1,RB 10 .lss 9 (ki 0)] [1,2,10] (.cond 10 (SR [rq 4 (.move (.kv (.int .i64 (-1))))] [4] .ret) .skip)) (SR [RF 11 2 2,RL 12 11,RM 13 1,RC 14 yM [12,13],RM 1 14] [1,2] (.seq (SR [RM 15 1,RB 16 .lss 15 (ki 0)] [1,2,16] (.cond 16 (SR [rq 4 (.move (.kv (.int .i64 (-1))))] [4] .ret) .skip)) (SR [RF 17 3 2,RL 18 17,RM 19 1,RC 20 w8 [18,19],RM 1 20] [1,2] (.seq (SR [RM 21 1,RB 22 .lss 21 (ki 0)] [1,2,22] (.cond 22 (SR [rq 4 (.move (.kv (.int .i64 (-1))))] [4] .ret) .skip)) (SR [RF 23 4 2,RL 24 23,RM 25 1,RC 26 sI [24,25],RM 1 26] [1] (.seq (SR [RM 27 1,RB 28 .lss 27 (ki 0)] [1,28] (.cond 28 (SR [rq 4 (.move (.kv (.int .i64 (-1))))] [4] .ret) .skip)) (SR [RM 29 1,RM 4 29] [4] .ret))))))))))
def IZ:List aR:=[.tm 4]
theorem YF:aK an2 Tryz.f53 (aV oS)=some (oS,IZ):=by kernel_rfl
def vD:AC:= (SR [RO 2 0,RV 4 (ki 0)] [1,2] (SR [RF 5 0 2,RL 6 5,RM 7 1,RC 8 rE [6,7],RM 1 8] [1,2] (.seq (SR [RM 9 1,RB 10 .lss 9 (ki 0)] [1,2,10] (.cond 10 (SR [rq 4 (.move (.kv (.int .i64 (-1))))] [4] .ret) .skip)) (SR [RF 11 1 2,RL 12 11,RM 13 1,RC 14 rE [12,13],RM 1 14] [1,2] (.seq (SR [RM 15 1,RB 16 .lss 15 (ki 0)] [1,2,16] (.cond 16 (SR [rq 4 (.move (.kv (.int .i64 (-1))))] [4] .ret) .skip)) (SR [RF 17 2 2,RL 18 17,RM 19 1,RC 20 rE [18,19],RM 1 20] [1] (.seq (SR [RM 21 1,RB 22 .lss 21 (ki 0)] [1,22] (.cond 22 (SR [rq 4 (.move (.kv (.int .i64 (-1))))] [4] .ret) .skip)) (SR [RM 23 1,RM 4 23] [4] .ret))))))))
def PE:List aR:=[.tm 4]
theorem od:aK an2 Tryz.f54 (aV vD)=some (vD,PE):=by kernel_rfl
def oO:AC:= (SR [RO 1 0,RA 2 [OZ,OZ,OZ,OZ,OZ]] [1,2] (SR [RA 3 [OZ,OZ,OZ,OZ,OZ]] [1,2,3] (SR [RF 4 0 1,RD 5 2 4,RC 6 zI [5],RF 7 0 3,WS 2 true 7 6] [1,2,3] (SR [RF 8 2 1,RL 9 8,RC 10 zO [9],RF 11 2 3,WS 1 false 11 10] [1,2,3] (SR [RF 12 3 1,RL 13 12,RC 14 wU [13],RF 15 3 3,WS 1 false 15 14] [1,2,3] (SR [RF 16 4 1,RL 17 16,RC 18 sV [17],RF 19 4 3,WS 1 false 19 18] [2,3] (SR [RD 20 5 3,WS 5 true 2 20] [2] .ret)))))))
def H7:List aR:=[.cell 2 5 true]
theorem X3:aK an2 Tryz.f55 (aV oO)=some (oO,H7):=by kernel_rfl
def vM:AC:= (SR [RO 1 0,RA 2 [OZ,OZ,OZ]] [1,2] (SR [RA 3 [OZ,OZ,OZ]] [1,2,3] (SR [RF 4 0 1,RL 5 4,RC 6 rK [5],RF 7 0 3,WS 1 false 7 6] [1,2,3] (SR [RF 8 1 1,RL 9 8,RC 10 rK [9],RF 11 1 3,WS 1 false 11 10] [1,2,3] (SR [RF 12 2 1,RL 13 12,RC 14 rK [13],RF 15 2 3,WS 1 false 15 14] [2,3] (SR [RD 16 3 3,WS 3 true 2 16] [2] .ret))))))
def O9:List aR:=[.cell 2 3 true]
theorem qp:aK an2 Tryz.f56 (aV vM)=some (vM,O9):=by kernel_rfl
def nF:AC:= (SR [RV 4 kF] [0,1] (.seq (SR [RM 6 0,RN 7 6,RM 8 1,RN 9 8,RB 10 .neq 7 9] [0,1,10] (.cond 10 (SR [RV 4 kF] [4] .ret) .skip)) (.seq (SR [RV 5 (ki 0)] [0,1,5] (.block 0 (.loop (.seq (SR [RM 11 5,RM 12 0,RN 13 12,RB 14 .lss 11 13] [0,1,5,14] (.cond 14 .skip (.exit 0))) (.seq (.block 1 (SR [RM 17 0,RM 18 5,RI 19 3 17 18,RD 20 3 19,RM 21 1,RM 22 5,RI 23 3 21 22,RD 24 3 23,RC 25 zT [20,24],RU 26 25] [0,1,5,26] (.cond 26 (SR [RV 4 kF] [4] .ret) .skip))) (RG [RM 15 5,RB 16 .add 15 (ki 1),RM 5 16] [0,1,5])))))) (SR [RV 4 kT] [4] .ret))))
def FP:List aR:=[.tm 4]
theorem UH:aK an2 Tryz.f57 (aV nF)=some (nF,FP):=by kernel_rfl
def pE:AC:= (SR [RO 2 0,RO 3 1,RV 4 kF] [2,3] (.seq (SR [RF 5 0 2,RD 6 2 5,RF 7 0 3,RD 8 2 7,RC 9 yF [6,8],RU 10 9] [2,3,10] (.cond 10 (SR [RV 4 kF] [4] .ret) .skip)) (.seq (SR [RF 11 2 2,RL 12 11,RF 13 2 3,RL 14 13,RC 15 zG [12,14],RU 16 15] [2,3,16] (.cond 16 (SR [RV 4 kF] [4] .ret) .skip)) (.seq (SR [RF 17 3 2,RL 18 17,RF 19 3 3,RL 20 19,RC 21 wV [18,20],RU 22 21] [2,3,22] (.cond 22 (SR [RV 4 kF] [4] .ret) .skip)) (.seq (SR [RF 23 4 2,RL 24 23,RF 25 4 3,RL 26 25,RC 27 sT [24,26],RU 28 27] [28] (.cond 28 (SR [RV 4 kF] [4] .ret) .skip)) (SR [RV 4 kT] [4] .ret))))))
def IP:List aR:=[.tm 4]
theorem XM:aK an2 Tryz.f58 (aV pE)=some (pE,IP):=by kernel_rfl
def wD:AC:= (SR [RO 2 0,RO 3 1,RV 4 kF] [2,3] (.seq (SR [RF 5 0 2,RL 6 5,RF 7 0 3,RL 8 7,RC 9 rQ [6,8],RU 10 9] [2,3,10] (.cond 10 (SR [RV 4 kF] [4] .ret) .skip)) (.seq (SR [RF 11 1 2,RL 12 11,RF 13 1 3,RL 14 13,RC 15 rQ [12,14],RU 16 15] [2,3,16] (.cond 16 (SR [RV 4 kF] [4] .ret) .skip)) (.seq (SR [RF 17 2 2,RL 18 17,RF 19 2 3,RL 20 19,RC 21 rQ [18,20],RU 22 21] [22] (.cond 22 (SR [RV 4 kF] [4] .ret) .skip)) (SR [RV 4 kT] [4] .ret)))))
def PM:List aR:=[.tm 4]
theorem nt:aK an2 Tryz.f59 (aV wD)=some (wD,PM):=by kernel_rfl
def mH:AC:= (SR [RO 2 0,RV 4 (ki 0)] [1,2] (SR [RF 5 0 2,RD 6 2 5,RM 7 1,RC 8 t8 [6,7],RM 1 8] [1,2] (SR [RF 9 2 2,RL 10 9,RM 11 1,RC 12 tZ [10,11],RM 1 12] [1,2] (SR [RF 13 3 2,RL 14 13,RM 15 1,RC 16 rA [14,15],RM 1 16] [1,2] (SR [RF 17 4 2,RL 18 17,RM 19 1,RC 20 oY [18,19],RM 1 20] [1] (SR [RM 21 1,RM 4 21] [4] .ret))))))
def D6:List aR:=[.tm 4]
theorem RH:aK an2 Tryz.f60 (aV mH)=some (mH,D6):=by kernel_rfl
def qR:AC:= (SR [RO 2 0,RV 4 (ki 0)] [1,2] (SR [RF 5 0 2,RL 6 5,RM 7 1,RC 8 gP [6,7],RM 1 8] [1,2] (SR [RF 9 1 2,RL 10 9,RM 11 1,RC 12 gP [10,11],RM 1 12] [1,2] (SR [RF 13 2 2,RL 14 13,RM 15 1,RC 16 gP [14,15],RM 1 16] [1] (SR [RM 17 1,RM 4 17] [4] .ret)))))
def J9:List aR:=[.tm 4]
theorem YS:aK an2 Tryz.f61 (aV qR)=some (qR,J9):=by kernel_rfl
def lF:AC:= (SR [RV 4 (ki 0)] [0,1] (.seq (SR [RV 5 (ki 0)] [0,1,5] (.block 0 (.loop (.seq (SR [RM 6 5,RM 7 0,RN 8 7,RB 9 .lss 6 8] [0,1,5,9] (.cond 9 .skip (.exit 0))) (.seq (.block 1 (SR [RM 12 0,RM 13 5,RM 14 1,RI 15 3 12 13,RF 16 0 15,WS 1 false 16 14] [0,1,5] (SR [RM 17 1,RB 18 .add 17 (ki 1),RM 1 18] [0,1,5] (SR [RM 19 0,RM 20 5,RM 21 1,RI 22 3 19 20,RF 23 1 22,WS 1 false 23 21] [0,1,5] (SR [RM 24 1,RB 25 .add 24 (ki 1),RM 1 25] [0,1,5] (SR [RM 26 0,RM 27 5,RM 28 1,RI 29 3 26 27,RF 30 2 29,WS 1 false 30 28] [0,1,5] (RG [RM 31 1,RB 32 .add 31 (ki 1),RM 1 32] [0,1,5]))))))) (RG [RM 10 5,RB 11 .add 10 (ki 1),RM 5 11] [0,1,5])))))) (SR [RM 33 1,RM 4 33] [4] .ret)))
def AV:List aR:=[.tm 4]
theorem P3:aK an2 Tryz.f62 (aV lF)=some (lF,AV):=by kernel_rfl
def lG:AC:= (SR [RV 4 (ki 0)] [0,1] (.seq (SR [RV 5 (ki 0)] [0,1,5] (.block 0 (.loop (.seq (SR [RM 6 5,RM 7 0,RN 8 7,RB 9 .lss 6 8] [0,1,5,9] (.cond 9 .skip (.exit 0))) (.seq (.block 1 (.seq (SR [RM 12 0,RM 13 5,RI 14 3 12 13,RF 15 0 14,RL 16 15,RM 17 1,RB 18 .neq 16 17] [0,1,5,18] (.cond 18 (SR [rq 4 (.move (.kv (.int .i64 (-1))))] [4] .ret) .skip)) (SR [RM 19 1,RB 20 .add 19 (ki 1),RM 1 20] [0,1,5] (.seq (SR [RM 21 0,RM 22 5,RI 23 3 21 22,RF 24 1 23,RL 25 24,RM 26 1,RB 27 .neq 25 26] [0,1,5,27] (.cond 27 (SR [rq 4 (.move (.kv (.int .i64 (-1))))] [4] .ret) .skip)) (SR [RM 28 1,RB 29 .add 28 (ki 1),RM 1 29] [0,1,5] (.seq (SR [RM 30 0,RM 31 5,RI 32 3 30 31,RF 33 2 32,RL 34 33,RM 35 1,RB 36 .neq 34 35] [0,1,5,36] (.cond 36 (SR [rq 4 (.move (.kv (.int .i64 (-1))))] [4] .ret) .skip)) (RG [RM 37 1,RB 38 .add 37 (ki 1),RM 1 38] [0,1,5]))))))) (RG [RM 10 5,RB 11 .add 10 (ki 1),RM 5 11] [0,1,5])))))) (SR [RM 39 1,RM 4 39] [4] .ret)))
def A5:List aR:=[.tm 4]
theorem P4:aK an2 Tryz.f63 (aV lG)=some (lG,A5):=by kernel_rfl
def nI:AC:= (SR [RV 4 (ki 0)] [0,1] (SR [RM 5 1,RM 6 0,RN 7 6,RB 8 .sub 5 7,RM 1 8] [1] (.seq (SR [RM 9 1,RB 10 .lss 9 (ki 0)] [1,10] (.cond 10 (SR [rq 4 (.move (.kv (.int .i64 (-1))))] [4] .ret) .skip)) (SR [RM 11 1,RM 4 11] [4] .ret))))
def FI:List aR:=[.tm 4]
theorem T9:aK an2 Tryz.f70 (aV nI)=some (nI,FI):=by kernel_rfl
def yS:AC:= (SR [RV 4 (ki 0)] [0,1] (SR [RM 5 1,RM 6 0,RN 7 6,RB 8 .sub 5 7,RM 1 8] [1] (.seq (SR [RM 9 1,RB 10 .lss 9 (ki 0)] [1,10] (.cond 10 (SR [rq 4 (.move (.kv (.int .i64 (-1))))] [4] .ret) .skip)) (SR [RM 11 1,RM 4 11] [4] .ret))))
def QZ:List aR:=[.tm 4]
theorem ym:aK an2 Tryz.f71 (aV yS)=some (yS,QZ):=by kernel_rfl
def oQ:AC:= (SR [RV 4 (ki 0)] [0,1] (SR [RM 6 1,RM 7 0,RN 8 7,RB 9 .sub 6 8,RM 1 9] [0,1] (.seq (SR [RM 10 1,RB 11 .lss 10 (ki 0)] [0,1,11] (.cond 11 (SR [rq 4 (.move (.kv (.int .i64 (-1))))] [4] .ret) .skip)) (.seq (SR [RV 5 (ki 0)] [0,1,5] (.block 0 (.loop (.seq (SR [RM 12 5,RM 13 0,RN 14 13,RB 15 .lss 12 14] [0,1,5,15] (.cond 15 .skip (.exit 0))) (.seq (.block 1 (SR [RM 18 0,RM 19 5,RI 20 1 18 19,RL 21 20,RM 22 1,RC 23 BY [21,22],RM 1 23] [0,1,5] (SR [RM 24 1,RB 25 .lss 24 (ki 0)] [0,1,5,25] (.cond 25 (SR [rq 4 (.move (.kv (.int .i64 (-1))))] [4] .ret) .skip)))) (RG [RM 16 5,RB 17 .add 16 (ki 1),RM 5 17] [0,1,5])))))) (SR [RM 26 1,RM 4 26] [4] .ret)))))
def HP:List aR:=[.tm 4]
theorem WH:aK an2 Tryz.f72 (aV oQ)=some (oQ,HP):=by kernel_rfl
def m7:AC:= (SR [RV 2 (.kv (.slice none 0 0))] [0] (SR [RM 5 0,RN 6 5,rq 7 (.iX 4 [VZ,VZ,VZ,(.v (.bool false))] 6 6),RM 3 7] [0,3] (.seq (SR [RV 4 (ki 0)] [0,3,4] (.block 0 (.loop (.seq (SR [RM 8 4,RM 9 0,RN 10 9,RB 11 .lss 8 10] [0,3,4,11] (.cond 11 .skip (.exit 0))) (.seq (.block 1 (RG [RM 14 3,RM 15 4,RM 16 0,RM 17 4,RI 18 4 16 17,RD 19 4 18,RC 20 yG [19],RI 21 4 14 15,WS 4 true 21 20] [0,3,4])) (RG [RM 12 4,RB 13 .add 12 (ki 1),RM 4 13] [0,3,4])))))) (SR [RM 22 3,RM 2 22] [2] .ret))))
def FG:List aR:=[.tm 2]
theorem UU:aK an2 Tryz.f78 (aV m7)=some (m7,FG):=by kernel_rfl
def yT:AC:= (SR [RV 2 (.kv (.slice none 0 0))] [0] (SR [RM 5 0,RN 6 5,rq 7 (.iX 1 [VZ] 6 6),RM 3 7] [0,3] (.seq (SR [RV 4 (ki 0)] [0,3,4] (.block 0 (.loop (.seq (SR [RM 8 4,RM 9 0,RN 10 9,RB 11 .lss 8 10] [0,3,4,11] (.cond 11 .skip (.exit 0))) (.seq (.block 1 (RG [RM 14 3,RM 15 4,RM 16 0,RM 17 4,RI 18 1 16 17,RL 19 18,RI 20 1 14 15,WS 1 false 20 19] [0,3,4])) (RG [RM 12 4,RB 13 .add 12 (ki 1),RM 4 13] [0,3,4])))))) (SR [RM 21 3,RM 2 21] [2] .ret))))
def QP:List aR:=[.tm 2]
theorem yk:aK an2 Tryz.f79 (aV yT)=some (yT,QP):=by kernel_rfl
def pA:AC:= (SR [RV 2 (.kv (.slice none 0 0))] [0] (SR [RM 5 0,RN 6 5,rq 7 (.iX 1 [OZ] 6 6),RM 3 7] [0,3] (.seq (SR [RV 4 (ki 0)] [0,3,4] (.block 0 (.loop (.seq (SR [RM 8 4,RM 9 0,RN 10 9,RB 11 .lss 8 10] [0,3,4,11] (.cond 11 .skip (.exit 0))) (.seq (.block 1 (RG [RM 14 3,RM 15 4,RM 16 0,RM 17 4,RI 18 1 16 17,RL 19 18,RC 20 BC [19],RI 21 1 14 15,WS 1 false 21 20] [0,3,4])) (RG [RM 12 4,RB 13 .add 12 (ki 1),RM 4 13] [0,3,4])))))) (SR [RM 22 3,RM 2 22] [2] .ret))))
def JA:List aR:=[.tm 2]
theorem XQ:aK an2 Tryz.f80 (aV pA)=some (pA,JA):=by kernel_rfl
def zN:AC:= (SR [RV 4 kF] [0,1] (.seq (SR [RM 6 0,RN 7 6,RM 8 1,RN 9 8,RB 10 .neq 7 9] [0,1,10] (.cond 10 (SR [RV 4 kF] [4] .ret) .skip)) (.seq (SR [RV 5 (ki 0)] [0,1,5] (.block 0 (.loop (.seq (SR [RM 11 5,RM 12 0,RN 13 12,RB 14 .lss 11 13] [0,1,5,14] (.cond 14 .skip (.exit 0))) (.seq (.block 1 (SR [RM 17 0,RM 18 5,RI 19 1 17 18,RL 20 19,RM 21 1,RM 22 5,RI 23 1 21 22,RL 24 23,RB 25 .neq 20 24] [0,1,5,25] (.cond 25 (SR [RV 4 kF] [4] .ret) .skip))) (RG [RM 15 5,RB 16 .add 15 (ki 1),RM 5 16] [0,1,5])))))) (SR [RV 4 kT] [4] .ret))))
def QE:List aR:=[.tm 4]
theorem tb:aK an2 Tryz.f83 (aV zN)=some (zN,QE):=by kernel_rfl
def nM:AC:= (SR [RV 4 kF] [0,1] (.seq (SR [RM 6 0,RN 7 6,RM 8 1,RN 9 8,RB 10 .neq 7 9] [0,1,10] (.cond 10 (SR [RV 4 kF] [4] .ret) .skip)) (.seq (SR [RV 5 (ki 0)] [0,1,5] (.block 0 (.loop (.seq (SR [RM 11 5,RM 12 0,RN 13 12,RB 14 .lss 11 13] [0,1,5,14] (.cond 14 .skip (.exit 0))) (.seq (.block 1 (SR [RM 17 0,RM 18 5,RI 19 4 17 18,RD 20 4 19,RM 21 1,RM 22 5,RI 23 4 21 22,RD 24 4 23,RC 25 zQ [20,24],RU 26 25] [0,1,5,26] (.cond 26 (SR [RV 4 kF] [4] .ret) .skip))) (RG [RM 15 5,RB 16 .add 15 (ki 1),RM 5 16] [0,1,5])))))) (SR [RV 4 kT] [4] .ret))))
def FF:List aR:=[.tm 4]
theorem T7:aK an2 Tryz.f84 (aV nM)=some (nM,FF):=by kernel_rfl
def pB:AC:= (SR [RV 4 kF] [0,1] (.seq (SR [RM 6 0,RN 7 6,RM 8 1,RN 9 8,RB 10 .neq 7 9] [0,1,10] (.cond 10 (SR [RV 4 kF] [4] .ret) .skip)) (.seq (SR [RV 5 (ki 0)] [0,1,5] (.block 0 (.loop (.seq (SR [RM 11 5,RM 12 0,RN 13 12,RB 14 .lss 11 13] [0,1,5,14] (.cond 14 .skip (.exit 0))) (.seq (.block 1 (SR [RM 17 0,RM 18 5,RI 19 1 17 18,RL 20 19,RM 21 1,RM 22 5,RI 23 1 21 22,RL 24 23,RC 25 BZ [20,24],RU 26 25] [0,1,5,26] (.cond 26 (SR [RV 4 kF] [4] .ret) .skip))) (RG [RM 15 5,RB 16 .add 15 (ki 1),RM 5 16] [0,1,5])))))) (SR [RV 4 kT] [4] .ret))))
def IL:List aR:=[.tm 4]
theorem XV:aK an2 Tryz.f85 (aV pB)=some (pB,IL):=by kernel_rfl
def lL:AC:= (SR [RV 4 (ki 0)] [0,1] (.seq (SR [RV 5 (ki 0)] [0,1,5] (.block 0 (.loop (.seq (SR [RM 6 5,RM 7 0,RN 8 7,RB 9 .lss 6 8] [0,1,5,9] (.cond 9 .skip (.exit 0))) (.seq (.block 1 (SR [RM 12 0,RM 13 5,RM 14 1,RI 15 4 12 13,RF 16 0 15,WS 1 false 16 14] [0,1,5] (SR [RM 17 1,RB 18 .add 17 (ki 1),RM 1 18] [0,1,5] (SR [RM 19 0,RM 20 5,RM 21 1,RI 22 4 19 20,RF 23 1 22,WS 1 false 23 21] [0,1,5] (SR [RM 24 1,RB 25 .add 24 (ki 1),RM 1 25] [0,1,5] (SR [RM 26 0,RM 27 5,RM 28 1,RI 29 4 26 27,RF 30 2 29,WS 1 false 30 28] [0,1,5] (SR [RM 31 1,RB 32 .add 31 (ki 1),RM 1 32] [0,1,5] (SR [RM 33 0,RM 34 5,RM 35 1,RB 36 .rem 35 (ki 3),RB 37 .eql 36 (ki 0),RI 38 4 33 34,RF 39 3 38,WS 1 false 39 37] [0,1,5] (RG [RM 40 1,RB 41 .add 40 (ki 1),RM 1 41] [0,1,5]))))))))) (RG [RM 10 5,RB 11 .add 10 (ki 1),RM 5 11] [0,1,5])))))) (SR [RM 42 1,RM 4 42] [4] .ret)))
def AZ:List aR:=[.tm 4]
theorem P6:aK an2 Tryz.f86 (aV lL)=some (lL,AZ):=by kernel_rfl
def sP:AC:= (SR [RV 4 (ki 0)] [0,1] (.seq (SR [RV 5 (ki 0)] [0,1,5] (.block 0 (.loop (.seq (SR [RM 6 5,RM 7 0,RN 8 7,RB 9 .lss 6 8] [0,1,5,9] (.cond 9 .skip (.exit 0))) (.seq (.block 1 (SR [RM 12 0,RM 13 5,RM 14 1,RI 15 1 12 13,WS 1 false 15 14] [0,1,5] (RG [RM 16 1,RB 17 .add 16 (ki 1),RM 1 17] [0,1,5]))) (RG [RM 10 5,RB 11 .add 10 (ki 1),RM 5 11] [0,1,5])))))) (SR [RM 18 1,RM 4 18] [4] .ret)))
def L5:List aR:=[.tm 4]
theorem fi:aK an2 Tryz.f87 (aV sP)=some (sP,L5):=by kernel_rfl
def mL:AC:= (SR [RV 4 (ki 0)] [0,1] (.seq (SR [RV 5 (ki 0)] [0,1,5] (.block 0 (.loop (.seq (SR [RM 6 5,RM 7 0,RN 8 7,RB 9 .lss 6 8] [0,1,5,9] (.cond 9 .skip (.exit 0))) (.seq (.block 1 (RG [RM 12 0,RM 13 5,RI 14 1 12 13,RL 15 14,RM 16 1,RC 17 wY [15,16],RM 1 17] [0,1,5])) (RG [RM 10 5,RB 11 .add 10 (ki 1),RM 5 11] [0,1,5])))))) (SR [RM 18 1,RM 4 18] [4] .ret)))
def EE:List aR:=[.tm 4]
theorem S4:aK an2 Tryz.f88 (aV mL)=some (mL,EE):=by kernel_rfl
def qL:AC:= (SR [RV 4 (ki 0)] [0,1] (.seq (SR [RV 5 (ki 0)] [0,1,5] (.block 0 (.loop (.seq (SR [RM 6 5,RM 7 0,RN 8 7,RB 9 .lss 6 8] [0,1,5,9] (.cond 9 .skip (.exit 0))) (.seq (.block 1 (SR [RM 12 0,RM 13 5,RM 14 1,RB 15 .rem 14 (ki 3),RB 16 .eql 15 (ki 0),RI 17 1 12 13,WS 1 false 17 16] [0,1,5] (RG [RM 18 1,RB 19 .add 18 (ki 1),RM 1 19] [0,1,5]))) (RG [RM 10 5,RB 11 .add 10 (ki 1),RM 5 11] [0,1,5])))))) (SR [RM 20 1,RM 4 20] [4] .ret)))
def JY:List aR:=[.tm 4]
theorem ZN:aK an2 Tryz.f89 (aV qL)=some (qL,JY):=by kernel_rfl
def pH:AC:= (SR [RO 2 0,RV 4 (ki 0)] [1,2] (SR [RF 5 0 2,RD 6 1 5,RM 7 1,RC 8 EG [6,7],RM 1 8] [1,2] (.seq (SR [RM 9 1,RB 10 .lss 9 (ki 0)] [1,2,10] (.cond 10 (SR [rq 4 (.move (.kv (.int .i64 (-1))))] [4] .ret) .skip)) (SR [RF 11 1 2,RL 12 11,RM 13 1,RC 14 i6 [12,13],RM 1 14] [1] (.seq (SR [RM 15 1,RB 16 .lss 15 (ki 0)] [1,16] (.cond 16 (SR [rq 4 (.move (.kv (.int .i64 (-1))))] [4] .ret) .skip)) (SR [RM 17 1,RM 4 17] [4] .ret))))))
def G9:List aR:=[.tm 4]
theorem X5:aK an2 Tryz.f137 (aV pH)=some (pH,G9):=by kernel_rfl
def oZ:AC:= (SR [RV 4 (ki 0)] [0,1] (SR [RM 6 1,RM 7 0,RN 8 7,RB 9 .sub 6 8,RM 1 9] [0,1] (.seq (SR [RM 10 1,RB 11 .lss 10 (ki 0)] [0,1,11] (.cond 11 (SR [rq 4 (.move (.kv (.int .i64 (-1))))] [4] .ret) .skip)) (.seq (SR [RV 5 (ki 0)] [0,1,5] (.block 0 (.loop (.seq (SR [RM 12 5,RM 13 0,RN 14 13,RB 15 .lss 12 14] [0,1,5,15] (.cond 15 .skip (.exit 0))) (.seq (.block 1 (SR [RM 18 0,RM 19 5,RI 20 4 18 19,RD 21 4 20,RM 22 1,RC 23 BI [21,22],RM 1 23] [0,1,5] (SR [RM 24 1,RB 25 .lss 24 (ki 0)] [0,1,5,25] (.cond 25 (SR [rq 4 (.move (.kv (.int .i64 (-1))))] [4] .ret) .skip)))) (RG [RM 16 5,RB 17 .add 16 (ki 1),RM 5 17] [0,1,5])))))) (SR [RM 26 1,RM 4 26] [4] .ret)))))
def HC:List aR:=[.tm 4]
theorem W6:aK an2 Tryz.f138 (aV oZ)=some (oZ,HC):=by kernel_rfl
def nB:AC:= (SR [RV 4 (ki 0)] [0,1] (SR [RM 6 1,RM 7 0,RN 8 7,RB 9 .sub 6 8,RM 1 9] [0,1] (.seq (SR [RM 10 1,RB 11 .lss 10 (ki 0)] [0,1,11] (.cond 11 (SR [rq 4 (.move (.kv (.int .i64 (-1))))] [4] .ret) .skip)) (.seq (SR [RV 5 (ki 0)] [0,1,5] (.block 0 (.loop (.seq (SR [RM 12 5,RM 13 0,RN 14 13,RB 15 .lss 12 14] [0,1,5,15] (.cond 15 .skip (.exit 0))) (.seq (.block 1 (SR [RM 18 0,RM 19 5,RI 20 3 18 19,RD 21 3 20,RM 22 1,RC 23 zA [21,22],RM 1 23] [0,1,5] (SR [RM 24 1,RB 25 .lss 24 (ki 0)] [0,1,5,25] (.cond 25 (SR [rq 4 (.move (.kv (.int .i64 (-1))))] [4] .ret) .skip)))) (RG [RM 16 5,RB 17 .add 16 (ki 1),RM 5 17] [0,1,5])))))) (SR [RM 26 1,RM 4 26] [4] .ret)))))
def FV:List aR:=[.tm 4]
theorem UM:aK an2 Tryz.f139 (aV nB)=some (nB,FV):=by kernel_rfl
def qJ:AC:= (SR [RV 4 (ki 0)] [0,1] (SR [RM 6 1,RM 7 0,RN 8 7,RB 9 .sub 6 8,RM 1 9] [0,1] (.seq (SR [RM 10 1,RB 11 .lss 10 (ki 0)] [0,1,11] (.cond 11 (SR [rq 4 (.move (.kv (.int .i64 (-1))))] [4] .ret) .skip)) (.seq (SR [RV 5 (ki 0)] [0,1,5] (.block 0 (.loop (.seq (SR [RM 12 5,RM 13 0,RN 14 13,RB 15 .lss 12 14] [0,1,5,15] (.cond 15 .skip (.exit 0))) (.seq (.block 1 (SR [RM 18 0,RM 19 5,RI 20 5 18 19,RD 21 5 20,RM 22 1,RC 23 E2 [21,22],RM 1 23] [0,1,5] (SR [RM 24 1,RB 25 .lss 24 (ki 0)] [0,1,5,25] (.cond 25 (SR [rq 4 (.move (.kv (.int .i64 (-1))))] [4] .ret) .skip)))) (RG [RM 16 5,RB 17 .add 16 (ki 1),RM 5 17] [0,1,5])))))) (SR [RM 26 1,RM 4 26] [4] .ret)))))
def KB:List aR:=[.tm 4]
theorem ak:aK an2 Tryz.f140 (aV qJ)=some (qJ,KB):=by kernel_rfl
def vC:AC:= (SR [RV 4 (ki 0)] [0,1] (SR [RM 5 1,RM 6 0,RN 7 6,RB 8 .sub 5 7,RM 1 8] [1] (.seq (SR [RM 9 1,RB 10 .lss 9 (ki 0)] [1,10] (.cond 10 (SR [rq 4 (.move (.kv (.int .i64 (-1))))] [4] .ret) .skip)) (SR [RM 11 1,RM 4 11] [4] .ret))))
def PI:List aR:=[.tm 4]
theorem qe:aK an2 Tryz.f141 (aV vC)=some (vC,PI):=by kernel_rfl
def pF:AC:= (SR [RO 1 0,RA 2 [OZ,OZ]] [1,2] (SR [RA 3 [OZ,OZ]] [1,2,3] (SR [RF 4 0 1,RD 5 1 4,RC 6 E5 [5],RF 7 0 3,WS 1 true 7 6] [1,2,3] (SR [RF 8 1 1,RL 9 8,RC 10 jA [9],RF 11 1 3,WS 1 false 11 10] [2,3] (SR [RD 12 2 3,WS 2 true 2 12] [2] .ret)))))
def I1:List aR:=[.cell 2 2 true]
theorem XN:aK an2 Tryz.f142 (aV pF)=some (pF,I1):=by kernel_rfl
def oR:AC:= (SR [RV 2 (.kv (.slice none 0 0))] [0] (SR [RM 5 0,RN 6 5,rq 7 (.iX 4 [VZ,OZ,OZ,VZ] 6 6),RM 3 7] [0,3] (.seq (SR [RV 4 (ki 0)] [0,3,4] (.block 0 (.loop (.seq (SR [RM 8 4,RM 9 0,RN 10 9,RB 11 .lss 8 10] [0,3,4,11] (.cond 11 .skip (.exit 0))) (.seq (.block 1 (RG [RM 14 3,RM 15 4,RM 16 0,RM 17 4,RI 18 4 16 17,RD 19 4 18,RC 20 BA [19],RI 21 4 14 15,WS 4 true 21 20] [0,3,4])) (RG [RM 12 4,RB 13 .add 12 (ki 1),RM 4 13] [0,3,4])))))) (SR [RM 22 3,RM 2 22] [2] .ret))))
def IM:List aR:=[.tm 2]
theorem WJ:aK an2 Tryz.f143 (aV oR)=some (oR,IM):=by kernel_rfl
def m8:AC:= (SR [RV 2 (.kv (.slice none 0 0))] [0] (SR [RM 5 0,RN 6 5,rq 7 (.iX 3 [OZ,OZ,VZ] 6 6),RM 3 7] [0,3] (.seq (SR [RV 4 (ki 0)] [0,3,4] (.block 0 (.loop (.seq (SR [RM 8 4,RM 9 0,RN 10 9,RB 11 .lss 8 10] [0,3,4,11] (.cond 11 .skip (.exit 0))) (.seq (.block 1 (RG [RM 14 3,RM 15 4,RM 16 0,RM 17 4,RI 18 3 16 17,RD 19 3 18,RC 20 yZ [19],RI 21 3 14 15,WS 3 true 21 20] [0,3,4])) (RG [RM 12 4,RB 13 .add 12 (ki 1),RM 4 13] [0,3,4])))))) (SR [RM 22 3,RM 2 22] [2] .ret))))
def FN:List aR:=[.tm 2]
theorem TW:aK an2 Tryz.f144 (aV m8)=some (m8,FN):=by kernel_rfl
def qE:AC:= (SR [RV 2 (.kv (.slice none 0 0))] [0] (SR [RM 5 0,RN 6 5,rq 7 (.iX 5 [VZ,VZ,VZ,VZ,OZ] 6 6),RM 3 7] [0,3] (.seq (SR [RV 4 (ki 0)] [0,3,4] (.block 0 (.loop (.seq (SR [RM 8 4,RM 9 0,RN 10 9,RB 11 .lss 8 10] [0,3,4,11] (.cond 11 .skip (.exit 0))) (.seq (.block 1 (RG [RM 14 3,RM 15 4,RM 16 0,RM 17 4,RI 18 5 16 17,RD 19 5 18,RC 20 EI [19],RI 21 5 14 15,WS 5 true 21 20] [0,3,4])) (RG [RM 12 4,RB 13 .add 12 (ki 1),RM 4 13] [0,3,4])))))) (SR [RM 22 3,RM 2 22] [2] .ret))))
def J8:List aR:=[.tm 2]
theorem Z8:aK an2 Tryz.f145 (aV qE)=some (qE,J8):=by kernel_rfl
def vK:AC:= (SR [RV 2 (.kv (.slice none 0 0))] [0] (SR [RM 5 0,RN 6 5,rq 7 (.iX 1 [(.v (.bool false))] 6 6),RM 3 7] [0,3] (.seq (SR [RV 4 (ki 0)] [0,3,4] (.block 0 (.loop (.seq (SR [RM 8 4,RM 9 0,RN 10 9,RB 11 .lss 8 10] [0,3,4,11] (.cond 11 .skip (.exit 0))) (.seq (.block 1 (RG [RM 14 3,RM 15 4,RM 16 0,RM 17 4,RI 18 1 16 17,RL 19 18,RI 20 1 14 15,WS 1 false 20 19] [0,3,4])) (RG [RM 12 4,RB 13 .add 12 (ki 1),RM 4 13] [0,3,4])))))) (SR [RM 21 3,RM 2 21] [2] .ret))))
def O5:List aR:=[.tm 2]
theorem qg:aK an2 Tryz.f146 (aV vK)=some (vK,O5):=by kernel_rfl
def oG:AC:= (SR [RO 2 0,RO 3 1,RV 4 kF] [2,3] (.seq (SR [RF 5 0 2,RL 6 5,RF 7 0 3,RL 8 7,RB 9 .neq 6 8] [2,3,9] (.cond 9 (SR [RV 4 kF] [4] .ret) .skip)) (.seq (SR [RF 10 1 2,RL 11 10,RF 12 1 3,RL 13 12,RB 14 .neq 11 13] [2,3,14] (.cond 14 (SR [RV 4 kF] [4] .ret) .skip)) (.seq (SR [RF 15 2 2,RL 16 15,RF 17 2 3,RL 18 17,RB 19 .neq 16 18] [19] (.cond 19 (SR [RV 4 kF] [4] .ret) .skip)) (SR [RV 4 kT] [4] .ret)))))
def I3:List aR:=[.tm 4]
theorem YC:aK an2 Tryz.f147 (aV oG)=some (oG,I3):=by kernel_rfl
def pC:AC:= (SR [RO 2 0,RO 3 1,RV 4 kF] [2,3] (.seq (SR [RF 5 0 2,RD 6 1 5,RF 7 0 3,RD 8 1 7,RC 9 FE [6,8],RU 10 9] [2,3,10] (.cond 10 (SR [RV 4 kF] [4] .ret) .skip)) (.seq (SR [RF 11 1 2,RL 12 11,RF 13 1 3,RL 14 13,RC 15 iY [12,14],RU 16 15] [16] (.cond 16 (SR [RV 4 kF] [4] .ret) .skip)) (SR [RV 4 kT] [4] .ret))))
def IG:List aR:=[.tm 4]
theorem X1:aK an2 Tryz.f148 (aV pC)=some (pC,IG):=by kernel_rfl
def o9:AC:= (SR [RV 4 kF] [0,1] (.seq (SR [RM 6 0,RN 7 6,RM 8 1,RN 9 8,RB 10 .neq 7 9] [0,1,10] (.cond 10 (SR [RV 4 kF] [4] .ret) .skip)) (.seq (SR [RV 5 (ki 0)] [0,1,5] (.block 0 (.loop (.seq (SR [RM 11 5,RM 12 0,RN 13 12,RB 14 .lss 11 13] [0,1,5,14] (.cond 14 .skip (.exit 0))) (.seq (.block 1 (SR [RM 17 0,RM 18 5,RI 19 4 17 18,RD 20 4 19,RM 21 1,RM 22 5,RI 23 4 21 22,RD 24 4 23,RC 25 BK [20,24],RU 26 25] [0,1,5,26] (.cond 26 (SR [RV 4 kF] [4] .ret) .skip))) (RG [RM 15 5,RB 16 .add 15 (ki 1),RM 5 16] [0,1,5])))))) (SR [RV 4 kT] [4] .ret))))
def HY:List aR:=[.tm 4]
theorem XY:aK an2 Tryz.f149 (aV o9)=some (o9,HY):=by kernel_rfl
def nH:AC:= (SR [RV 4 kF] [0,1] (.seq (SR [RM 6 0,RN 7 6,RM 8 1,RN 9 8,RB 10 .neq 7 9] [0,1,10] (.cond 10 (SR [RV 4 kF] [4] .ret) .skip)) (.seq (SR [RV 5 (ki 0)] [0,1,5] (.block 0 (.loop (.seq (SR [RM 11 5,RM 12 0,RN 13 12,RB 14 .lss 11 13] [0,1,5,14] (.cond 14 .skip (.exit 0))) (.seq (.block 1 (SR [RM 17 0,RM 18 5,RI 19 3 17 18,RD 20 3 19,RM 21 1,RM 22 5,RI 23 3 21 22,RD 24 3 23,RC 25 xZ [20,24],RU 26 25] [0,1,5,26] (.cond 26 (SR [RV 4 kF] [4] .ret) .skip))) (RG [RM 15 5,RB 16 .add 15 (ki 1),RM 5 16] [0,1,5])))))) (SR [RV 4 kT] [4] .ret))))
def FU:List aR:=[.tm 4]
theorem UL:aK an2 Tryz.f150 (aV nH)=some (nH,FU):=by kernel_rfl
def qH:AC:= (SR [RV 4 kF] [0,1] (.seq (SR [RM 6 0,RN 7 6,RM 8 1,RN 9 8,RB 10 .neq 7 9] [0,1,10] (.cond 10 (SR [RV 4 kF] [4] .ret) .skip)) (.seq (SR [RV 5 (ki 0)] [0,1,5] (.block 0 (.loop (.seq (SR [RM 11 5,RM 12 0,RN 13 12,RB 14 .lss 11 13] [0,1,5,14] (.cond 14 .skip (.exit 0))) (.seq (.block 1 (SR [RM 17 0,RM 18 5,RI 19 5 17 18,RD 20 5 19,RM 21 1,RM 22 5,RI 23 5 21 22,RD 24 5 23,RC 25 EH [20,24],RU 26 25] [0,1,5,26] (.cond 26 (SR [RV 4 kF] [4] .ret) .skip))) (RG [RM 15 5,RB 16 .add 15 (ki 1),RM 5 16] [0,1,5])))))) (SR [RV 4 kT] [4] .ret))))
def JW:List aR:=[.tm 4]
theorem Y1:aK an2 Tryz.f151 (aV qH)=some (qH,JW):=by kernel_rfl
def wC:AC:= (SR [RV 4 kF] [0,1] (.seq (SR [RM 6 0,RN 7 6,RM 8 1,RN 9 8,RB 10 .neq 7 9] [0,1,10] (.cond 10 (SR [RV 4 kF] [4] .ret) .skip)) (.seq (SR [RV 5 (ki 0)] [0,1,5] (.block 0 (.loop (.seq (SR [RM 11 5,RM 12 0,RN 13 12,RB 14 .lss 11 13] [0,1,5,14] (.cond 14 .skip (.exit 0))) (.seq (.block 1 (SR [RM 17 0,RM 18 5,RI 19 1 17 18,RL 20 19,RM 21 1,RM 22 5,RI 23 1 21 22,RL 24 23,rq 25 (.beq true 20 24)] [0,1,5,25] (.cond 25 (SR [RV 4 kF] [4] .ret) .skip))) (RG [RM 15 5,RB 16 .add 15 (ki 1),RM 5 16] [0,1,5])))))) (SR [RV 4 kT] [4] .ret))))
def OT:List aR:=[.tm 4]
theorem px:aK an2 Tryz.f152 (aV wC)=some (wC,OT):=by kernel_rfl
def mM:AC:= (SR [RO 2 0,RV 4 (ki 0)] [1,2] (SR [RF 5 0 2,RD 6 1 5,RM 7 1,RC 8 zS [6,7],RM 1 8] [1,2] (SR [RF 9 1 2,RL 10 9,RM 11 1,RC 12 gH [10,11],RM 1 12] [1] (SR [RM 13 1,RM 4 13] [4] .ret))))
def DU:List aR:=[.tm 4]
theorem Q7:aK an2 Tryz.f153 (aV mM)=some (mM,DU):=by kernel_rfl
def mG:AC:= (SR [RV 4 (ki 0)] [0,1] (.seq (SR [RV 5 (ki 0)] [0,1,5] (.block 0 (.loop (.seq (SR [RM 6 5,RM 7 0,RN 8 7,RB 9 .lss 6 8] [0,1,5,9] (.cond 9 .skip (.exit 0))) (.seq (.block 1 (SR [RM 12 0,RM 13 5,RM 14 1,RI 15 4 12 13,RF 16 0 15,WS 1 false 16 14] [0,1,5] (SR [RM 17 1,RB 18 .add 17 (ki 1),RM 1 18] [0,1,5] (SR [RM 19 0,RM 20 5,RI 21 4 19 20,RF 22 1 21,RL 23 22,RM 24 1,RC 25 gH [23,24],RM 1 25] [0,1,5] (SR [RM 26 0,RM 27 5,RI 28 4 26 27,RF 29 2 28,RL 30 29,RM 31 1,RC 32 o7 [30,31],RM 1 32] [0,1,5] (SR [RM 33 0,RM 34 5,RM 35 1,RI 36 4 33 34,RF 37 3 36,WS 1 false 37 35] [0,1,5] (RG [RM 38 1,RB 39 .add 38 (ki 1),RM 1 39] [0,1,5]))))))) (RG [RM 10 5,RB 11 .add 10 (ki 1),RM 5 11] [0,1,5])))))) (SR [RM 40 1,RM 4 40] [4] .ret)))
def DW:List aR:=[.tm 4]
theorem Q2:aK an2 Tryz.f154 (aV mG)=some (mG,DW):=by kernel_rfl
def lD:AC:= (SR [RV 4 (ki 0)] [0,1] (.seq (SR [RV 5 (ki 0)] [0,1,5] (.block 0 (.loop (.seq (SR [RM 6 5,RM 7 0,RN 8 7,RB 9 .lss 6 8] [0,1,5,9] (.cond 9 .skip (.exit 0))) (.seq (.block 1 (SR [RM 12 0,RM 13 5,RI 14 3 12 13,RF 15 0 14,RL 16 15,RM 17 1,RC 18 o7 [16,17],RM 1 18] [0,1,5] (SR [RM 19 0,RM 20 5,RI 21 3 19 20,RF 22 1 21,RL 23 22,RM 24 1,RC 25 oY [23,24],RM 1 25] [0,1,5] (SR [RM 26 0,RM 27 5,RM 28 1,RI 29 3 26 27,RF 30 2 29,WS 1 false 30 28] [0,1,5] (RG [RM 31 1,RB 32 .add 31 (ki 1),RM 1 32] [0,1,5]))))) (RG [RM 10 5,RB 11 .add 10 (ki 1),RM 5 11] [0,1,5])))))) (SR [RM 33 1,RM 4 33] [4] .ret)))
def AY:List aR:=[.tm 4]
theorem PY:aK an2 Tryz.f155 (aV lD)=some (lD,AY):=by kernel_rfl
def nG:AC:= (SR [RV 4 (ki 0)] [0,1] (.seq (SR [RV 5 (ki 0)] [0,1,5] (.block 0 (.loop (.seq (SR [RM 6 5,RM 7 0,RN 8 7,RB 9 .lss 6 8] [0,1,5,9] (.cond 9 .skip (.exit 0))) (.seq (.block 1 (SR [RM 12 0,RM 13 5,RM 14 1,RI 15 5 12 13,RF 16 0 15,WS 1 false 16 14] [0,1,5] (SR [RM 17 1,RB 18 .add 17 (ki 1),RM 1 18] [0,1,5] (SR [RM 19 0,RM 20 5,RM 21 1,RI 22 5 19 20,RF 23 1 22,WS 1 false 23 21] [0,1,5] (SR [RM 24 1,RB 25 .add 24 (ki 1),RM 1 25] [0,1,5] (SR [RM 26 0,RM 27 5,RM 28 1,RI 29 5 26 27,RF 30 2 29,RF 31 0 30,WS 1 false 31 28] [0,1,5] (SR [RM 32 1,RB 33 .add 32 (ki 1),RM 1 33] [0,1,5] (SR [RM 34 0,RM 35 5,RM 36 1,RI 37 5 34 35,RF 38 2 37,RF 39 1 38,WS 1 false 39 36] [0,1,5] (SR [RM 40 1,RB 41 .add 40 (ki 1),RM 1 41] [0,1,5] (RG [RM 42 0,RM 43 5,RI 44 5 42 43,RF 45 2 44,RF 46 2 45,RL 47 46,RM 48 1,RC 49 gH [47,48],RM 1 49] [0,1,5])))))))))) (RG [RM 10 5,RB 11 .add 10 (ki 1),RM 5 11] [0,1,5])))))) (SR [RM 50 1,RM 4 50] [4] .ret)))
def FM:List aR:=[.tm 4]
theorem UJ:aK an2 Tryz.f156 (aV nG)=some (nG,FM):=by kernel_rfl
def qT:AC:= (SR [RV 4 (ki 0)] [0,1] (SR [RM 6 1,RM 7 0,RN 8 7,RB 9 .sub 6 8,RM 1 9] [0,1] (.seq (SR [RM 10 1,RB 11 .lss 10 (ki 0)] [0,1,11] (.cond 11 (SR [rq 4 (.move (.kv (.int .i64 (-1))))] [4] .ret) .skip)) (.seq (SR [RV 5 (ki 0)] [0,1,5] (.block 0 (.loop (.seq (SR [RM 12 5,RM 13 0,RN 14 13,RB 15 .lss 12 14] [0,1,5,15] (.cond 15 .skip (.exit 0))) (.seq (.block 1 (SR [RM 18 0,RM 19 5,RI 20 7 18 19,RD 21 7 20,RM 22 1,RC 23 E8 [21,22],RM 1 23] [0,1,5] (SR [RM 24 1,RB 25 .lss 24 (ki 0)] [0,1,5,25] (.cond 25 (SR [rq 4 (.move (.kv (.int .i64 (-1))))] [4] .ret) .skip)))) (RG [RM 16 5,RB 17 .add 16 (ki 1),RM 5 17] [0,1,5])))))) (SR [RM 26 1,RM 4 26] [4] .ret)))))
def J6:List aR:=[.tm 4]
theorem di:aK an2 Tryz.f163 (aV qT)=some (qT,J6):=by kernel_rfl
def oT:AC:= (SR [RO 1 0,RA 2 [VZ,VZ,VZ,(.v (.bool false))]] [1,2] (SR [RA 3 [VZ,VZ,VZ,(.v (.bool false))]] [1,2,3] (SR [RF 4 0 1,RL 5 4,RF 6 0 3,WS 1 false 6 5] [1,2,3] (SR [RF 7 1 1,RL 8 7,RF 9 1 3,WS 1 false 9 8] [1,2,3] (SR [RF 10 2 1,RL 11 10,RF 12 2 3,WS 1 false 12 11] [1,2,3] (SR [RF 13 3 1,RL 14 13,RF 15 3 3,WS 1 false 15 14] [2,3] (SR [RD 16 4 3,WS 4 true 2 16] [2] .ret)))))))
def IA:List aR:=[.cell 2 4 true]
theorem XR:aK an2 Tryz.f169 (aV oT)=some (oT,IA):=by kernel_rfl
def qB:AC:= (SR [RV 2 (.kv (.slice none 0 0))] [0] (SR [RM 5 0,RN 6 5,rq 7 (.iX 7 [VZ,VZ,VZ,VZ,(.v (.bool false)),OZ,OZ] 6 6),RM 3 7] [0,3] (.seq (SR [RV 4 (ki 0)] [0,3,4] (.block 0 (.loop (.seq (SR [RM 8 4,RM 9 0,RN 10 9,RB 11 .lss 8 10] [0,3,4,11] (.cond 11 .skip (.exit 0))) (.seq (.block 1 (RG [RM 14 3,RM 15 4,RM 16 0,RM 17 4,RI 18 7 16 17,RD 19 7 18,RC 20 EM [19],RI 21 7 14 15,WS 7 true 21 20] [0,3,4])) (RG [RM 12 4,RB 13 .add 12 (ki 1),RM 4 13] [0,3,4])))))) (SR [RM 22 3,RM 2 22] [2] .ret))))
def KC:List aR:=[.tm 2]
theorem ZA:aK an2 Tryz.f170 (aV qB)=some (qB,KC):=by kernel_rfl
def oD:AC:= (SR [RO 2 0,RO 3 1,RV 4 kF] [2,3] (.seq (SR [RF 5 0 2,RL 6 5,RF 7 0 3,RL 8 7,RB 9 .neq 6 8] [2,3,9] (.cond 9 (SR [RV 4 kF] [4] .ret) .skip)) (.seq (SR [RF 10 1 2,RL 11 10,RF 12 1 3,RL 13 12,RB 14 .neq 11 13] [2,3,14] (.cond 14 (SR [RV 4 kF] [4] .ret) .skip)) (.seq (SR [RF 15 2 2,RL 16 15,RF 17 2 3,RL 18 17,RB 19 .neq 16 18] [2,3,19] (.cond 19 (SR [RV 4 kF] [4] .ret) .skip)) (.seq (SR [RF 20 3 2,RL 21 20,RF 22 3 3,RL 23 22,rq 24 (.beq true 21 23)] [24] (.cond 24 (SR [RV 4 kF] [4] .ret) .skip)) (SR [RV 4 kT] [4] .ret))))))
def IB:List aR:=[.tm 4]
theorem XJ:aK an2 Tryz.f174 (aV oD)=some (oD,IB):=by kernel_rfl
def pY:AC:= (SR [RV 4 kF] [0,1] (.seq (SR [RM 6 0,RN 7 6,RM 8 1,RN 9 8,RB 10 .neq 7 9] [0,1,10] (.cond 10 (SR [RV 4 kF] [4] .ret) .skip)) (.seq (SR [RV 5 (ki 0)] [0,1,5] (.block 0 (.loop (.seq (SR [RM 11 5,RM 12 0,RN 13 12,RB 14 .lss 11 13] [0,1,5,14] (.cond 14 .skip (.exit 0))) (.seq (.block 1 (SR [RM 17 0,RM 18 5,RI 19 7 17 18,RD 20 7 19,RM 21 1,RM 22 5,RI 23 7 21 22,RD 24 7 23,RC 25 EJ [20,24],RU 26 25] [0,1,5,26] (.cond 26 (SR [RV 4 kF] [4] .ret) .skip))) (RG [RM 15 5,RB 16 .add 15 (ki 1),RM 5 16] [0,1,5])))))) (SR [RV 4 kT] [4] .ret))))
def JO:List aR:=[.tm 4]
theorem bg:aK an2 Tryz.f175 (aV pY)=some (pY,JO):=by kernel_rfl
def nJ:AC:= (SR [RV 4 (ki 0)] [0,1] (.seq (SR [RV 5 (ki 0)] [0,1,5] (.block 0 (.loop (.seq (SR [RM 6 5,RM 7 0,RN 8 7,RB 9 .lss 6 8] [0,1,5,9] (.cond 9 .skip (.exit 0))) (.seq (.block 1 (SR [RM 12 0,RM 13 5,RM 14 1,RI 15 7 12 13,RF 16 0 15,WS 1 false 16 14] [0,1,5] (SR [RM 17 1,RB 18 .add 17 (ki 1),RM 1 18] [0,1,5] (SR [RM 19 0,RM 20 5,RM 21 1,RI 22 7 19 20,RF 23 1 22,WS 1 false 23 21] [0,1,5] (SR [RM 24 1,RB 25 .add 24 (ki 1),RM 1 25] [0,1,5] (SR [RM 26 0,RM 27 5,RM 28 1,RI 29 7 26 27,RF 30 2 29,WS 1 false 30 28] [0,1,5] (SR [RM 31 1,RB 32 .add 31 (ki 1),RM 1 32] [0,1,5] (SR [RM 33 0,RM 34 5,RM 35 1,RI 36 7 33 34,RF 37 3 36,WS 1 false 37 35] [0,1,5] (SR [RM 38 1,RB 39 .add 38 (ki 1),RM 1 39] [0,1,5] (SR [RM 40 0,RM 41 5,RM 42 1,RB 43 .rem 42 (ki 3),RB 44 .eql 43 (ki 0),RI 45 7 40 41,RF 46 4 45,WS 1 false 46 44] [0,1,5] (SR [RM 47 1,RB 48 .add 47 (ki 1),RM 1 48] [0,1,5] (SR [RM 49 0,RM 50 5,RI 51 7 49 50,RF 52 5 51,RL 53 52,RM 54 1,RC 55 gH [53,54],RM 1 55] [0,1,5] (RG [RM 56 0,RM 57 5,RI 58 7 56 57,RF 59 6 58,RL 60 59,RM 61 1,RC 62 gH [60,61],RM 1 62] [0,1,5]))))))))))))) (RG [RM 10 5,RB 11 .add 10 (ki 1),RM 5 11] [0,1,5])))))) (SR [RM 63 1,RM 4 63] [4] .ret)))
def FH:List aR:=[.tm 4]
theorem T3:aK an2 Tryz.f176 (aV nJ)=some (nJ,FH):=by kernel_rfl
def sE:AC:= (SR [RO 2 0,RV 4 (ki 0)] [1,2] (SR [RF 5 0 2,RL 6 5,RM 7 1,RC 8 i6 [6,7],RM 1 8] [1] (.seq (SR [RM 9 1,RB 10 .lss 9 (ki 0)] [1,10] (.cond 10 (SR [rq 4 (.move (.kv (.int .i64 (-1))))] [4] .ret) .skip)) (SR [RM 11 1,RM 4 11] [4] .ret))))
def LQ:List aR:=[.tm 4]
theorem ir:aK an2 Tryz.f228 (aV sE)=some (sE,LQ):=by kernel_rfl
def pZ:AC:= (SR [RO 2 0,RV 4 (ki 0)] [1,2] (SR [RF 5 1 2,RL 6 5,RM 7 1,RC 8 i6 [6,7],RM 1 8] [1,2] (.seq (SR [RM 9 1,RB 10 .lss 9 (ki 0)] [1,2,10] (.cond 10 (SR [rq 4 (.move (.kv (.int .i64 (-1))))] [4] .ret) .skip)) (SR [RF 11 2 2,RL 12 11,RM 13 1,RC 14 sY [12,13],RM 1 14] [1] (.seq (SR [RM 15 1,RB 16 .lss 15 (ki 0)] [1,16] (.cond 16 (SR [rq 4 (.move (.kv (.int .i64 (-1))))] [4] .ret) .skip)) (SR [RM 17 1,RM 4 17] [4] .ret))))))
def KD:List aR:=[.tm 4]
theorem bc:aK an2 Tryz.f229 (aV pZ)=some (pZ,KD):=by kernel_rfl
def oK:AC:= (SR [RO 2 0,RV 4 (ki 0)] [1,2] (SR [RF 5 0 2,RL 6 5,RM 7 1,RC 8 sY [6,7],RM 1 8] [1,2] (.seq (SR [RM 9 1,RB 10 .lss 9 (ki 0)] [1,2,10] (.cond 10 (SR [rq 4 (.move (.kv (.int .i64 (-1))))] [4] .ret) .skip)) (SR [RF 11 1 2,RL 12 11,RM 13 1,RC 14 sI [12,13],RM 1 14] [1] (.seq (SR [RM 15 1,RB 16 .lss 15 (ki 0)] [1,16] (.cond 16 (SR [rq 4 (.move (.kv (.int .i64 (-1))))] [4] .ret) .skip)) (SR [RM 17 1,RM 4 17] [4] .ret))))))
def HR:List aR:=[.tm 4]
theorem XO:aK an2 Tryz.f230 (aV oK)=some (oK,HR):=by kernel_rfl
def r7:AC:= (SR [RO 2 0,RV 4 (ki 0)] [1,2] (SR [RF 5 2 2,RD 6 3 5,RM 7 1,RC 8 EZ [6,7],RM 1 8] [1] (.seq (SR [RM 9 1,RB 10 .lss 9 (ki 0)] [1,10] (.cond 10 (SR [rq 4 (.move (.kv (.int .i64 (-1))))] [4] .ret) .skip)) (SR [RM 11 1,RM 4 11] [4] .ret))))
def MR:List aR:=[.tm 4]
theorem js:aK an2 Tryz.f231 (aV r7)=some (r7,MR):=by kernel_rfl
def tD:AC:= (SR [RO 1 0,RA 2 [OZ]] [1,2] (SR [RA 3 [OZ]] [1,2,3] (SR [RF 4 0 1,RL 5 4,RC 6 jA [5],RF 7 0 3,WS 1 false 7 6] [2,3] (SR [RD 8 1 3,WS 1 true 2 8] [2] .ret))))
def NM:List aR:=[.cell 2 1 true]
theorem eb:aK an2 Tryz.f232 (aV tD)=some (tD,NM):=by kernel_rfl
def qS:AC:= (SR [RO 1 0,RA 2 [VZ,OZ,OZ,VZ]] [1,2] (SR [RA 3 [VZ,OZ,OZ,VZ]] [1,2,3] (SR [RF 4 0 1,RL 5 4,RF 6 0 3,WS 1 false 6 5] [1,2,3] (SR [RF 7 1 1,RL 8 7,RC 9 jA [8],RF 10 1 3,WS 1 false 10 9] [1,2,3] (SR [RF 11 2 1,RL 12 11,RC 13 sG [12],RF 14 2 3,WS 1 false 14 13] [1,2,3] (SR [RF 15 3 1,RL 16 15,RF 17 3 3,WS 1 false 17 16] [2,3] (SR [RD 18 4 3,WS 4 true 2 18] [2] .ret)))))))
def JT:List aR:=[.cell 2 4 true]
theorem ZF:aK an2 Tryz.f233 (aV qS)=some (qS,JT):=by kernel_rfl
def oI:AC:= (SR [RO 1 0,RA 2 [OZ,OZ,VZ]] [1,2] (SR [RA 3 [OZ,OZ,VZ]] [1,2,3] (SR [RF 4 0 1,RL 5 4,RC 6 sG [5],RF 7 0 3,WS 1 false 7 6] [1,2,3] (SR [RF 8 1 1,RL 9 8,RC 10 sV [9],RF 11 1 3,WS 1 false 11 10] [1,2,3] (SR [RF 12 2 1,RL 13 12,RF 14 2 3,WS 1 false 14 13] [2,3] (SR [RD 15 3 3,WS 3 true 2 15] [2] .ret))))))
def IE:List aR:=[.cell 2 3 true]
theorem WN:aK an2 Tryz.f234 (aV oI)=some (oI,IE):=by kernel_rfl
def tC:AC:= (SR [RO 1 0,RA 2 [VZ,VZ,VZ,VZ,OZ]] [1,2] (SR [RA 3 [VZ,VZ,VZ,VZ,OZ]] [1,2,3] (SR [RF 4 0 1,RL 5 4,RF 6 0 3,WS 1 false 6 5] [1,2,3] (SR [RF 7 1 1,RL 8 7,RF 9 1 3,WS 1 false 9 8] [1,2,3] (SR [RF 10 2 1,RD 11 3 10,RC 12 EK [11],RF 13 2 3,WS 3 true 13 12] [2,3] (SR [RD 14 5 3,WS 5 true 2 14] [2] .ret))))))
def ME:List aR:=[.cell 2 5 true]
theorem ez:aK an2 Tryz.f235 (aV tC)=some (tC,ME):=by kernel_rfl
def sK:AC:= (SR [RO 2 0,RO 3 1,RV 4 kF] [2,3] (.seq (SR [RF 5 0 2,RL 6 5,RF 7 0 3,RL 8 7,RC 9 iY [6,8],RU 10 9] [10] (.cond 10 (SR [RV 4 kF] [4] .ret) .skip)) (SR [RV 4 kT] [4] .ret)))
def MW:List aR:=[.tm 4]
theorem ft:aK an2 Tryz.f236 (aV sK)=some (sK,MW):=by kernel_rfl
def qI:AC:= (SR [RO 2 0,RO 3 1,RV 4 kF] [2,3] (.seq (SR [RF 5 0 2,RL 6 5,RF 7 0 3,RL 8 7,RB 9 .neq 6 8] [2,3,9] (.cond 9 (SR [RV 4 kF] [4] .ret) .skip)) (.seq (SR [RF 10 1 2,RL 11 10,RF 12 1 3,RL 13 12,RC 14 iY [11,13],RU 15 14] [2,3,15] (.cond 15 (SR [RV 4 kF] [4] .ret) .skip)) (.seq (SR [RF 16 2 2,RL 17 16,RF 18 2 3,RL 19 18,RC 20 sL [17,19],RU 21 20] [2,3,21] (.cond 21 (SR [RV 4 kF] [4] .ret) .skip)) (.seq (SR [RF 22 3 2,RL 23 22,RF 24 3 3,RL 25 24,RB 26 .neq 23 25] [26] (.cond 26 (SR [RV 4 kF] [4] .ret) .skip)) (SR [RV 4 kT] [4] .ret))))))
def J0:List aR:=[.tm 4]
theorem YT:aK an2 Tryz.f237 (aV qI)=some (qI,J0):=by kernel_rfl
def oP:AC:= (SR [RO 2 0,RO 3 1,RV 4 kF] [2,3] (.seq (SR [RF 5 0 2,RL 6 5,RF 7 0 3,RL 8 7,RC 9 sL [6,8],RU 10 9] [2,3,10] (.cond 10 (SR [RV 4 kF] [4] .ret) .skip)) (.seq (SR [RF 11 1 2,RL 12 11,RF 13 1 3,RL 14 13,RC 15 sT [12,14],RU 16 15] [2,3,16] (.cond 16 (SR [RV 4 kF] [4] .ret) .skip)) (.seq (SR [RF 17 2 2,RL 18 17,RF 19 2 3,RL 20 19,RB 21 .neq 18 20] [21] (.cond 21 (SR [RV 4 kF] [4] .ret) .skip)) (SR [RV 4 kT] [4] .ret)))))
def IS:List aR:=[.tm 4]
theorem W7:aK an2 Tryz.f238 (aV oP)=some (oP,IS):=by kernel_rfl
def sU:AC:= (SR [RO 2 0,RO 3 1,RV 4 kF] [2,3] (.seq (SR [RF 5 0 2,RL 6 5,RF 7 0 3,RL 8 7,RB 9 .neq 6 8] [2,3,9] (.cond 9 (SR [RV 4 kF] [4] .ret) .skip)) (.seq (SR [RF 10 1 2,RL 11 10,RF 12 1 3,RL 13 12,RB 14 .neq 11 13] [2,3,14] (.cond 14 (SR [RV 4 kF] [4] .ret) .skip)) (.seq (SR [RF 15 2 2,RD 16 3 15,RF 17 2 3,RD 18 3 17,RC 19 EW [16,18],RU 20 19] [20] (.cond 20 (SR [RV 4 kF] [4] .ret) .skip)) (SR [RV 4 kT] [4] .ret)))))
def NG:List aR:=[.tm 4]
theorem gk:aK an2 Tryz.f239 (aV sU)=some (sU,NG):=by kernel_rfl
def oH:AC:= (SR [RO 2 0,RV 4 (ki 0)] [1,2] (SR [RF 5 0 2,RL 6 5,RM 7 1,RC 8 gH [6,7],RM 1 8] [1] (SR [RM 9 1,RM 4 9] [4] .ret)))
def HS:List aR:=[.tm 4]
theorem WL:aK an2 Tryz.f240 (aV oH)=some (oH,HS):=by kernel_rfl
def nE:AC:= (SR [RV 4 (ki 0)] [0,1] (.seq (SR [RV 5 (ki 0)] [0,1,5] (.block 0 (.loop (.seq (SR [RM 6 5,RM 7 0,RN 8 7,RB 9 .lss 6 8] [0,1,5,9] (.cond 9 .skip (.exit 0))) (.seq (.block 1 (SR [RM 12 0,RM 13 5,RM 14 1,RI 15 3 12 13,RF 16 0 15,WS 1 false 16 14] [0,1,5] (SR [RM 17 1,RB 18 .add 17 (ki 1),RM 1 18] [0,1,5] (SR [RM 19 0,RM 20 5,RM 21 1,RI 22 3 19 20,RF 23 1 22,WS 1 false 23 21] [0,1,5] (SR [RM 24 1,RB 25 .add 24 (ki 1),RM 1 25] [0,1,5] (SR [RM 26 0,RM 27 5,RM 28 1,RI 29 3 26 27,RF 30 2 29,WS 1 false 30 28] [0,1,5] (RG [RM 31 1,RB 32 .add 31 (ki 1),RM 1 32] [0,1,5]))))))) (RG [RM 10 5,RB 11 .add 10 (ki 1),RM 5 11] [0,1,5])))))) (SR [RM 33 1,RM 4 33] [4] .ret)))
def FJ:List aR:=[.tm 4]
theorem UB:aK an2 Tryz.f241 (aV nE)=some (nE,FJ):=by kernel_rfl
def tK:AC:= (SR [RO 2 0,RV 4 (ki 0)] [1,2] (SR [RF 5 5 2,RL 6 5,RM 7 1,RC 8 i6 [6,7],RM 1 8] [1,2] (.seq (SR [RM 9 1,RB 10 .lss 9 (ki 0)] [1,2,10] (.cond 10 (SR [rq 4 (.move (.kv (.int .i64 (-1))))] [4] .ret) .skip)) (SR [RF 11 6 2,RL 12 11,RM 13 1,RC 14 i6 [12,13],RM 1 14] [1] (.seq (SR [RM 15 1,RB 16 .lss 15 (ki 0)] [1,16] (.cond 16 (SR [rq 4 (.move (.kv (.int .i64 (-1))))] [4] .ret) .skip)) (SR [RM 17 1,RM 4 17] [4] .ret))))))
def L9:List aR:=[.tm 4]
theorem gv:aK an2 Tryz.f246 (aV tK)=some (tK,L9):=by kernel_rfl
def s6:AC:= (SR [RO 1 0,RA 2 [VZ,VZ,VZ,VZ,(.v (.bool false)),OZ,OZ]] [1,2] (SR [RA 3 [VZ,VZ,VZ,VZ,(.v (.bool false)),OZ,OZ]] [1,2,3] (SR [RF 4 0 1,RL 5 4,RF 6 0 3,WS 1 false 6 5] [1,2,3] (SR [RF 7 1 1,RL 8 7,RF 9 1 3,WS 1 false 9 8] [1,2,3] (SR [RF 10 2 1,RL 11 10,RF 12 2 3,WS 1 false 12 11] [1,2,3] (SR [RF 13 3 1,RL 14 13,RF 15 3 3,WS 1 false 15 14] [1,2,3] (SR [RF 16 4 1,RL 17 16,RF 18 4 3,WS 1 false 18 17] [1,2,3] (SR [RF 19 5 1,RL 20 19,RC 21 jA [20],RF 22 5 3,WS 1 false 22 21] [1,2,3] (SR [RF 23 6 1,RL 24 23,RC 25 jA [24],RF 26 6 3,WS 1 false 26 25] [2,3] (SR [RD 27 7 3,WS 7 true 2 27] [2] .ret))))))))))
def M5:List aR:=[.cell 2 7 true]
theorem iz:aK an2 Tryz.f251 (aV s6)=some (s6,M5):=by kernel_rfl
def rZ:AC:= (SR [RO 2 0,RO 3 1,RV 4 kF] [2,3] (.seq (SR [RF 5 0 2,RL 6 5,RF 7 0 3,RL 8 7,RB 9 .neq 6 8] [2,3,9] (.cond 9 (SR [RV 4 kF] [4] .ret) .skip)) (.seq (SR [RF 10 1 2,RL 11 10,RF 12 1 3,RL 13 12,RB 14 .neq 11 13] [2,3,14] (.cond 14 (SR [RV 4 kF] [4] .ret) .skip)) (.seq (SR [RF 15 2 2,RL 16 15,RF 17 2 3,RL 18 17,RB 19 .neq 16 18] [2,3,19] (.cond 19 (SR [RV 4 kF] [4] .ret) .skip)) (.seq (SR [RF 20 3 2,RL 21 20,RF 22 3 3,RL 23 22,RB 24 .neq 21 23] [2,3,24] (.cond 24 (SR [RV 4 kF] [4] .ret) .skip)) (.seq (SR [RF 25 4 2,RL 26 25,RF 27 4 3,RL 28 27,rq 29 (.beq true 26 28)] [2,3,29] (.cond 29 (SR [RV 4 kF] [4] .ret) .skip)) (.seq (SR [RF 30 5 2,RL 31 30,RF 32 5 3,RL 33 32,RC 34 iY [31,33],RU 35 34] [2,3,35] (.cond 35 (SR [RV 4 kF] [4] .ret) .skip)) (.seq (SR [RF 36 6 2,RL 37 36,RF 38 6 3,RL 39 38,RC 40 iY [37,39],RU 41 40] [41] (.cond 41 (SR [RV 4 kF] [4] .ret) .skip)) (SR [RV 4 kT] [4] .ret)))))))))
def MC:List aR:=[.tm 4]
theorem ig:aK an2 Tryz.f254 (aV rZ)=some (rZ,MC):=by kernel_rfl
def qC:AC:= (SR [RV 4 (ki 0)] [0,1] (SR [RM 5 1,RM 6 0,RN 7 6,RB 8 .sub 5 7,RM 1 8] [1] (.seq (SR [RM 9 1,RB 10 .lss 9 (ki 0)] [1,10] (.cond 10 (SR [rq 4 (.move (.kv (.int .i64 (-1))))] [4] .ret) .skip)) (SR [RM 11 1,RM 4 11] [4] .ret))))
def J5:List aR:=[.tm 4]
theorem Y3:aK an2 Tryz.f306 (aV qC)=some (qC,J5):=by kernel_rfl
def sN:AC:= (SR [RO 2 0,RV 4 (ki 0)] [1,2] (SR [RF 5 2 2,RL 6 5,RM 7 1,RC 8 i6 [6,7],RM 1 8] [1] (.seq (SR [RM 9 1,RB 10 .lss 9 (ki 0)] [1,10] (.cond 10 (SR [rq 4 (.move (.kv (.int .i64 (-1))))] [4] .ret) .skip)) (SR [RM 11 1,RM 4 11] [4] .ret))))
def NC:List aR:=[.tm 4]
theorem jv:aK an2 Tryz.f307 (aV sN)=some (sN,NC):=by kernel_rfl
def pX:AC:= (SR [RV 2 (.kv (.slice none 0 0))] [0] (SR [RM 5 0,RN 6 5,rq 7 (.iX 3 [VZ,VZ,VZ] 6 6),RM 3 7] [0,3] (.seq (SR [RV 4 (ki 0)] [0,3,4] (.block 0 (.loop (.seq (SR [RM 8 4,RM 9 0,RN 10 9,RB 11 .lss 8 10] [0,3,4,11] (.cond 11 .skip (.exit 0))) (.seq (.block 1 (RG [RM 14 3,RM 15 4,RM 16 0,RM 17 4,RI 18 3 16 17,RD 19 3 18,RC 20 FB [19],RI 21 3 14 15,WS 3 true 21 20] [0,3,4])) (RG [RM 12 4,RB 13 .add 12 (ki 1),RM 4 13] [0,3,4])))))) (SR [RM 22 3,RM 2 22] [2] .ret))))
def J3:List aR:=[.tm 2]
theorem bx:aK an2 Tryz.f308 (aV pX)=some (pX,J3):=by kernel_rfl
def tM:AC:= (SR [RO 1 0,RA 2 [VZ,VZ,OZ]] [1,2] (SR [RA 3 [VZ,VZ,OZ]] [1,2,3] (SR [RF 4 0 1,RL 5 4,RF 6 0 3,WS 1 false 6 5] [1,2,3] (SR [RF 7 1 1,RL 8 7,RF 9 1 3,WS 1 false 9 8] [1,2,3] (SR [RF 10 2 1,RL 11 10,RC 12 jA [11],RF 13 2 3,WS 1 false 13 12] [2,3] (SR [RD 14 3 3,WS 3 true 2 14] [2] .ret))))))
def L1:List aR:=[.cell 2 3 true]
theorem fq:aK an2 Tryz.f309 (aV tM)=some (tM,L1):=by kernel_rfl
def qD:AC:= (SR [RV 4 kF] [0,1] (.seq (SR [RM 6 0,RN 7 6,RM 8 1,RN 9 8,RB 10 .neq 7 9] [0,1,10] (.cond 10 (SR [RV 4 kF] [4] .ret) .skip)) (.seq (SR [RV 5 (ki 0)] [0,1,5] (.block 0 (.loop (.seq (SR [RM 11 5,RM 12 0,RN 13 12,RB 14 .lss 11 13] [0,1,5,14] (.cond 14 .skip (.exit 0))) (.seq (.block 1 (SR [RM 17 0,RM 18 5,RI 19 3 17 18,RD 20 3 19,RM 21 1,RM 22 5,RI 23 3 21 22,RD 24 3 23,RC 25 ET [20,24],RU 26 25] [0,1,5,26] (.cond 26 (SR [RV 4 kF] [4] .ret) .skip))) (RG [RM 15 5,RB 16 .add 15 (ki 1),RM 5 16] [0,1,5])))))) (SR [RV 4 kT] [4] .ret))))
def JZ:List aR:=[.tm 4]
theorem ar:aK an2 Tryz.f310 (aV qD)=some (qD,JZ):=by kernel_rfl
def r6:AC:= (SR [RO 2 0,RO 3 1,RV 4 kF] [2,3] (.seq (SR [RF 5 0 2,RL 6 5,RF 7 0 3,RL 8 7,RB 9 .neq 6 8] [2,3,9] (.cond 9 (SR [RV 4 kF] [4] .ret) .skip)) (.seq (SR [RF 10 1 2,RL 11 10,RF 12 1 3,RL 13 12,RB 14 .neq 11 13] [2,3,14] (.cond 14 (SR [RV 4 kF] [4] .ret) .skip)) (.seq (SR [RF 15 2 2,RL 16 15,RF 17 2 3,RL 18 17,RC 19 iY [16,18],RU 20 19] [20] (.cond 20 (SR [RV 4 kF] [4] .ret) .skip)) (SR [RV 4 kT] [4] .ret)))))
def NP:List aR:=[.tm 4]
theorem dw:aK an2 Tryz.f311 (aV r6)=some (r6,NP):=by kernel_rfl
def tO:AC:= (SR [RO 1 0,RA 2 [VZ,VZ,VZ]] [1,2] (SR [RA 3 [VZ,VZ,VZ]] [1,2,3] (SR [RF 4 0 1,RL 5 4,RF 6 0 3,WS 1 false 6 5] [1,2,3] (SR [RF 7 1 1,RL 8 7,RF 9 1 3,WS 1 false 9 8] [1,2,3] (SR [RF 10 2 1,RL 11 10,RF 12 2 3,WS 1 false 12 11] [2,3] (SR [RD 13 3 3,WS 3 true 2 13] [2] .ret))))))
def MB:List aR:=[.cell 2 3 true]
theorem ji:aK an2 Tryz.f335 (aV tO)=some (tO,MB):=by kernel_rfl
def sF:AC:= (SR [RO 2 0,RO 3 1,RV 4 kF] [2,3] (.seq (SR [RF 5 0 2,RL 6 5,RF 7 0 3,RL 8 7,RB 9 .neq 6 8] [2,3,9] (.cond 9 (SR [RV 4 kF] [4] .ret) .skip)) (.seq (SR [RF 10 1 2,RL 11 10,RF 12 1 3,RL 13 12,RB 14 .neq 11 13] [2,3,14] (.cond 14 (SR [RV 4 kF] [4] .ret) .skip)) (.seq (SR [RF 15 2 2,RL 16 15,RF 17 2 3,RL 18 17,RB 19 .neq 16 18] [19] (.cond 19 (SR [RV 4 kF] [4] .ret) .skip)) (SR [RV 4 kT] [4] .ret)))))
def LP:List aR:=[.tm 4]
theorem fb:aK an2 Tryz.f336 (aV sF)=some (sF,LP):=by kernel_rfl
end Go.Proofs.YtlncecohbakleaaGreat
