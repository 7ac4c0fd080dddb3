/- Texts laid together by a program: rules, contracts and the walk that leads to the law. -/
import Derived.Test.YtlncecohbakleaaGreatPS3
set_option linter.unusedVariables false
set_option linter.unusedSimpArgs false
set_option linter.unusedSectionVars false
set_option maxRecDepth 100000
set_option maxHeartbeats 8000000
namespace Go.Proofs.YtlncecohbakleaaGreat
open Go Go.AM
def a2V:AC:= (boG [f5 2 0,dO 4 (ki 0)] [1,2] (boG [RF 5 0 2,RL 6 5,RM 7 1,f6 8 aZ5 [6,7],RM 1 8] [1,2] (.seq (boG [RM 9 1,dI 10 .lss 9 (ki 0)] [1,2,10] (.cond 10 (boG [rq 4 (.move (.kv (.int .i64 (-1))))] [4] .ret) .skip)) (boG [RF 11 1 2,RL 12 11,RM 13 1,f6 14 g7 [12,13],RM 1 14] [1,2] (.seq (boG [RM 15 1,dI 16 .lss 15 (ki 0)] [1,2,16] (.cond 16 (boG [rq 4 (.move (.kv (.int .i64 (-1))))] [4] .ret) .skip)) (boG [RF 17 2 2,RL 18 17,RM 19 1,f6 20 a0C [18,19],RM 1 20] [1] (.seq (boG [RM 21 1,dI 22 .lss 21 (ki 0)] [1,22] (.cond 22 (boG [rq 4 (.move (.kv (.int .i64 (-1))))] [4] .ret) .skip)) (boG [RM 23 1,RM 4 23] [4] .ret))))))))
def a4X:List aW:=[.tm 4]
theorem baB:aO bNV Tryz.f13 (bnD a2V)=some (a2V,a4X):=by kernel_rfl
def bNZ:AC:= (boG [dO 4 (ki 0)] [0,1] (boG [RM 6 1,RM 7 0,f1 8 7,dI 9 .sub 6 8,RM 1 9] [0,1] (.seq (boG [RM 10 1,dI 11 .lss 10 (ki 0)] [0,1,11] (.cond 11 (boG [rq 4 (.move (.kv (.int .i64 (-1))))] [4] .ret) .skip)) (.seq (boG [dO 5 (ki 0)] [0,1,5] (.block 0 (.loop (.seq (boG [RM 12 5,RM 13 0,f1 14 13,dI 15 .lss 12 14] [0,1,5,15] (.cond 15 .skip (.exit 0))) (.seq (.block 1 (boG [RM 18 0,RM 19 5,e0 20 3 18 19,f8 21 3 20,RM 22 1,f6 23 bJU [21,22],RM 1 23] [0,1,5] (boG [RM 24 1,dI 25 .lss 24 (ki 0)] [0,1,5,25] (.cond 25 (boG [rq 4 (.move (.kv (.int .i64 (-1))))] [4] .ret) .skip)))) (m2 [RM 16 5,dI 17 .add 16 (ki 1),RM 5 17] [0,1,5])))))) (boG [RM 26 1,RM 4 26] [4] .ret)))))
def bN6:List aW:=[.tm 4]
theorem bOE:aO bNV Tryz.f14 (bnD bNZ)=some (bNZ,bN6):=by kernel_rfl
def a2W:AC:= (boG [f5 1 0,f7 2 [OZ,OZ,OZ]] [1,2] (boG [f7 3 [OZ,OZ,OZ]] [1,2,3] (boG [RF 4 0 1,RL 5 4,f6 6 aZ4 [5],RF 7 0 3,g0 1 false 7 6] [1,2,3] (boG [RF 8 1 1,RL 9 8,f6 10 p8 [9],RF 11 1 3,g0 1 false 11 10] [1,2,3] (boG [RF 12 2 1,RL 13 12,f6 14 a0G [13],RF 15 2 3,g0 1 false 15 14] [2,3] (boG [f8 16 3 3,g0 3 true 2 16] [2] .ret))))))
def a4Y:List aW:=[.cell 2 3 true]
theorem bbW:aO bNV Tryz.f16 (bnD a2W)=some (a2W,a4Y):=by kernel_rfl
def bN0:AC:= (boG [dO 2 (.kv (.slice none 0 0))] [0] (boG [RM 5 0,f1 6 5,rq 7 (.kY 3 [OZ,OZ,OZ] 6 6),RM 3 7] [0,3] (.seq (boG [dO 4 (ki 0)] [0,3,4] (.block 0 (.loop (.seq (boG [RM 8 4,RM 9 0,f1 10 9,dI 11 .lss 8 10] [0,3,4,11] (.cond 11 .skip (.exit 0))) (.seq (.block 1 (m2 [RM 14 3,RM 15 4,RM 16 0,RM 17 4,e0 18 3 16 17,f8 19 3 18,f6 20 bIS [19],e0 21 3 14 15,g0 3 true 21 20] [0,3,4])) (m2 [RM 12 4,dI 13 .add 12 (ki 1),RM 4 13] [0,3,4])))))) (boG [RM 22 3,RM 2 22] [2] .ret))))
def bN7:List aW:=[.tm 2]
theorem bOC:aO bNV Tryz.f17 (bnD bN0)=some (bN0,bN7):=by kernel_rfl
def a24:AC:= (boG [f5 2 0,f5 3 1,dO 4 boD] [2,3] (.seq (boG [RF 5 0 2,RL 6 5,RF 7 0 3,RL 8 7,f6 9 aZ8 [6,8],f4 10 9] [2,3,10] (.cond 10 (boG [dO 4 boD] [4] .ret) .skip)) (.seq (boG [RF 11 1 2,RL 12 11,RF 13 1 3,RL 14 13,f6 15 o6 [12,14],f4 16 15] [2,3,16] (.cond 16 (boG [dO 4 boD] [4] .ret) .skip)) (.seq (boG [RF 17 2 2,RL 18 17,RF 19 2 3,RL 20 19,f6 21 a0O [18,20],f4 22 21] [22] (.cond 22 (boG [dO 4 boD] [4] .ret) .skip)) (boG [dO 4 boE] [4] .ret)))))
def a4U:List aW:=[.tm 4]
theorem baA:aO bNV Tryz.f20 (bnD a24)=some (a24,a4U):=by kernel_rfl
def bN1:AC:= (boG [dO 4 boD] [0,1] (.seq (boG [RM 6 0,f1 7 6,RM 8 1,f1 9 8,dI 10 .neq 7 9] [0,1,10] (.cond 10 (boG [dO 4 boD] [4] .ret) .skip)) (.seq (boG [dO 5 (ki 0)] [0,1,5] (.block 0 (.loop (.seq (boG [RM 11 5,RM 12 0,f1 13 12,dI 14 .lss 11 13] [0,1,5,14] (.cond 14 .skip (.exit 0))) (.seq (.block 1 (boG [RM 17 0,RM 18 5,e0 19 3 17 18,f8 20 3 19,RM 21 1,RM 22 5,e0 23 3 21 22,f8 24 3 23,f6 25 bJT [20,24],f4 26 25] [0,1,5,26] (.cond 26 (boG [dO 4 boD] [4] .ret) .skip))) (m2 [RM 15 5,dI 16 .add 15 (ki 1),RM 5 16] [0,1,5])))))) (boG [dO 4 boE] [4] .ret))))
def bN8:List aW:=[.tm 4]
theorem bOD:aO bNV Tryz.f21 (bnD bN1)=some (bN1,bN8):=by kernel_rfl
def bzK:AC:= (boG [f5 2 0,dO 4 (ki 0)] [1,2] (boG [RF 5 0 2,RL 6 5,RM 7 1,f6 8 bzT [6,7],RM 1 8] [1,2] (boG [RF 9 1 2,RL 10 9,RM 11 1,f6 12 byU [10,11],RM 1 12] [1,2] (boG [RF 13 2 2,RL 14 13,RM 15 1,f6 16 bz0 [14,15],RM 1 16] [1] (boG [RM 17 1,RM 4 17] [4] .ret)))))
def bA5:List aW:=[.tm 4]
theorem bCU:aO bNV Tryz.f22 (bnD bzK)=some (bzK,bA5):=by kernel_rfl
def bNY:AC:= (boG [dO 4 (ki 0)] [0,1] (.seq (boG [dO 5 (ki 0)] [0,1,5] (.block 0 (.loop (.seq (boG [RM 6 5,RM 7 0,f1 8 7,dI 9 .lss 6 8] [0,1,5,9] (.cond 9 .skip (.exit 0))) (.seq (.block 1 (boG [RM 12 0,RM 13 5,e0 14 3 12 13,RF 15 0 14,RL 16 15,RM 17 1,f6 18 bI4 [16,17],RM 1 18] [0,1,5] (boG [RM 19 0,RM 20 5,e0 21 3 19 20,RF 22 1 21,RL 23 22,RM 24 1,f6 25 bI4 [23,24],RM 1 25] [0,1,5] (m2 [RM 26 0,RM 27 5,e0 28 3 26 27,RF 29 2 28,RL 30 29,RM 31 1,f6 32 bI4 [30,31],RM 1 32] [0,1,5])))) (m2 [RM 10 5,dI 11 .add 10 (ki 1),RM 5 11] [0,1,5])))))) (boG [RM 33 1,RM 4 33] [4] .ret)))
def bN4:List aW:=[.tm 4]
theorem bOA:aO bNV Tryz.f23 (bnD bNY)=some (bNY,bN4):=by kernel_rfl
def a1M:AC:= (boG [f5 2 0,dO 4 (ki 0)] [1,2] (boG [RF 5 0 2,f8 6 2 5,RM 7 1,f6 8 a0M [6,7],RM 1 8] [1,2] (.seq (boG [RM 9 1,dI 10 .lss 9 (ki 0)] [1,2,10] (.cond 10 (boG [rq 4 (.move (.kv (.int .i64 (-1))))] [4] .ret) .skip)) (boG [RF 11 2 2,RL 12 11,RM 13 1,f6 14 a0H [12,13],RM 1 14] [1,2] (.seq (boG [RM 15 1,dI 16 .lss 15 (ki 0)] [1,2,16] (.cond 16 (boG [rq 4 (.move (.kv (.int .i64 (-1))))] [4] .ret) .skip)) (boG [RF 17 3 2,RL 18 17,RM 19 1,f6 20 aZ6 [18,19],RM 1 20] [1,2] (.seq (boG [RM 21 1,dI 22 .lss 21 (ki 0)] [1,2,22] (.cond 22 (boG [rq 4 (.move (.kv (.int .i64 (-1))))] [4] .ret) .skip)) (boG [RF 23 4 2,RL 24 23,RM 25 1,f6 26 aZS [24,25],RM 1 26] [1] (.seq (boG [RM 27 1,dI 28 .lss 27 (ki 0)] [1,28] (.cond 28 (boG [rq 4 (.move (.kv (.int .i64 (-1))))] [4] .ret) .skip)) (boG [RM 29 1,RM 4 29] [4] .ret))))))))))
def a3Z:List aW:=[.tm 4]
theorem a6N:aO bNV Tryz.f53 (bnD a1M)=some (a1M,a3Z):=by kernel_rfl
def bJO:AC:= (boG [f5 2 0,dO 4 (ki 0)] [1,2] (boG [RF 5 0 2,RL 6 5,RM 7 1,f6 8 bI3 [6,7],RM 1 8] [1,2] (.seq (boG [RM 9 1,dI 10 .lss 9 (ki 0)] [1,2,10] (.cond 10 (boG [rq 4 (.move (.kv (.int .i64 (-1))))] [4] .ret) .skip)) (boG [RF 11 1 2,RL 12 11,RM 13 1,f6 14 bI3 [12,13],RM 1 14] [1,2] (.seq (boG [RM 15 1,dI 16 .lss 15 (ki 0)] [1,2,16] (.cond 16 (boG [rq 4 (.move (.kv (.int .i64 (-1))))] [4] .ret) .skip)) (boG [RF 17 2 2,RL 18 17,RM 19 1,f6 20 bI3 [18,19],RM 1 20] [1] (.seq (boG [RM 21 1,dI 22 .lss 21 (ki 0)] [1,22] (.cond 22 (boG [rq 4 (.move (.kv (.int .i64 (-1))))] [4] .ret) .skip)) (boG [RM 23 1,RM 4 23] [4] .ret))))))))
def bKV:List aW:=[.tm 4]
theorem bL9:aO bNV Tryz.f54 (bnD bJO)=some (bJO,bKV):=by kernel_rfl
def a1N:AC:= (boG [f5 1 0,f7 2 [OZ,OZ,OZ,OZ,OZ]] [1,2] (boG [f7 3 [OZ,OZ,OZ,OZ,OZ]] [1,2,3] (boG [RF 4 0 1,f8 5 2 4,f6 6 a0K [5],RF 7 0 3,g0 2 true 7 6] [1,2,3] (boG [RF 8 2 1,RL 9 8,f6 10 a0J [9],RF 11 2 3,g0 1 false 11 10] [1,2,3] (boG [RF 12 3 1,RL 13 12,f6 14 aZ2 [13],RF 15 3 3,g0 1 false 15 14] [1,2,3] (boG [RF 16 4 1,RL 17 16,f6 18 aZR [17],RF 19 4 3,g0 1 false 19 18] [2,3] (boG [f8 20 5 3,g0 5 true 2 20] [2] .ret)))))))
def a3X:List aW:=[.cell 2 5 true]
theorem a6V:aO bNV Tryz.f55 (bnD a1N)=some (a1N,a3X):=by kernel_rfl
def bJP:AC:= (boG [f5 1 0,f7 2 [OZ,OZ,OZ]] [1,2] (boG [f7 3 [OZ,OZ,OZ]] [1,2,3] (boG [RF 4 0 1,RL 5 4,f6 6 bJG [5],RF 7 0 3,g0 1 false 7 6] [1,2,3] (boG [RF 8 1 1,RL 9 8,f6 10 bJG [9],RF 11 1 3,g0 1 false 11 10] [1,2,3] (boG [RF 12 2 1,RL 13 12,f6 14 bJG [13],RF 15 2 3,g0 1 false 15 14] [2,3] (boG [f8 16 3 3,g0 3 true 2 16] [2] .ret))))))
def bKU:List aW:=[.cell 2 3 true]
theorem bL8:aO bNV Tryz.f56 (bnD bJP)=some (bJP,bKU):=by kernel_rfl
def a1Z:AC:= (boG [f5 2 0,f5 3 1,dO 4 boD] [2,3] (.seq (boG [RF 5 0 2,f8 6 2 5,RF 7 0 3,f8 8 2 7,f6 9 a0N [6,8],f4 10 9] [2,3,10] (.cond 10 (boG [dO 4 boD] [4] .ret) .skip)) (.seq (boG [RF 11 2 2,RL 12 11,RF 13 2 3,RL 14 13,f6 15 a0L [12,14],f4 16 15] [2,3,16] (.cond 16 (boG [dO 4 boD] [4] .ret) .skip)) (.seq (boG [RF 17 3 2,RL 18 17,RF 19 3 3,RL 20 19,f6 21 aZ3 [18,20],f4 22 21] [2,3,22] (.cond 22 (boG [dO 4 boD] [4] .ret) .skip)) (.seq (boG [RF 23 4 2,RL 24 23,RF 25 4 3,RL 26 25,f6 27 aZX [24,26],f4 28 27] [28] (.cond 28 (boG [dO 4 boD] [4] .ret) .skip)) (boG [dO 4 boE] [4] .ret))))))
def a32:List aW:=[.tm 4]
theorem a7I:aO bNV Tryz.f58 (bnD a1Z)=some (a1Z,a32):=by kernel_rfl
def bJQ:AC:= (boG [f5 2 0,f5 3 1,dO 4 boD] [2,3] (.seq (boG [RF 5 0 2,RL 6 5,RF 7 0 3,RL 8 7,f6 9 bI5 [6,8],f4 10 9] [2,3,10] (.cond 10 (boG [dO 4 boD] [4] .ret) .skip)) (.seq (boG [RF 11 1 2,RL 12 11,RF 13 1 3,RL 14 13,f6 15 bI5 [12,14],f4 16 15] [2,3,16] (.cond 16 (boG [dO 4 boD] [4] .ret) .skip)) (.seq (boG [RF 17 2 2,RL 18 17,RF 19 2 3,RL 20 19,f6 21 bI5 [18,20],f4 22 21] [22] (.cond 22 (boG [dO 4 boD] [4] .ret) .skip)) (boG [dO 4 boE] [4] .ret)))))
def bKQ:List aW:=[.tm 4]
theorem bMD:aO bNV Tryz.f59 (bnD bJQ)=some (bJQ,bKQ):=by kernel_rfl
def bIY:AC:= (boG [f5 2 0,dO 4 (ki 0)] [1,2] (boG [RF 5 0 2,f8 6 2 5,RM 7 1,f6 8 bz1 [6,7],RM 1 8] [1,2] (boG [RF 9 2 2,RL 10 9,RM 11 1,f6 12 bJI [10,11],RM 1 12] [1,2] (boG [RF 13 3 2,RL 14 13,RM 15 1,f6 16 bJE [14,15],RM 1 16] [1,2] (boG [RF 17 4 2,RL 18 17,RM 19 1,f6 20 by3 [18,19],RM 1 20] [1] (boG [RM 21 1,RM 4 21] [4] .ret))))))
def bJ2:List aW:=[.tm 4]
theorem bLD:aO bNV Tryz.f60 (bnD bIY)=some (bIY,bJ2):=by kernel_rfl
def bJD:AC:= (boG [f5 2 0,dO 4 (ki 0)] [1,2] (boG [RF 5 0 2,RL 6 5,RM 7 1,f6 8 bI4 [6,7],RM 1 8] [1,2] (boG [RF 9 1 2,RL 10 9,RM 11 1,f6 12 bI4 [10,11],RM 1 12] [1,2] (boG [RF 13 2 2,RL 14 13,RM 15 1,f6 16 bI4 [14,15],RM 1 16] [1] (boG [RM 17 1,RM 4 17] [4] .ret)))))
def bKH:List aW:=[.tm 4]
theorem bL0:aO bNV Tryz.f61 (bnD bJD)=some (bJD,bKH):=by kernel_rfl
def bIZ:AC:= (boG [f5 2 0,dO 4 (ki 0)] [1,2] (boG [RF 5 0 2,f8 6 2 5,RM 7 1,f6 8 bz2 [6,7],RM 1 8] [1,2] (.seq (boG [RM 9 1,dI 10 .lss 9 (ki 0)] [1,2,10] (.cond 10 (boG [rq 4 (.move (.kv (.int .i64 (-1))))] [4] .ret) .skip)) (boG [RF 11 2 2,RL 12 11,RM 13 1,f6 14 bJJ [12,13],RM 1 14] [1,2] (.seq (boG [RM 15 1,dI 16 .lss 15 (ki 0)] [1,2,16] (.cond 16 (boG [rq 4 (.move (.kv (.int .i64 (-1))))] [4] .ret) .skip)) (boG [RF 17 3 2,RL 18 17,RM 19 1,f6 20 bJF [18,19],RM 1 20] [1,2] (.seq (boG [RM 21 1,dI 22 .lss 21 (ki 0)] [1,2,22] (.cond 22 (boG [rq 4 (.move (.kv (.int .i64 (-1))))] [4] .ret) .skip)) (boG [RF 23 4 2,RL 24 23,RM 25 1,f6 26 by2 [24,25],RM 1 26] [1] (.seq (boG [RM 27 1,dI 28 .lss 27 (ki 0)] [1,28] (.cond 28 (boG [rq 4 (.move (.kv (.int .i64 (-1))))] [4] .ret) .skip)) (boG [RM 29 1,RM 4 29] [4] .ret))))))))))
def bJ1:List aW:=[.tm 4]
theorem bK6:aO bNV Tryz.f66 (bnD bIZ)=some (bIZ,bJ1):=by kernel_rfl
def a0Y:AC:= (boG [dO 4 (ki 0)] [0,1] (boG [RM 5 1,RM 6 0,f1 7 6,dI 8 .sub 5 7,RM 1 8] [1] (.seq (boG [RM 9 1,dI 10 .lss 9 (ki 0)] [1,10] (.cond 10 (boG [rq 4 (.move (.kv (.int .i64 (-1))))] [4] .ret) .skip)) (boG [RM 11 1,RM 4 11] [4] .ret))))
def a3H:List aW:=[.tm 4]
theorem a57:aO bNV Tryz.f70 (bnD a0Y)=some (a0Y,a3H):=by kernel_rfl
def a39:AC:= (boG [dO 4 (ki 0)] [0,1] (boG [RM 5 1,RM 6 0,f1 7 6,dI 8 .sub 5 7,RM 1 8] [1] (.seq (boG [RM 9 1,dI 10 .lss 9 (ki 0)] [1,10] (.cond 10 (boG [rq 4 (.move (.kv (.int .i64 (-1))))] [4] .ret) .skip)) (boG [RM 11 1,RM 4 11] [4] .ret))))
def a5N:List aW:=[.tm 4]
theorem bdH:aO bNV Tryz.f71 (bnD a39)=some (a39,a5N):=by kernel_rfl
def a1X:AC:= (boG [dO 4 (ki 0)] [0,1] (boG [RM 6 1,RM 7 0,f1 8 7,dI 9 .sub 6 8,RM 1 9] [0,1] (.seq (boG [RM 10 1,dI 11 .lss 10 (ki 0)] [0,1,11] (.cond 11 (boG [rq 4 (.move (.kv (.int .i64 (-1))))] [4] .ret) .skip)) (.seq (boG [dO 5 (ki 0)] [0,1,5] (.block 0 (.loop (.seq (boG [RM 12 5,RM 13 0,f1 14 13,dI 15 .lss 12 14] [0,1,5,15] (.cond 15 .skip (.exit 0))) (.seq (.block 1 (boG [RM 18 0,RM 19 5,e0 20 1 18 19,RL 21 20,RM 22 1,f6 23 a0U [21,22],RM 1 23] [0,1,5] (boG [RM 24 1,dI 25 .lss 24 (ki 0)] [0,1,5,25] (.cond 25 (boG [rq 4 (.move (.kv (.int .i64 (-1))))] [4] .ret) .skip)))) (m2 [RM 16 5,dI 17 .add 16 (ki 1),RM 5 17] [0,1,5])))))) (boG [RM 26 1,RM 4 26] [4] .ret)))))
def a31:List aW:=[.tm 4]
theorem a7R:aO bNV Tryz.f72 (bnD a1X)=some (a1X,a31):=by kernel_rfl
def a02:AC:= (boG [dO 2 (.kv (.slice none 0 0))] [0] (boG [RM 5 0,f1 6 5,rq 7 (.kY 4 [VZ,VZ,VZ,(.v (.bool false))] 6 6),RM 3 7] [0,3] (.seq (boG [dO 4 (ki 0)] [0,3,4] (.block 0 (.loop (.seq (boG [RM 8 4,RM 9 0,f1 10 9,dI 11 .lss 8 10] [0,3,4,11] (.cond 11 .skip (.exit 0))) (.seq (.block 1 (m2 [RM 14 3,RM 15 4,RM 16 0,RM 17 4,e0 18 4 16 17,f8 19 4 18,f6 20 a0B [19],e0 21 4 14 15,g0 4 true 21 20] [0,3,4])) (m2 [RM 12 4,dI 13 .add 12 (ki 1),RM 4 13] [0,3,4])))))) (boG [RM 22 3,RM 2 22] [2] .ret))))
def a3J:List aW:=[.tm 2]
theorem a50:aO bNV Tryz.f78 (bnD a02)=some (a02,a3J):=by kernel_rfl
def a3V:AC:= (boG [dO 2 (.kv (.slice none 0 0))] [0] (boG [RM 5 0,f1 6 5,rq 7 (.kY 1 [VZ] 6 6),RM 3 7] [0,3] (.seq (boG [dO 4 (ki 0)] [0,3,4] (.block 0 (.loop (.seq (boG [RM 8 4,RM 9 0,f1 10 9,dI 11 .lss 8 10] [0,3,4,11] (.cond 11 .skip (.exit 0))) (.seq (.block 1 (m2 [RM 14 3,RM 15 4,RM 16 0,RM 17 4,e0 18 1 16 17,RL 19 18,e0 20 1 14 15,g0 1 false 20 19] [0,3,4])) (m2 [RM 12 4,dI 13 .add 12 (ki 1),RM 4 13] [0,3,4])))))) (boG [RM 21 3,RM 2 21] [2] .ret))))
def a5S:List aW:=[.tm 2]
theorem bdX:aO bNV Tryz.f79 (bnD a3V)=some (a3V,a5S):=by kernel_rfl
def a1T:AC:= (boG [dO 2 (.kv (.slice none 0 0))] [0] (boG [RM 5 0,f1 6 5,rq 7 (.kY 1 [OZ] 6 6),RM 3 7] [0,3] (.seq (boG [dO 4 (ki 0)] [0,3,4] (.block 0 (.loop (.seq (boG [RM 8 4,RM 9 0,f1 10 9,dI 11 .lss 8 10] [0,3,4,11] (.cond 11 .skip (.exit 0))) (.seq (.block 1 (m2 [RM 14 3,RM 15 4,RM 16 0,RM 17 4,e0 18 1 16 17,RL 19 18,f6 20 a0S [19],e0 21 1 14 15,g0 1 false 21 20] [0,3,4])) (m2 [RM 12 4,dI 13 .add 12 (ki 1),RM 4 13] [0,3,4])))))) (boG [RM 22 3,RM 2 22] [2] .ret))))
def a3U:List aW:=[.tm 2]
theorem a6U:aO bNV Tryz.f80 (bnD a1T)=some (a1T,a3U):=by kernel_rfl
def a33:AC:= (boG [dO 4 boD] [0,1] (.seq (boG [RM 6 0,f1 7 6,RM 8 1,f1 9 8,dI 10 .neq 7 9] [0,1,10] (.cond 10 (boG [dO 4 boD] [4] .ret) .skip)) (.seq (boG [dO 5 (ki 0)] [0,1,5] (.block 0 (.loop (.seq (boG [RM 11 5,RM 12 0,f1 13 12,dI 14 .lss 11 13] [0,1,5,14] (.cond 14 .skip (.exit 0))) (.seq (.block 1 (boG [RM 17 0,RM 18 5,e0 19 1 17 18,RL 20 19,RM 21 1,RM 22 5,e0 23 1 21 22,RL 24 23,dI 25 .neq 20 24] [0,1,5,25] (.cond 25 (boG [dO 4 boD] [4] .ret) .skip))) (m2 [RM 15 5,dI 16 .add 15 (ki 1),RM 5 16] [0,1,5])))))) (boG [dO 4 boE] [4] .ret))))
def a5Q:List aW:=[.tm 4]
theorem bdL:aO bNV Tryz.f83 (bnD a33)=some (a33,a5Q):=by kernel_rfl
def a01:AC:= (boG [dO 4 boD] [0,1] (.seq (boG [RM 6 0,f1 7 6,RM 8 1,f1 9 8,dI 10 .neq 7 9] [0,1,10] (.cond 10 (boG [dO 4 boD] [4] .ret) .skip)) (.seq (boG [dO 5 (ki 0)] [0,1,5] (.block 0 (.loop (.seq (boG [RM 11 5,RM 12 0,f1 13 12,dI 14 .lss 11 13] [0,1,5,14] (.cond 14 .skip (.exit 0))) (.seq (.block 1 (boG [RM 17 0,RM 18 5,e0 19 4 17 18,f8 20 4 19,RM 21 1,RM 22 5,e0 23 4 21 22,f8 24 4 23,f6 25 a0A [20,24],f4 26 25] [0,1,5,26] (.cond 26 (boG [dO 4 boD] [4] .ret) .skip))) (m2 [RM 15 5,dI 16 .add 15 (ki 1),RM 5 16] [0,1,5])))))) (boG [dO 4 boE] [4] .ret))))
def a3K:List aW:=[.tm 4]
theorem a5Y:aO bNV Tryz.f84 (bnD a01)=some (a01,a3K):=by kernel_rfl
def a1L:AC:= (boG [dO 4 boD] [0,1] (.seq (boG [RM 6 0,f1 7 6,RM 8 1,f1 9 8,dI 10 .neq 7 9] [0,1,10] (.cond 10 (boG [dO 4 boD] [4] .ret) .skip)) (.seq (boG [dO 5 (ki 0)] [0,1,5] (.block 0 (.loop (.seq (boG [RM 11 5,RM 12 0,f1 13 12,dI 14 .lss 11 13] [0,1,5,14] (.cond 14 .skip (.exit 0))) (.seq (.block 1 (boG [RM 17 0,RM 18 5,e0 19 1 17 18,RL 20 19,RM 21 1,RM 22 5,e0 23 1 21 22,RL 24 23,f6 25 a0W [20,24],f4 26 25] [0,1,5,26] (.cond 26 (boG [dO 4 boD] [4] .ret) .skip))) (m2 [RM 15 5,dI 16 .add 15 (ki 1),RM 5 16] [0,1,5])))))) (boG [dO 4 boE] [4] .ret))))
def a3O:List aW:=[.tm 4]
theorem a6K:aO bNV Tryz.f85 (bnD a1L)=some (a1L,a3O):=by kernel_rfl
def by4:AC:= (boG [dO 4 (ki 0)] [0,1] (.seq (boG [dO 5 (ki 0)] [0,1,5] (.block 0 (.loop (.seq (boG [RM 6 5,RM 7 0,f1 8 7,dI 9 .lss 6 8] [0,1,5,9] (.cond 9 .skip (.exit 0))) (.seq (.block 1 (boG [RM 12 0,RM 13 5,RM 14 1,e0 15 4 12 13,RF 16 0 15,g0 1 false 16 14] [0,1,5] (boG [RM 17 1,dI 18 .add 17 (ki 1),RM 1 18] [0,1,5] (boG [RM 19 0,RM 20 5,RM 21 1,e0 22 4 19 20,RF 23 1 22,g0 1 false 23 21] [0,1,5] (boG [RM 24 1,dI 25 .add 24 (ki 1),RM 1 25] [0,1,5] (boG [RM 26 0,RM 27 5,RM 28 1,e0 29 4 26 27,RF 30 2 29,g0 1 false 30 28] [0,1,5] (boG [RM 31 1,dI 32 .add 31 (ki 1),RM 1 32] [0,1,5] (boG [RM 33 0,RM 34 5,RM 35 1,dI 36 .rem 35 (ki 3),dI 37 .eql 36 (ki 0),e0 38 4 33 34,RF 39 3 38,g0 1 false 39 37] [0,1,5] (m2 [RM 40 1,dI 41 .add 40 (ki 1),RM 1 41] [0,1,5]))))))))) (m2 [RM 10 5,dI 11 .add 10 (ki 1),RM 5 11] [0,1,5])))))) (boG [RM 42 1,RM 4 42] [4] .ret)))
def bAL:List aW:=[.tm 4]
theorem bBS:aO bNV Tryz.f86 (bnD by4)=some (by4,bAL):=by kernel_rfl
def bzV:AC:= (boG [dO 4 (ki 0)] [0,1] (.seq (boG [dO 5 (ki 0)] [0,1,5] (.block 0 (.loop (.seq (boG [RM 6 5,RM 7 0,f1 8 7,dI 9 .lss 6 8] [0,1,5,9] (.cond 9 .skip (.exit 0))) (.seq (.block 1 (boG [RM 12 0,RM 13 5,RM 14 1,e0 15 1 12 13,g0 1 false 15 14] [0,1,5] (m2 [RM 16 1,dI 17 .add 16 (ki 1),RM 1 17] [0,1,5]))) (m2 [RM 10 5,dI 11 .add 10 (ki 1),RM 5 11] [0,1,5])))))) (boG [RM 18 1,RM 4 18] [4] .ret)))
def bBG:List aW:=[.tm 4]
theorem bDV:aO bNV Tryz.f87 (bnD bzV)=some (bzV,bBG):=by kernel_rfl
def bzA:AC:= (boG [dO 4 (ki 0)] [0,1] (.seq (boG [dO 5 (ki 0)] [0,1,5] (.block 0 (.loop (.seq (boG [RM 6 5,RM 7 0,f1 8 7,dI 9 .lss 6 8] [0,1,5,9] (.cond 9 .skip (.exit 0))) (.seq (.block 1 (m2 [RM 12 0,RM 13 5,e0 14 1 12 13,RL 15 14,RM 16 1,f6 17 bz8 [15,16],RM 1 17] [0,1,5])) (m2 [RM 10 5,dI 11 .add 10 (ki 1),RM 5 11] [0,1,5])))))) (boG [RM 18 1,RM 4 18] [4] .ret)))
def bAX:List aW:=[.tm 4]
theorem bB7:aO bNV Tryz.f88 (bnD bzA)=some (bzA,bAX):=by kernel_rfl
def bJC:AC:= (boG [dO 4 (ki 0)] [0,1] (.seq (boG [dO 5 (ki 0)] [0,1,5] (.block 0 (.loop (.seq (boG [RM 6 5,RM 7 0,f1 8 7,dI 9 .lss 6 8] [0,1,5,9] (.cond 9 .skip (.exit 0))) (.seq (.block 1 (boG [RM 12 0,RM 13 5,RM 14 1,dI 15 .rem 14 (ki 3),dI 16 .eql 15 (ki 0),e0 17 1 12 13,g0 1 false 17 16] [0,1,5] (m2 [RM 18 1,dI 19 .add 18 (ki 1),RM 1 19] [0,1,5]))) (m2 [RM 10 5,dI 11 .add 10 (ki 1),RM 5 11] [0,1,5])))))) (boG [RM 20 1,RM 4 20] [4] .ret)))
def bKI:List aW:=[.tm 4]
theorem bLZ:aO bNV Tryz.f89 (bnD bJC)=some (bJC,bKI):=by kernel_rfl
def bzZ:AC:= (boG [dO 4 (ki 0)] [0,1] (.seq (boG [dO 5 (ki 0)] [0,1,5] (.block 0 (.loop (.seq (boG [RM 6 5,RM 7 0,f1 8 7,dI 9 .lss 6 8] [0,1,5,9] (.cond 9 .skip (.exit 0))) (.seq (.block 1 (.seq (boG [RM 12 0,RM 13 5,e0 14 1 12 13,RL 15 14,RM 16 1,dI 17 .neq 15 16] [0,1,5,17] (.cond 17 (boG [rq 4 (.move (.kv (.int .i64 (-1))))] [4] .ret) .skip)) (m2 [RM 18 1,dI 19 .add 18 (ki 1),RM 1 19] [0,1,5]))) (m2 [RM 10 5,dI 11 .add 10 (ki 1),RM 5 11] [0,1,5])))))) (boG [RM 20 1,RM 4 20] [4] .ret)))
def bBJ:List aW:=[.tm 4]
theorem bDX:aO bNV Tryz.f90 (bnD bzZ)=some (bzZ,bBJ):=by kernel_rfl
def a1Q:AC:= (boG [f5 2 0,dO 4 (ki 0)] [1,2] (boG [RF 5 0 2,f8 6 1 5,RM 7 1,f6 8 a09 [6,7],RM 1 8] [1,2] (.seq (boG [RM 9 1,dI 10 .lss 9 (ki 0)] [1,2,10] (.cond 10 (boG [rq 4 (.move (.kv (.int .i64 (-1))))] [4] .ret) .skip)) (boG [RF 11 1 2,RL 12 11,RM 13 1,f6 14 g7 [12,13],RM 1 14] [1] (.seq (boG [RM 15 1,dI 16 .lss 15 (ki 0)] [1,16] (.cond 16 (boG [rq 4 (.move (.kv (.int .i64 (-1))))] [4] .ret) .skip)) (boG [RM 17 1,RM 4 17] [4] .ret))))))
def a3Q:List aW:=[.tm 4]
theorem a7C:aO bNV Tryz.f137 (bnD a1Q)=some (a1Q,a3Q):=by kernel_rfl
def a1Y:AC:= (boG [dO 4 (ki 0)] [0,1] (boG [RM 6 1,RM 7 0,f1 8 7,dI 9 .sub 6 8,RM 1 9] [0,1] (.seq (boG [RM 10 1,dI 11 .lss 10 (ki 0)] [0,1,11] (.cond 11 (boG [rq 4 (.move (.kv (.int .i64 (-1))))] [4] .ret) .skip)) (.seq (boG [dO 5 (ki 0)] [0,1,5] (.block 0 (.loop (.seq (boG [RM 12 5,RM 13 0,f1 14 13,dI 15 .lss 12 14] [0,1,5,15] (.cond 15 .skip (.exit 0))) (.seq (.block 1 (boG [RM 18 0,RM 19 5,e0 20 4 18 19,f8 21 4 20,RM 22 1,f6 23 a0T [21,22],RM 1 23] [0,1,5] (boG [RM 24 1,dI 25 .lss 24 (ki 0)] [0,1,5,25] (.cond 25 (boG [rq 4 (.move (.kv (.int .i64 (-1))))] [4] .ret) .skip)))) (m2 [RM 16 5,dI 17 .add 16 (ki 1),RM 5 17] [0,1,5])))))) (boG [RM 26 1,RM 4 26] [4] .ret)))))
def a3Y:List aW:=[.tm 4]
theorem a7M:aO bNV Tryz.f138 (bnD a1Y)=some (a1Y,a3Y):=by kernel_rfl
def a00:AC:= (boG [dO 4 (ki 0)] [0,1] (boG [RM 6 1,RM 7 0,f1 8 7,dI 9 .sub 6 8,RM 1 9] [0,1] (.seq (boG [RM 10 1,dI 11 .lss 10 (ki 0)] [0,1,11] (.cond 11 (boG [rq 4 (.move (.kv (.int .i64 (-1))))] [4] .ret) .skip)) (.seq (boG [dO 5 (ki 0)] [0,1,5] (.block 0 (.loop (.seq (boG [RM 12 5,RM 13 0,f1 14 13,dI 15 .lss 12 14] [0,1,5,15] (.cond 15 .skip (.exit 0))) (.seq (.block 1 (boG [RM 18 0,RM 19 5,e0 20 3 18 19,f8 21 3 20,RM 22 1,f6 23 a0P [21,22],RM 1 23] [0,1,5] (boG [RM 24 1,dI 25 .lss 24 (ki 0)] [0,1,5,25] (.cond 25 (boG [rq 4 (.move (.kv (.int .i64 (-1))))] [4] .ret) .skip)))) (m2 [RM 16 5,dI 17 .add 16 (ki 1),RM 5 17] [0,1,5])))))) (boG [RM 26 1,RM 4 26] [4] .ret)))))
def a3M:List aW:=[.tm 4]
theorem a5U:aO bNV Tryz.f139 (bnD a00)=some (a00,a3M):=by kernel_rfl
def a2K:AC:= (boG [dO 4 (ki 0)] [0,1] (boG [RM 6 1,RM 7 0,f1 8 7,dI 9 .sub 6 8,RM 1 9] [0,1] (.seq (boG [RM 10 1,dI 11 .lss 10 (ki 0)] [0,1,11] (.cond 11 (boG [rq 4 (.move (.kv (.int .i64 (-1))))] [4] .ret) .skip)) (.seq (boG [dO 5 (ki 0)] [0,1,5] (.block 0 (.loop (.seq (boG [RM 12 5,RM 13 0,f1 14 13,dI 15 .lss 12 14] [0,1,5,15] (.cond 15 .skip (.exit 0))) (.seq (.block 1 (boG [RM 18 0,RM 19 5,e0 20 5 18 19,f8 21 5 20,RM 22 1,f6 23 a1A [21,22],RM 1 23] [0,1,5] (boG [RM 24 1,dI 25 .lss 24 (ki 0)] [0,1,5,25] (.cond 25 (boG [rq 4 (.move (.kv (.int .i64 (-1))))] [4] .ret) .skip)))) (m2 [RM 16 5,dI 17 .add 16 (ki 1),RM 5 17] [0,1,5])))))) (boG [RM 26 1,RM 4 26] [4] .ret)))))
def a4L:List aW:=[.tm 4]
theorem a8W:aO bNV Tryz.f140 (bnD a2K)=some (a2K,a4L):=by kernel_rfl
def bJM:AC:= (boG [dO 4 (ki 0)] [0,1] (boG [RM 5 1,RM 6 0,f1 7 6,dI 8 .sub 5 7,RM 1 8] [1] (.seq (boG [RM 9 1,dI 10 .lss 9 (ki 0)] [1,10] (.cond 10 (boG [rq 4 (.move (.kv (.int .i64 (-1))))] [4] .ret) .skip)) (boG [RM 11 1,RM 4 11] [4] .ret))))
def bKS:List aW:=[.tm 4]
theorem bL6:aO bNV Tryz.f141 (bnD bJM)=some (bJM,bKS):=by kernel_rfl
def a13:AC:= (boG [f5 1 0,f7 2 [OZ,OZ]] [1,2] (boG [f7 3 [OZ,OZ]] [1,2,3] (boG [RF 4 0 1,f8 5 1 4,f6 6 a1G [5],RF 7 0 3,g0 1 true 7 6] [1,2,3] (boG [RF 8 1 1,RL 9 8,f6 10 p8 [9],RF 11 1 3,g0 1 false 11 10] [2,3] (boG [f8 12 2 3,g0 2 true 2 12] [2] .ret)))))
def a3T:List aW:=[.cell 2 2 true]
theorem a6S:aO bNV Tryz.f142 (bnD a13)=some (a13,a3T):=by kernel_rfl
def a1U:AC:= (boG [dO 2 (.kv (.slice none 0 0))] [0] (boG [RM 5 0,f1 6 5,rq 7 (.kY 4 [VZ,OZ,OZ,VZ] 6 6),RM 3 7] [0,3] (.seq (boG [dO 4 (ki 0)] [0,3,4] (.block 0 (.loop (.seq (boG [RM 8 4,RM 9 0,f1 10 9,dI 11 .lss 8 10] [0,3,4,11] (.cond 11 .skip (.exit 0))) (.seq (.block 1 (m2 [RM 14 3,RM 15 4,RM 16 0,RM 17 4,e0 18 4 16 17,f8 19 4 18,f6 20 a0X [19],e0 21 4 14 15,g0 4 true 21 20] [0,3,4])) (m2 [RM 12 4,dI 13 .add 12 (ki 1),RM 4 13] [0,3,4])))))) (boG [RM 22 3,RM 2 22] [2] .ret))))
def a37:List aW:=[.tm 2]
theorem a69:aO bNV Tryz.f143 (bnD a1U)=some (a1U,a37):=by kernel_rfl
def a0Z:AC:= (boG [dO 2 (.kv (.slice none 0 0))] [0] (boG [RM 5 0,f1 6 5,rq 7 (.kY 3 [OZ,OZ,VZ] 6 6),RM 3 7] [0,3] (.seq (boG [dO 4 (ki 0)] [0,3,4] (.block 0 (.loop (.seq (boG [RM 8 4,RM 9 0,f1 10 9,dI 11 .lss 8 10] [0,3,4,11] (.cond 11 .skip (.exit 0))) (.seq (.block 1 (m2 [RM 14 3,RM 15 4,RM 16 0,RM 17 4,e0 18 3 16 17,f8 19 3 18,f6 20 a0F [19],e0 21 3 14 15,g0 3 true 21 20] [0,3,4])) (m2 [RM 12 4,dI 13 .add 12 (ki 1),RM 4 13] [0,3,4])))))) (boG [RM 22 3,RM 2 22] [2] .ret))))
def a3L:List aW:=[.tm 2]
theorem a52:aO bNV Tryz.f144 (bnD a0Z)=some (a0Z,a3L):=by kernel_rfl
def a2J:AC:= (boG [dO 2 (.kv (.slice none 0 0))] [0] (boG [RM 5 0,f1 6 5,rq 7 (.kY 5 [VZ,VZ,VZ,VZ,OZ] 6 6),RM 3 7] [0,3] (.seq (boG [dO 4 (ki 0)] [0,3,4] (.block 0 (.loop (.seq (boG [RM 8 4,RM 9 0,f1 10 9,dI 11 .lss 8 10] [0,3,4,11] (.cond 11 .skip (.exit 0))) (.seq (.block 1 (m2 [RM 14 3,RM 15 4,RM 16 0,RM 17 4,e0 18 5 16 17,f8 19 5 18,f6 20 a1H [19],e0 21 5 14 15,g0 5 true 21 20] [0,3,4])) (m2 [RM 12 4,dI 13 .add 12 (ki 1),RM 4 13] [0,3,4])))))) (boG [RM 22 3,RM 2 22] [2] .ret))))
def a4K:List aW:=[.tm 2]
theorem a8J:aO bNV Tryz.f145 (bnD a2J)=some (a2J,a4K):=by kernel_rfl
def bJL:AC:= (boG [dO 2 (.kv (.slice none 0 0))] [0] (boG [RM 5 0,f1 6 5,rq 7 (.kY 1 [(.v (.bool false))] 6 6),RM 3 7] [0,3] (.seq (boG [dO 4 (ki 0)] [0,3,4] (.block 0 (.loop (.seq (boG [RM 8 4,RM 9 0,f1 10 9,dI 11 .lss 8 10] [0,3,4,11] (.cond 11 .skip (.exit 0))) (.seq (.block 1 (m2 [RM 14 3,RM 15 4,RM 16 0,RM 17 4,e0 18 1 16 17,RL 19 18,e0 20 1 14 15,g0 1 false 20 19] [0,3,4])) (m2 [RM 12 4,dI 13 .add 12 (ki 1),RM 4 13] [0,3,4])))))) (boG [RM 21 3,RM 2 21] [2] .ret))))
def bKR:List aW:=[.tm 2]
theorem bMC:aO bNV Tryz.f146 (bnD bJL)=some (bJL,bKR):=by kernel_rfl
def a1O:AC:= (boG [f5 2 0,f5 3 1,dO 4 boD] [2,3] (.seq (boG [RF 5 0 2,f8 6 1 5,RF 7 0 3,f8 8 1 7,f6 9 a07 [6,8],f4 10 9] [2,3,10] (.cond 10 (boG [dO 4 boD] [4] .ret) .skip)) (.seq (boG [RF 11 1 2,RL 12 11,RF 13 1 3,RL 14 13,f6 15 o6 [12,14],f4 16 15] [16] (.cond 16 (boG [dO 4 boD] [4] .ret) .skip)) (boG [dO 4 boE] [4] .ret))))
def a38:List aW:=[.tm 4]
theorem a71:aO bNV Tryz.f148 (bnD a1O)=some (a1O,a38):=by kernel_rfl
def a10:AC:= (boG [dO 4 boD] [0,1] (.seq (boG [RM 6 0,f1 7 6,RM 8 1,f1 9 8,dI 10 .neq 7 9] [0,1,10] (.cond 10 (boG [dO 4 boD] [4] .ret) .skip)) (.seq (boG [dO 5 (ki 0)] [0,1,5] (.block 0 (.loop (.seq (boG [RM 11 5,RM 12 0,f1 13 12,dI 14 .lss 11 13] [0,1,5,14] (.cond 14 .skip (.exit 0))) (.seq (.block 1 (boG [RM 17 0,RM 18 5,e0 19 4 17 18,f8 20 4 19,RM 21 1,RM 22 5,e0 23 4 21 22,f8 24 4 23,f6 25 a0V [20,24],f4 26 25] [0,1,5,26] (.cond 26 (boG [dO 4 boD] [4] .ret) .skip))) (m2 [RM 15 5,dI 16 .add 15 (ki 1),RM 5 16] [0,1,5])))))) (boG [dO 4 boE] [4] .ret))))
def a35:List aW:=[.tm 4]
theorem a62:aO bNV Tryz.f149 (bnD a10)=some (a10,a35):=by kernel_rfl
def a03:AC:= (boG [dO 4 boD] [0,1] (.seq (boG [RM 6 0,f1 7 6,RM 8 1,f1 9 8,dI 10 .neq 7 9] [0,1,10] (.cond 10 (boG [dO 4 boD] [4] .ret) .skip)) (.seq (boG [dO 5 (ki 0)] [0,1,5] (.block 0 (.loop (.seq (boG [RM 11 5,RM 12 0,f1 13 12,dI 14 .lss 11 13] [0,1,5,14] (.cond 14 .skip (.exit 0))) (.seq (.block 1 (boG [RM 17 0,RM 18 5,e0 19 3 17 18,f8 20 3 19,RM 21 1,RM 22 5,e0 23 3 21 22,f8 24 3 23,f6 25 a0I [20,24],f4 26 25] [0,1,5,26] (.cond 26 (boG [dO 4 boD] [4] .ret) .skip))) (m2 [RM 15 5,dI 16 .add 15 (ki 1),RM 5 16] [0,1,5])))))) (boG [dO 4 boE] [4] .ret))))
def a3G:List aW:=[.tm 4]
theorem a51:aO bNV Tryz.f150 (bnD a03)=some (a03,a3G):=by kernel_rfl
def a2B:AC:= (boG [dO 4 boD] [0,1] (.seq (boG [RM 6 0,f1 7 6,RM 8 1,f1 9 8,dI 10 .neq 7 9] [0,1,10] (.cond 10 (boG [dO 4 boD] [4] .ret) .skip)) (.seq (boG [dO 5 (ki 0)] [0,1,5] (.block 0 (.loop (.seq (boG [RM 11 5,RM 12 0,f1 13 12,dI 14 .lss 11 13] [0,1,5,14] (.cond 14 .skip (.exit 0))) (.seq (.block 1 (boG [RM 17 0,RM 18 5,e0 19 5 17 18,f8 20 5 19,RM 21 1,RM 22 5,e0 23 5 21 22,f8 24 5 23,f6 25 a1I [20,24],f4 26 25] [0,1,5,26] (.cond 26 (boG [dO 4 boD] [4] .ret) .skip))) (m2 [RM 15 5,dI 16 .add 15 (ki 1),RM 5 16] [0,1,5])))))) (boG [dO 4 boE] [4] .ret))))
def a4D:List aW:=[.tm 4]
theorem a78:aO bNV Tryz.f151 (bnD a2B)=some (a2B,a4D):=by kernel_rfl
def bJN:AC:= (boG [dO 4 boD] [0,1] (.seq (boG [RM 6 0,f1 7 6,RM 8 1,f1 9 8,dI 10 .neq 7 9] [0,1,10] (.cond 10 (boG [dO 4 boD] [4] .ret) .skip)) (.seq (boG [dO 5 (ki 0)] [0,1,5] (.block 0 (.loop (.seq (boG [RM 11 5,RM 12 0,f1 13 12,dI 14 .lss 11 13] [0,1,5,14] (.cond 14 .skip (.exit 0))) (.seq (.block 1 (boG [RM 17 0,RM 18 5,e0 19 1 17 18,RL 20 19,RM 21 1,RM 22 5,e0 23 1 21 22,RL 24 23,rq 25 (.beq true 20 24)] [0,1,5,25] (.cond 25 (boG [dO 4 boD] [4] .ret) .skip))) (m2 [RM 15 5,dI 16 .add 15 (ki 1),RM 5 16] [0,1,5])))))) (boG [dO 4 boE] [4] .ret))))
def bKT:List aW:=[.tm 4]
theorem bMA:aO bNV Tryz.f152 (bnD bJN)=some (bJN,bKT):=by kernel_rfl
def bzC:AC:= (boG [f5 2 0,dO 4 (ki 0)] [1,2] (boG [RF 5 0 2,f8 6 1 5,RM 7 1,f6 8 bAB [6,7],RM 1 8] [1,2] (boG [RF 9 1 2,RL 10 9,RM 11 1,f6 12 byU [10,11],RM 1 12] [1] (boG [RM 13 1,RM 4 13] [4] .ret))))
def bAP:List aW:=[.tm 4]
theorem bBT:aO bNV Tryz.f153 (bnD bzC)=some (bzC,bAP):=by kernel_rfl
def bIX:AC:= (boG [dO 4 (ki 0)] [0,1] (.seq (boG [dO 5 (ki 0)] [0,1,5] (.block 0 (.loop (.seq (boG [RM 6 5,RM 7 0,f1 8 7,dI 9 .lss 6 8] [0,1,5,9] (.cond 9 .skip (.exit 0))) (.seq (.block 1 (boG [RM 12 0,RM 13 5,RM 14 1,e0 15 4 12 13,RF 16 0 15,g0 1 false 16 14] [0,1,5] (boG [RM 17 1,dI 18 .add 17 (ki 1),RM 1 18] [0,1,5] (boG [RM 19 0,RM 20 5,e0 21 4 19 20,RF 22 1 21,RL 23 22,RM 24 1,f6 25 byU [23,24],RM 1 25] [0,1,5] (boG [RM 26 0,RM 27 5,e0 28 4 26 27,RF 29 2 28,RL 30 29,RM 31 1,f6 32 bI7 [30,31],RM 1 32] [0,1,5] (boG [RM 33 0,RM 34 5,RM 35 1,e0 36 4 33 34,RF 37 3 36,g0 1 false 37 35] [0,1,5] (m2 [RM 38 1,dI 39 .add 38 (ki 1),RM 1 39] [0,1,5]))))))) (m2 [RM 10 5,dI 11 .add 10 (ki 1),RM 5 11] [0,1,5])))))) (boG [RM 40 1,RM 4 40] [4] .ret)))
def bJ3:List aW:=[.tm 4]
theorem bLE:aO bNV Tryz.f154 (bnD bIX)=some (bIX,bJ3):=by kernel_rfl
def bIT:AC:= (boG [dO 4 (ki 0)] [0,1] (.seq (boG [dO 5 (ki 0)] [0,1,5] (.block 0 (.loop (.seq (boG [RM 6 5,RM 7 0,f1 8 7,dI 9 .lss 6 8] [0,1,5,9] (.cond 9 .skip (.exit 0))) (.seq (.block 1 (boG [RM 12 0,RM 13 5,e0 14 3 12 13,RF 15 0 14,RL 16 15,RM 17 1,f6 18 bI7 [16,17],RM 1 18] [0,1,5] (boG [RM 19 0,RM 20 5,e0 21 3 19 20,RF 22 1 21,RL 23 22,RM 24 1,f6 25 by3 [23,24],RM 1 25] [0,1,5] (boG [RM 26 0,RM 27 5,RM 28 1,e0 29 3 26 27,RF 30 2 29,g0 1 false 30 28] [0,1,5] (m2 [RM 31 1,dI 32 .add 31 (ki 1),RM 1 32] [0,1,5]))))) (m2 [RM 10 5,dI 11 .add 10 (ki 1),RM 5 11] [0,1,5])))))) (boG [RM 33 1,RM 4 33] [4] .ret)))
def bJV:List aW:=[.tm 4]
theorem bKY:aO bNV Tryz.f155 (bnD bIT)=some (bIT,bJV):=by kernel_rfl
def bzF:AC:= (boG [dO 4 (ki 0)] [0,1] (.seq (boG [dO 5 (ki 0)] [0,1,5] (.block 0 (.loop (.seq (boG [RM 6 5,RM 7 0,f1 8 7,dI 9 .lss 6 8] [0,1,5,9] (.cond 9 .skip (.exit 0))) (.seq (.block 1 (boG [RM 12 0,RM 13 5,RM 14 1,e0 15 5 12 13,RF 16 0 15,g0 1 false 16 14] [0,1,5] (boG [RM 17 1,dI 18 .add 17 (ki 1),RM 1 18] [0,1,5] (boG [RM 19 0,RM 20 5,RM 21 1,e0 22 5 19 20,RF 23 1 22,g0 1 false 23 21] [0,1,5] (boG [RM 24 1,dI 25 .add 24 (ki 1),RM 1 25] [0,1,5] (boG [RM 26 0,RM 27 5,RM 28 1,e0 29 5 26 27,RF 30 2 29,RF 31 0 30,g0 1 false 31 28] [0,1,5] (boG [RM 32 1,dI 33 .add 32 (ki 1),RM 1 33] [0,1,5] (boG [RM 34 0,RM 35 5,RM 36 1,e0 37 5 34 35,RF 38 2 37,RF 39 1 38,g0 1 false 39 36] [0,1,5] (boG [RM 40 1,dI 41 .add 40 (ki 1),RM 1 41] [0,1,5] (m2 [RM 42 0,RM 43 5,e0 44 5 42 43,RF 45 2 44,RF 46 2 45,RL 47 46,RM 48 1,f6 49 byU [47,48],RM 1 49] [0,1,5])))))))))) (m2 [RM 10 5,dI 11 .add 10 (ki 1),RM 5 11] [0,1,5])))))) (boG [RM 50 1,RM 4 50] [4] .ret)))
def bA0:List aW:=[.tm 4]
theorem bCB:aO bNV Tryz.f156 (bnD bzF)=some (bzF,bA0):=by kernel_rfl
def by9:AC:= (boG [f5 2 0,dO 4 (ki 0)] [1,2] (boG [RF 5 0 2,f8 6 1 5,RM 7 1,f6 8 bAF [6,7],RM 1 8] [1,2] (.seq (boG [RM 9 1,dI 10 .lss 9 (ki 0)] [1,2,10] (.cond 10 (boG [rq 4 (.move (.kv (.int .i64 (-1))))] [4] .ret) .skip)) (boG [RF 11 1 2,RL 12 11,RM 13 1,f6 14 by5 [12,13],RM 1 14] [1] (.seq (boG [RM 15 1,dI 16 .lss 15 (ki 0)] [1,16] (.cond 16 (boG [rq 4 (.move (.kv (.int .i64 (-1))))] [4] .ret) .skip)) (boG [RM 17 1,RM 4 17] [4] .ret))))))
def bAV:List aW:=[.tm 4]
theorem bB0:aO bNV Tryz.f159 (bnD by9)=some (by9,bAV):=by kernel_rfl
def bIW:AC:= (boG [dO 4 (ki 0)] [0,1] (.seq (boG [dO 5 (ki 0)] [0,1,5] (.block 0 (.loop (.seq (boG [RM 6 5,RM 7 0,f1 8 7,dI 9 .lss 6 8] [0,1,5,9] (.cond 9 .skip (.exit 0))) (.seq (.block 1 (.seq (boG [RM 12 0,RM 13 5,e0 14 4 12 13,RF 15 0 14,RL 16 15,RM 17 1,dI 18 .neq 16 17] [0,1,5,18] (.cond 18 (boG [rq 4 (.move (.kv (.int .i64 (-1))))] [4] .ret) .skip)) (boG [RM 19 1,dI 20 .add 19 (ki 1),RM 1 20] [0,1,5] (boG [RM 21 0,RM 22 5,e0 23 4 21 22,RF 24 1 23,RL 25 24,RM 26 1,f6 27 by5 [25,26],RM 1 27] [0,1,5] (.seq (boG [RM 28 1,dI 29 .lss 28 (ki 0)] [0,1,5,29] (.cond 29 (boG [rq 4 (.move (.kv (.int .i64 (-1))))] [4] .ret) .skip)) (boG [RM 30 0,RM 31 5,e0 32 4 30 31,RF 33 2 32,RL 34 33,RM 35 1,f6 36 bI8 [34,35],RM 1 36] [0,1,5] (.seq (boG [RM 37 1,dI 38 .lss 37 (ki 0)] [0,1,5,38] (.cond 38 (boG [rq 4 (.move (.kv (.int .i64 (-1))))] [4] .ret) .skip)) (.seq (boG [RM 39 0,RM 40 5,e0 41 4 39 40,RF 42 3 41,RL 43 42,RM 44 1,dI 45 .neq 43 44] [0,1,5,45] (.cond 45 (boG [rq 4 (.move (.kv (.int .i64 (-1))))] [4] .ret) .skip)) (m2 [RM 46 1,dI 47 .add 46 (ki 1),RM 1 47] [0,1,5]))))))))) (m2 [RM 10 5,dI 11 .add 10 (ki 1),RM 5 11] [0,1,5])))))) (boG [RM 48 1,RM 4 48] [4] .ret)))
def bJ0:List aW:=[.tm 4]
theorem bK0:aO bNV Tryz.f160 (bnD bIW)=some (bIW,bJ0):=by kernel_rfl
def bIU:AC:= (boG [dO 4 (ki 0)] [0,1] (.seq (boG [dO 5 (ki 0)] [0,1,5] (.block 0 (.loop (.seq (boG [RM 6 5,RM 7 0,f1 8 7,dI 9 .lss 6 8] [0,1,5,9] (.cond 9 .skip (.exit 0))) (.seq (.block 1 (boG [RM 12 0,RM 13 5,e0 14 3 12 13,RF 15 0 14,RL 16 15,RM 17 1,f6 18 bI8 [16,17],RM 1 18] [0,1,5] (.seq (boG [RM 19 1,dI 20 .lss 19 (ki 0)] [0,1,5,20] (.cond 20 (boG [rq 4 (.move (.kv (.int .i64 (-1))))] [4] .ret) .skip)) (boG [RM 21 0,RM 22 5,e0 23 3 21 22,RF 24 1 23,RL 25 24,RM 26 1,f6 27 by2 [25,26],RM 1 27] [0,1,5] (.seq (boG [RM 28 1,dI 29 .lss 28 (ki 0)] [0,1,5,29] (.cond 29 (boG [rq 4 (.move (.kv (.int .i64 (-1))))] [4] .ret) .skip)) (.seq (boG [RM 30 0,RM 31 5,e0 32 3 30 31,RF 33 2 32,RL 34 33,RM 35 1,dI 36 .neq 34 35] [0,1,5,36] (.cond 36 (boG [rq 4 (.move (.kv (.int .i64 (-1))))] [4] .ret) .skip)) (m2 [RM 37 1,dI 38 .add 37 (ki 1),RM 1 38] [0,1,5]))))))) (m2 [RM 10 5,dI 11 .add 10 (ki 1),RM 5 11] [0,1,5])))))) (boG [RM 39 1,RM 4 39] [4] .ret)))
def bJW:List aW:=[.tm 4]
theorem bKZ:aO bNV Tryz.f161 (bnD bIU)=some (bIU,bJW):=by kernel_rfl
def bzE:AC:= (boG [dO 4 (ki 0)] [0,1] (.seq (boG [dO 5 (ki 0)] [0,1,5] (.block 0 (.loop (.seq (boG [RM 6 5,RM 7 0,f1 8 7,dI 9 .lss 6 8] [0,1,5,9] (.cond 9 .skip (.exit 0))) (.seq (.block 1 (.seq (boG [RM 12 0,RM 13 5,e0 14 5 12 13,RF 15 0 14,RL 16 15,RM 17 1,dI 18 .neq 16 17] [0,1,5,18] (.cond 18 (boG [rq 4 (.move (.kv (.int .i64 (-1))))] [4] .ret) .skip)) (boG [RM 19 1,dI 20 .add 19 (ki 1),RM 1 20] [0,1,5] (.seq (boG [RM 21 0,RM 22 5,e0 23 5 21 22,RF 24 1 23,RL 25 24,RM 26 1,dI 27 .neq 25 26] [0,1,5,27] (.cond 27 (boG [rq 4 (.move (.kv (.int .i64 (-1))))] [4] .ret) .skip)) (boG [RM 28 1,dI 29 .add 28 (ki 1),RM 1 29] [0,1,5] (.seq (boG [RM 30 0,RM 31 5,e0 32 5 30 31,RF 33 2 32,RF 34 0 33,RL 35 34,RM 36 1,dI 37 .neq 35 36] [0,1,5,37] (.cond 37 (boG [rq 4 (.move (.kv (.int .i64 (-1))))] [4] .ret) .skip)) (boG [RM 38 1,dI 39 .add 38 (ki 1),RM 1 39] [0,1,5] (.seq (boG [RM 40 0,RM 41 5,e0 42 5 40 41,RF 43 2 42,RF 44 1 43,RL 45 44,RM 46 1,dI 47 .neq 45 46] [0,1,5,47] (.cond 47 (boG [rq 4 (.move (.kv (.int .i64 (-1))))] [4] .ret) .skip)) (boG [RM 48 1,dI 49 .add 48 (ki 1),RM 1 49] [0,1,5] (boG [RM 50 0,RM 51 5,e0 52 5 50 51,RF 53 2 52,RF 54 2 53,RL 55 54,RM 56 1,f6 57 by5 [55,56],RM 1 57] [0,1,5] (boG [RM 58 1,dI 59 .lss 58 (ki 0)] [0,1,5,59] (.cond 59 (boG [rq 4 (.move (.kv (.int .i64 (-1))))] [4] .ret) .skip)))))))))))) (m2 [RM 10 5,dI 11 .add 10 (ki 1),RM 5 11] [0,1,5])))))) (boG [RM 60 1,RM 4 60] [4] .ret)))
def bA2:List aW:=[.tm 4]
theorem bCG:aO bNV Tryz.f162 (bnD bzE)=some (bzE,bA2):=by kernel_rfl
def a2D:AC:= (boG [dO 4 (ki 0)] [0,1] (boG [RM 6 1,RM 7 0,f1 8 7,dI 9 .sub 6 8,RM 1 9] [0,1] (.seq (boG [RM 10 1,dI 11 .lss 10 (ki 0)] [0,1,11] (.cond 11 (boG [rq 4 (.move (.kv (.int .i64 (-1))))] [4] .ret) .skip)) (.seq (boG [dO 5 (ki 0)] [0,1,5] (.block 0 (.loop (.seq (boG [RM 12 5,RM 13 0,f1 14 13,dI 15 .lss 12 14] [0,1,5,15] (.cond 15 .skip (.exit 0))) (.seq (.block 1 (boG [RM 18 0,RM 19 5,e0 20 7 18 19,f8 21 7 20,RM 22 1,f6 23 a06 [21,22],RM 1 23] [0,1,5] (boG [RM 24 1,dI 25 .lss 24 (ki 0)] [0,1,5,25] (.cond 25 (boG [rq 4 (.move (.kv (.int .i64 (-1))))] [4] .ret) .skip)))) (m2 [RM 16 5,dI 17 .add 16 (ki 1),RM 5 17] [0,1,5])))))) (boG [RM 26 1,RM 4 26] [4] .ret)))))
def a4F:List aW:=[.tm 4]
theorem a9H:aO bNV Tryz.f163 (bnD a2D)=some (a2D,a4F):=by kernel_rfl
def a12:AC:= (boG [f5 1 0,f7 2 [VZ,VZ,VZ,(.v (.bool false))]] [1,2] (boG [f7 3 [VZ,VZ,VZ,(.v (.bool false))]] [1,2,3] (boG [RF 4 0 1,RL 5 4,RF 6 0 3,g0 1 false 6 5] [1,2,3] (boG [RF 7 1 1,RL 8 7,RF 9 1 3,g0 1 false 9 8] [1,2,3] (boG [RF 10 2 1,RL 11 10,RF 12 2 3,g0 1 false 12 11] [1,2,3] (boG [RF 13 3 1,RL 14 13,RF 15 3 3,g0 1 false 15 14] [2,3] (boG [f8 16 4 3,g0 4 true 2 16] [2] .ret)))))))
def a3R:List aW:=[.cell 2 4 true]
theorem a68:aO bNV Tryz.f169 (bnD a12)=some (a12,a3R):=by kernel_rfl
def a17:AC:= (boG [dO 2 (.kv (.slice none 0 0))] [0] (boG [RM 5 0,f1 6 5,rq 7 (.kY 7 [VZ,VZ,VZ,VZ,(.v (.bool false)),OZ,OZ] 6 6),RM 3 7] [0,3] (.seq (boG [dO 4 (ki 0)] [0,3,4] (.block 0 (.loop (.seq (boG [RM 8 4,RM 9 0,f1 10 9,dI 11 .lss 8 10] [0,3,4,11] (.cond 11 .skip (.exit 0))) (.seq (.block 1 (m2 [RM 14 3,RM 15 4,RM 16 0,RM 17 4,e0 18 7 16 17,f8 19 7 18,f6 20 a1D [19],e0 21 7 14 15,g0 7 true 21 20] [0,3,4])) (m2 [RM 12 4,dI 13 .add 12 (ki 1),RM 4 13] [0,3,4])))))) (boG [RM 22 3,RM 2 22] [2] .ret))))
def a4M:List aW:=[.tm 2]
theorem a9S:aO bNV Tryz.f170 (bnD a17)=some (a17,a4M):=by kernel_rfl
def a1S:AC:= (boG [f5 2 0,f5 3 1,dO 4 boD] [2,3] (.seq (boG [RF 5 0 2,RL 6 5,RF 7 0 3,RL 8 7,dI 9 .neq 6 8] [2,3,9] (.cond 9 (boG [dO 4 boD] [4] .ret) .skip)) (.seq (boG [RF 10 1 2,RL 11 10,RF 12 1 3,RL 13 12,dI 14 .neq 11 13] [2,3,14] (.cond 14 (boG [dO 4 boD] [4] .ret) .skip)) (.seq (boG [RF 15 2 2,RL 16 15,RF 17 2 3,RL 18 17,dI 19 .neq 16 18] [2,3,19] (.cond 19 (boG [dO 4 boD] [4] .ret) .skip)) (.seq (boG [RF 20 3 2,RL 21 20,RF 22 3 3,RL 23 22,rq 24 (.beq true 21 23)] [24] (.cond 24 (boG [dO 4 boD] [4] .ret) .skip)) (boG [dO 4 boE] [4] .ret))))))
def a3P:List aW:=[.tm 4]
theorem a7E:aO bNV Tryz.f174 (bnD a1S)=some (a1S,a3P):=by kernel_rfl
def a2L:AC:= (boG [dO 4 boD] [0,1] (.seq (boG [RM 6 0,f1 7 6,RM 8 1,f1 9 8,dI 10 .neq 7 9] [0,1,10] (.cond 10 (boG [dO 4 boD] [4] .ret) .skip)) (.seq (boG [dO 5 (ki 0)] [0,1,5] (.block 0 (.loop (.seq (boG [RM 11 5,RM 12 0,f1 13 12,dI 14 .lss 11 13] [0,1,5,14] (.cond 14 .skip (.exit 0))) (.seq (.block 1 (boG [RM 17 0,RM 18 5,e0 19 7 17 18,f8 20 7 19,RM 21 1,RM 22 5,e0 23 7 21 22,f8 24 7 23,f6 25 a1K [20,24],f4 26 25] [0,1,5,26] (.cond 26 (boG [dO 4 boD] [4] .ret) .skip))) (m2 [RM 15 5,dI 16 .add 15 (ki 1),RM 5 16] [0,1,5])))))) (boG [dO 4 boE] [4] .ret))))
def a4A:List aW:=[.tm 4]
theorem a95:aO bNV Tryz.f175 (bnD a2L)=some (a2L,a4A):=by kernel_rfl
def bzG:AC:= (boG [dO 4 (ki 0)] [0,1] (.seq (boG [dO 5 (ki 0)] [0,1,5] (.block 0 (.loop (.seq (boG [RM 6 5,RM 7 0,f1 8 7,dI 9 .lss 6 8] [0,1,5,9] (.cond 9 .skip (.exit 0))) (.seq (.block 1 (boG [RM 12 0,RM 13 5,RM 14 1,e0 15 7 12 13,RF 16 0 15,g0 1 false 16 14] [0,1,5] (boG [RM 17 1,dI 18 .add 17 (ki 1),RM 1 18] [0,1,5] (boG [RM 19 0,RM 20 5,RM 21 1,e0 22 7 19 20,RF 23 1 22,g0 1 false 23 21] [0,1,5] (boG [RM 24 1,dI 25 .add 24 (ki 1),RM 1 25] [0,1,5] (boG [RM 26 0,RM 27 5,RM 28 1,e0 29 7 26 27,RF 30 2 29,g0 1 false 30 28] [0,1,5] (boG [RM 31 1,dI 32 .add 31 (ki 1),RM 1 32] [0,1,5] (boG [RM 33 0,RM 34 5,RM 35 1,e0 36 7 33 34,RF 37 3 36,g0 1 false 37 35] [0,1,5] (boG [RM 38 1,dI 39 .add 38 (ki 1),RM 1 39] [0,1,5] (boG [RM 40 0,RM 41 5,RM 42 1,dI 43 .rem 42 (ki 3),dI 44 .eql 43 (ki 0),e0 45 7 40 41,RF 46 4 45,g0 1 false 46 44] [0,1,5] (boG [RM 47 1,dI 48 .add 47 (ki 1),RM 1 48] [0,1,5] (boG [RM 49 0,RM 50 5,e0 51 7 49 50,RF 52 5 51,RL 53 52,RM 54 1,f6 55 byU [53,54],RM 1 55] [0,1,5] (m2 [RM 56 0,RM 57 5,e0 58 7 56 57,RF 59 6 58,RL 60 59,RM 61 1,f6 62 byU [60,61],RM 1 62] [0,1,5]))))))))))))) (m2 [RM 10 5,dI 11 .add 10 (ki 1),RM 5 11] [0,1,5])))))) (boG [RM 63 1,RM 4 63] [4] .ret)))
def bAZ:List aW:=[.tm 4]
theorem bCJ:aO bNV Tryz.f176 (bnD bzG)=some (bzG,bAZ):=by kernel_rfl
def a2Y:AC:= (boG [f5 2 0,dO 4 (ki 0)] [1,2] (boG [RF 5 0 2,RL 6 5,RM 7 1,f6 8 g7 [6,7],RM 1 8] [1] (.seq (boG [RM 9 1,dI 10 .lss 9 (ki 0)] [1,10] (.cond 10 (boG [rq 4 (.move (.kv (.int .i64 (-1))))] [4] .ret) .skip)) (boG [RM 11 1,RM 4 11] [4] .ret))))
def a47:List aW:=[.tm 4]
theorem ba5:aO bNV Tryz.f228 (bnD a2Y)=some (a2Y,a47):=by kernel_rfl
def a2I:AC:= (boG [f5 2 0,dO 4 (ki 0)] [1,2] (boG [RF 5 1 2,RL 6 5,RM 7 1,f6 8 g7 [6,7],RM 1 8] [1,2] (.seq (boG [RM 9 1,dI 10 .lss 9 (ki 0)] [1,2,10] (.cond 10 (boG [rq 4 (.move (.kv (.int .i64 (-1))))] [4] .ret) .skip)) (boG [RF 11 2 2,RL 12 11,RM 13 1,f6 14 aZZ [12,13],RM 1 14] [1] (.seq (boG [RM 15 1,dI 16 .lss 15 (ki 0)] [1,16] (.cond 16 (boG [rq 4 (.move (.kv (.int .i64 (-1))))] [4] .ret) .skip)) (boG [RM 17 1,RM 4 17] [4] .ret))))))
def a4C:List aW:=[.tm 4]
theorem a9I:aO bNV Tryz.f229 (bnD a2I)=some (a2I,a4C):=by kernel_rfl
def a1V:AC:= (boG [f5 2 0,dO 4 (ki 0)] [1,2] (boG [RF 5 0 2,RL 6 5,RM 7 1,f6 8 aZZ [6,7],RM 1 8] [1,2] (.seq (boG [RM 9 1,dI 10 .lss 9 (ki 0)] [1,2,10] (.cond 10 (boG [rq 4 (.move (.kv (.int .i64 (-1))))] [4] .ret) .skip)) (boG [RF 11 1 2,RL 12 11,RM 13 1,f6 14 aZS [12,13],RM 1 14] [1] (.seq (boG [RM 15 1,dI 16 .lss 15 (ki 0)] [1,16] (.cond 16 (boG [rq 4 (.move (.kv (.int .i64 (-1))))] [4] .ret) .skip)) (boG [RM 17 1,RM 4 17] [4] .ret))))))
def a30:List aW:=[.tm 4]
theorem a67:aO bNV Tryz.f230 (bnD a1V)=some (a1V,a30):=by kernel_rfl
def a2S:AC:= (boG [f5 2 0,dO 4 (ki 0)] [1,2] (boG [RF 5 2 2,f8 6 3 5,RM 7 1,f6 8 a1F [6,7],RM 1 8] [1] (.seq (boG [RM 9 1,dI 10 .lss 9 (ki 0)] [1,10] (.cond 10 (boG [rq 4 (.move (.kv (.int .i64 (-1))))] [4] .ret) .skip)) (boG [RM 11 1,RM 4 11] [4] .ret))))
def a4W:List aW:=[.tm 4]
theorem bbZ:aO bNV Tryz.f231 (bnD a2S)=some (a2S,a4W):=by kernel_rfl
def a22:AC:= (boG [f5 1 0,f7 2 [OZ]] [1,2] (boG [f7 3 [OZ]] [1,2,3] (boG [RF 4 0 1,RL 5 4,f6 6 p8 [5],RF 7 0 3,g0 1 false 7 6] [2,3] (boG [f8 8 1 3,g0 1 true 2 8] [2] .ret))))
def a5B:List aW:=[.cell 2 1 true]
theorem ba7:aO bNV Tryz.f232 (bnD a22)=some (a22,a5B):=by kernel_rfl
def a2A:AC:= (boG [f5 1 0,f7 2 [VZ,OZ,OZ,VZ]] [1,2] (boG [f7 3 [VZ,OZ,OZ,VZ]] [1,2,3] (boG [RF 4 0 1,RL 5 4,RF 6 0 3,g0 1 false 6 5] [1,2,3] (boG [RF 7 1 1,RL 8 7,f6 9 p8 [8],RF 10 1 3,g0 1 false 10 9] [1,2,3] (boG [RF 11 2 1,RL 12 11,f6 13 aZY [12],RF 14 2 3,g0 1 false 14 13] [1,2,3] (boG [RF 15 3 1,RL 16 15,RF 17 3 3,g0 1 false 17 16] [2,3] (boG [f8 18 4 3,g0 4 true 2 18] [2] .ret)))))))
def a4B:List aW:=[.cell 2 4 true]
theorem a9R:aO bNV Tryz.f233 (bnD a2A)=some (a2A,a4B):=by kernel_rfl
def a1R:AC:= (boG [f5 1 0,f7 2 [OZ,OZ,VZ]] [1,2] (boG [f7 3 [OZ,OZ,VZ]] [1,2,3] (boG [RF 4 0 1,RL 5 4,f6 6 aZY [5],RF 7 0 3,g0 1 false 7 6] [1,2,3] (boG [RF 8 1 1,RL 9 8,f6 10 aZR [9],RF 11 1 3,g0 1 false 11 10] [1,2,3] (boG [RF 12 2 1,RL 13 12,RF 14 2 3,g0 1 false 14 13] [2,3] (boG [f8 15 3 3,g0 3 true 2 15] [2] .ret))))))
def a36:List aW:=[.cell 2 3 true]
theorem a63:aO bNV Tryz.f234 (bnD a1R)=some (a1R,a36):=by kernel_rfl
def a2Z:AC:= (boG [f5 1 0,f7 2 [VZ,VZ,VZ,VZ,OZ]] [1,2] (boG [f7 3 [VZ,VZ,VZ,VZ,OZ]] [1,2,3] (boG [RF 4 0 1,RL 5 4,RF 6 0 3,g0 1 false 6 5] [1,2,3] (boG [RF 7 1 1,RL 8 7,RF 9 1 3,g0 1 false 9 8] [1,2,3] (boG [RF 10 2 1,f8 11 3 10,f6 12 a05 [11],RF 13 2 3,g0 3 true 13 12] [2,3] (boG [f8 14 5 3,g0 5 true 2 14] [2] .ret))))))
def a40:List aW:=[.cell 2 5 true]
theorem bbH:aO bNV Tryz.f235 (bnD a2Z)=some (a2Z,a40):=by kernel_rfl
def a2R:AC:= (boG [f5 2 0,f5 3 1,dO 4 boD] [2,3] (.seq (boG [RF 5 0 2,RL 6 5,RF 7 0 3,RL 8 7,f6 9 o6 [6,8],f4 10 9] [10] (.cond 10 (boG [dO 4 boD] [4] .ret) .skip)) (boG [dO 4 boE] [4] .ret)))
def a49:List aW:=[.tm 4]
theorem bbB:aO bNV Tryz.f236 (bnD a2R)=some (a2R,a49):=by kernel_rfl
def a2G:AC:= (boG [f5 2 0,f5 3 1,dO 4 boD] [2,3] (.seq (boG [RF 5 0 2,RL 6 5,RF 7 0 3,RL 8 7,dI 9 .neq 6 8] [2,3,9] (.cond 9 (boG [dO 4 boD] [4] .ret) .skip)) (.seq (boG [RF 10 1 2,RL 11 10,RF 12 1 3,RL 13 12,f6 14 o6 [11,13],f4 15 14] [2,3,15] (.cond 15 (boG [dO 4 boD] [4] .ret) .skip)) (.seq (boG [RF 16 2 2,RL 17 16,RF 18 2 3,RL 19 18,f6 20 aZQ [17,19],f4 21 20] [2,3,21] (.cond 21 (boG [dO 4 boD] [4] .ret) .skip)) (.seq (boG [RF 22 3 2,RL 23 22,RF 24 3 3,RL 25 24,dI 26 .neq 23 25] [26] (.cond 26 (boG [dO 4 boD] [4] .ret) .skip)) (boG [dO 4 boE] [4] .ret))))))
def a4E:List aW:=[.tm 4]
theorem a9C:aO bNV Tryz.f237 (bnD a2G)=some (a2G,a4E):=by kernel_rfl
def a11:AC:= (boG [f5 2 0,f5 3 1,dO 4 boD] [2,3] (.seq (boG [RF 5 0 2,RL 6 5,RF 7 0 3,RL 8 7,f6 9 aZQ [6,8],f4 10 9] [2,3,10] (.cond 10 (boG [dO 4 boD] [4] .ret) .skip)) (.seq (boG [RF 11 1 2,RL 12 11,RF 13 1 3,RL 14 13,f6 15 aZX [12,14],f4 16 15] [2,3,16] (.cond 16 (boG [dO 4 boD] [4] .ret) .skip)) (.seq (boG [RF 17 2 2,RL 18 17,RF 19 2 3,RL 20 19,dI 21 .neq 18 20] [21] (.cond 21 (boG [dO 4 boD] [4] .ret) .skip)) (boG [dO 4 boE] [4] .ret)))))
def a34:List aW:=[.tm 4]
theorem a7T:aO bNV Tryz.f238 (bnD a11)=some (a11,a34):=by kernel_rfl
def a28:AC:= (boG [f5 2 0,f5 3 1,dO 4 boD] [2,3] (.seq (boG [RF 5 0 2,RL 6 5,RF 7 0 3,RL 8 7,dI 9 .neq 6 8] [2,3,9] (.cond 9 (boG [dO 4 boD] [4] .ret) .skip)) (.seq (boG [RF 10 1 2,RL 11 10,RF 12 1 3,RL 13 12,dI 14 .neq 11 13] [2,3,14] (.cond 14 (boG [dO 4 boD] [4] .ret) .skip)) (.seq (boG [RF 15 2 2,f8 16 3 15,RF 17 2 3,f8 18 3 17,f6 19 a1E [16,18],f4 20 19] [20] (.cond 20 (boG [dO 4 boD] [4] .ret) .skip)) (boG [dO 4 boE] [4] .ret)))))
def a4O:List aW:=[.tm 4]
theorem bb4:aO bNV Tryz.f239 (bnD a28)=some (a28,a4O):=by kernel_rfl
def bzN:AC:= (boG [f5 2 0,dO 4 (ki 0)] [1,2] (boG [RF 5 0 2,RL 6 5,RM 7 1,f6 8 byU [6,7],RM 1 8] [1] (boG [RM 9 1,RM 4 9] [4] .ret)))
def bBA:List aW:=[.tm 4]
theorem bCQ:aO bNV Tryz.f240 (bnD bzN)=some (bzN,bBA):=by kernel_rfl
def bI2:AC:= (boG [dO 4 (ki 0)] [0,1] (.seq (boG [dO 5 (ki 0)] [0,1,5] (.block 0 (.loop (.seq (boG [RM 6 5,RM 7 0,f1 8 7,dI 9 .lss 6 8] [0,1,5,9] (.cond 9 .skip (.exit 0))) (.seq (.block 1 (boG [RM 12 0,RM 13 5,RM 14 1,e0 15 3 12 13,RF 16 0 15,g0 1 false 16 14] [0,1,5] (boG [RM 17 1,dI 18 .add 17 (ki 1),RM 1 18] [0,1,5] (boG [RM 19 0,RM 20 5,RM 21 1,e0 22 3 19 20,RF 23 1 22,g0 1 false 23 21] [0,1,5] (boG [RM 24 1,dI 25 .add 24 (ki 1),RM 1 25] [0,1,5] (boG [RM 26 0,RM 27 5,RM 28 1,e0 29 3 26 27,RF 30 2 29,g0 1 false 30 28] [0,1,5] (m2 [RM 31 1,dI 32 .add 31 (ki 1),RM 1 32] [0,1,5]))))))) (m2 [RM 10 5,dI 11 .add 10 (ki 1),RM 5 11] [0,1,5])))))) (boG [RM 33 1,RM 4 33] [4] .ret)))
def bJ7:List aW:=[.tm 4]
theorem bLG:aO bNV Tryz.f241 (bnD bI2)=some (bI2,bJ7):=by kernel_rfl
def bzO:AC:= (boG [f5 2 0,dO 4 (ki 0)] [1,2] (boG [RF 5 0 2,RL 6 5,RM 7 1,f6 8 by5 [6,7],RM 1 8] [1] (.seq (boG [RM 9 1,dI 10 .lss 9 (ki 0)] [1,10] (.cond 10 (boG [rq 4 (.move (.kv (.int .i64 (-1))))] [4] .ret) .skip)) (boG [RM 11 1,RM 4 11] [4] .ret))))
def bA7:List aW:=[.tm 4]
theorem bC4:aO bNV Tryz.f244 (bnD bzO)=some (bzO,bA7):=by kernel_rfl
def bI1:AC:= (boG [dO 4 (ki 0)] [0,1] (.seq (boG [dO 5 (ki 0)] [0,1,5] (.block 0 (.loop (.seq (boG [RM 6 5,RM 7 0,f1 8 7,dI 9 .lss 6 8] [0,1,5,9] (.cond 9 .skip (.exit 0))) (.seq (.block 1 (.seq (boG [RM 12 0,RM 13 5,e0 14 3 12 13,RF 15 0 14,RL 16 15,RM 17 1,dI 18 .neq 16 17] [0,1,5,18] (.cond 18 (boG [rq 4 (.move (.kv (.int .i64 (-1))))] [4] .ret) .skip)) (boG [RM 19 1,dI 20 .add 19 (ki 1),RM 1 20] [0,1,5] (.seq (boG [RM 21 0,RM 22 5,e0 23 3 21 22,RF 24 1 23,RL 25 24,RM 26 1,dI 27 .neq 25 26] [0,1,5,27] (.cond 27 (boG [rq 4 (.move (.kv (.int .i64 (-1))))] [4] .ret) .skip)) (boG [RM 28 1,dI 29 .add 28 (ki 1),RM 1 29] [0,1,5] (.seq (boG [RM 30 0,RM 31 5,e0 32 3 30 31,RF 33 2 32,RL 34 33,RM 35 1,dI 36 .neq 34 35] [0,1,5,36] (.cond 36 (boG [rq 4 (.move (.kv (.int .i64 (-1))))] [4] .ret) .skip)) (m2 [RM 37 1,dI 38 .add 37 (ki 1),RM 1 38] [0,1,5]))))))) (m2 [RM 10 5,dI 11 .add 10 (ki 1),RM 5 11] [0,1,5])))))) (boG [RM 39 1,RM 4 39] [4] .ret)))
def bJ6:List aW:=[.tm 4]
theorem bLH:aO bNV Tryz.f245 (bnD bI1)=some (bI1,bJ6):=by kernel_rfl
def a26:AC:= (boG [f5 2 0,dO 4 (ki 0)] [1,2] (boG [RF 5 5 2,RL 6 5,RM 7 1,f6 8 g7 [6,7],RM 1 8] [1,2] (.seq (boG [RM 9 1,dI 10 .lss 9 (ki 0)] [1,2,10] (.cond 10 (boG [rq 4 (.move (.kv (.int .i64 (-1))))] [4] .ret) .skip)) (boG [RF 11 6 2,RL 12 11,RM 13 1,f6 14 g7 [12,13],RM 1 14] [1] (.seq (boG [RM 15 1,dI 16 .lss 15 (ki 0)] [1,16] (.cond 16 (boG [rq 4 (.move (.kv (.int .i64 (-1))))] [4] .ret) .skip)) (boG [RM 17 1,RM 4 17] [4] .ret))))))
def a4T:List aW:=[.tm 4]
theorem bb8:aO bNV Tryz.f246 (bnD a26)=some (a26,a4T):=by kernel_rfl
def a2T:AC:= (boG [f5 1 0,f7 2 [VZ,VZ,VZ,VZ,(.v (.bool false)),OZ,OZ]] [1,2] (boG [f7 3 [VZ,VZ,VZ,VZ,(.v (.bool false)),OZ,OZ]] [1,2,3] (boG [RF 4 0 1,RL 5 4,RF 6 0 3,g0 1 false 6 5] [1,2,3] (boG [RF 7 1 1,RL 8 7,RF 9 1 3,g0 1 false 9 8] [1,2,3] (boG [RF 10 2 1,RL 11 10,RF 12 2 3,g0 1 false 12 11] [1,2,3] (boG [RF 13 3 1,RL 14 13,RF 15 3 3,g0 1 false 15 14] [1,2,3] (boG [RF 16 4 1,RL 17 16,RF 18 4 3,g0 1 false 18 17] [1,2,3] (boG [RF 19 5 1,RL 20 19,f6 21 p8 [20],RF 22 5 3,g0 1 false 22 21] [1,2,3] (boG [RF 23 6 1,RL 24 23,f6 25 p8 [24],RF 26 6 3,g0 1 false 26 25] [2,3] (boG [f8 27 7 3,g0 7 true 2 27] [2] .ret))))))))))
def a4V:List aW:=[.cell 2 7 true]
theorem bbL:aO bNV Tryz.f251 (bnD a2T)=some (a2T,a4V):=by kernel_rfl
def a27:AC:= (boG [f5 2 0,f5 3 1,dO 4 boD] [2,3] (.seq (boG [RF 5 0 2,RL 6 5,RF 7 0 3,RL 8 7,dI 9 .neq 6 8] [2,3,9] (.cond 9 (boG [dO 4 boD] [4] .ret) .skip)) (.seq (boG [RF 10 1 2,RL 11 10,RF 12 1 3,RL 13 12,dI 14 .neq 11 13] [2,3,14] (.cond 14 (boG [dO 4 boD] [4] .ret) .skip)) (.seq (boG [RF 15 2 2,RL 16 15,RF 17 2 3,RL 18 17,dI 19 .neq 16 18] [2,3,19] (.cond 19 (boG [dO 4 boD] [4] .ret) .skip)) (.seq (boG [RF 20 3 2,RL 21 20,RF 22 3 3,RL 23 22,dI 24 .neq 21 23] [2,3,24] (.cond 24 (boG [dO 4 boD] [4] .ret) .skip)) (.seq (boG [RF 25 4 2,RL 26 25,RF 27 4 3,RL 28 27,rq 29 (.beq true 26 28)] [2,3,29] (.cond 29 (boG [dO 4 boD] [4] .ret) .skip)) (.seq (boG [RF 30 5 2,RL 31 30,RF 32 5 3,RL 33 32,f6 34 o6 [31,33],f4 35 34] [2,3,35] (.cond 35 (boG [dO 4 boD] [4] .ret) .skip)) (.seq (boG [RF 36 6 2,RL 37 36,RF 38 6 3,RL 39 38,f6 40 o6 [37,39],f4 41 40] [41] (.cond 41 (boG [dO 4 boD] [4] .ret) .skip)) (boG [dO 4 boE] [4] .ret)))))))))
def a5A:List aW:=[.tm 4]
theorem bbD:aO bNV Tryz.f254 (bnD a27)=some (a27,a5A):=by kernel_rfl
def a2N:AC:= (boG [dO 4 (ki 0)] [0,1] (boG [RM 5 1,RM 6 0,f1 7 6,dI 8 .sub 5 7,RM 1 8] [1] (.seq (boG [RM 9 1,dI 10 .lss 9 (ki 0)] [1,10] (.cond 10 (boG [rq 4 (.move (.kv (.int .i64 (-1))))] [4] .ret) .skip)) (boG [RM 11 1,RM 4 11] [4] .ret))))
def a4I:List aW:=[.tm 4]
theorem a9M:aO bNV Tryz.f306 (bnD a2N)=some (a2N,a4I):=by kernel_rfl
def a2U:AC:= (boG [f5 2 0,dO 4 (ki 0)] [1,2] (boG [RF 5 2 2,RL 6 5,RM 7 1,f6 8 g7 [6,7],RM 1 8] [1] (.seq (boG [RM 9 1,dI 10 .lss 9 (ki 0)] [1,10] (.cond 10 (boG [rq 4 (.move (.kv (.int .i64 (-1))))] [4] .ret) .skip)) (boG [RM 11 1,RM 4 11] [4] .ret))))
def a4P:List aW:=[.tm 4]
theorem baY:aO bNV Tryz.f307 (bnD a2U)=some (a2U,a4P):=by kernel_rfl
def a2E:AC:= (boG [dO 2 (.kv (.slice none 0 0))] [0] (boG [RM 5 0,f1 6 5,rq 7 (.kY 3 [VZ,VZ,VZ] 6 6),RM 3 7] [0,3] (.seq (boG [dO 4 (ki 0)] [0,3,4] (.block 0 (.loop (.seq (boG [RM 8 4,RM 9 0,f1 10 9,dI 11 .lss 8 10] [0,3,4,11] (.cond 11 .skip (.exit 0))) (.seq (.block 1 (m2 [RM 14 3,RM 15 4,RM 16 0,RM 17 4,e0 18 3 16 17,f8 19 3 18,f6 20 a08 [19],e0 21 3 14 15,g0 3 true 21 20] [0,3,4])) (m2 [RM 12 4,dI 13 .add 12 (ki 1),RM 4 13] [0,3,4])))))) (boG [RM 22 3,RM 2 22] [2] .ret))))
def a4J:List aW:=[.tm 2]
theorem a96:aO bNV Tryz.f308 (bnD a2E)=some (a2E,a4J):=by kernel_rfl
def a25:AC:= (boG [f5 1 0,f7 2 [VZ,VZ,OZ]] [1,2] (boG [f7 3 [VZ,VZ,OZ]] [1,2,3] (boG [RF 4 0 1,RL 5 4,RF 6 0 3,g0 1 false 6 5] [1,2,3] (boG [RF 7 1 1,RL 8 7,RF 9 1 3,g0 1 false 9 8] [1,2,3] (boG [RF 10 2 1,RL 11 10,f6 12 p8 [11],RF 13 2 3,g0 1 false 13 12] [2,3] (boG [f8 14 3 3,g0 3 true 2 14] [2] .ret))))))
def a4Z:List aW:=[.cell 2 3 true]
theorem bbM:aO bNV Tryz.f309 (bnD a25)=some (a25,a4Z):=by kernel_rfl
def a2M:AC:= (boG [dO 4 boD] [0,1] (.seq (boG [RM 6 0,f1 7 6,RM 8 1,f1 9 8,dI 10 .neq 7 9] [0,1,10] (.cond 10 (boG [dO 4 boD] [4] .ret) .skip)) (.seq (boG [dO 5 (ki 0)] [0,1,5] (.block 0 (.loop (.seq (boG [RM 11 5,RM 12 0,f1 13 12,dI 14 .lss 11 13] [0,1,5,14] (.cond 14 .skip (.exit 0))) (.seq (.block 1 (boG [RM 17 0,RM 18 5,e0 19 3 17 18,f8 20 3 19,RM 21 1,RM 22 5,e0 23 3 21 22,f8 24 3 23,f6 25 a1C [20,24],f4 26 25] [0,1,5,26] (.cond 26 (boG [dO 4 boD] [4] .ret) .skip))) (m2 [RM 15 5,dI 16 .add 15 (ki 1),RM 5 16] [0,1,5])))))) (boG [dO 4 boE] [4] .ret))))
def a4G:List aW:=[.tm 4]
theorem a91:aO bNV Tryz.f310 (bnD a2M)=some (a2M,a4G):=by kernel_rfl
def a2X:AC:= (boG [f5 2 0,f5 3 1,dO 4 boD] [2,3] (.seq (boG [RF 5 0 2,RL 6 5,RF 7 0 3,RL 8 7,dI 9 .neq 6 8] [2,3,9] (.cond 9 (boG [dO 4 boD] [4] .ret) .skip)) (.seq (boG [RF 10 1 2,RL 11 10,RF 12 1 3,RL 13 12,dI 14 .neq 11 13] [2,3,14] (.cond 14 (boG [dO 4 boD] [4] .ret) .skip)) (.seq (boG [RF 15 2 2,RL 16 15,RF 17 2 3,RL 18 17,f6 19 o6 [16,18],f4 20 19] [20] (.cond 20 (boG [dO 4 boD] [4] .ret) .skip)) (boG [dO 4 boE] [4] .ret)))))
def a4S:List aW:=[.tm 4]
theorem bbE:aO bNV Tryz.f311 (bnD a2X)=some (a2X,a4S):=by kernel_rfl
def a21:AC:= (boG [f5 1 0,f7 2 [VZ,VZ,VZ]] [1,2] (boG [f7 3 [VZ,VZ,VZ]] [1,2,3] (boG [RF 4 0 1,RL 5 4,RF 6 0 3,g0 1 false 6 5] [1,2,3] (boG [RF 7 1 1,RL 8 7,RF 9 1 3,g0 1 false 9 8] [1,2,3] (boG [RF 10 2 1,RL 11 10,RF 12 2 3,g0 1 false 12 11] [2,3] (boG [f8 13 3 3,g0 3 true 2 13] [2] .ret))))))
def a5C:List aW:=[.cell 2 3 true]
theorem bb5:aO bNV Tryz.f335 (bnD a21)=some (a21,a5C):=by kernel_rfl
def a2Q:AC:= (boG [f5 2 0,f5 3 1,dO 4 boD] [2,3] (.seq (boG [RF 5 0 2,RL 6 5,RF 7 0 3,RL 8 7,dI 9 .neq 6 8] [2,3,9] (.cond 9 (boG [dO 4 boD] [4] .ret) .skip)) (.seq (boG [RF 10 1 2,RL 11 10,RF 12 1 3,RL 13 12,dI 14 .neq 11 13] [2,3,14] (.cond 14 (boG [dO 4 boD] [4] .ret) .skip)) (.seq (boG [RF 15 2 2,RL 16 15,RF 17 2 3,RL 18 17,dI 19 .neq 16 18] [19] (.cond 19 (boG [dO 4 boD] [4] .ret) .skip)) (boG [dO 4 boE] [4] .ret)))))
def a46:List aW:=[.tm 4]
theorem bb3:aO bNV Tryz.f336 (bnD a2Q)=some (a2Q,a46):=by kernel_rfl
end Go.Proofs.YtlncecohbakleaaGreat
