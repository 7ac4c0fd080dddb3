/- Texts laid together by a program: rules, contracts and the walk that leads to the law. -/
import Derived.Test.YtlncecohbakleaaGreatPS19
import Derived.Test.YtlncecohbakleaaGreatPS23
import Derived.Test.YtlncecohbakleaaGreatPS24
import Derived.Test.YtlncecohbakleaaGreatPS22
set_option linter.unusedVariables false
set_option linter.unusedSimpArgs false
set_option linter.unusedSectionVars false
set_option maxRecDepth 100000
set_option maxHeartbeats 8000000
namespace Go.AM
def bmC:CSt:=⟨[],[],[],[],[]⟩
def inB(i:CIn):Bool:=decide (i.ready.length=3/\i.n9.length=4/\i.send.length=3)
theorem bm2{i:CIn}:inB i=true↔vZ i:=decide_eq_true_iff
noncomputable def bmA(c:Cfg)(s:CSt)(i:CIn):CSt:=if cyB c s=true/\inB i=true then vF c i s else bmC
theorem bM8{H:aA}:bIO H [.osl 0 0 0 0 0,.osl 0 0 0 0 0,.osl 0 0 0 0 0,.osl 0 0 0 0 0,.osl 0 0 0 0 0] bmC fun _=>False:=by have h: ∀{α:Type} {n:Nat} {R:bAT α},SlS n R H (.osl 0 0 0 0 0) [] fun _=>False:=.inl ⟨rfl,0,0,0,rfl⟩;exact⟨_,_,_,_,_,fun _=>False,fun _=>False,fun _=>False,fun _=>False,fun _=>False,rfl,⟨h,h,h,h,h,fun j h=>h,fun j h=>h,fun j h=>h,fun j h=>h,fun j h=>h,fun j h=>h.elim,fun j h=>h.elim,fun j h=>h.elim,fun j h=>h.elim,fun j h=>h.elim,fun j h=>h.elim,fun j h=>h.elim,fun j h=>h.elim,fun j h=>h.elim,fun j h=>h.elim⟩⟩
theorem beL.len{s:CSt}(h:beL s):w5 (2^21) s:=by
 refine⟨⟨h.w,h.h⟩,⟨h.pl,fun p hp=> ?_⟩,⟨h.sl,fun v b=> ?_⟩,h.t,h.td⟩;·obtain⟨k,a,rfl⟩:=List.getElem_of_mem hp;have:=h.port k;rw[show aF s k=s.bM[k] by simp[aF,List.getD,a]] at this;exact this
 ·obtain⟨k,a,rfl⟩:=List.getElem_of_mem b;have:=h.slv k;rw[show aL s k=s.dD[k] by simp[aL,List.getD,a]] at this;exact⟨this.1,this.2.1,this.2.2⟩
theorem bNG:w5 (2^21) bmC:=⟨⟨by decide,by decide⟩,⟨by decide,fun x a=>by cases a⟩,⟨by decide,fun x a=>by cases a⟩,⟨by decide,fun x a=>by cases a⟩⟩
theorem COk.len{c:Cfg}{s:CSt}(a:aQ c)(b:COk c s):w5 (2^21) s:=beL.len ((b.base a).bj4.fit).1
theorem bNE{c:Cfg}{s:CSt}{i:CIn}:w5 (2^21) (bmA c s i):=by
 unfold bmA;split;·rename_i h;obtain⟨a,b⟩:=bmR.1 h.1;exact COk.len a (PN a b)
 ·exact bNG
theorem COk.z{c:Cfg}{s:CSt}(b:aQ c)(a:COk c s):bIP s<=2^50:=bMT (a.len b) (by rw[a.pl];omega) (by rw[a.sl];omega)
theorem bNM:bIP bmC<=2^50:=by decide
theorem bNH{c:Cfg}{s:CSt}{i:CIn}:bIP (bmA c s i)<=2^50:=by
 unfold bmA;split;·rename_i h;obtain⟨a,b⟩:=bmR.1 h.1;exact COk.z a (PN a b)
 ·exact bNM
theorem bJB.fit{i:CIn}(h:bJB (2^21) i):bm3 i:=⟨h.1,h.2.1,h.2.2⟩
end Go.AM
namespace Go.Proofs.YtlncecohbakleaaGreat
open Go Go.AM
attribute [local irreducible] aM wv aB vd wvH
def bIR:AC:= (boG [f5 3 0,f5 4 1,f5 5 2,dO 6 boD] [3,4,5] (boG [dO 7 (ki 1048576)] [3,4,5,7] (boG [f8 17 3 3,RM 18 7,f6 19 a1J [17,18],RM 7 19] [3,4,5,7] (.seq (boG [RM 20 7,dI 21 .lss 20 (ki 0)] [3,4,5,7,21] (.cond 21 (boG [dO 6 boE] [6] .ret) .skip)) (boG [f8 22 5 4,RM 23 7,f6 24 a0E [22,23],RM 7 24] [3,4,5,7] (.seq (boG [RM 25 7,dI 26 .lss 25 (ki 0)] [3,4,5,7,26] (.cond 26 (boG [dO 6 boE] [6] .ret) .skip)) (boG [f8 27 3 5,RM 28 7,f6 29 bJU [27,28],RM 7 29] [3,4,5,7] (.seq (boG [RM 30 7,dI 31 .lss 30 (ki 0)] [3,4,5,31] (.cond 31 (boG [dO 6 boE] [6] .ret) .skip)) (.seq (.region [boF 32 (.load 3 true 3) [7] [] false 0,boF 34 (.load 5 true 4) [7] [] true 2,boF 36 (.load 3 true 5) [7] [] true 4,f7 8 [OZ,OZ,OZ,OZ,OZ] 7,boF 33 (.call aZL [32]) [7] [2,4] false 1,boF 35 (.call B7 [34]) [7] [4] false 3,boF 37 (.call bIS [36]) [7] [] false 5,boF 38 (.call bl7 [33,35,37]) [7] [] false 6,g0 5 true 8 38 8] 9 [3,4,5,8]) (boG [f8 39 3 3,f6 40 aZL [39],f7 9 [OZ,OZ,OZ],g0 3 true 9 40] [3,4,5,8,9] (boG [f8 41 5 4,f6 42 B7 [41],f7 10 [OZ,OZ,OZ,OZ,OZ],g0 5 true 10 42] [3,4,5,8,9,10] (boG [f8 43 3 5,f6 44 bIS [43],f7 11 [OZ,OZ,OZ],g0 3 true 11 44] [3,4,5,8,9,10,11] (boG [f8 45 3 9,f8 46 5 10,f8 47 3 11,f6 48 FO [45,46,47],f7 12 [OZ,OZ,OZ,OZ,OZ],g0 5 true 12 48] [3,4,5,8,9,10,11,12] (.seq (boG [f8 49 5 12,f8 50 5 8,f6 51 a0D [49,50],f4 52 51] [3,4,5,8,9,10,11,12,52] (.cond 52 (boG [dO 6 boD] [6] .ret) .skip)) (.seq (boG [boF 53 (.load 3 true 9) [] [] true,f8 54 3 3,boF 55 (.call aZL [54]) [] [0] false,f6 56 a1B [53,55],f4 57 56] [3,4,5,8,9,10,11,12,57] (.cond 57 (boG [dO 6 boD] [6] .ret) .skip)) (.seq (boG [boF 58 (.load 5 true 10) [] [] true,f8 59 5 4,boF 60 (.call B7 [59]) [] [0] false,f6 61 a0D [58,60],f4 62 61] [3,4,5,8,9,10,11,12,62] (.cond 62 (boG [dO 6 boD] [6] .ret) .skip)) (.seq (boG [boF 63 (.load 3 true 11) [] [] true,f8 64 3 5,boF 65 (.call bIS [64]) [] [0] false,f6 66 bJT [63,65],f4 67 66] [3,4,5,8,9,10,11,12,67] (.cond 67 (boG [dO 6 boD] [6] .ret) .skip)) (boG [dO 13 (ki 1)] [3,4,5,8,9,10,11,12,13] (boG [f8 68 3 9,RM 69 13,f6 70 bAD [68,69],RM 13 70] [3,4,5,8,10,11,12,13] (boG [f8 71 5 10,RM 72 13,f6 73 bI0 [71,72],RM 13 73] [3,4,5,8,11,12,13] (boG [f8 74 3 11,RM 75 13,f6 76 bJY [74,75],RM 13 76] [3,4,5,8,12,13] (.seq (boG [RM 77 13,dI 78 .lss 77 (ki 0),RM 79 78,GQ 80 (.load 5 true 12) 79 false,GQ 81 (.load 5 true 8) 79 false,GQ 82 (.call a0D [80,81]) 79 false,hP 83 82 79 false,f3 84 79 boE 83] [3,4,5,8,12,84] (.cond 84 (boG [dO 6 boD] [6] .ret) .skip)) (boG [dO 14 (ki 1)] [3,4,5,8,12,14] (boG [f8 85 5 12,RM 86 14,f6 87 bI0 [85,86],RM 14 87] [3,4,5,8,12,14] (boG [dO 15 (ki 1)] [3,4,5,8,12,14,15] (boG [f8 88 5 12,RM 89 15,f6 90 bIQ [88,89],RM 15 90] [3,4,5,8,12,14,15] (.seq (boG [RM 91 15,dI 92 .lss 91 (ki 0)] [3,4,5,8,12,14,15,92] (.cond 92 (boG [dO 6 boD] [6] .ret) .skip)) (.seq (boG [RM 93 15,RM 94 14,dI 95 .neq 93 94] [3,4,5,8,12,14,95] (.cond 95 (boG [dO 6 boD] [6] .ret) .skip)) (.seq (.region [boF 96 (.load 3 true 3) [7] [] false 0,boF 98 (.load 5 true 4) [7] [] true 2,boF 100 (.load 3 true 5) [7] [] true 4,f7 16 [OZ,OZ,OZ,OZ,OZ] 7,boF 97 (.call aZL [96]) [7] [2,4] false 1,boF 99 (.call B7 [98]) [7] [4] false 3,boF 101 (.call bIS [100]) [7] [] false 5,boF 102 (.call FO [97,99,101]) [7] [] false 6,g0 5 true 16 102 8] 9 [8,12,14,16]) (.seq (boG [f8 103 5 16,f8 104 5 8,f6 105 a0D [103,104],f4 106 105] [12,14,106] (.cond 106 (boG [dO 6 boD] [6] .ret) .skip)) (boG [dO 15 (ki 1)] [12,14,15] (boG [f8 107 5 12,RM 108 15,f6 109 bIQ [107,108],RM 15 109] [14,15] (.seq (boG [RM 110 15,dI 111 .lss 110 (ki 0)] [14,15,111] (.cond 111 (boG [dO 6 boD] [6] .ret) .skip)) (.seq (boG [RM 112 15,RM 113 14,dI 114 .neq 112 113] [114] (.cond 114 (boG [dO 6 boD] [6] .ret) .skip)) (boG [dO 6 boE] [6] .ret)))))))))))))))))))))))))))))))))))
def bJR:List aW:=[.tm 6]
theorem bKO:aO bNV Tryz.f9 (bnD bIR)=some (bIR,bJR):=by kernel_rfl
def bl8:AC:= (boG [f5 1 0,dO 2 boD] [1] (boG [RF 3 0 1,RL 4 3,f1 5 4,dI 6 .eql 5 (ki 3),RM 7 6,g9 8 1 1 7 true,hD 9 8 7 true,GQ 10 (.len false 9) 7 true,hO 11 .eql 10 (ki 4) 7 true,f3 12 7 11 boD,RM 13 12,g9 14 2 1 13 true,hD 15 14 13 true,GQ 16 (.len false 15) 13 true,hO 17 .eql 16 (ki 3) 13 true,f3 18 13 17 boD,RM 2 18] [2] .ret))
def bmI:List aW:=[.tm 2]
theorem bmW:aO bNV Tryz.f49 (bnD bl8)=some (bl8,bmI):=by kernel_rfl
def bl3:AC:= (boG [f5 3 0,f5 4 1,f5 5 2,f7 6 [OZ,OZ,OZ,OZ,OZ]] [3,4,5,6] (.seq (boG [f8 7 3 3,f8 8 5 4,f6 9 aI5 [7,8],f4 10 9,RM 11 10,GQ 12 (.load 3 true 5) 11 false,GQ 13 (.call bl1 [12]) 11 false,hP 14 13 11 false,f3 15 11 boE 14] [3,4,5,6,15] (.cond 15 (boG [rq 16 (.build [OZ,OZ,OZ,OZ,OZ] []),g0 5 true 6 16] [6] .ret) .skip)) (.seq (.region [boF 17 (.load 3 true 3) [] [] true 0,f8 18 5 4 1,boF 20 (.load 3 true 5) [] [] true 3,boF 19 (.call bg9 [18]) [] [0,3] false 2,f6 21 bgZ [17,19,20] 4,f6 22 bg9 [21] 5,g0 5 true 6 22 6] 7 [6]) .ret)))
def bl9:List aW:=[.cell 6 5 true]
theorem bmQ:aO bNV Tryz.f67 (bnD bl3)=some (bl3,bl9):=by kernel_rfl
section
variable{H:aA}{nx:Nat}{K:bNX}
variable{i:CIn}
theorem bl6(k:i.ready.length<2^21)(l:i.n9.length<2^21)(m:i.send.length<2^21)(h:K (dB (inB i)) H nx):bNW uJ [boR (eIn i)] H nx K:=by
 refine aB.pure (args0:=[boR (eIn i)]) (R:=fun f=>f=dB (inB i)) ?_ rfl (aI ⟨aE rfl,trivial⟩) (fun r g=>g▸h);clear h;refine XL rfl fun Q c=> ?_;unfold CT;by_cases b:i.ready.length=3
 ·by_cases d:i.n9.length=4
  ·by_cases e:i.send.length=3
   ·have a:inB i=true:=decide_eq_true ⟨b,d,e⟩;repeat' first| (first|apply bn1|apply bpJ (by omega))<;>(simp only[go_sem,b,d,e])|fail
    all_goals exact aZ c _ rfl rfl (congrArg dB a.symm)
   ·have a:inB i=false:=decide_eq_false fun h=>e h.2.2;have j:decide ((i.send.length:Int)=3)=false:=decide_eq_false (by omega);repeat' first| (first|apply bn1|apply bpJ (by omega))<;>(simp only[go_sem,b,d,j])|fail
    all_goals first|exact aZ c _ rfl rfl (congrArg dB a.symm)|omega
  ·have a:inB i=false:=decide_eq_false fun h=>d h.2.1;repeat' first| (first|apply bn1|apply bpJ (by omega)|apply bpK (by omega))<;>(simp only[go_sem,b])|fail
   all_goals first|exact aZ c _ rfl rfl (congrArg dB a.symm)|omega
 ·have a:inB i=false:=decide_eq_false fun h=>b h.1;repeat' first| (first|apply bn1|apply bpK (by omega))<;>(simp only[go_sem])|fail
  all_goals first|exact aZ c _ rfl rfl (congrArg dB a.symm)|omega
theorem bl2(k:i.ready.length<2^21)(l:i.n9.length<2^21)(m:i.send.length<2^21)(h:K (dB (inB i)) H nx):bNW bl1 [boR (eIn i)] H nx K:=by
 refine aB.pure (args0:=[boR (eIn i)]) (R:=fun f=>f=dB (inB i)) ?_ rfl (aI ⟨aE rfl,trivial⟩) (fun r g=>g▸h);clear h;refine aN.mk Tryz.func49 (by kernel_rfl) bmW rfl fun Q c=> ?_;unfold bl8;by_cases b:i.ready.length=3
 ·by_cases d:i.n9.length=4
  ·by_cases e:i.send.length=3
   ·have a:inB i=true:=decide_eq_true ⟨b,d,e⟩;repeat' first| (first|apply bn1|apply bpJ (by omega))<;>(simp only[go_sem,b,d,e])|fail
    all_goals exact aZ c _ rfl rfl (congrArg dB a.symm)
   ·have a:inB i=false:=decide_eq_false fun h=>e h.2.2;have j:decide ((i.send.length:Int)=3)=false:=decide_eq_false (by omega);repeat' first| (first|apply bn1|apply bpJ (by omega))<;>(simp only[go_sem,b,d,j])|fail
    all_goals first|exact aZ c _ rfl rfl (congrArg dB a.symm)|omega
  ·have a:inB i=false:=decide_eq_false fun h=>d h.2.1;repeat' first| (first|apply bn1|apply bpJ (by omega)|apply bpK (by omega))<;>(simp only[go_sem,b])|fail
   all_goals first|exact aZ c _ rfl rfl (congrArg dB a.symm)|omega
 ·have a:inB i=false:=decide_eq_false fun h=>b h.1;repeat' first| (first|apply bn1|apply bpK (by omega))<;>(simp only[go_sem])|fail
  all_goals first|exact aZ c _ rfl rfl (congrArg dB a.symm)|omega
theorem bmO{c:Cfg}{s:CSt}(n:jO c)(C:beL s)(S:bm3 i)
 (h: ∀O t,nx<=t->(∀id,id<nx->O id=H id)->K (boR (eI (bmA c s i))) O t):bNW bl7 [boR (cU c),boR (eI s),boR (eIn i)] H nx K:=by
 obtain⟨bOX,bOY,l3⟩:=S
 apply aB.tW
 refine cJ.mk Tryz.func67 (by kernel_rfl) bmQ rfl fun Q D=> ?_
 unfold bl3
 by_cases q:cyB c s=true
 ·cases o:inB i
  ·unfold bmA at h;rw[if_neg (fun r=>by rw[o] at r;exact absurd r.2 (by decide))] at h;repeat' first| (first|apply bn1|apply bd7 n C|apply bl2 (i:=i) (by omega) (by omega) (by omega))<;>(simp only[go_sem,q,o,boC])|fail
   exact D _ _ _ _ _ (.inr rfl) (LL rfl aA.bH rfl) ⟨boR (eI bmC),_,noF,lY (aH (.frz (.nil ..)) (aH (.frz (.nil ..)) (aH (.frz (.nil ..)) (aH (.frz (.nil ..)) (aH (.frz (.nil ..)) eP))))),aK,h _ _ (by omega) fun id b=>by simp (disch:=omega) only[aA.aC]⟩
  ·unfold bmA at h;rw[if_pos ⟨q,o⟩] at h;obtain⟨A,E⟩:=bmR.1 q;have F:=bm2.1 o;have G:=E.sz A;repeat' first| (first|apply bn1|apply bd7 n C|apply bl2 (i:=i) (by omega) (by omega) (by omega)|refine bjQ G (fun H1 T U cells hx V boS g=> ?_))<;>(simp only[go_sem,q,o,boC])|fail
   have bfZ:H1 nx=some ⟨3,1,[cU c]⟩:=(by rw[g _ (by omega)];simp (disch:=omega) only[aA.aC,aA.bH]);have W:H1 (nx+2)=some ⟨3,1,[eIn i]⟩:=(by rw[g _ (by omega)];simp (disch:=omega) only[aA.aC,aA.bH]);have bpS:H1 (nx+3)=some ⟨5,1,[[.osl 0 0 0 0 0,.osl 0 0 0 0 0,.osl 0 0 0 0 0,.osl 0 0 0 0 0,.osl 0 0 0 0 0]]⟩:=(by rw[g _ (by omega)];simp (disch:=omega) only[aA.aC,aA.bH]);have Y: ∀id,id<nx->H1 id=H id:=fun id b=>by rw[g _ (by omega)];simp (disch:=omega) only[aA.aC]
   clear g;refine⟨⟨fun _=>by rw[W];rfl,fun _=>by rw[bfZ];rfl⟩,?_⟩;refine bi3 (X:=fun j=>j<nx+4) A E F ⟨V,⟨boS.inj,fun k e=>(boS.rng k e).2,fun k e P=>by have:=(boS.rng k e).1;have P:U k<nx+4:=P;omega⟩,fun id b=>by have b:id<nx+4:=b;omega⟩ fun I J l B Z u v=> ?_;have L:=PN A (i:=i) E;have d:=L.sz A;have M:I (nx+3)=_:=(v (nx+3) (by show nx+3<nx+4;omega)).trans bpS;have qf: ∀id,id<nx->I id=H id:=fun id b=>(v id (by show id<nx+4;omega)).trans (Y id b);have w:=u.names.av;have p:bQ J [nx+3]:=AM.apart (by simp) (by simp;omega);simp only[bQ,eZ] at p;(try simp only[go_sem,boC,M,p,boC]);repeat' first|apply bn1<;>(simp only[go_sem,boC,M,p,boC])|fail
   refine aB.ao4 (args':=[boR (eI (vF c i s))]) (without (fun j=>∃k,k<19/\j=l k) I) (fun j=>∃k,k<19/\j=l k) rfl (bkE (lY (A8 (u.rep.VI (fun k e=>⟨k,e,rfl⟩) d.pl d.sl)))) kS ?_;refine bjQ d fun R aa N a ab x y z=> ?_;have bk6:R (nx+3)=some ⟨5,1,[[.osl 0 0 0 0 0,.osl 0 0 0 0 0,.osl 0 0 0 0 0,.osl 0 0 0 0 0,.osl 0 0 0 0 0]]⟩:=(by rw[z _ (by omega),iI (fun⟨k,e,he⟩=>w k e (by show l k<nx+4;omega))];exact M);have wf: ∀id,id<nx->R id=H id:=fun id b=>by rw[z _ (by omega),iI (fun⟨k,e,he⟩=>w k e (by show l k<nx+4;omega))];exact qf id b
   have f:a.length=5:=(by obtain⟨_,_,_,_,_,rfl,_⟩:=x.ex;rfl);have m:a++List.drop a.length [D1.osl 0 0 0 0 0,.osl 0 0 0 0 0,.osl 0 0 0 0 0,.osl 0 0 0 0 0,.osl 0 0 0 0 0]=a:=(by rw[f];simp);(try simp only[go_sem,boC,bk6,f,m,boC]);repeat' first|apply bn1<;>(simp only[go_sem,boC,bk6,f,m,boC])|fail
   refine D _ _ _ _ _ (.inr rfl) (LL rfl aA.bH f) ⟨boR (eI (vF c i s)),_,fun j=>∃k,k<19/\j=N k,?_,kS,h _ _ (by omega) fun id b=> ?_⟩;·exact lY (A8 ((x.frame fun k e=>aA.aC (by have:=y.rng k e;omega)).VI (fun k e=>⟨k,e,rfl⟩) d.pl d.sl))
   ·rw[iI (fun⟨k,e,he⟩=>by have:=y.rng k e;omega),aA.aC (by omega)];exact wf id b
 ·have o:cyB c s=false:=by cases r:cyB c s;rfl;exact absurd r q
  unfold bmA at h;rw[if_neg (fun r=>q r.1)] at h;repeat' first| (first|apply bn1|apply bd7 n C)<;>(simp only[go_sem,o,boC])|fail
  exact D _ _ _ _ _ (.inr rfl) (LL rfl aA.bH rfl) ⟨boR (eI bmC),_,noF,lY (aH (.frz (.nil ..)) (aH (.frz (.nil ..)) (aH (.frz (.nil ..)) (aH (.frz (.nil ..)) (aH (.frz (.nil ..)) eP))))),aK,h _ _ (by omega) fun id b=>by simp (disch:=omega) only[aA.aC]⟩
theorem bLA{c:Cfg}{s:CSt}(y:jO c)(R:beL s)(hi:bm3 i)
 (h: ∀A g r F,nx<=g->bIO A r (bmA c s i) F->(∀j,F j->nx<=j/\j<g)->(∀j,j<nx->A j=H j)->K (.one (.agg r)) A g):bNW FO [boR (cU c),boR (eI s),boR (eIn i)] H nx K:=by
 obtain⟨bOX,bOY,l3⟩:=hi
 by_cases B:cyB c s=true/\inB i=true
 ·obtain⟨N,T⟩:=bmR.1 B.1;unfold bmA at h;rw[if_pos B] at h;obtain⟨q,t⟩:=B;refine PB rfl fun Q O=> ?_;unfold vJ;repeat' first| (first|apply bn1|apply bd4 y R|apply bl6 (i:=i) (by omega) (by omega) (by omega)|refine fJ (T.sz N) (fun A g nm cells hx U boS m=> ?_))<;>(simp only[go_sem,q,t,boC])|fail
  have C:cells.length=5:=by obtain⟨_,_,_,_,_,rfl,_⟩:=U.ex;rfl
  have D:cells++List.drop cells.length [D1.osl 0 0 0 0 0,.osl 0 0 0 0 0,.osl 0 0 0 0 0,.osl 0 0 0 0 0,.osl 0 0 0 0 0]=cells:=by rw[C];simp
  refine⟨C,by omega,?_⟩;rw[D];try apply bn0
  refine aM.TF fun bqO u=> ?_;have n: ∀id,id<nx+4->bqO id=A id:=fun id l=>by rw[u,aA.aC (by omega)]
  have c0:bqO nx=some ⟨3,1,[cU c]⟩:=by rw[n _ (by omega),m _ (by omega)];simp only[aA.set,bqT,Nat.reduceEqDiff,if_false,if_true,brN,reduceIte]
  have c2:bqO (nx+2)=some ⟨3,1,[eIn i]⟩:=by rw[n _ (by omega),m _ (by omega)];simp only[aA.set,bqU,Nat.reduceEqDiff,bqV,if_false,if_true,reduceIte]
  have bPO:bqO (nx+3)=some ⟨5,1,[[.osl 0 0 0 0 0,.osl 0 0 0 0 0,.osl 0 0 0 0 0,.osl 0 0 0 0 0,.osl 0 0 0 0 0]]⟩:=by rw[n _ (by omega),m _ (by omega)];simp only[aA.set,bqU,Nat.reduceEqDiff,bqV,if_false,if_true,reduceIte]
  have V: ∀id,id<nx->bqO id=H id:=fun id l=>by rw[n _ (by omega),m _ (by omega)];simp only[aA.set,show ¬id=nx by omega,show ¬id=nx+1 by omega,show ¬id=nx+2 by omega,show ¬id=nx+3 by omega,if_false]
  have bnC:Rep (fun id=>id<nx+4) bqO g (nx+15) nm s:=by have v:=fun k f=>boS.rng k f;refine⟨⟨cells,by rw[u];exact aA.bH,U.frame fun k f=>by have:=v k f;rw[u,aA.aC (by omega)]⟩,⟨boS.inj,fun k f=>by have:=v k f;omega,fun k f hn=>by have:=v k f;omega⟩,fun k f=>by have:=v k f;omega,⟨by omega,by omega⟩,fun id l=>by omega⟩
  clear u U boS m n;have hA:bQ g [nx,nx+2]:=AM.apart (by simp) (by simp;omega);simp only[bQ,eZ] at hA;repeat' first|apply bn1<;>(simp only[go_sem,t1,bqT,c0,c2,hA])|fail
  refine tX (X:=fun id=>id<nx+4) N T (bm2.1 t) (bnC.frame (by omega) rfl (fun _ _=>rfl) fun id E=>⟨by omega,by omega,fun k f he=>bnC.names.av k f (he▸E)⟩) fun H2 W o a b d e aa w G=> ?_;have Y:COk c (vF c i s):=PN N T;generalize vF c i s=S at*;obtain⟨P,Z,I⟩:=w.st;obtain⟨wc,hc,pc,vc,tc,J,_⟩:=I.ex;have p:=Z;rw[J] at p;unfold U2 at p;simp only[go_sem];repeat' first|apply bn1<;>(simp only[go_sem,p])|fail
  have ab:=w.names.lt;refine aB.ao4 (args':=[boR (eI S)]) (without (fun j=>∃k,k<19/\j=o k) H2) (fun j=>∃k,k<19/\j=o k) rfl (fun i d0 d q t=> ?_) kS ?_
  ·match i with
   |0=>simp only[List.getElem?_cons_zero,Option.some.injEq] at q t;subst q;subst t;have:=A8 (σ:=id) (nh:=W+3) (I.VI (F:=fun j=>∃k,k<19/\j=o k) (fun k f=>⟨k,f,rfl⟩) Y.pl Y.sl);rw[J] at this;exact lY this
   |i+1=>simp at q
  refine bKP (Y.sz N) fun H3 ad r F ae L M x=> ?_;have e3:H3 (nx+3)=some ⟨5,1,[[.osl 0 0 0 0 0,.osl 0 0 0 0 0,.osl 0 0 0 0 0,.osl 0 0 0 0 0,.osl 0 0 0 0 0]]⟩:=by rw[x _ (by omega),iI (fun⟨k,f,he⟩=>w.names.av k f (show o k<nx+4 by omega)),G _ (show nx+3<nx+4 by omega)];exact bPO
  obtain⟨d1,d2,d3,bkS,bk2,bF4,bF5,bF6,bF7,bF8,rfl,hq⟩:=id L;simp only[go_sem,e3];apply bn0;repeat' first|apply bn1<;>(simp only[go_sem])|fail
  refine O _ _ _ _ _ (.inr rfl) (bBC rfl aA.bH rfl) (h _ _ _ F (by omega) (bIM _ _ _ _ _ L fun j z=>aA.aC (by have:=M j z;omega)) (fun j z=>by have:=M j z;omega) fun id l=> ?_);rw[aA.aC (by omega),x _ (by omega),iI (fun⟨k,f,he⟩=>w.names.av k f (show o k<nx+4 by omega)),G _ (show id<nx+4 by omega)];exact V id l
 ·unfold bmA at h;rw[if_neg B] at h;refine PB rfl fun Q O=> ?_;unfold vJ;have hz:eI bmC=[.isl [],.isl [],.isl [],.isl [],.isl []]:=rfl;by_cases q:cyB c s=true
  ·have t:inB i=false:=by cases hh:inB i;rfl;exact absurd ⟨q,hh⟩ B
   repeat' first| (first|apply bn1|apply bd4 y R|apply bl6 (i:=i) (by omega) (by omega) (by omega))<;>(simp only[go_sem,q,t,boC])|fail
   exact O _ _ _ _ _ (.inr rfl) (bBC rfl aA.bH rfl) (h _ _ _ (fun _=>False) (by omega) bM8 (fun j z=>z.elim) fun id l=>by simp (disch:=omega) only[aA.aC])
  ·have t:cyB c s=false:=by cases hh:cyB c s;rfl;exact absurd hh q
   repeat' first| (first|apply bn1|apply bd4 y R)<;>(simp only[go_sem,t,boC])|fail
   exact O _ _ _ _ _ (.inr rfl) (bBC rfl aA.bH rfl) (h _ _ _ (fun _=>False) (by omega) bM8 (fun j z=>z.elim) fun id l=>by simp (disch:=omega) only[aA.aC])
theorem bMM{c:Cfg}{s:CSt}(a:jO c)(d:beL s)(e:bm3 i):bNW FO [boR (cU c),boR (eI s),boR (eIn i)] .nil 0 fun r b f=>(r.free=true/\bE9 b)/\ ∃cs F,r= .one (.agg cs)/\bIO b cs (bmA c s i) F/\ ∀j,F j->j<f:=by apply aB.tW;refine bLA a d e fun b g r F l boS h d=> ?_;obtain⟨bp6,az9,az2,aAD,aAE,aAA⟩:=bFQ bIM bM5 bM1 boS fun j k=>(h j k).2;exact⟨_,_,_,lY az9,kS,⟨by simp[D.free,DV.cells,aAE],aAD⟩,_,bp6,rfl,az2,aAA⟩
theorem bMN{c:Cfg}{s:CSt}{e f g:List D1}{bp6 bF4 bF5:Nat->Prop}(d:jO c)(k:beL s)(l:bm3 i)(m:bBO H e c bp6)(n:bIO H f s bF4)(o:bLP H g i bF5)
 (h: ∀b a r F,nx<=a->bIO b r (bmA c s i) F->(∀j,F j->nx<=j/\j<a)->(∀j,j<nx->b j=H j)->K (.one (.agg r)) b a):bNW FO [.one (.agg e),.one (.agg f),.one (.agg g)] H nx K:=by
 refine(bMM d k l).bFZ rfl (aI (bzW (bB8 bEJ m) (bzW (bB8 bJ4 n) (bzW (bB8 bML o) bDI)))) ?_
 rintro r b u ⟨cs,F,rfl,boS,p⟩
 obtain⟨q,az9,az2⟩:=bFG bM2 (H:=H) (nx:=nx) boS p
 exact h _ _ _ q (by omega) az9 az2 fun j t=>bFH t
theorem bMH{c:Cfg}{s:CSt}(a:jO c)(b:beL s)(d:bm3 i)(h:K (boR (eI (bmA c s i))) H nx):bNW FO [boR (cU c),boR (eI s),boR (eIn i)] H nx K:=aB.fresh (R:=fun r=>r=boR (eI (bmA c s i))) (aB.forget (bLA a b d fun _ _ r F _ boS _ _=>⟨boR (eI (bmA c s i)),lY (bJ4 _ _ _ _ boS).2.cvL,rfl,rfl,rfl⟩)) rfl fun r e=>e▸h
end
theorem bMY(c:Cfg)(s:CSt)(i:CIn)(z:aZW (2^63) c)(J:w5 (2^63) s)(N:bJB (2^63) i):bNW bJX [boR (cU c),boR (eI s),boR (eIn i)] .nil 0 fun rr _ _=>rr.plain=true/\rr=dB true:=by
 refine cJ.mk Tryz.func9 (by kernel_rfl) bKO rfl fun Q hQ=> ?_;unfold bIR;have r0:=beN 1048576 c (by omega);by_cases h0:aZ9 1048576 c<0
 case pos=>
  repeat' first| (first|apply bn1|apply a3E (x:=c) (a:=1048576) (by omega) z)<;>(simp only[go_sem,eq_true h0])|fail
  all_goals exact hQ _ _ _ _ _ (.inr rfl) rfl ⟨rfl,rfl⟩
 have r1:=beF (aZ9 1048576 c) s (by omega);by_cases h1:a1W (aZ9 1048576 c) s<0
 case pos=>
  repeat' first| (first|apply bn1|apply a3E (x:=c) (a:=1048576) (by omega) z|apply a4H (x:=s) (a:=aZ9 1048576 c) (by omega) J)<;>(simp only[go_sem,eq_false h0,eq_true h1])|fail
  all_goals exact hQ _ _ _ _ _ (.inr rfl) rfl ⟨rfl,rfl⟩
 have r2:=bM9 (a1W (aZ9 1048576 c) s) i (by omega);by_cases v:bJ9 (a1W (aZ9 1048576 c) s) i<0
 case pos=>
  repeat' first| (first|apply bn1|apply a3E (x:=c) (a:=1048576) (by omega) z|apply a4H (x:=s) (a:=aZ9 1048576 c) (by omega) J|apply bK2 (x:=i) (a:=a1W (aZ9 1048576 c) s) (by omega) N)<;>(simp only[go_sem,eq_false h0,eq_false h1,eq_true v])|fail
  all_goals exact hQ _ _ _ _ _ (.inr rfl) rfl ⟨rfl,rfl⟩
 have A:=beC 1048576 c (by omega) (by omega) (by omega);have blY:=bE1 (a:=1048576) (x:=c) (by omega) (by omega);have B:=bdJ (aZ9 1048576 c) s (by omega) (by omega) (by omega);have blH:=bMV (a:=aZ9 1048576 c) (x:=s) (by omega) (by omega);have bp3:=bM3 (a1W (aZ9 1048576 c) s) i (by omega) (by omega) (by omega);have blI:=bNC (a1W (aZ9 1048576 c) s) i (by omega) (by omega);repeat' first| (first|apply bn1|apply a3E (x:=c) (a:=1048576) (by omega) z|apply a4H (x:=s) (a:=aZ9 1048576 c) (by omega) J|apply bK2 (x:=i) (a:=a1W (aZ9 1048576 c) s) (by omega) N|apply bJ5 A|apply bJS B|apply bKC bp3)<;>(simp only[go_sem,eq_false h0,eq_false h1,eq_false v])|fail
 refine bmO A.fit B.fit bp3.fit fun H1 t aj bpR=> ?_;obtain⟨w,hw⟩: ∃w,w=bmA c s i:=⟨_,rfl⟩
 have O:w5 (2^21) w:=by rw[hw];exact bNE
 have u:=O;have zw:bIP w<=2^50:=by rw[hw];exact bNH
 rw[<-hw];simp only[go_sem];generalize aU3:dT 23 [7] _ H1=U;have l:U 0=some ⟨3,1,[cU c]⟩:=by rw[<-aU3,um1 (by omega),bpR 0 (by omega)];rfl
 have m:U 1=some ⟨5,1,[eI s]⟩:=by rw[<-aU3,um1 (by omega),bpR 1 (by omega)];rfl
 have n:U 2=some ⟨3,1,[eIn i]⟩:=by rw[<-aU3,um1 (by omega),bpR 2 (by omega)];rfl
 have kw:U 30=some ⟨5,1,[[.osl 0 0 0 0 0,.osl 0 0 0 0 0,.osl 0 0 0 0 0,.osl 0 0 0 0 0,.osl 0 0 0 0 0]]⟩:=by rw[<-aU3];exact aH6 (k:=7)
 clear aU3 bpR;have bGD: ∀(G:aA) (j:Nat),j≠30->msk 23 [7] G j=G j:=fun G j h=>mk1 (by omega);have blM:=fun G=>bGD G 0 (by omega);have S:=fun G=>bGD G 1 (by omega);have aHC:=fun G=>bGD G 2 (by omega);have d:bQ t [0,1,2,30]:=AM.apart (by simp<;>omega) (by simp<;>omega);simp only[bQ,eZ] at d;(try simp only[go_sem,boC,l,m,n,kw,blM,S,aHC,d,boC]);repeat' first| (first|apply bn1|refine bD4 A (fun H2 q aUU bp6 ak aEU bqC M=> ?_))<;>(simp only[go_sem,boC,l,m,n,kw,blM,S,aHC,d,boC])|fail
 obtain⟨d1,d2,d3,al,an,ao,rfl,bqB⟩:=id aEU;refine⟨rfl,by simp,?_⟩;replace l:=(M 0 (by omega)).trans ((aA.aC (by omega)).trans l);replace m:=(M 1 (by omega)).trans ((aA.aC (by omega)).trans m);replace n:=(M 2 (by omega)).trans ((aA.aC (by omega)).trans n);have kw:=(M 30 (by omega)).trans aA.bH;clear M d;have d:bQ q [0,1,2,30,t+2]:=AM.apart (by simp<;>omega) (by simp<;>omega);simp only[bQ,eZ] at d;apply bn0;repeat' first| (first|apply bn1|refine bKG B (fun H3 p aER bF4 aq bGE C bpS=> ?_))<;>(simp only[go_sem,l,m,n,kw,d,boC])|fail
 obtain⟨e1,e2,e3,e4,e5,ar,au,aw,ax,ay,rfl,q1⟩:=id bGE;refine⟨rfl,by simp,?_⟩;replace l:=(bpS 0 (by omega)).trans ((aA.aC (by omega)).trans l);replace m:=(bpS 1 (by omega)).trans ((aA.aC (by omega)).trans m);replace n:=(bpS 2 (by omega)).trans ((aA.aC (by omega)).trans n);replace kw:=(bpS 30 (by omega)).trans ((aA.aC (by omega)).trans kw);have L:=(bpS (t+2) (by omega)).trans aA.bH;replace aEU:=bAQ _ H3 _ _ _ aEU fun j b=>(bpS j (by have:=bqC j b;omega)).trans (aA.aC (by have:=bqC j b;omega));clear bpS d;have d:bQ p [0,1,2,30,t+2,q+2]:=AM.apart (by simp<;>omega) (by simp<;>omega);simp only[bQ,eZ] at d;apply bn0;repeat' first| (first|apply bn1|refine bLC bp3 (fun bqL e aHE bF5 az bGI E bpT=> ?_))<;>(simp only[go_sem,l,m,n,kw,L,d,boC])|fail
 obtain⟨bpR,M,bpS,ba,bb,bc,rfl,q2⟩:=id bGI;refine⟨rfl,by simp,?_⟩;replace l:=(bpT 0 (by omega)).trans ((aA.aC (by omega)).trans l);replace m:=(bpT 1 (by omega)).trans ((aA.aC (by omega)).trans m);replace n:=(bpT 2 (by omega)).trans ((aA.aC (by omega)).trans n);replace kw:=(bpT 30 (by omega)).trans ((aA.aC (by omega)).trans kw);replace L:=(bpT (t+2) (by omega)).trans ((aA.aC (by omega)).trans L);have I:=(bpT (q+2) (by omega)).trans aA.bH;replace aEU:=bAQ _ bqL _ _ _ aEU fun j b=>(bpT j (by have:=bqC j b;omega)).trans (aA.aC (by have:=bqC j b;omega));replace bGE:=bIM _ bqL _ _ _ bGE fun j b=>(bpT j (by have:=C j b;omega)).trans (aA.aC (by have:=C j b;omega));clear bpT d;have d:bQ e [0,1,2,30,t+2,q+2,p+2]:=AM.apart (by simp<;>omega) (by simp<;>omega);simp only[bQ,eZ] at d;apply bn0;repeat' first| (first|apply bn1| (refine bMN A.fit B.fit bp3.fit (by refine bAQ _ _ _ _ _ aEU fun j b=> ?_;have:=bqC j b;rw[aA.aC (by omega)]) (by refine bIM _ _ _ _ _ bGE fun j b=> ?_;have:=C j b;rw[aA.aC (by omega)]) (by refine bKN _ _ _ _ _ bGI fun j b=> ?_;have:=E j b;rw[aA.aC (by omega)]) (fun aZJ ad R F bd P g bpU=> ?_)))<;>(simp only[go_sem,l,m,n,kw,L,I,d,boC])|fail
 rw[<-hw] at P;obtain⟨b1,b2,boX,boY,boZ,bNQ,bNR,bNS,bNT,bNU,rfl,qr⟩:=id P;refine⟨rfl,by simp,?_⟩;generalize hY:aA.set aZJ (e+4) _=Y;have ym: ∀j,j≠e+4->Y j=aZJ j:=fun j h=>by rw[<-hY];exact aA.aC h
 have r:Y (e+4)=some ⟨5,1,[[b1,b2,boX,boY,boZ]]⟩:=by rw[<-hY];exact aA.bH
 have y: ∀j,j<e->j≠p+2->Y j=bqL j:=fun j h v=>(ym j (by omega)).trans ((bpU j (by omega)).trans (aA.aC v));replace l:=(y 0 (by omega) (by omega)).trans l;replace m:=(y 1 (by omega) (by omega)).trans m;replace n:=(y 2 (by omega) (by omega)).trans n;replace kw:=(y 30 (by omega) (by omega)).trans kw;replace L:=(y (t+2) (by omega) (by omega)).trans L;replace I:=(y (q+2) (by omega) (by omega)).trans I;have bpZ:=(ym (p+2) (by omega)).trans ((bpU (p+2) (by omega)).trans aA.bH);replace aEU:=bAQ _ Y _ _ _ aEU fun j b=>y j (by have:=bqC j b;omega) (by have:=bqC j b;omega);replace bGE:=bIM _ Y _ _ _ bGE fun j b=>y j (by have:=C j b;omega) (by have:=C j b;omega);replace bGI:=bKN _ Y _ _ _ bGI fun j b=>y j (by have:=E j b;omega) (by have:=E j b;omega);replace P:=bIM _ Y _ _ _ P fun j b=>ym j (by have:=g j b;omega);clear hY ym y bpU d;have d:bQ ad [0,1,2,30,t+2,q+2,p+2,e+4]:=AM.apart (by simp<;>omega) (by simp<;>omega);simp only[bQ,eZ] at d;apply bn0;repeat' first| (first|apply bn1|apply bKL u P|apply bJ5 A|apply bEY A aEU|apply bJS B|apply bKL B bGE|apply bKC bp3|apply bNA bp3 bGI| (refine bC5 (F:=bp6) (fun j b=>by have:=bqC j b;omega) aEU A (by omega) (by omega) (fun aIJ ae bf aU0 bpV=> ?_)))<;>(simp only[go_sem,l,m,n,kw,L,I,bpZ,r,d,boC])|fail
 have bGP: ∀j,j<t\/q<=j->¬bp6 j:=fun j h v=>by have:=bqC j v;omega
 replace l:=(bpV 0 (by omega) (bGP _ (by omega))).trans l;replace m:=(bpV 1 (by omega) (bGP _ (by omega))).trans m;replace n:=(bpV 2 (by omega) (bGP _ (by omega))).trans n;replace kw:=(bpV 30 (by omega) (bGP _ (by omega))).trans kw;replace I:=(bpV (q+2) (by omega) (bGP _ (by omega))).trans I;replace bpZ:=(bpV (p+2) (by omega) (bGP _ (by omega))).trans bpZ;replace r:=(bpV (e+4) (by omega) (bGP _ (by omega))).trans r;replace bGE:=bIM _ aIJ _ _ _ bGE fun j b=>bpV j (by have:=C j b;omega) (bGP j (by have:=C j b;omega));replace bGI:=bKN _ aIJ _ _ _ bGI fun j b=>bpV j (by have:=E j b;omega) (bGP j (by have:=E j b;omega));replace P:=bIM _ aIJ _ _ _ P fun j b=>bpV j (by have:=g j b;omega) (bGP j (by have:=g j b;omega));clear bpV bGP aU0 aEU d;have d:bQ ae [0,1,2,30,q+2,p+2,e+4]:=AM.apart (by simp<;>omega) (by simp<;>omega);simp only[bQ,eZ] at d;(try simp only[go_sem,boC,l,m,n,kw,I,bpZ,r,d,boC]);repeat' first| (first|apply bn1| (refine bJ8 (F:=bF4) (fun j b=>by have:=C j b;omega) bGE B (by omega) (by omega) (fun bGQ af bg bpN bpW=> ?_)))<;>(simp only[go_sem,boC,l,m,n,kw,I,bpZ,r,d,boC])|fail
 have bGP: ∀j,j<q\/p<=j->¬bF4 j:=fun j h v=>by have:=C j v;omega
 replace l:=(bpW 0 (by omega) (bGP _ (by omega))).trans l;replace m:=(bpW 1 (by omega) (bGP _ (by omega))).trans m;replace n:=(bpW 2 (by omega) (bGP _ (by omega))).trans n;replace kw:=(bpW 30 (by omega) (bGP _ (by omega))).trans kw;replace bpZ:=(bpW (p+2) (by omega) (bGP _ (by omega))).trans bpZ;replace r:=(bpW (e+4) (by omega) (bGP _ (by omega))).trans r;replace bGI:=bKN _ bGQ _ _ _ bGI fun j b=>bpW j (by have:=E j b;omega) (bGP j (by have:=E j b;omega));replace P:=bIM _ bGQ _ _ _ P fun j b=>bpW j (by have:=g j b;omega) (bGP j (by have:=g j b;omega));clear bpW bGP bpN bGE d;have d:bQ af [0,1,2,30,p+2,e+4]:=AM.apart (by simp<;>omega) (by simp<;>omega);simp only[bQ,eZ] at d;(try simp only[go_sem,boC,l,m,n,kw,bpZ,r,d,boC]);repeat' first| (first|apply bn1|apply bpK (by omega)| (refine bL2 (F:=bF5) (fun j b=>by have:=E j b;omega) bGI bp3 (by omega) (by omega) (fun bIG ag bh bpO bpX=> ?_)))<;>(simp only[go_sem,boC,l,m,n,kw,bpZ,r,d,boC])|fail
 have bGP: ∀j,j<p\/e<=j->¬bF5 j:=fun j h v=>by have:=E j v;omega
 replace l:=(bpX 0 (by omega) (bGP _ (by omega))).trans l;replace m:=(bpX 1 (by omega) (bGP _ (by omega))).trans m;replace n:=(bpX 2 (by omega) (bGP _ (by omega))).trans n;replace kw:=(bpX 30 (by omega) (bGP _ (by omega))).trans kw;replace r:=(bpX (e+4) (by omega) (bGP _ (by omega))).trans r;replace P:=bIM _ bIG _ _ _ P fun j b=>bpX j (by have:=g j b;omega) (bGP j (by have:=g j b;omega));clear bpX bGP bpO bGI d;have d:bQ ag [0,1,2,30,e+4]:=AM.apart (by simp<;>omega) (by simp<;>omega);simp only[bQ,eZ] at d;(try simp only[go_sem,boC,l,m,n,kw,r,d,boC]);repeat' first| (first|apply bn1|apply bKL u P| (refine bJ8 (F:=F) (fun j b=>by have:=g j b;omega) P u (by omega) (by omega) (fun bIH f bj tw bkR=> ?_)))<;>(simp only[go_sem,boC,l,m,n,kw,r,d,boC])|fail
 have bGP: ∀j,j<e+5->¬F j:=fun j h v=>by have:=g j v;omega
 replace l:=(bkR 0 (by omega) (bGP _ (by omega))).trans l;replace m:=(bkR 1 (by omega) (bGP _ (by omega))).trans m;replace n:=(bkR 2 (by omega) (bGP _ (by omega))).trans n;replace kw:=(bkR 30 (by omega) (bGP _ (by omega))).trans kw;replace r:=(bkR (e+4) (by omega) (bGP _ (by omega))).trans r;clear bkR bGP P d;have d:bQ f [0,1,2,30,e+4]:=AM.apart (by simp<;>omega) (by simp<;>omega);simp only[bQ,eZ] at d;(try simp only[go_sem,boC,l,m,n,kw,r,d,boC]);repeat' first| (first|apply bn1|apply bK9 u (by omega) (by omega) tw)<;>(simp only[go_sem,boC,l,m,n,kw,r,d,boC])|apply bn3 (by omega)|fail
 have ah: ∀{H:aA} {nx:Nat} {K:bNX},K (boR (eI w)) H nx->bNW FO [boR (cU c),boR (eI s),boR (eIn i)] H nx K:=fun h=>bMH A.fit B.fit bp3.fit (by rw[<-hw];exact h);have blM: ∀G:aA,msk (f+10) [7] G 0=G 0:=fun G=>mk1 (by omega);have S: ∀G:aA,msk (f+10) [7] G 1=G 1:=fun G=>mk1 (by omega);have aHC: ∀G:aA,msk (f+10) [7] G 2=G 2:=fun G=>mk1 (by omega);have T: ∀o,dT (f+10) [7] (aA.set bIH (f+17) o) (msk (f+10) [7] bIH)=aA.set bIH (f+17) o:=fun o=>bNN;have V: ∀o,msk (f+10) [7] (aA.set bIH (f+17) o)=msk (f+10) [7] bIH:=fun o=>PK (i:=7) (by simp);have W: ∀o,(aA.set bIH (f+17) o) 0=some ⟨3,1,[cU c]⟩:=fun o=>(aA.aC (by omega)).trans l;have X: ∀o,(aA.set bIH (f+17) o) 1=some ⟨5,1,[eI s]⟩:=fun o=>(aA.aC (by omega)).trans m;have Z: ∀o,(aA.set bIH (f+17) o) 2=some ⟨3,1,[eIn i]⟩:=fun o=>(aA.aC (by omega)).trans n;have aa: ∀o,(aA.set bIH (f+17) o) 30=some ⟨5,1,[eI w]⟩:=fun o=>(aA.aC (by omega)).trans kw;have ab: ∀o,(aA.set bIH (f+17) o) (e+4)=some ⟨5,1,[[b1,b2,boX,boY,boZ]]⟩:=fun o=>(aA.aC (by omega)).trans r;have ai:=fun o=>bIM _ (aA.set bIH (f+17) o) _ _ _ tw fun j b=>aA.aC (by have:=g j b;omega);(try simp only[go_sem,boC,l,m,n,kw,r,blM,S,aHC,T,V,W,X,Z,aa,ab,d,boC]);repeat' first| (first|apply bn1|apply bJ5 A|apply bJS B|apply bKC bp3|apply ah|apply a9P u|apply bK9 u (by omega) (by omega) (ai _))<;>(simp only[go_sem,boC,l,m,n,kw,r,blM,S,aHC,T,V,W,X,Z,aa,ab,d,boC])|apply bn3 (by omega)|fail
 all_goals exact hQ _ _ _ _ _ (.inr rfl) rfl ⟨rfl,rfl⟩
end Go.Proofs.YtlncecohbakleaaGreat
