/- Texts laid together by a program: rules, contracts and the walk that leads to the law. -/
import Derived.Test.YtlncecohbakleaaGreatPS19
import Derived.Test.YtlncecohbakleaaGreatPS23
import Derived.Test.YtlncecohbakleaaGreatPS24
import Derived.Test.YtlncecohbakleaaGreatPS22
set_option linter.unusedVariables false
set_option linter.unusedSimpArgs false
set_option linter.unusedSectionVars false
set_option maxRecDepth 100000
set_option maxHeartbeats 8000000
namespace Go.AM
def bmC:CSt:=⟨[],[],[],[],[]⟩
def inB(i:CIn):Bool:=decide (i.ready.length=3/\i.n9.length=4/\i.send.length=3)
theorem bm2{i:CIn}:inB i=true↔vZ i:=decide_eq_true_iff
noncomputable def bmA(c:Cfg)(s:CSt)(i:CIn):CSt:=if cyB c s=true/\inB i=true then vF c i s else bmC
noncomputable def hV(c:Cfg)(s:CSt)(l:List CIn):Bool:=cyB c s&&(decide (l.length<=300)&&l.all inB)
noncomputable def hE(c:Cfg)(s:CSt)(l:List CIn):CSt:=if hV c s l=true then sQ c s l else bmC
variable{c:Cfg}{s:CSt}{l:List CIn}
theorem hM:hV c s l=true↔cyB c s=true/\l.length<=300/\ ∀i∈l,vZ i:=by unfold hV;simp only[q7,decide_eq_true_eq,w2,bm2]
structure g4(l:List CIn):Prop where
 len:l.length<2^21
 all: ∀i∈l,bm3 i
def bwV(s:CSt):Option Mic->List Ev
 |none=>[]
 |some m=>y0 s m
def LOE(c:Cfg)(f:CSt->Nat->Option Mic)(l:List Nat)(s:CSt)(E:List Ev)(S:CSt)(T:List Ev):Prop:=dR c s (vE c f s l)=S/\E++iP c s (vE c f s l)=T
theorem LOE.next{f:CSt->Nat->Option Mic}{S:CSt}{k:Nat}{l:List Nat}{E T:List Ev}(h:LOE c f (k::l) s E S T):LOE c f l (atS c s (f s k)) (E++bwV s (f s k)) S T:=by
 unfold LOE at h
 cases a:f s k with
 |none=>rw[GZ a] at h;exact⟨h.1,by rw[bwV,bq6];exact h.2⟩
 |some m=>rw[NH a] at h;exact⟨h.1,by rw[C0];exact h.2⟩
theorem LOE.none{c:Cfg}{f:CSt->Nat->Option Mic}{s S:CSt}{k:Nat}{l:List Nat}{E T:List Ev}(h:LOE c f (k::l) s E S T)(a:f s k=none):LOE c f l s E S T:=by have:=h.next;rw[a,bwV,bq6] at this;exact this
theorem LOE.nil{f:CSt->Nat->Option Mic}{S:CSt}{E T:List Ev}(h:LOE c f [] s E S T):s=S/\E=T:=⟨h.1,by rw[<-h.2];exact(bq6 E).symm⟩
theorem bgJ.swap{H G:aA}{n e p io b:Nat}{f:Nat->Nat}{g:List D1}(h:bgJ (fun id=>id<p\/id=io) H n f s g)(i: ∀id,id<n->id≠io->G id=H id)(k:n<=b)(d:b<e):bgJ (fun id=>id<p\/id=b) G e f s g:=
 ⟨h.rep.frame fun j c=>i _ (h.names.lt j c) fun he=>h.names.av j c (.inr he),⟨h.names.inj,fun j c=>by have:=h.names.lt j c;omega,fun j c d=>by
   rcases d with d|d
   ·exact h.names.av j c (.inl d)
   ·have:=h.names.lt j c;omega⟩,fun id a=>by
   rcases a with a|a
   ·have:=h.x id (.inl a);omega
   ·omega⟩
theorem bgJ.add{X:Nat->Prop}{H G:aA}{n e b:Nat}{f:Nat->Nat}{g:List D1}(h:bgJ X H n f s g)(i: ∀id,id<n->G id=H id)(k:n<=b)(d:b<e):bgJ (fun id=>X id\/id=b) G e f s g:=
 ⟨h.rep.frame fun j c=>i _ (h.names.lt j c),⟨h.names.inj,fun j c=>by have:=h.names.lt j c;omega,fun j c d=>by
   rcases d with d|d
   ·exact h.names.av j c d
   ·have:=h.names.lt j c;omega⟩,fun id a=>by
   rcases a with a|a
   ·have:=h.x id a;omega
   ·omega⟩
theorem vZ.fit{i:CIn}(h:vZ i):bm3 i:=by obtain⟨a,b,c⟩:=h;exact⟨by omega,by omega,by omega⟩
theorem bM8{H:aA}:bIO H [.osl 0 0 0 0 0,.osl 0 0 0 0 0,.osl 0 0 0 0 0,.osl 0 0 0 0 0,.osl 0 0 0 0 0] bmC fun _=>False:=by have h: ∀{α:Type} {n:Nat} {R:bAT α},SlS n R H (.osl 0 0 0 0 0) [] fun _=>False:=.inl ⟨rfl,0,0,0,rfl⟩;exact⟨_,_,_,_,_,fun _=>False,fun _=>False,fun _=>False,fun _=>False,fun _=>False,rfl,⟨h,h,h,h,h,fun j h=>h,fun j h=>h,fun j h=>h,fun j h=>h,fun j h=>h,fun j h=>h.elim,fun j h=>h.elim,fun j h=>h.elim,fun j h=>h.elim,fun j h=>h.elim,fun j h=>h.elim,fun j h=>h.elim,fun j h=>h.elim,fun j h=>h.elim,fun j h=>h.elim⟩⟩
theorem beL.len{s:CSt}(h:beL s):w5 (2^21) s:=by
 refine⟨⟨h.w,h.h⟩,⟨h.pl,fun p hp=> ?_⟩,⟨h.sl,fun v b=> ?_⟩,h.t,h.td⟩;·obtain⟨k,a,rfl⟩:=List.getElem_of_mem hp;have:=h.port k;rw[show aF s k=s.bM[k] by simp[aF,List.getD,a]] at this;exact this
 ·obtain⟨k,a,rfl⟩:=List.getElem_of_mem b;have:=h.slv k;rw[show aL s k=s.dD[k] by simp[aL,List.getD,a]] at this;exact⟨this.1,this.2.1,this.2.2⟩
theorem bNG:w5 (2^21) bmC:=⟨⟨by decide,by decide⟩,⟨by decide,fun x a=>by cases a⟩,⟨by decide,fun x a=>by cases a⟩,⟨by decide,fun x a=>by cases a⟩⟩
theorem COk.len{c:Cfg}{s:CSt}(a:aQ c)(b:COk c s):w5 (2^21) s:=beL.len ((b.base a).bj4.fit).1
theorem i3:w5 (2^21) (hE c s l):=by
 unfold hE;split;·rename_i h;obtain⟨a,b⟩:=bmR.1 (hM.1 h).1;exact COk.len a (afM a b).1
 ·exact bNG
theorem COk.z(b:aQ c)(a:COk c s):bIP s<=2^50:=bMT (a.len b) (by rw[a.pl];omega) (by rw[a.sl];omega)
theorem bNM:bIP bmC<=2^50:=by decide
theorem i4:bIP (hE c s l)<=2^50:=by
 unfold hE;split;·rename_i h;obtain⟨a,b⟩:=bmR.1 (hM.1 h).1;exact COk.z a (afM a b).1
 ·exact bNM
theorem bJB.fit{i:CIn}(h:bJB (2^21) i):bm3 i:=⟨h.1,h.2.1,h.2.2⟩
theorem hK(h:aZT (bJB (2^21)) (2^21) l):g4 l:=⟨h.1,fun i a=>(h.2 i a).fit⟩
end Go.AM
namespace Go.Proofs.YtlncecohbakleaaGreat
open Go Go.AM
attribute [local irreducible] aM wv aB vd wvH
def c1:AC:= (boG [f5 3 0,f5 4 1,dO 6 boD] [2,3,4] (boG [dO 7 (ki 1048576)] [2,3,4,7] (boG [f8 17 3 3,RM 18 7,f6 19 a1J [17,18],RM 7 19] [2,3,4,7] (.seq (boG [RM 20 7,dI 21 .lss 20 (ki 0)] [2,3,4,7,21] (.cond 21 (boG [dO 6 boE] [6] .ret) .skip)) (boG [f8 22 5 4,RM 23 7,f6 24 a0E [22,23],RM 7 24] [2,3,4,7] (.seq (boG [RM 25 7,dI 26 .lss 25 (ki 0)] [2,3,4,7,26] (.cond 26 (boG [dO 6 boE] [6] .ret) .skip)) (boG [RM 27 2,RM 28 7,f6 29 bN9 [27,28],RM 7 29] [2,3,4,7] (.seq (boG [RM 30 7,dI 31 .lss 30 (ki 0)] [2,3,4,31] (.cond 31 (boG [dO 6 boE] [6] .ret) .skip)) (.seq (.region [boF 32 (.load 3 true 3) [7] [] false 0,boF 34 (.load 5 true 4) [7] [] true 2,RM 36 2 4,f7 8 [OZ,OZ,OZ,OZ,OZ] 7,boF 33 (.call aZL [32]) [7] [2] false 1,boF 35 (.call B7 [34]) [7] [] false 3,boF 37 (.call bN2 [36]) [7] [] false 5,boF 38 (.call bOQ [33,35,37]) [7] [] false 6,g0 5 true 8 38 8] 9 [2,3,4,8]) (boG [f8 39 3 3,f6 40 aZL [39],f7 9 [OZ,OZ,OZ],g0 3 true 9 40] [2,3,4,8,9] (boG [f8 41 5 4,f6 42 B7 [41],f7 10 [OZ,OZ,OZ,OZ,OZ],g0 5 true 10 42] [2,3,4,8,9,10] (boG [RM 43 2,f6 44 bN2 [43],RM 11 44] [2,3,4,8,9,10,11] (boG [f8 45 3 9,f8 46 5 10,RM 47 11,f6 48 tV [45,46,47],f7 12 [OZ,OZ,OZ,OZ,OZ],g0 5 true 12 48] [2,3,4,8,9,10,11,12] (.seq (boG [f8 49 5 12,f8 50 5 8,f6 51 a0D [49,50],f4 52 51] [2,3,4,8,9,10,11,12,52] (.cond 52 (boG [dO 6 boD] [6] .ret) .skip)) (.seq (boG [boF 53 (.load 3 true 9) [] [] true,f8 54 3 3,boF 55 (.call aZL [54]) [] [0] false,f6 56 a1B [53,55],f4 57 56] [2,3,4,8,9,10,11,12,57] (.cond 57 (boG [dO 6 boD] [6] .ret) .skip)) (.seq (boG [boF 58 (.load 5 true 10) [] [] true,f8 59 5 4,boF 60 (.call B7 [59]) [] [0] false,f6 61 a0D [58,60],f4 62 61] [2,3,4,8,9,10,11,12,62] (.cond 62 (boG [dO 6 boD] [6] .ret) .skip)) (.seq (boG [RM 63 11,RM 64 2,f6 65 bN2 [64],f6 66 bN3 [63,65],f4 67 66] [2,3,4,8,9,10,11,12,67] (.cond 67 (boG [dO 6 boD] [6] .ret) .skip)) (boG [dO 13 (ki 1)] [2,3,4,8,9,10,11,12,13] (boG [f8 68 3 9,RM 69 13,f6 70 bAD [68,69],RM 13 70] [2,3,4,8,10,11,12,13] (boG [f8 71 5 10,RM 72 13,f6 73 bI0 [71,72],RM 13 73] [2,3,4,8,11,12,13] (boG [RM 74 11,RM 75 13,f6 76 bN5 [74,75],RM 13 76] [2,3,4,8,12,13] (.seq (boG [RM 77 13,dI 78 .lss 77 (ki 0),RM 79 78,GQ 80 (.load 5 true 12) 79 false,GQ 81 (.load 5 true 8) 79 false,GQ 82 (.call a0D [80,81]) 79 false,hP 83 82 79 false,f3 84 79 boE 83] [2,3,4,8,12,84] (.cond 84 (boG [dO 6 boD] [6] .ret) .skip)) (boG [dO 14 (ki 1)] [2,3,4,8,12,14] (boG [f8 85 5 12,RM 86 14,f6 87 bI0 [85,86],RM 14 87] [2,3,4,8,12,14] (boG [dO 15 (ki 1)] [2,3,4,8,12,14,15] (boG [f8 88 5 12,RM 89 15,f6 90 bIQ [88,89],RM 15 90] [2,3,4,8,12,14,15] (.seq (boG [RM 91 15,dI 92 .lss 91 (ki 0)] [2,3,4,8,12,14,15,92] (.cond 92 (boG [dO 6 boD] [6] .ret) .skip)) (.seq (boG [RM 93 15,RM 94 14,dI 95 .neq 93 94] [2,3,4,8,12,14,95] (.cond 95 (boG [dO 6 boD] [6] .ret) .skip)) (.seq (.region [boF 96 (.load 3 true 3) [7] [] false 0,boF 98 (.load 5 true 4) [7] [] true 2,RM 100 2 4,f7 16 [OZ,OZ,OZ,OZ,OZ] 7,boF 97 (.call aZL [96]) [7] [2] false 1,boF 99 (.call B7 [98]) [7] [] false 3,boF 101 (.call bN2 [100]) [7] [] false 5,boF 102 (.call tV [97,99,101]) [7] [] false 6,g0 5 true 16 102 8] 9 [8,12,14,16]) (.seq (boG [f8 103 5 16,f8 104 5 8,f6 105 a0D [103,104],f4 106 105] [12,14,106] (.cond 106 (boG [dO 6 boD] [6] .ret) .skip)) (boG [dO 15 (ki 1)] [12,14,15] (boG [f8 107 5 12,RM 108 15,f6 109 bIQ [107,108],RM 15 109] [14,15] (.seq (boG [RM 110 15,dI 111 .lss 110 (ki 0)] [14,15,111] (.cond 111 (boG [dO 6 boD] [6] .ret) .skip)) (.seq (boG [RM 112 15,RM 113 14,dI 114 .neq 112 113] [114] (.cond 114 (boG [dO 6 boD] [6] .ret) .skip)) (boG [dO 6 boE] [6] .ret)))))))))))))))))))))))))))))))))))
def c4:List aW:=[.tm 6]
theorem e6:aO bNV Tryz.f11 (bnD c1)=some (c1,c4):=by kernel_rfl
section
variable{H:aA}{nx:Nat}{K:bNX}
end
def c3:AC:= (boG [f5 3 0,f5 4 1,f7 6 [OZ,OZ,OZ,OZ,OZ]] [2,3,4,6] (.seq (boG [f8 9 3 3,f8 10 5 4,f6 11 aI5 [9,10],f4 12 11,RM 13 12,hG 14 2 13 false,GQ 15 (.len false 14) 13 false,hO 16 .gtr 15 (ki 300) 13 false,f3 17 13 boE 16,RM 18 17,hG 19 2 18 false,GQ 20 (.call bOR [19]) 18 false,hP 21 20 18 false,f3 22 18 boE 21] [2,3,4,6,22] (.cond 22 (boG [rq 23 (.build [OZ,OZ,OZ,OZ,OZ] []),g0 5 true 6 23] [6] .ret) .skip)) (boG [f8 24 5 4,f6 25 bg9 [24],f7 7 [OZ,OZ,OZ,OZ,OZ],g0 5 true 7 25] [2,3,6,7] (.seq (boG [dO 8 (ki 0)] [2,3,6,7,8] (.block 0 (.loop (.seq (boG [RM 26 8,RM 27 2,f1 28 27,dI 29 .lss 26 28] [2,3,6,7,8,29] (.cond 29 .skip (.exit 0))) (.seq (.block 1 (m2 [f8 32 3 3,f8 33 5 7,RM 34 2,RM 35 8,e0 36 3 34 35,f8 37 3 36,f6 38 bgZ [32,33,37],g0 5 true 7 38] [2,3,6,7,8])) (m2 [RM 30 8,dI 31 .add 30 (ki 1),RM 8 31] [2,3,6,7,8])))))) (boG [f8 39 5 7,f6 40 bg9 [39],g0 5 true 6 40] [6] .ret)))))
def g5:List aW:=[.cell 6 5 true]
theorem h4:aO bNV Tryz.f30 (bnD c3)=some (c3,g5):=by kernel_rfl
def bl8:AC:= (boG [f5 1 0,dO 2 boD] [1] (boG [RF 3 0 1,RL 4 3,f1 5 4,dI 6 .eql 5 (ki 3),RM 7 6,g9 8 1 1 7 true,hD 9 8 7 true,GQ 10 (.len false 9) 7 true,hO 11 .eql 10 (ki 4) 7 true,f3 12 7 11 boD,RM 13 12,g9 14 2 1 13 true,hD 15 14 13 true,GQ 16 (.len false 15) 13 true,hO 17 .eql 16 (ki 3) 13 true,f3 18 13 17 boD,RM 2 18] [2] .ret))
def bmI:List aW:=[.tm 2]
theorem bmW:aO bNV Tryz.f49 (bnD bl8)=some (bl8,bmI):=by kernel_rfl
def c5:AC:= (boG [dO 2 boD] [0] (.seq (boG [dO 3 (ki 0)] [0,3] (.block 0 (.loop (.seq (boG [RM 4 3,RM 5 0,f1 6 5,dI 7 .lss 4 6] [0,3,7] (.cond 7 .skip (.exit 0))) (.seq (.block 1 (boG [RM 10 0,RM 11 3,e0 12 3 10 11,f8 13 3 12,f6 14 bl1 [13],f4 15 14] [0,3,15] (.cond 15 (boG [dO 2 boD] [2] .ret) .skip))) (m2 [RM 8 3,dI 9 .add 8 (ki 1),RM 3 9] [0,3])))))) (boG [dO 2 boE] [2] .ret)))
def hI:List aW:=[.tm 2]
theorem h6:aO bNV Tryz.f74 (bnD c5)=some (c5,hI):=by kernel_rfl
section
variable{H:aA}{nx:Nat}{K:bNX}
theorem bl6{i:CIn}(k:i.ready.length<2^21)(l:i.n9.length<2^21)(m:i.send.length<2^21)(h:K (dB (inB i)) H nx):bNW uJ [boR (eIn i)] H nx K:=by
 refine aB.pure (args0:=[boR (eIn i)]) (R:=fun f=>f=dB (inB i)) ?_ rfl (aI ⟨aE rfl,trivial⟩) (fun r g=>g▸h);clear h;refine XL rfl fun Q c=> ?_;unfold CT;by_cases b:i.ready.length=3
 ·by_cases d:i.n9.length=4
  ·by_cases e:i.send.length=3
   ·have a:inB i=true:=decide_eq_true ⟨b,d,e⟩;repeat' first| (first|apply bn1|apply bpJ (by omega))<;>(simp only[go_sem,b,d,e])|fail
    all_goals exact aZ c _ rfl rfl (congrArg dB a.symm)
   ·have a:inB i=false:=decide_eq_false fun h=>e h.2.2;have j:decide ((i.send.length:Int)=3)=false:=decide_eq_false (by omega);repeat' first| (first|apply bn1|apply bpJ (by omega))<;>(simp only[go_sem,b,d,j])|fail
    all_goals first|exact aZ c _ rfl rfl (congrArg dB a.symm)|omega
  ·have a:inB i=false:=decide_eq_false fun h=>d h.2.1;repeat' first| (first|apply bn1|apply bpJ (by omega)|apply bpK (by omega))<;>(simp only[go_sem,b])|fail
   all_goals first|exact aZ c _ rfl rfl (congrArg dB a.symm)|omega
 ·have a:inB i=false:=decide_eq_false fun h=>b h.1;repeat' first| (first|apply bn1|apply bpK (by omega))<;>(simp only[go_sem])|fail
  all_goals first|exact aZ c _ rfl rfl (congrArg dB a.symm)|omega
theorem bl2{i:CIn}(k:i.ready.length<2^21)(l:i.n9.length<2^21)(m:i.send.length<2^21)(h:K (dB (inB i)) H nx):bNW bl1 [boR (eIn i)] H nx K:=by
 refine aB.pure (args0:=[boR (eIn i)]) (R:=fun f=>f=dB (inB i)) ?_ rfl (aI ⟨aE rfl,trivial⟩) (fun r g=>g▸h);clear h;refine aN.mk Tryz.func49 (by kernel_rfl) bmW rfl fun Q c=> ?_;unfold bl8;by_cases b:i.ready.length=3
 ·by_cases d:i.n9.length=4
  ·by_cases e:i.send.length=3
   ·have a:inB i=true:=decide_eq_true ⟨b,d,e⟩;repeat' first| (first|apply bn1|apply bpJ (by omega))<;>(simp only[go_sem,b,d,e])|fail
    all_goals exact aZ c _ rfl rfl (congrArg dB a.symm)
   ·have a:inB i=false:=decide_eq_false fun h=>e h.2.2;have j:decide ((i.send.length:Int)=3)=false:=decide_eq_false (by omega);repeat' first| (first|apply bn1|apply bpJ (by omega))<;>(simp only[go_sem,b,d,j])|fail
    all_goals first|exact aZ c _ rfl rfl (congrArg dB a.symm)|omega
  ·have a:inB i=false:=decide_eq_false fun h=>d h.2.1;repeat' first| (first|apply bn1|apply bpJ (by omega)|apply bpK (by omega))<;>(simp only[go_sem,b])|fail
   all_goals first|exact aZ c _ rfl rfl (congrArg dB a.symm)|omega
 ·have a:inB i=false:=decide_eq_false fun h=>b h.1;repeat' first| (first|apply bn1|apply bpK (by omega))<;>(simp only[go_sem])|fail
  all_goals first|exact aZ c _ rfl rfl (congrArg dB a.symm)|omega
theorem e8{i:CIn}(a:bm3 i)(h:K (dB (!inB i)) H nx):bNW tQ [boR (eIn i)] H nx K:=by
 refine aB.pure (args0:=[boR (eIn i)]) (R:=fun b=>b=dB (!inB i)) ?_ rfl (aI ⟨aE rfl,trivial⟩) (fun r c=>c▸h);clear h;refine RR rfl fun Q d=> ?_;unfold yG;repeat' first| (first|apply bn1|apply bl6 (i:=i) a.r a.t a.s)<;>(simp only[go_sem])|fail
 all_goals first|with_reducible refine aZ d _ rfl rfl ?_|skip
 all_goals first|exact pD (by omega)|exact q9 (by omega)|exact j7 (by omega)|rfl
variable{c:Cfg}{s:CSt}{l:List CIn}
theorem hN(a:jO c)(k:beL s)(n:g4 l)(h:K (dB (hV c s l)) H nx):bNW zH [boR (cU c),boR (eI s),dS (l.map eIn)] H nx K:=by
 refine aB.pure (args0:=[boR (cU c),boR (eI s),dS (l.map eIn)]) (R:=fun t=>t=dB (hV c s l)) ?_ rfl (aI ⟨aE rfl,aE rfl,aE rfl,trivial⟩) (fun r u=>u▸h);clear h;refine XF rfl fun Q m=> ?_;unfold B6;have v:=n.len;cases e:cyB c s
 ·repeat' first| (first|apply bn1|apply bd4 a k)<;>(simp only[go_sem,e])|fail
  refine aZ m _ rfl rfl (by unfold hV;rw[e];rfl)
 by_cases q:l.length<=300
 ·have b:((l.length:Int)<=300)=True:=eq_true (by omega);have f:0<=bK (fun i=> !inB i) l↔l.all inB=false:=by rw[cH,<-Bool.not_eq_true,w2];simp
  cases j:l.all inB
  ·have d:(0<=bK (fun i=> !inB i) l)=True:=eq_true (f.2 j);have g:decide (0<=bK (fun i=> !inB i) l)=true:=decide_eq_true (f.2 j);repeat' first| (first|apply bn1|apply bd4 a k|refine pP (l:=l) (caps:=[]) (p:=fun i=> !inB i) (by omega) rfl (aE rfl) (kC rfl) (fun x o H nx K h=>e8 (n.all x o) h) ?_)<;>(simp only[go_sem,e,b,d,g])|fail
   refine aZ m _ rfl rfl (by unfold hV;rw[e,j,Bool.and_false,Bool.and_false];rfl)
  ·have d:(0<=bK (fun i=> !inB i) l)=False:=eq_false fun h=>by rw[f.1 h] at j;cases j
   have g:decide (0<=bK (fun i=> !inB i) l)=false:=(by simp only[d,decide_false]);repeat' first| (first|apply bn1|apply bd4 a k|refine pP (l:=l) (caps:=[]) (p:=fun i=> !inB i) (by omega) rfl (aE rfl) (kC rfl) (fun x o H nx K h=>e8 (n.all x o) h) ?_)<;>(simp only[go_sem,e,b,d,g])|fail
   refine aZ m _ rfl rfl (by unfold hV;rw[e,j,decide_eq_true q];rfl)
 ·have b:((l.length:Int)<=300)=False:=eq_false (by omega);repeat' first| (first|apply bn1|apply bd4 a k)<;>(simp only[go_sem,e,b])|fail
  refine aZ m _ rfl rfl (by unfold hV;rw[e,decide_eq_false q];rfl)
theorem hL(e:g4 l)(h:K (dB (l.all inB)) H nx):bNW bOR [dS (l.map eIn)] H nx K:=by
 refine aB.pure (args0:=[dS (l.map eIn)]) (R:=fun g=>g=dB (l.all inB)) ?_ rfl (aI ⟨aE rfl,trivial⟩) (fun r j=>j▸h);clear h;refine aN.mk Tryz.func74 (by kernel_rfl) h6 rfl fun Q f=> ?_;unfold c5;have m:=e.len;repeat' first|apply bn1<;>(simp only[go_sem])|fail
 (refine aM.loop (α:={k:Nat//k<=l.length/\(∀i,i<k->inB (l.getD i default)=true)}) (fun u=>en [(3,boP u.1),(0,dS (l.map eIn))]) (fun _=>.nil) _ (fun u=>l.length-u.1) ⟨0,by omega,(by intros;first|trivial|omega)⟩ (bU (m5 _) (by repeat' first|exact bo2|refine xqI rfl rfl ?_|fail)) ?_);(rintro⟨k,o,hinv⟩ bpQ d);by_cases c:k<l.length
 ·have b:=e.all _ (cC c);cases a:inB (l.getD k default)
  ·repeat' first| (first|apply bn1|apply bl2 (i:=l.getD k default) b.r b.t b.s)<;>(simp only[go_sem,a])|apply bn2 (by omega)|refine⟨by omega,?_⟩|fail
   exact aZ f (dB false) rfl rfl (congrArg dB (by
    cases h:l.all inB
    ·rfl
    ·rw[w2.1 h _ (cC c)] at a;cases a))
  ·repeat' first| (first|apply bn1|apply bl2 (i:=l.getD k default) b.r b.t b.s)<;>(simp only[go_sem,a];try simp (disch:=omega) only[Iw])|apply bn2 (by omega)|refine⟨by omega,?_⟩|fail
   (refine d _ _ _ ⟨k+1,by omega,iS hinv a⟩ (by omega) (by(try dsimp only);omega) (bU (m5 _) (by repeat' first|exact bo2|refine xqI rfl rfl ?_|fail)))
 ·repeat' first|apply bn1<;>(simp only[go_sem])|apply bn3 (by omega)|fail
  exact aZ f (dB true) rfl rfl (congrArg dB (by
   refine(w2.2 fun x n=> ?_).symm
   obtain⟨i,a,rfl⟩:=List.getElem_of_mem n
   have:=hinv i (by omega)
   rwa [show l.getD i default=l[i] by simp[List.getD,a]] at this))
theorem h5(r:jO c)(W:beL s)(hl:g4 l)
 (h: ∀H' E,nx<=E->(∀id,id<nx->H' id=H id)->K (boR (eI (hE c s l))) H' E):bNW bOQ [boR (cU c),boR (eI s),dS (l.map eIn)] H nx K:=by
 have ai:=hl.len
 apply aB.tW
 refine cJ.mk Tryz.func30 (by kernel_rfl) h4 rfl fun Q hQ=> ?_
 unfold c3
 have m:hV c s l=false->∀{G:aA} {e2:Env} {n2:Nat},nx<=n2->(∀id,id<nx->G id=H id)->e2 6= .one (.c (.ptr 5 (nx+2) 0 0))->Q .ret e2 (G.set (nx+2) ⟨5,1,[[.osl 0 0 0 0 0,.osl 0 0 0 0 0,.osl 0 0 0 0 0,.osl 0 0 0 0 0,.osl 0 0 0 0 0]]⟩) n2:=fun X G e2 n2 g1 g2 g3=>by unfold hE at h;rw[if_neg (by rw[X];decide)] at h;exact hQ _ _ _ _ _ (.inr rfl) (LL g3 aA.bH rfl) ⟨boR (eI bmC),_,noF,lY (aH (.frz (.nil ..)) (aH (.frz (.nil ..)) (aH (.frz (.nil ..)) (aH (.frz (.nil ..)) (aH (.frz (.nil ..)) eP))))),aK,h _ _ g1 fun id a=>by rw[aA.aC (by omega)];exact g2 id a⟩
 have t:hV c s l=(cyB c s&&(decide (l.length<=300)&&l.all inB)):=rfl
 cases C:cyB c s
 ·repeat' first| (first|apply bn1|apply bd7 r W)<;>(simp only[go_sem,C,boC])|fail
  exact m (by rw[t,C];rfl) (by omega) (fun id a=>by simp (disch:=omega) only[aA.aC]) rfl
 by_cases hn:l.length<=300
 case neg=>
  have v:(300<(l.length:Int))=True:=eq_true (by omega);repeat' first| (first|apply bn1|apply bd7 r W)<;>(simp only[go_sem,C,v,boC])|fail
  exact m (by rw[t,decide_eq_false hn,C];rfl) (by omega) (fun id a=>by simp (disch:=omega) only[aA.aC]) rfl
 have v:(300<(l.length:Int))=False:=eq_false (by omega)
 have F:decide (300<(l.length:Int))=false:=decide_eq_false (by omega)
 cases Y:l.all inB
 ·repeat' first| (first|apply bn1|apply bd7 r W|apply hL hl)<;>(simp only[go_sem,C,v,F,Y,boC])|fail
  exact m (by rw[t,Y,Bool.and_false,Bool.and_false]) (by omega) (fun id a=>by simp (disch:=omega) only[aA.aC]) rfl
 clear m
 have X:hV c s l=true:=by rw[t,C,Y,decide_eq_true hn];rfl
 have hi:=(hM.1 X).2.2
 unfold hE at h
 rw[if_pos X] at h
 obtain⟨Z,hs⟩:=bmR.1 C
 have aa:=hs.sz Z
 repeat' first| (first|apply bn1|apply bd7 r W|apply hL hl|refine bjQ aa (fun H1 ab nm cells hx hR boS w=> ?_))<;>(simp only[go_sem,C,v,F,Y,boC])|fail
 have g:cells.length=5:=by obtain⟨_,_,_,_,_,rfl,_⟩:=hR.ex;rfl
 have b:cells++List.drop cells.length [D1.osl 0 0 0 0 0,.osl 0 0 0 0 0,.osl 0 0 0 0 0,.osl 0 0 0 0 0,.osl 0 0 0 0 0]=cells:=by rw[g];simp
 refine⟨g,by omega,?_⟩
 rw[b]
 generalize bqK:aA.set H1 (nx+19) _=G
 have I:G (nx+19)=some ⟨5,1,[cells]⟩:=by rw[<-bqK];exact aA.bH
 have bqC:G nx=some ⟨3,1,[cU c]⟩:=by rw[<-bqK,aA.aC (by omega),w _ (by omega)];simp (disch:=omega) only[aA.aC,aA.bH]
 have g2:G (nx+2)=some ⟨5,1,[[.osl 0 0 0 0 0,.osl 0 0 0 0 0,.osl 0 0 0 0 0,.osl 0 0 0 0 0,.osl 0 0 0 0 0]]⟩:=by rw[<-bqK,aA.aC (by omega),w _ (by omega)];simp (disch:=omega) only[aA.aC,aA.bH]
 have gf: ∀id,id<nx->G id=H id:=fun id a=>by rw[<-bqK,aA.aC (by omega),w _ (by omega)];simp (disch:=omega) only[aA.aC]
 have J:bgJ (fun j=>j<nx+20) G ab nm s cells:=⟨hR.frame fun k e=>by have:=boS.rng k e;rw[<-bqK,aA.aC (by omega)],⟨boS.inj,fun k e=>(boS.rng k e).2,fun k e hj=>by have:=(boS.rng k e).1;have hj:nm k<nx+20:=hj;omega⟩,fun id a=>by have a:id<nx+20:=a;omega⟩
 clear bqK w hR boS
 apply bn0
 repeat' first|apply bn1<;>(simp only[go_sem])|fail
 refine aM.gP (β:=Nat×CSt×(Nat->Nat)×List D1) (fun u=>en [(8,boP u.1),(7,.one (.c (.ptr 5 (nx+19) 0 0))),(6,.one (.c (.ptr 5 (nx+2) 0 0))),(3,.one (.c (.ptr 3 nx 0 0))),(2,dS (l.map eIn))])
  (fun u L bqP=>u.1<=l.length/\u.2.1=sQ c s (l.take u.1)/\bgJ (fun j=>j<nx+20) L bqP u.2.2.1 u.2.1 u.2.2.2/\L (nx+19)=some ⟨5,1,[u.2.2.2]⟩/\ ∀id,id<nx+19->L id=G id)
  (fun u=>l.length-u.1) (0,s,nm,cells) ⟨noF,_,by repeat' first|exact bo2|refine xqI rfl rfl ?_|refine xqP (by omega) rfl rfl ?_|fail,aK,by dsimp only;omega,rfl,J.frame (by omega) fun _ _ _=>rfl,I,fun _ _=>rfl⟩ ?_
 clear J I g b
 rintro⟨k,bp7,x,y⟩ L ad aj ⟨e,o,p,z,A⟩ bpQ ae
 dsimp only at e o p z
 have M:COk c bp7:=by rw[o];exact(afM Z hs).1
 have s0:=(A nx (by omega)).trans bqC
 have s2:=(A (nx+2) (by omega)).trans g2
 have g:=p.len
 have q:bQ ad [nx,nx+2,nx+19]:=AM.apart (by simp) (by simp;omega)
 simp only[bQ,eZ] at q
 by_cases N:k<l.length
 ·obtain⟨i,a⟩: ∃i,i=l.getD k default:=⟨_,rfl⟩
  have af:vZ i:=by rw[a];exact hi _ (cC N)
  repeat' first| (first|apply bn1|refine bi3 Z M af (p.frame (by omega) fun id d1 _=>rfl) (fun aZJ ak ag B al O P=> ?_))<;>(simp only[go_sem,s0,z,q,g,a.symm,boC])|apply bn2 (by omega)|refine⟨by omega,?_⟩|fail
  have R:=(P (nx+19) (by show nx+19<nx+20;omega)).trans z;have D:=O.len;have b:List.drop 5 y=[]:=by rw[<-g];simp
  (try simp only[go_sem,boC,R,D,b,bq6,q,boC]);repeat' first|apply bn1<;>(simp only[go_sem,boC,R,D,b,bq6,q,boC];try simp (disch:=omega) only[Iw])|refine⟨by omega,?_⟩|fail
  refine ae _ _ _ (k+1,vF c i bp7,ag,B) noF _ (by omega) (by dsimp only;omega) (by repeat' first|exact bo2|refine xqI rfl rfl ?_|refine xqP (by omega) rfl rfl ?_|fail) aK ⟨by dsimp only;omega,by dsimp only;rw[o,agA N,a],by dsimp only;exact O.frame (by omega) fun id _ d2=>aA.aC fun he=>d2 (by show id<nx+20;omega),aA.bH,fun id a=> ?_⟩;rw[aA.aC (by omega),P id (by show id<nx+20;omega)];exact A id a
 ·repeat' first|apply bn1<;>(simp only[go_sem,s0,s2,z,q,g,boC])|apply bn3 (by omega)|fail
  have f:=M.sz Z;have S:=p.names.av;rw[boL (by omega)] at o;rw[<-o] at h;refine aB.ao4 (args':=[boR (eI bp7)]) (without (fun j=>∃k,k<19/\j=x k) L) (fun j=>∃k,k<19/\j=x k) rfl (bkE (lY (A8 (p.rep.VI (fun k e=>⟨k,e,rfl⟩) f.pl f.sl)))) kS ?_;refine bjQ f fun bqL an ah d ao T U V=> ?_;have bqI:bqL (nx+2)=some ⟨5,1,[[.osl 0 0 0 0 0,.osl 0 0 0 0 0,.osl 0 0 0 0 0,.osl 0 0 0 0 0,.osl 0 0 0 0 0]]⟩:=by rw[V _ (by omega),iI (fun⟨k,e,he⟩=>S k e (by show x k<nx+20;omega))];exact s2
  have wf: ∀id,id<nx->bqL id=H id:=fun id a=>by rw[V _ (by omega),iI (fun⟨k,e,he⟩=>S k e (by show x k<nx+20;omega)),A id (by omega)];exact gf id a
  have n:d.length=5:=by obtain⟨_,_,_,_,_,rfl,_⟩:=T.ex;rfl
  have b:d++List.drop d.length [D1.osl 0 0 0 0 0,.osl 0 0 0 0 0,.osl 0 0 0 0 0,.osl 0 0 0 0 0,.osl 0 0 0 0 0]=d:=by rw[n];simp
  (try simp only[go_sem,boC,bqI,n,b,boC]);repeat' first|apply bn1<;>(simp only[go_sem,boC,bqI,n,b,boC])|fail
  refine hQ _ _ _ _ _ (.inr rfl) (LL rfl aA.bH n) ⟨boR (eI bp7),_,fun j=>∃k,k<19/\j=ah k,?_,kS,h _ _ (by omega) fun id a=> ?_⟩;·exact lY (A8 ((T.frame fun k e=>aA.aC (by have:=U.rng k e;omega)).VI (fun k e=>⟨k,e,rfl⟩) f.pl f.sl))
  ·rw[iI (fun⟨k,e,he⟩=>by have:=U.rng k e;omega),aA.aC (by omega)];exact wf id a
theorem hH(C:jO c)(hf:beL s)(D:g4 l)
 (h: ∀H' o r F,nx<=o->bIO H' r (hE c s l) F->(∀j,F j->nx<=j/\j<o)->(∀j,j<nx->H' j=H j)->K (.one (.agg r)) H' o):bNW tV [boR (cU c),boR (eI s),dS (l.map eIn)] H nx K:=by
 refine QC rfl fun Q hQ=> ?_
 unfold xR
 cases E:hV c s l
 ·unfold hE at h;rw[if_neg (by rw[E];decide)] at h;repeat' first| (first|apply bn1|apply hN C hf D)<;>(simp only[go_sem,E,boC])|fail
  exact hQ _ _ _ _ _ (.inr rfl) (bBC rfl aA.bH rfl) (h _ _ _ (fun _=>False) (by omega) bM8 (fun j G=>G.elim) fun id f=>by simp (disch:=omega) only[aA.aC])
 unfold hE at h
 rw[if_pos E] at h
 obtain⟨V,hl,hi⟩:=hM.1 E
 obtain⟨W,hs⟩:=bmR.1 V
 repeat' first| (first|apply bn1|apply hN C hf D|refine fJ (hs.sz W) (fun H' o nm cells hx m boS n=> ?_))<;>(simp only[go_sem,E,boC])|fail
 have I:cells.length=5:=by obtain⟨_,_,_,_,_,rfl,_⟩:=m.ex;rfl
 have J:cells++List.drop cells.length [D1.osl 0 0 0 0 0,.osl 0 0 0 0 0,.osl 0 0 0 0 0,.osl 0 0 0 0 0,.osl 0 0 0 0 0]=cells:=by rw[I];simp
 refine⟨I,by omega,?_⟩
 rw[J]
 try apply bn0
 repeat' first|apply bn1<;>(simp only[go_sem])|fail
 refine aM.TF fun bqO t=> ?_
 have v: ∀id,id<nx+3->bqO id=H' id:=fun id f=>by rw[t,aA.aC (by omega)]
 have c0:bqO nx=some ⟨3,1,[cU c]⟩:=by rw[v _ (by omega),n _ (by omega)];simp only[aA.set,bqT,Nat.reduceEqDiff,if_false,if_true,brN,reduceIte]
 have c2:bqO (nx+2)=some ⟨5,1,[[.osl 0 0 0 0 0,.osl 0 0 0 0 0,.osl 0 0 0 0 0,.osl 0 0 0 0 0,.osl 0 0 0 0 0]]⟩:=by rw[v _ (by omega),n _ (by omega)];simp only[aA.set,bqU,Nat.reduceEqDiff,bqV,if_false,if_true,reduceIte]
 have aa: ∀id,id<nx->bqO id=H id:=fun id f=>by rw[v _ (by omega),n _ (by omega)];simp only[aA.set,show ¬id=nx by omega,show ¬id=nx+1 by omega,show ¬id=nx+2 by omega,if_false]
 have bnC:Rep (fun id=>id<nx+3) bqO o (nx+10) nm s:=by have w:=fun k g=>boS.rng k g;refine⟨⟨cells,by rw[t];exact aA.bH,m.frame fun k g=>by have:=w k g;rw[t,aA.aC (by omega)]⟩,⟨boS.inj,fun k g=>by have:=w k g;omega,fun k g hn=>by have:=w k g;omega⟩,fun k g=>by have:=w k g;omega,⟨by omega,by omega⟩,fun id f=>by omega⟩
 clear t m boS n v
 refine aM.gP (β:=Nat×(Nat->Nat)) (fun u=>en [(20,boP u.1),(19,boP l.length),(18,dS (l.map eIn)),(7,.one (.c (.ptr 5 (nx+10) 0 0))),(6,.one (.c (.ptr 5 (nx+2) 0 0))),(3,.one (.c (.ptr 3 nx 0 0)))])
  (fun u H1 x=>u.1<=l.length/\Rep (fun id=>id<nx+3) H1 x (nx+10) u.2 (sQ c s (l.take u.1))/\ ∀id,id<nx+3->H1 id=bqO id)
  (fun u=>l.length-u.1) (0,nm) ⟨noF,_,by repeat' first|exact bo2|refine xqI rfl rfl ?_|refine xqP (by omega) rfl rfl ?_|fail,aK,by dsimp only;omega,bnC.frame (by omega) rfl (fun _ _=>rfl) (fun id (f:id<nx+3)=>⟨by omega,by omega,fun k g he=>bnC.names.av k g (he▸f)⟩),fun _ _=>rfl⟩ ?_
 rintro⟨k,p⟩ H1 x aj ⟨g,m,y⟩ bpQ ab
 dsimp only at g m
 have bqC:=(y nx (by omega)).trans c0
 have g2:=(y (nx+2) (by omega)).trans c2
 obtain⟨S,z⟩: ∃S,S=sQ c s (l.take k):=⟨_,rfl⟩
 have Y:COk c S:=by rw[z];exact(afM W hs).1
 rw[<-z] at m
 have ak:=m.i0
 by_cases L:k<l.length
 ·obtain⟨i,f⟩: ∃i,i=l.getD k default:=⟨_,rfl⟩
  have ad:vZ i:=by rw[f];exact hi _ (cC L)
  have hA:bQ x [nx]:=AM.apart (by simp) (by simp;omega);simp only[bQ,eZ] at hA;repeat' first|apply bn1<;>(simp only[go_sem,t1,bqT,f.symm,bqC,hA])|apply bn2 (by omega)|refine⟨by omega,?_⟩|fail
  have M:=m.names.lt;refine tX (X:=fun id=>id<nx+3) W Y ad (m.frame (by omega) (aA.aC (by omega)) (fun k g=>aA.aC (by have:=M k g;omega)) fun id N=>⟨by omega,by omega,fun k g he=>m.names.av k g (he▸N)⟩) fun H2 ae af a b d e ag O ah=> ?_;have n: ∀id,id<nx+3->H2 id=bqO id:=fun id f=>by rw[ah id f,aA.aC (by omega)];exact y id f
  have B:sQ c s (l.take (k+1))=vF c i S:=by rw[agA L,<-z,<-f]
  simp only[go_sem];repeat' first|apply bn1<;>(simp only[go_sem];try simp (disch:=omega) only[Iw])|fail
  exact ab _ _ _ (k+1,af) noF _ (by omega) (by dsimp only;omega) (by repeat' first|exact bo2|refine xqI rfl rfl ?_|refine xqP (by omega) rfl rfl ?_|fail) aK ⟨by dsimp only;omega,by dsimp only;rw[B];exact O.frame (by omega) rfl (fun _ _=>rfl) (fun id f=>⟨by omega,by omega,fun k g he=>O.names.av k g (he▸f)⟩),n⟩
 ·have B:S=sQ c s l:=by rw[z,boL (by omega)]
  obtain⟨Z,ai,P⟩:=m.st;obtain⟨wc,hc,pc,vc,tc,R,_⟩:=P.ex;have q:=ai;rw[R] at q;unfold U2 at q;repeat' first|apply bn1<;>(simp only[go_sem,q])|apply bn3 (by omega)|fail
  have al:=m.names.lt;refine aB.ao4 (args':=[boR (eI S)]) (without (fun j=>∃k,k<19/\j=p k) H1) (fun j=>∃k,k<19/\j=p k) rfl (fun i d0 d h1 V=> ?_) kS ?_
  ·match i with
   |0=>simp only[List.getElem?_cons_zero,Option.some.injEq] at h1 V;subst h1;subst V;have:=A8 (σ:=id) (nh:=x+4) (P.VI (F:=fun j=>∃k,k<19/\j=p k) (fun k g=>⟨k,g,rfl⟩) Y.pl Y.sl);rw[R] at this;exact lY this
   |i+1=>simp at h1
  refine bKP (Y.sz W) fun H2 ae r F ag T U A=> ?_;have e2:H2 (nx+2)=some ⟨5,1,[[.osl 0 0 0 0 0,.osl 0 0 0 0 0,.osl 0 0 0 0 0,.osl 0 0 0 0 0,.osl 0 0 0 0 0]]⟩:=by rw[A _ (by omega),iI (fun⟨k,g,he⟩=>m.names.av k g (show p k<nx+3 by omega))];exact g2
  obtain⟨d1,d2,d3,bkS,bk2,bF4,bF5,bF6,bF7,bF8,rfl,hq⟩:=id T;simp only[go_sem,e2];apply bn0;repeat' first|apply bn1<;>(simp only[go_sem])|fail
  rw[<-B] at h;refine hQ _ _ _ _ _ (.inr rfl) (bBC rfl aA.bH rfl) (h _ _ _ F (by omega) (bIM _ _ _ _ _ T fun j G=>aA.aC (by have:=U j G;omega)) (fun j G=>by have:=U j G;omega) fun id f=> ?_);rw[aA.aC (by omega),A _ (by omega),iI (fun⟨k,g,he⟩=>m.names.av k g (show p k<nx+3 by omega)),y id (by omega)];exact aa id f
theorem h9(a:jO c)(b:beL s)(d:g4 l):bNW tV [boR (cU c),boR (eI s),dS (l.map eIn)] .nil 0 fun r H' e=>(r.free=true/\bE9 H')/\ ∃cs F,r= .one (.agg cs)/\bIO H' cs (hE c s l) F/\ ∀j,F j->j<e:=by apply aB.tW;refine hH a b d fun H' f r F i boS g b=> ?_;obtain⟨bp6,az9,az2,aAD,aAE,aAA⟩:=bFQ bIM bM5 bM1 boS fun j h=>(g j h).2;exact⟨_,_,_,lY az9,kS,⟨by simp[D.free,DV.cells,aAE],aAD⟩,_,bp6,rfl,az2,aAA⟩
theorem h7{d e:List D1}{f:D1}{bp6 bF4 bF5:Nat->Prop}(b:jO c)(g:beL s)(i:g4 l)(k:bBO H d c bp6)(m:bIO H e s bF4)(n:SlS 3 bLP H f l bF5)
 (h: ∀H' a r F,nx<=a->bIO H' r (hE c s l) F->(∀j,F j->nx<=j/\j<a)->(∀j,j<nx->H' j=H j)->K (.one (.agg r)) H' a):bNW tV [.one (.agg d),.one (.agg e),.one (.c f)] H nx K:=by
 refine(h9 b g i).bFZ rfl (aI (bzW (bB8 bEJ k) (bzW (bB8 bJ4 m) (bzW (apS (.frz (n.frz bML))) bDI)))) ?_
 rintro r H' t ⟨cs,F,rfl,boS,o⟩
 obtain⟨p,az9,az2⟩:=bFG bM2 (H:=H) (nx:=nx) boS o
 exact h _ _ _ p (by omega) az9 az2 fun j q=>bFH q
theorem h8(a:jO c)(b:beL s)(d:g4 l)(h:K (boR (eI (hE c s l))) H nx):bNW tV [boR (cU c),boR (eI s),dS (l.map eIn)] H nx K:=aB.fresh (R:=fun r=>r=boR (eI (hE c s l))) (aB.forget (hH a b d fun _ _ r F _ boS _ _=>⟨boR (eI (hE c s l)),lY (bJ4 _ _ _ _ boS).2.cvL,rfl,rfl,rfl⟩)) rfl fun r e=>e▸h
end
theorem i2(c:Cfg)(s:CSt)(l:List CIn)(v:aZW (2^63) c)(E:w5 (2^63) s)(M:aZT (bJB (2^63)) (2^63) l):bNW bOM [boR (cU c),boR (eI s),dS (l.map eIn)] .nil 0 fun rr _ _=>rr.plain=true/\rr=dB true:=by
 refine cJ.mk Tryz.func11 (by kernel_rfl) e6 rfl fun Q hQ=> ?_;unfold c1;have r0:=beN 1048576 c (by omega);by_cases h0:aZ9 1048576 c<0
 case pos=>
  repeat' first| (first|apply bn1|apply a3E (x:=c) (a:=1048576) (by omega) v)<;>(simp only[go_sem,eq_true h0])|fail
  all_goals exact hQ _ _ _ _ _ (.inr rfl) rfl ⟨rfl,rfl⟩
 have r1:=beF (aZ9 1048576 c) s (by omega);by_cases h1:a1W (aZ9 1048576 c) s<0
 case pos=>
  repeat' first| (first|apply bn1|apply a3E (x:=c) (a:=1048576) (by omega) v|apply a4H (x:=s) (a:=aZ9 1048576 c) (by omega) E)<;>(simp only[go_sem,eq_false h0,eq_true h1])|fail
  all_goals exact hQ _ _ _ _ _ (.inr rfl) rfl ⟨rfl,rfl⟩
 have r2:=a4Q bM9 (a1W (aZ9 1048576 c) s) l;by_cases u:szS bJ9 (a1W (aZ9 1048576 c) s) l<0
 case pos=>
  repeat' first| (first|apply bn1|apply a3E (x:=c) (a:=1048576) (by omega) v|apply a4H (x:=s) (a:=aZ9 1048576 c) (by omega) E|apply bOP (l:=l) (a:=a1W (aZ9 1048576 c) s) (by omega) M)<;>(simp only[go_sem,eq_false h0,eq_false h1,eq_true u])|fail
  all_goals exact hQ _ _ _ _ _ (.inr rfl) rfl ⟨rfl,rfl⟩
 have y:=beC 1048576 c (by omega) (by omega) (by omega);have blY:=bE1 (a:=1048576) (x:=c) (by omega) (by omega);have z:=bdJ (aZ9 1048576 c) s (by omega) (by omega) (by omega);have blH:=bMV (a:=aZ9 1048576 c) (x:=s) (by omega) (by omega);have bp3:aZT (bJB (2^21)) (2^21) l:=a5T bM9 bM3 (a:=a1W (aZ9 1048576 c) s) (by omega) (by omega);have blI:=bFN bM9 bNC (by omega) (a:=a1W (aZ9 1048576 c) s) (l:=l) (by omega) (by omega);repeat' first| (first|apply bn1|apply a3E (x:=c) (a:=1048576) (by omega) v|apply a4H (x:=s) (a:=aZ9 1048576 c) (by omega) E|apply bOP (l:=l) (a:=a1W (aZ9 1048576 c) s) (by omega) M|apply bJ5 y|apply bJS z|apply bOO bp3)<;>(simp only[go_sem,eq_false h0,eq_false h1,eq_false u])|fail
 refine h5 y.fit z.fit (hK bp3) fun H1 r ah bpR=> ?_;obtain⟨w,hw⟩: ∃w,w=hE c s l:=⟨_,rfl⟩
 have N:w5 (2^21) w:=by rw[hw];exact i3
 have t:=N;have zw:bIP w<=2^50:=by rw[hw];exact i4
 rw[<-hw];simp only[go_sem];generalize aU3:dT 22 [7] _ H1=U;have f:U 0=some ⟨3,1,[cU c]⟩:=by rw[<-aU3,um1 (by omega),bpR 0 (by omega)];rfl
 have m:U 1=some ⟨5,1,[eI s]⟩:=by rw[<-aU3,um1 (by omega),bpR 1 (by omega)];rfl
 have kw:U 29=some ⟨5,1,[[.osl 0 0 0 0 0,.osl 0 0 0 0 0,.osl 0 0 0 0 0,.osl 0 0 0 0 0,.osl 0 0 0 0 0]]⟩:=by rw[<-aU3];exact aH6 (k:=7)
 clear aU3 bpR;have bGD: ∀(G:aA) (j:Nat),j≠29->msk 22 [7] G j=G j:=fun G j h=>mk1 (by omega);have blM:=fun G=>bGD G 0 (by omega);have O:=fun G=>bGD G 1 (by omega);have d:bQ r [0,1,29]:=AM.apart (by simp<;>omega) (by simp<;>omega);simp only[bQ,eZ] at d;(try simp only[go_sem,boC,f,m,kw,blM,O,d,boC]);repeat' first| (first|apply bn1|refine bD4 y (fun H2 p aUU bp6 ai aEU bqC f2=> ?_))<;>(simp only[go_sem,boC,f,m,kw,blM,O,d,boC])|fail
 obtain⟨d1,d2,d3,aj,ak,al,rfl,bqB⟩:=id aEU;refine⟨rfl,by simp,?_⟩;replace f:=(f2 0 (by omega)).trans ((aA.aC (by omega)).trans f);replace m:=(f2 1 (by omega)).trans ((aA.aC (by omega)).trans m);have kw:=(f2 29 (by omega)).trans aA.bH;clear f2 d;have d:bQ p [0,1,29,r+2]:=AM.apart (by simp<;>omega) (by simp<;>omega);simp only[bQ,eZ] at d;apply bn0;repeat' first| (first|apply bn1|refine bKG z (fun H3 I aER bF4 an bGE J bpS=> ?_))<;>(simp only[go_sem,f,m,kw,d,boC])|fail
 obtain⟨e1,e2,e3,e4,e5,ao,aq,ar,au,aw,rfl,q1⟩:=id bGE;refine⟨rfl,by simp,?_⟩;replace f:=(bpS 0 (by omega)).trans ((aA.aC (by omega)).trans f);replace m:=(bpS 1 (by omega)).trans ((aA.aC (by omega)).trans m);replace kw:=(bpS 29 (by omega)).trans ((aA.aC (by omega)).trans kw);have C:=(bpS (r+2) (by omega)).trans aA.bH;replace aEU:=bAQ _ H3 _ _ _ aEU fun j b=>(bpS j (by have:=bqC j b;omega)).trans (aA.aC (by have:=bqC j b;omega));clear bpS d;have d:bQ I [0,1,29,r+2,p+2]:=AM.apart (by simp<;>omega) (by simp<;>omega);simp only[bQ,eZ] at d;apply bn0;repeat' first| (first|apply bn1|refine bOI bp3 (fun bqL e aHE bF5 ax bGI L bpT=> ?_))<;>(simp only[go_sem,f,m,kw,C,d,boC])|fail
 replace f:=(bpT 0 (by omega)).trans ((aA.aC (by omega)).trans f);replace m:=(bpT 1 (by omega)).trans ((aA.aC (by omega)).trans m);replace kw:=(bpT 29 (by omega)).trans ((aA.aC (by omega)).trans kw);replace C:=(bpT (r+2) (by omega)).trans ((aA.aC (by omega)).trans C);have A:=(bpT (p+2) (by omega)).trans aA.bH;replace aEU:=bAQ _ bqL _ _ _ aEU fun j b=>(bpT j (by have:=bqC j b;omega)).trans (aA.aC (by have:=bqC j b;omega));replace bGE:=bIM _ bqL _ _ _ bGE fun j b=>(bpT j (by have:=J j b;omega)).trans (aA.aC (by have:=J j b;omega));clear bpT d;have d:bQ e [0,1,29,r+2,p+2]:=AM.apart (by simp<;>omega) (by simp<;>omega);simp only[bQ,eZ] at d;(try simp only[go_sem,boC,f,m,kw,C,A,d,boC]);repeat' first| (first|apply bn1|refine h7 y.fit z.fit (hK bp3) aEU bGE bGI (fun aZJ aa R F ay P g bpU=> ?_))<;>(simp only[go_sem,boC,f,m,kw,C,A,d,boC])|fail
 rw[<-hw] at P;obtain⟨b1,b2,boX,boY,boZ,bNQ,bNR,bNS,bNT,bNU,rfl,qr⟩:=id P;refine⟨rfl,by simp,?_⟩;generalize hY:aA.set aZJ (e+4) _=Y;have ym: ∀j,j≠e+4->Y j=aZJ j:=fun j h=>by rw[<-hY];exact aA.aC h
 have q:Y (e+4)=some ⟨5,1,[[b1,b2,boX,boY,boZ]]⟩:=by rw[<-hY];exact aA.bH
 have B: ∀j,j<e->Y j=bqL j:=fun j h=>(ym j (by omega)).trans (bpU j (by omega));replace f:=(B 0 (by omega)).trans f;replace m:=(B 1 (by omega)).trans m;replace kw:=(B 29 (by omega)).trans kw;replace C:=(B (r+2) (by omega)).trans C;replace A:=(B (p+2) (by omega)).trans A;replace aEU:=bAQ _ Y _ _ _ aEU fun j b=>B j (by have:=bqC j b;omega);replace bGE:=bIM _ Y _ _ _ bGE fun j b=>B j (by have:=J j b;omega);replace bGI:=bGI.frame (H':=Y) bKN fun j b=>B j (by have:=L j b;omega);replace P:=bIM _ Y _ _ _ P fun j b=>ym j (by have:=g j b;omega);clear hY ym B bpU d;have d:bQ aa [0,1,29,r+2,p+2,e+4]:=AM.apart (by simp<;>omega) (by simp<;>omega);simp only[bQ,eZ] at d;apply bn0;repeat' first| (first|apply bn1|apply bKL t P|apply bJ5 y|apply bEY y aEU|apply bJS z|apply bKL z bGE|apply bOO bp3|apply bOS bp3 bGI| (refine bC5 (F:=bp6) (fun j b=>by have:=bqC j b;omega) aEU y (by omega) (by omega) (fun aIJ ab az aU0 bpV=> ?_)))<;>(simp only[go_sem,f,m,kw,C,A,q,d,boC])|fail
 have bGP: ∀j,j<r\/p<=j->¬bp6 j:=fun j h u=>by have:=bqC j u;omega
 replace f:=(bpV 0 (by omega) (bGP _ (by omega))).trans f;replace m:=(bpV 1 (by omega) (bGP _ (by omega))).trans m;replace kw:=(bpV 29 (by omega) (bGP _ (by omega))).trans kw;replace A:=(bpV (p+2) (by omega) (bGP _ (by omega))).trans A;replace q:=(bpV (e+4) (by omega) (bGP _ (by omega))).trans q;replace bGE:=bIM _ aIJ _ _ _ bGE fun j b=>bpV j (by have:=J j b;omega) (bGP j (by have:=J j b;omega));replace bGI:=bGI.frame (H':=aIJ) bKN fun j b=>bpV j (by have:=L j b;omega) (bGP j (by have:=L j b;omega));replace P:=bIM _ aIJ _ _ _ P fun j b=>bpV j (by have:=g j b;omega) (bGP j (by have:=g j b;omega));clear bpV bGP aU0 aEU d;have d:bQ ab [0,1,29,p+2,e+4]:=AM.apart (by simp<;>omega) (by simp<;>omega);simp only[bQ,eZ] at d;(try simp only[go_sem,boC,f,m,kw,A,q,d,boC]);repeat' first| (first|apply bn1| (refine bJ8 (F:=bF4) (fun j b=>by have:=J j b;omega) bGE z (by omega) (by omega) (fun bGQ ad ba bpN bpW=> ?_)))<;>(simp only[go_sem,boC,f,m,kw,A,q,d,boC])|fail
 have bGP: ∀j,j<p\/I<=j->¬bF4 j:=fun j h u=>by have:=J j u;omega
 replace f:=(bpW 0 (by omega) (bGP _ (by omega))).trans f;replace m:=(bpW 1 (by omega) (bGP _ (by omega))).trans m;replace kw:=(bpW 29 (by omega) (bGP _ (by omega))).trans kw;replace q:=(bpW (e+4) (by omega) (bGP _ (by omega))).trans q;replace bGI:=bGI.frame (H':=bGQ) bKN fun j b=>bpW j (by have:=L j b;omega) (bGP j (by have:=L j b;omega));replace P:=bIM _ bGQ _ _ _ P fun j b=>bpW j (by have:=g j b;omega) (bGP j (by have:=g j b;omega));clear bpW bGP bpN bGE d;have d:bQ ad [0,1,29,e+4]:=AM.apart (by simp<;>omega) (by simp<;>omega);simp only[bQ,eZ] at d;(try simp only[go_sem,boC,f,m,kw,q,d,boC]);repeat' first| (first|apply bn1|apply bpK (by omega)| (refine bON (F:=bF5) (fun j b=>by have:=L j b;omega) bGI bp3 (by omega) (by omega) (fun bIG ae bb bpO bpX=> ?_)))<;>(simp only[go_sem,boC,f,m,kw,q,d,boC])|fail
 have bGP: ∀j,j<I\/e<=j->¬bF5 j:=fun j h u=>by have:=L j u;omega
 replace f:=(bpX 0 (by omega) (bGP _ (by omega))).trans f;replace m:=(bpX 1 (by omega) (bGP _ (by omega))).trans m;replace kw:=(bpX 29 (by omega) (bGP _ (by omega))).trans kw;replace q:=(bpX (e+4) (by omega) (bGP _ (by omega))).trans q;replace P:=bIM _ bIG _ _ _ P fun j b=>bpX j (by have:=g j b;omega) (bGP j (by have:=g j b;omega));clear bpX bGP bpO bGI d;have d:bQ ae [0,1,29,e+4]:=AM.apart (by simp<;>omega) (by simp<;>omega);simp only[bQ,eZ] at d;(try simp only[go_sem,boC,f,m,kw,q,d,boC]);repeat' first| (first|apply bn1|apply bKL t P| (refine bJ8 (F:=F) (fun j b=>by have:=g j b;omega) P t (by omega) (by omega) (fun bIH n bc tw bkR=> ?_)))<;>(simp only[go_sem,boC,f,m,kw,q,d,boC])|fail
 have bGP: ∀j,j<e+5->¬F j:=fun j h u=>by have:=g j u;omega
 replace f:=(bkR 0 (by omega) (bGP _ (by omega))).trans f;replace m:=(bkR 1 (by omega) (bGP _ (by omega))).trans m;replace kw:=(bkR 29 (by omega) (bGP _ (by omega))).trans kw;replace q:=(bkR (e+4) (by omega) (bGP _ (by omega))).trans q;clear bkR bGP P d;have d:bQ n [0,1,29,e+4]:=AM.apart (by simp<;>omega) (by simp<;>omega);simp only[bQ,eZ] at d;(try simp only[go_sem,boC,f,m,kw,q,d,boC]);repeat' first| (first|apply bn1|apply bK9 t (by omega) (by omega) tw)<;>(simp only[go_sem,boC,f,m,kw,q,d,boC])|apply bn3 (by omega)|fail
 have af: ∀{H:aA} {nx:Nat} {K:bNX},K (boR (eI w)) H nx->bNW tV [boR (cU c),boR (eI s),dS (l.map eIn)] H nx K:=fun h=>h8 y.fit z.fit (hK bp3) (by rw[<-hw];exact h);have blM: ∀G:aA,msk (n+10) [7] G 0=G 0:=fun G=>mk1 (by omega);have O: ∀G:aA,msk (n+10) [7] G 1=G 1:=fun G=>mk1 (by omega);have S: ∀o,dT (n+10) [7] (aA.set bIH (n+17) o) (msk (n+10) [7] bIH)=aA.set bIH (n+17) o:=fun o=>bNN;have T: ∀o,msk (n+10) [7] (aA.set bIH (n+17) o)=msk (n+10) [7] bIH:=fun o=>PK (i:=7) (by simp);have V: ∀o,(aA.set bIH (n+17) o) 0=some ⟨3,1,[cU c]⟩:=fun o=>(aA.aC (by omega)).trans f;have W: ∀o,(aA.set bIH (n+17) o) 1=some ⟨5,1,[eI s]⟩:=fun o=>(aA.aC (by omega)).trans m;have X: ∀o,(aA.set bIH (n+17) o) 29=some ⟨5,1,[eI w]⟩:=fun o=>(aA.aC (by omega)).trans kw;have Z: ∀o,(aA.set bIH (n+17) o) (e+4)=some ⟨5,1,[[b1,b2,boX,boY,boZ]]⟩:=fun o=>(aA.aC (by omega)).trans q;have ag:=fun o=>bIM _ (aA.set bIH (n+17) o) _ _ _ tw fun j b=>aA.aC (by have:=g j b;omega);(try simp only[go_sem,boC,f,m,kw,q,blM,O,S,T,V,W,X,Z,d,boC]);repeat' first| (first|apply bn1|apply bJ5 y|apply bJS z|apply bOO bp3|apply af|apply a9P t|apply bK9 t (by omega) (by omega) (ag _))<;>(simp only[go_sem,boC,f,m,kw,q,blM,O,S,T,V,W,X,Z,d,boC])|apply bn3 (by omega)|fail
 all_goals exact hQ _ _ _ _ _ (.inr rfl) rfl ⟨rfl,rfl⟩
end Go.Proofs.YtlncecohbakleaaGreat
