/- What the law on CycFlow leans on. -/
import Derived.Test.YtlncecohbakleaaGreatPS19
import Derived.Test.YtlncecohbakleaaGreatPS23
import Derived.Test.YtlncecohbakleaaGreatPS24
import Derived.Test.YtlncecohbakleaaGreatPS22
set_option linter.unusedVariables false
set_option linter.unusedSimpArgs false
set_option linter.unusedSectionVars false
set_option maxRecDepth 100000
set_option maxHeartbeats 8000000
namespace Go.AM
def h8:CSt:=⟨[],[],[],[],[]⟩
def inB(i:CIn):Bool:=decide (i.ready.length=3/\i.n9.length=4/\i.send.length=3)
theorem j1{i:CIn}:inB i=true↔vZ i:=decide_eq_true_iff
theorem jN:vZ pU:=⟨rfl,rfl,rfl⟩
noncomputable def b9(c:Cfg)(s:CSt)(n:Int):CSt:=if cyB c s=true/\n<=300 then sQ c s (List.replicate n.toNat pU) else h8
variable{c:Cfg}{s:CSt}
theorem i5{k:Nat}:sQ c s (List.replicate (k+1) pU)=vF c pU (sQ c s (List.replicate k pU)):=by simp only[List.replicate_succ',sQ,List.foldl_append,List.foldl_cons,List.foldl_nil]
theorem i1{H:aA}{F:Nat->Prop}{σ:Nat->Nat}{nh a b d:Nat}(c:H a=some ⟨1,3,[true,true,true].map eH⟩)(e:H b=some ⟨1,4,[false,false,false,false].map eH⟩)(f:H d=some ⟨1,3,[true,true,true].map eH⟩)(bpR:F a)(g:F b)(bpS:F d):
 CvL H F σ nh (eIn pU) [.osl 1 a 0 3 3,.osl 1 b 0 4 4,.osl 1 d 0 3 3]:=
 aH (bW mK c rfl (by decide) bpR) (aH (bW mK e rfl (by decide) g) (aH (bW mK f rfl (by decide) bpS) eP))
theorem iR{H:aA}:bIO H [.osl 0 0 0 0 0,.osl 0 0 0 0 0,.osl 0 0 0 0 0,.osl 0 0 0 0 0,.osl 0 0 0 0 0] h8 fun _=>False:=by have h: ∀{α:Type} {n:Nat} {R:bAT α},SlS n R H (.osl 0 0 0 0 0) [] fun _=>False:=.inl ⟨rfl,0,0,0,rfl⟩;exact⟨_,_,_,_,_,fun _=>False,fun _=>False,fun _=>False,fun _=>False,fun _=>False,rfl,⟨h,h,h,h,h,fun j h=>h,fun j h=>h,fun j h=>h,fun j h=>h,fun j h=>h,fun j h=>h.elim,fun j h=>h.elim,fun j h=>h.elim,fun j h=>h.elim,fun j h=>h.elim,fun j h=>h.elim,fun j h=>h.elim,fun j h=>h.elim,fun j h=>h.elim,fun j h=>h.elim⟩⟩
noncomputable def hE(c:Cfg)(s:CSt)(l:List CIn):Bool:=cyB c s&&(decide (l.length<=300)&&l.all inB)
noncomputable def h6(c:Cfg)(s:CSt)(l:List CIn):CSt:=if hE c s l=true then sQ c s l else h8
theorem hK{l:List CIn}:hE c s l=true↔cyB c s=true/\l.length<=300/\ ∀i∈l,vZ i:=by unfold hE;simp only[q7,decide_eq_true_eq,w2,j1]
structure i7(l:List CIn):Prop where
 len:l.length<2^21
 all: ∀i∈l,bm3 i
theorem beL.len{s:CSt}(h:beL s):w5 (2^21) s:=by
 refine⟨⟨h.w,h.h⟩,⟨h.pl,fun p hp=> ?_⟩,⟨h.sl,fun v b=> ?_⟩,h.t,h.td⟩;·obtain⟨k,a,rfl⟩:=List.getElem_of_mem hp;have:=h.port k;rw[show aF s k=s.bM[k] by simp[aF,List.getD,a]] at this;exact this
 ·obtain⟨k,a,rfl⟩:=List.getElem_of_mem b;have:=h.slv k;rw[show aL s k=s.dD[k] by simp[aL,List.getD,a]] at this;exact⟨this.1,this.2.1,this.2.2⟩
theorem h9:w5 (2^21) h8:=⟨⟨by decide,by decide⟩,⟨by decide,fun x a=>by cases a⟩,⟨by decide,fun x a=>by cases a⟩,⟨by decide,fun x a=>by cases a⟩⟩
theorem COk.len{c:Cfg}{s:CSt}(a:aQ c)(b:COk c s):w5 (2^21) s:=beL.len ((b.base a).bj4.fit).1
theorem jM{l:List CIn}:w5 (2^21) (h6 c s l):=by
 unfold h6;split;·rename_i h;obtain⟨a,b⟩:=bmR.1 (hK.1 h).1;exact COk.len a (afM a b).1
 ·exact h9
theorem COk.z(b:aQ c)(a:COk c s):bIP s<=2^50:=bMT (a.len b) (by rw[a.pl];omega) (by rw[a.sl];omega)
theorem i4:bIP h8<=2^50:=by decide
theorem j5{l:List CIn}:bIP (h6 c s l)<=2^50:=by
 unfold h6;split;·rename_i h;obtain⟨a,b⟩:=bmR.1 (hK.1 h).1;exact COk.z a (afM a b).1
 ·exact i4
theorem bJB.fit{i:CIn}(h:bJB (2^21) i):bm3 i:=⟨h.1,h.2.1,h.2.2⟩
theorem c3{n:Int}(h:n<=300):b9 c s n=h6 c s (List.replicate n.toNat pU):=by
 have b:hE c s (List.replicate n.toNat pU)=cyB c s:=by unfold hE;rw[decide_eq_true (by simp;omega),w2.2 fun x d=>by rw[(List.mem_replicate.1 d).2];rfl];cases cyB c s<;>rfl
 unfold b9 h6;rw[b];by_cases a:cyB c s=true;·rw[if_pos ⟨a,h⟩,if_pos a]
 ·rw[if_neg (fun h=>a h.1),if_neg a]
theorem e8{n:Int}(h: ¬n<=300):b9 c s n=h8:=if_neg fun a=>h a.2
theorem i2{n:Int}:w5 (2^21) (b9 c s n):=by
 by_cases h:n<=300;·rw[c3 h];exact jM
 ·rw[e8 h];exact h9
theorem j2{n:Int}:bIP (b9 c s n)<=2^50:=by
 by_cases h:n<=300;·rw[c3 h];exact j5
 ·rw[e8 h];exact i4
end Go.AM
namespace Go.Proofs.YtlncecohbakleaaGreat
open Go Go.AM
attribute [local irreducible] aM wv aB vd wvH
def aD:AC:= (boG [f5 3 0,f5 4 1,dO 6 boD] [2,3,4] (boG [dO 7 (ki 1048576)] [2,3,4,7] (boG [f8 16 3 3,RM 17 7,f6 18 a1J [16,17],RM 7 18] [2,3,4,7] (.seq (boG [RM 19 7,dI 20 .lss 19 (ki 0)] [2,3,4,7,20] (.cond 20 (boG [dO 6 boE] [6] .ret) .skip)) (boG [f8 21 5 4,RM 22 7,f6 23 a0E [21,22],RM 7 23] [2,3,4,7] (.seq (boG [RM 24 7,dI 25 .lss 24 (ki 0)] [2,3,4,25] (.cond 25 (boG [dO 6 boE] [6] .ret) .skip)) (.seq (.region [boF 26 (.load 3 true 3) [6] [] false 0,boF 28 (.load 5 true 4) [6] [] true 2,RM 30 2 4,f7 8 [OZ,OZ,OZ,OZ,OZ] 6,boF 27 (.call aZL [26]) [6] [2] false 1,boF 29 (.call B7 [28]) [6] [] false 3,boF 31 (.call bsS [27,29,30]) [6] [] false 5,g0 5 true 8 31 7] 8 [2,3,4,8]) (boG [f8 32 3 3,f6 33 aZL [32],f7 9 [OZ,OZ,OZ],g0 3 true 9 33] [2,3,4,8,9] (boG [f8 34 5 4,f6 35 B7 [34],f7 10 [OZ,OZ,OZ,OZ,OZ],g0 5 true 10 35] [2,3,4,8,9,10] (boG [f8 36 3 9,f8 37 5 10,RM 38 2,f6 39 xN [36,37,38],f7 11 [OZ,OZ,OZ,OZ,OZ],g0 5 true 11 39] [2,3,4,8,9,10,11] (.seq (boG [f8 40 5 11,f8 41 5 8,f6 42 a0D [40,41],f4 43 42] [2,3,4,8,9,10,11,43] (.cond 43 (boG [dO 6 boD] [6] .ret) .skip)) (.seq (boG [boF 44 (.load 3 true 9) [] [] true,f8 45 3 3,boF 46 (.call aZL [45]) [] [0] false,f6 47 a1B [44,46],f4 48 47] [2,3,4,8,9,10,11,48] (.cond 48 (boG [dO 6 boD] [6] .ret) .skip)) (.seq (boG [boF 49 (.load 5 true 10) [] [] true,f8 50 5 4,boF 51 (.call B7 [50]) [] [0] false,f6 52 a0D [49,51],f4 53 52] [2,3,4,8,9,10,11,53] (.cond 53 (boG [dO 6 boD] [6] .ret) .skip)) (boG [dO 12 (ki 1)] [2,3,4,8,9,10,11,12] (boG [f8 54 3 9,RM 55 12,f6 56 bAD [54,55],RM 12 56] [2,3,4,8,10,11,12] (boG [f8 57 5 10,RM 58 12,f6 59 bI0 [57,58],RM 12 59] [2,3,4,8,11,12] (.seq (boG [RM 60 12,dI 61 .lss 60 (ki 0),RM 62 61,GQ 63 (.load 5 true 11) 62 false,GQ 64 (.load 5 true 8) 62 false,GQ 65 (.call a0D [63,64]) 62 false,hP 66 65 62 false,f3 67 62 boE 66] [2,3,4,8,11,67] (.cond 67 (boG [dO 6 boD] [6] .ret) .skip)) (boG [dO 13 (ki 1)] [2,3,4,8,11,13] (boG [f8 68 5 11,RM 69 13,f6 70 bI0 [68,69],RM 13 70] [2,3,4,8,11,13] (boG [dO 14 (ki 1)] [2,3,4,8,11,13,14] (boG [f8 71 5 11,RM 72 14,f6 73 bIQ [71,72],RM 14 73] [2,3,4,8,11,13,14] (.seq (boG [RM 74 14,dI 75 .lss 74 (ki 0)] [2,3,4,8,11,13,14,75] (.cond 75 (boG [dO 6 boD] [6] .ret) .skip)) (.seq (boG [RM 76 14,RM 77 13,dI 78 .neq 76 77] [2,3,4,8,11,13,78] (.cond 78 (boG [dO 6 boD] [6] .ret) .skip)) (.seq (.region [boF 79 (.load 3 true 3) [6] [] false 0,boF 81 (.load 5 true 4) [6] [] true 2,RM 83 2 4,f7 15 [OZ,OZ,OZ,OZ,OZ] 6,boF 80 (.call aZL [79]) [6] [2] false 1,boF 82 (.call B7 [81]) [6] [] false 3,boF 84 (.call xN [80,82,83]) [6] [] false 5,g0 5 true 15 84 7] 8 [8,11,13,15]) (.seq (boG [f8 85 5 15,f8 86 5 8,f6 87 a0D [85,86],f4 88 87] [11,13,88] (.cond 88 (boG [dO 6 boD] [6] .ret) .skip)) (boG [dO 14 (ki 1)] [11,13,14] (boG [f8 89 5 11,RM 90 14,f6 91 bIQ [89,90],RM 14 91] [13,14] (.seq (boG [RM 92 14,dI 93 .lss 92 (ki 0)] [13,14,93] (.cond 93 (boG [dO 6 boD] [6] .ret) .skip)) (.seq (boG [RM 94 14,RM 95 13,dI 96 .neq 94 95] [96] (.cond 96 (boG [dO 6 boD] [6] .ret) .skip)) (boG [dO 6 boE] [6] .ret))))))))))))))))))))))))))))))
def aX:List aW:=[.tm 6]
theorem c1:aO bNV Tryz.f8 (bnD aD)=some (aD,aX):=by kernel_rfl
def aV:AC:= (boG [f5 3 0,f5 4 1,f7 6 [OZ,OZ,OZ,OZ,OZ]] [2,3,4,6] (.seq (boG [f8 9 3 3,f8 10 5 4,f6 11 aI5 [9,10],f4 12 11,RM 13 12,hG 14 2 13 false,hO 15 .gtr 14 (ki 300) 13 false,f3 16 13 boE 15] [2,3,4,6,16] (.cond 16 (boG [rq 17 (.build [OZ,OZ,OZ,OZ,OZ] []),g0 5 true 6 17] [6] .ret) .skip)) (boG [f8 18 5 4,f6 19 bg9 [18],f7 7 [OZ,OZ,OZ,OZ,OZ],g0 5 true 7 19] [2,3,6,7] (.seq (boG [dO 8 (ki 0)] [2,3,6,7,8] (.block 0 (.loop (.seq (boG [RM 20 8,RM 21 2,dI 22 .lss 20 21] [2,3,6,7,8,22] (.cond 22 .skip (.exit 0))) (.seq (.block 1 (m2 [boF 25 (.load 3 true 3) [] [] true,boF 26 (.load 5 true 7) [] [] true,boF 27 (.call CS []) [] [0,1] false,f6 28 bgZ [25,26,27],g0 5 true 7 28] [2,3,6,7,8])) (m2 [RM 23 8,dI 24 .add 23 (ki 1),RM 8 24] [2,3,6,7,8])))))) (boG [f8 29 5 7,f6 30 bg9 [29],g0 5 true 6 30] [6] .ret)))))
def c5:List aW:=[.cell 6 5 true]
theorem g5:aO bNV Tryz.f64 (bnD aV)=some (aV,c5):=by kernel_rfl
section
variable{H:aA}{nx:Nat}{K:bNX}
theorem hX{i:CIn}(k:i.ready.length<2^21)(l:i.n9.length<2^21)(m:i.send.length<2^21)(h:K (dB (inB i)) H nx):bNW uJ [boR (eIn i)] H nx K:=by
 refine aB.pure (args0:=[boR (eIn i)]) (R:=fun f=>f=dB (inB i)) ?_ rfl (aI ⟨aE rfl,trivial⟩) (fun r g=>g▸h);clear h;refine XL rfl fun Q c=> ?_;unfold CT;by_cases b:i.ready.length=3
 ·by_cases d:i.n9.length=4
  ·by_cases e:i.send.length=3
   ·have a:inB i=true:=decide_eq_true ⟨b,d,e⟩;repeat' first| (first|apply bn1|apply bpJ (by omega))<;>(simp only[go_sem,b,d,e])|fail
    all_goals exact aZ c _ rfl rfl (congrArg dB a.symm)
   ·have a:inB i=false:=decide_eq_false fun h=>e h.2.2;have j:decide ((i.send.length:Int)=3)=false:=decide_eq_false (by omega);repeat' first| (first|apply bn1|apply bpJ (by omega))<;>(simp only[go_sem,b,d,j])|fail
    all_goals first|exact aZ c _ rfl rfl (congrArg dB a.symm)|omega
  ·have a:inB i=false:=decide_eq_false fun h=>d h.2.1;repeat' first| (first|apply bn1|apply bpJ (by omega)|apply bpK (by omega))<;>(simp only[go_sem,b])|fail
   all_goals first|exact aZ c _ rfl rfl (congrArg dB a.symm)|omega
 ·have a:inB i=false:=decide_eq_false fun h=>b h.1;repeat' first| (first|apply bn1|apply bpK (by omega))<;>(simp only[go_sem])|fail
  all_goals first|exact aZ c _ rfl rfl (congrArg dB a.symm)|omega
theorem hM(h: ∀b a,nx<=a->(∀id,id<nx->b id=H id)->K (boR (eIn pU)) b a):bNW CS [] H nx K:=by apply aB.tW;refine YE fun b a f d e k9 l1=>⟨boR (eIn pU),without (fun j=>j=nx+1\/j=nx+2\/j=nx+3) b,_,lY (i1 d e k9 (.inl rfl) (.inr (.inl rfl)) (.inr (.inr rfl))),kS,h _ _ (by omega) fun id c=>by rw[iI (by omega)];exact l1 id c⟩
theorem fS{c:Cfg}{s:CSt}{n:Int}(A:jO c)(U:beL s)
 (h: ∀H' C,nx<=C->(∀id,id<nx->H' id=H id)->K (boR (eI (b9 c s n))) H' C):bNW bsS [boR (cU c),boR (eI s),boP n] H nx K:=by
 apply aB.tW
 refine cJ.mk Tryz.func64 (by kernel_rfl) g5 rfl fun Q hQ=> ?_
 unfold aV
 have m:b9 c s n=h8->∀{G:aA} {V:Env} {W:Nat},nx<=W->(∀id,id<nx->G id=H id)->V 6= .one (.c (.ptr 5 (nx+2) 0 0))->Q .ret V (G.set (nx+2) ⟨5,1,[[.osl 0 0 0 0 0,.osl 0 0 0 0 0,.osl 0 0 0 0 0,.osl 0 0 0 0 0,.osl 0 0 0 0 0]]⟩) W:=fun X G V W g1 Y g3=>by rw[X] at h;exact hQ _ _ _ _ _ (.inr rfl) (LL g3 aA.bH rfl) ⟨boR (eI h8),_,noF,lY (aH (.frz (.nil ..)) (aH (.frz (.nil ..)) (aH (.frz (.nil ..)) (aH (.frz (.nil ..)) (aH (.frz (.nil ..)) eP))))),aK,h _ _ g1 fun id a=>by rw[aA.aC (by omega)];exact Y id a⟩
 cases B:cyB c s
 ·repeat' first| (first|apply bn1|apply bd7 A U)<;>(simp only[go_sem,B,boC])|fail
  exact m (if_neg fun S=>by rw[B] at S;exact absurd S.1 (by decide)) (by omega) (fun id a=>by simp (disch:=omega) only[aA.aC]) rfl
 by_cases hn:n<=300
 case neg=>
  repeat' first| (first|apply bn1|apply bd7 A U)<;>(simp only[go_sem,B,boC])|apply bn2 (by omega)|fail
  exact m (if_neg fun S=>hn S.2) (by omega) (fun id a=>by simp (disch:=omega) only[aA.aC]) rfl
 have X:b9 c s n=sQ c s (List.replicate n.toNat pU):=if_pos ⟨B,hn⟩
 rw[X] at h
 clear m
 obtain⟨T,hs⟩:=bmR.1 B
 have Z:=hs.sz T
 repeat' first| (first|apply bn1|apply bd7 A U|refine bjQ Z (fun H1 aa nm cells hx hR boS r=> ?_))<;>(simp only[go_sem,B,boC])|apply bn3 (by omega)|fail
 have f:cells.length=5:=by obtain⟨_,_,_,_,_,rfl,_⟩:=hR.ex;rfl
 have b:cells++List.drop cells.length [D1.osl 0 0 0 0 0,.osl 0 0 0 0 0,.osl 0 0 0 0 0,.osl 0 0 0 0 0,.osl 0 0 0 0 0]=cells:=by rw[f];simp
 refine⟨f,by omega,?_⟩
 rw[b]
 generalize bqK:aA.set H1 (nx+13) _=G
 have D:G (nx+13)=some ⟨5,1,[cells]⟩:=by rw[<-bqK];exact aA.bH
 have bqC:G nx=some ⟨3,1,[cU c]⟩:=by rw[<-bqK,aA.aC (by omega),r _ (by omega)];simp (disch:=omega) only[aA.aC,aA.bH]
 have Y:G (nx+2)=some ⟨5,1,[[.osl 0 0 0 0 0,.osl 0 0 0 0 0,.osl 0 0 0 0 0,.osl 0 0 0 0 0,.osl 0 0 0 0 0]]⟩:=by rw[<-bqK,aA.aC (by omega),r _ (by omega)];simp (disch:=omega) only[aA.aC,aA.bH]
 have gf: ∀id,id<nx->G id=H id:=fun id a=>by rw[<-bqK,aA.aC (by omega),r _ (by omega)];simp (disch:=omega) only[aA.aC]
 have E:bgJ (fun j=>j<nx+14) G aa nm s cells:=⟨hR.frame fun k e=>by have:=boS.rng k e;rw[<-bqK,aA.aC (by omega)],⟨boS.inj,fun k e=>(boS.rng k e).2,fun k e hj=>by have:=(boS.rng k e).1;have hj:nm k<nx+14:=hj;omega⟩,fun id a=>by have a:id<nx+14:=a;omega⟩
 clear bqK r hR boS
 try apply bn0
 repeat' first|apply bn1<;>(simp only[go_sem])|fail
 refine aM.gP (β:=Nat×CSt×(Nat->Nat)×List D1) (fun u=>en [(8,boP u.1),(7,.one (.c (.ptr 5 (nx+13) 0 0))),(6,.one (.c (.ptr 5 (nx+2) 0 0))),(3,.one (.c (.ptr 3 nx 0 0))),(2,boP n)])
  (fun u F bqP=>u.1<=n.toNat/\u.2.1=sQ c s (List.replicate u.1 pU)/\bgJ (fun j=>j<nx+14) F bqP u.2.2.1 u.2.1 u.2.2.2/\F (nx+13)=some ⟨5,1,[u.2.2.2]⟩/\ ∀id,id<nx+13->F id=G id)
  (fun u=>n.toNat-u.1) (0,s,nm,cells) ⟨noF,_,by repeat' first|exact bo2|refine xqI rfl rfl ?_|refine xqP (by omega) rfl rfl ?_|fail,aK,by dsimp only;omega,rfl,E.frame (by omega) fun _ _ _=>rfl,D,fun _ _=>rfl⟩ ?_
 clear E D f b
 rintro⟨k,bp7,t,v⟩ F ab aj ⟨e,o,p,w,x⟩ bpQ ad
 dsimp only at e o p w
 have I:COk c bp7:=by rw[o];exact(afM T hs).1
 have s0:=(x nx (by omega)).trans bqC
 have s2:=(x (nx+2) (by omega)).trans Y
 have f:=p.len
 have q:bQ ab [nx,nx+2,nx+13]:=AM.apart (by simp) (by simp;omega)
 simp only[bQ,eZ] at q
 by_cases ak:(k:Int)<n
 ·repeat' first| (first|apply bn1|apply hM)<;>(simp only[go_sem,s0,w,q,f,boC])|apply bn2 (by omega)|fail
  intro bqL ae af i;have J:=(i (nx+13) (by omega)).trans w;have j6:=(i nx (by omega)).trans s0;refine⟨⟨fun _=>by rw[J];simp only[go_sem,f],fun _=>by rw[j6];rfl⟩,?_⟩;refine bi3 T I jN (p.frame (by omega) fun id d1 _=>i id (by omega)) fun aZJ al ag y an L M=> ?_;have N:=(M (nx+13) (by show nx+13<nx+14;omega)).trans J;have z:=L.len;have b:List.drop 5 v=[]:=by rw[<-f];simp
  (try simp only[go_sem,boC,N,z,b,bq6,q,boC]);repeat' first|apply bn1<;>(simp only[go_sem,boC,N,z,b,bq6,q,boC];try simp (disch:=omega) only[Iw])|refine⟨by omega,?_⟩|fail
  refine ad _ _ _ (k+1,vF c pU bp7,ag,y) noF _ (by omega) (by dsimp only;omega) (by repeat' first|exact bo2|refine xqI rfl rfl ?_|refine xqP (by omega) rfl rfl ?_|fail) aK ⟨by dsimp only;omega,by dsimp only;rw[o,i5],by dsimp only;exact L.frame (by omega) fun id _ d2=>aA.aC (by omega),aA.bH,fun id a=> ?_⟩;rw[aA.aC (by omega),M id (by show id<nx+14;omega),i id (by omega)];exact x id a
 ·repeat' first|apply bn1<;>(simp only[go_sem,s0,s2,w,q,f,boC])|apply bn3 (by omega)|fail
  have g:=I.sz T;have O:=p.names.av;have ah:k=n.toNat:=by omega
  rw[ah] at o;rw[<-o] at h;refine aB.ao4 (args':=[boR (eI bp7)]) (without (fun j=>∃k,k<19/\j=t k) F) (fun j=>∃k,k<19/\j=t k) rfl (bkE (lY (A8 (p.rep.VI (fun k e=>⟨k,e,rfl⟩) g.pl g.sl)))) kS ?_;refine bjQ g fun bqL ae ai d af P R i=> ?_;have bqI:bqL (nx+2)=some ⟨5,1,[[.osl 0 0 0 0 0,.osl 0 0 0 0 0,.osl 0 0 0 0 0,.osl 0 0 0 0 0,.osl 0 0 0 0 0]]⟩:=by rw[i _ (by omega),iI (fun⟨k,e,he⟩=>O k e (by show t k<nx+14;omega))];exact s2
  have wf: ∀id,id<nx->bqL id=H id:=fun id a=>by rw[i _ (by omega),iI (fun⟨k,e,he⟩=>O k e (by show t k<nx+14;omega)),x id (by omega)];exact gf id a
  have l:d.length=5:=by obtain⟨_,_,_,_,_,rfl,_⟩:=P.ex;rfl
  have b:d++List.drop d.length [D1.osl 0 0 0 0 0,.osl 0 0 0 0 0,.osl 0 0 0 0 0,.osl 0 0 0 0 0,.osl 0 0 0 0 0]=d:=by rw[l];simp
  (try simp only[go_sem,boC,bqI,l,b,boC]);repeat' first|apply bn1<;>(simp only[go_sem,boC,bqI,l,b,boC])|fail
  refine hQ _ _ _ _ _ (.inr rfl) (LL rfl aA.bH l) ⟨boR (eI bp7),_,fun j=>∃k,k<19/\j=ai k,?_,kS,h _ _ (by omega) fun id a=> ?_⟩;·exact lY (A8 ((P.frame fun k e=>aA.aC (by have:=R.rng k e;omega)).VI (fun k e=>⟨k,e,rfl⟩) g.pl g.sl))
  ·rw[iI (fun⟨k,e,he⟩=>by have:=R.rng k e;omega),aA.aC (by omega)];exact wf id a
end
theorem c4:cJ bNV xN Tryz.f65 u0 DP:=cJ.mk Tryz.func65 (by kernel_rfl) N3
section
variable{H:aA}{nx:Nat}{K:bNX}
theorem c8(h:K (.tup [.c (.v (.int .u64 0)),.c (.v (.int .u64 3))]) H nx):bNW eF [btN 1,btN 3] H nx K:=by
 refine aB.pure (args0:=[btN 1,btN 3]) (R:=fun a=>a= .tup [.c (.v (.int .u64 0)),.c (.v (.int .u64 3))]) ?_ rfl (aI ⟨aE rfl,aE rfl,trivial⟩) (fun r b=>b▸h);clear h;refine pB rfl fun Q d=> ?_;unfold iN;repeat' first|apply bn1<;>(simp only[go_sem])|fail
 exact aZ d (.tup [.c (.v (.int .u64 0)),.c (.v (.int .u64 3))]) (by rfl) rfl rfl
theorem eJ(h:K (.tup [.c (.v (.int .u64 0)),.c (.v (.int .u64 3))]) H nx):bNW cE [btN 1,btN 3] H nx K:=by
 refine aB.pure (args0:=[btN 1,btN 3]) (R:=fun a=>a= .tup [.c (.v (.int .u64 0)),.c (.v (.int .u64 3))]) ?_ rfl (aI ⟨aE rfl,aE rfl,trivial⟩) (fun r b=>b▸h);clear h;refine tM rfl fun Q d=> ?_;unfold kO;repeat' first| (first|apply bn1|apply c8)<;>(simp only[go_sem])|fail
 all_goals first|with_reducible refine aZ d _ rfl rfl ?_|skip
 all_goals rfl
theorem a9:bNW dN [boQ 1 0 1 1,boP 3] (hp [(0,⟨1,1,[true].map eH⟩)]) 1
 fun r k l=>l=2/\k=hp [(1,⟨1,3,(List.replicate 3 true).map eH⟩)]/\r=boQ 1 1 3 3:=by
 refine wL rfl fun Q m=> ?_
 unfold iE
 have bqH:IntKind.u64.wrap 1=1:=by decide
 have bk6:IntKind.u64.wrap 3=3:=by decide
 have f:min 1 3=1:=rfl
 have g:((1:Nat):Int)=1:=rfl
 generalize a:[true]=o at*
 have hlen:o.length=1:=by subst a;rfl
 repeat' first| (first|apply bn1|apply eJ)<;>(simp only[go_sem,hlen,bqH,bk6,g,f];try simp (disch:=omega) only[Iw])|refine⟨by omega,?_⟩|fail
 obtain⟨R,c⟩: ∃R:Nat->List Bool,R=fun n=>List.replicate n true++List.replicate (3-n) false:=⟨_,rfl⟩
 refine aM.sG 1 (β:=Nat) (fun b n=>en [(8,boP n),(7,boQ 1 b 3 3)]) (fun b n=>hp [(b,⟨1,3,(R n).map eH⟩)]) (fun n=>n=1\/n=2\/n=3) (fun n=>3-n) 1
  (by(refine cR [23] (by omega) (by repeat' first|exact bo2|refine xqI rfl rfl ?_|refine xqO (by omega) rfl rfl (by rfl) ?_|fail) ⟨⟨by simp,by simp[sgL],_,rfl,bP (aG mK _) (by subst c;subst a;rfl) rfl⟩,trivial⟩ (by simp[sgL]))) (.inl rfl) ?_
 intro n j bpQ d
 have h:min 1 2=1:=rfl
 have i:min 2 1=1:=rfl
 have e: ∀n,n<=3->(R n).length=3:=fun n j=>by subst c;simp;omega
 have p:=e 1 (by decide)
 have q:=e 2 (by decide)
 rcases j with rfl|rfl|rfl
 ·repeat' first|apply bn1<;>(simp only[go_sem,p,h];try simp (disch:=omega) only[Iw])|apply bn2 (by omega)|refine⟨by omega,?_⟩|fail
  exact d _ _ _ 2 (by omega) (by(refine cR [29] (by omega) (by repeat' first|exact bo2|refine xqI rfl rfl ?_|refine xqO (by omega) rfl rfl (by rfl) ?_|fail) ⟨⟨by simp,by simp[sgL],_,rfl,bP (aG mK _) (by subst c;rfl) rfl⟩,trivial⟩ (by simp[sgL]))) (by omega) (by omega)
 ·repeat' first|apply bn1<;>(simp only[go_sem,q,i];try simp (disch:=omega) only[Iw])|apply bn2 (by omega)|refine⟨by omega,?_⟩|fail
  exact d _ _ _ 3 (by omega) (by(refine cR [29] (by omega) (by repeat' first|exact bo2|refine xqI rfl rfl ?_|refine xqO (by omega) rfl rfl (by rfl) ?_|fail) ⟨⟨by simp,by simp[sgL],_,rfl,bP (aG mK _) (by subst c;rfl) rfl⟩,trivial⟩ (by simp[sgL]))) (by omega) (by omega)
 ·repeat' first|apply bn1<;>(simp only[go_sem])|apply bn3 (by omega)|fail
  (refine m _ _ _ _ _ 2 (boQ 1 1 3 3) (hp [(1,⟨1,3,(List.replicate 3 true).map eH⟩)]) _ _ (.inr rfl) rfl (fU [29] (by omega) (by repeat' first|exact bo2| ((with_reducible apply bo0);exact bpB (by omega) rfl rfl (by rfl) rfl)| ((with_reducible apply bo1);apply bo7)|fail) ⟨⟨by simp,by simp[sgL],_,rfl,bP (aG mK _) (by subst c;rfl) rfl⟩,trivial⟩ (by simp[sgL])) ?_);exact⟨rfl,rfl,rfl⟩
theorem i3{τ:Nat->Nat}{m:Nat}{l:List Bool}:bA.rn τ ⟨1,m,l.map eH⟩=⟨1,m,l.map eH⟩:=by refine rF fun r b x a=> ?_;obtain⟨y,_,rfl⟩:=CF.1 b;simp only[eH,CJ] at a;subst a;rfl
theorem b8{i0:Nat}(f:i0<nx)(a:H i0=some ⟨1,1,[[cB true]]⟩)(h:K (boQ 1 nx 3 3) ((H.del i0).set nx ⟨1,3,(List.replicate 3 true).map eH⟩) (nx+1)):bNW dN [boQ 1 i0 1 1,boP 3] H nx K:=by
 refine a9.AF [i0] rfl ⟨qS (by simp) rfl rfl rfl rfl,aE rfl,trivial⟩ ⟨⟨by simp,id,_,a,bP (aG mK _) rfl rfl⟩,trivial⟩ (by simp) (by simp;omega) (by simp) fun r g i _ ⟨b,c,d⟩=> ?_;subst b;subst c;subst d;generalize List.replicate 3 true=bk1 at*;have e:back (tau 1 nx (nth [i0])) (hp [(1,⟨1,3,bk1.map eH⟩)]) 2 H=(H.del i0).set nx ⟨1,3,bk1.map eH⟩:=by simp[back,hp,aA.set,aA.nil,tau,nth,i3,aA.eL,aA.yI]
 rw[<-e] at h;exact h
theorem eR(h: ∀c a,nx<=a->(∀id,id<nx->c id=H id)->K (boR (eIn pU)) c a):bNW DB [] H nx K:=by
 apply aB.tW;refine cJ.mk Tryz.func158 (by kernel_rfl) UH rfl fun Q d=> ?_;unfold AV;repeat' first| (first|apply bn1| (refine b8 (by omega) (by simp only[aA.set,aA.del,msk,dT];simp;try rfl) ?_))<;>(simp only[go_sem,boC])|fail
 refine(fun(h: ∀G,G=_->Q _ _ G _)=>h _ rfl) fun G bqK=> ?_;have bfZ:G nx=some ⟨3,1,[[.osl 1 (nx+8) 0 3 3,.osl 1 (nx+3) 0 4 4,.osl 1 (nx+9) 0 3 3]]⟩:=by rw[bqK];simp[aA.set]
 have bpX:G (nx+8)=some ⟨1,3,[true,true,true].map eH⟩:=by rw[bqK];simp[aA.set]
 have bkR:G (nx+9)=some ⟨1,3,[true,true,true].map eH⟩:=by rw[bqK];simp[aA.set]
 have bpS:G (nx+3)=some ⟨1,4,[false,false,false,false].map eH⟩:=by rw[bqK];simp[aA.set,aA.del,msk,dT];rfl
 have e: ∀id,id<nx->G id=H id:=fun id b=>by rw[bqK];simp[aA.set,aA.del,msk,dT,show ¬id=nx by omega,show ¬id=nx+1 by omega,show ¬id=nx+3 by omega,show ¬id=nx+4 by omega,show ¬id=nx+8 by omega,show ¬id=nx+9 by omega]
 clear bqK;refine d _ _ _ _ _ (.inr rfl) (fZ (m:=1) rfl bfZ rfl) ⟨boR (eIn pU),without (fun j=>j=nx+3\/j=nx+8\/j=nx+9) G,fun j=>j=nx+3\/j=nx+8\/j=nx+9,?_,kS,h _ _ (by omega) fun id b=> ?_⟩;·exact lY (aH (bW mK bpX rfl (by decide) (.inr (.inl rfl))) (aH (bW mK bpS rfl (by decide) (.inl rfl)) (aH (bW mK bkR rfl (by decide) (.inr (.inr rfl))) eP)))
 ·rw[iI (by omega)];exact e id b
theorem j4{F:Nat->Prop}{σ:Nat->Nat}{nh n m d:Nat}{rows c:List (List D1)}(k: ∀r∈c,∀y∈r,y.dQ=true\/y= .osl 0 0 0 0 0)(h:c=rows)(hm:d=m):CvO H F σ nh ⟨n,d,c⟩ ⟨n,m,rows⟩:=by
 subst h;subst hm;refine⟨rfl,rfl,m5 _,fun _ h=>h,fun i r e=>⟨r,e,rfl,fun j a b f g=> ?_⟩⟩;rw[f] at g;cases g;rcases k r (s3 e) a (s3 f) with h|h;·exact bB h
 ·subst h;exact afQ
theorem a8(x:CIn)(N:Nat)(L:1<=N)(p:N<=300)(hmul: ∀{H:aA} {nx:Nat} {K:bNX},K (.tup [.c (.v (.int .u64 0)),.c (.v (.int .u64 N))]) H nx->bNW cE [btN 1,btN N] H nx K):bNW eT [boQ 3 0 1 1,boP N] (hp [(0,⟨3,1,[x].map eIn⟩)]) 1
 fun r s t=>t=2/\s=hp [(1,⟨3,N,(List.replicate N x).map eIn⟩)]/\r=boQ 3 1 N N:=by
 refine uM rfl fun Q u=> ?_
 unfold gJ
 have bqH:IntKind.u64.wrap 1=1:=by decide
 have bk6:IntKind.u64.wrap N=N:=by rw[IntKind.wrap_u64];omega
 have h:min 1 N=1:=by omega
 have i:((1:Nat):Int)=1:=rfl
 generalize e:[x]=w at*
 have hlen:w.length=1:=by subst e;rfl
 repeat' first| (first|apply bn1|apply hmul)<;>(simp only[go_sem,hlen,bqH,bk6,i,h];try simp (disch:=omega) only[Iw])|apply bn3 (by omega)|refine⟨by omega,?_⟩|fail
 obtain⟨Z,q⟩: ∃Z:List D1,Z=[.osl 0 0 0 0 0,.osl 0 0 0 0 0,.osl 0 0 0 0 0]:=⟨_,rfl⟩
 obtain⟨R,a⟩: ∃R:Nat->List (List D1),R=fun n=>List.replicate n (eIn x)++List.replicate (N-n) Z:=⟨_,rfl⟩
 have f: ∀n,∀r∈R n,∀y∈r,y.dQ=true\/y= .osl 0 0 0 0 0:=fun n r d y g=>by
  rw[a] at d;rcases o3.1 d with d|d;·rw[(List.mem_replicate.1 d).2] at g;exact .inl (w2.1 (QX x).2 y g)
  ·rw[(List.mem_replicate.1 d).2,q] at g;simp at g;exact .inr g
 have j: ∀n,n<=N->(R n).length=N:=fun n M=>by rw[a];simp;omega
 refine aM.sG 1 (β:=Nat) (fun b n=>en [(8,boP n),(7,boQ 3 b N N)]) (fun b n=>hp [(b,⟨3,N,R n⟩)]) (fun n=>1<=n/\n<=N) (fun n=>N-n) 1
  (by(refine cR [23] (by omega) (by repeat' first|exact bo2|refine xqI rfl rfl ?_|refine xqO (by omega) rfl rfl (by rfl) ?_|fail) ⟨⟨by simp,by simp[sgL],_,rfl,j4 (f 1) (by rw[a,<-q];subst e;unfold wr;simp) rfl⟩,trivial⟩ (by simp[sgL]))) ⟨by omega,by omega⟩ ?_
 rintro n ⟨z,l⟩ bpQ m
 have A:=j n l
 by_cases B:n<N
 ·have C:(min n (N-n)<=N)=True:=eq_true (by omega);have E:((0<N-n/\0<N\/min n (N-n)=0)/\n<=N/\n+min n (N-n)<=N)=True:=eq_true ⟨by omega,by omega,by omega⟩
  have aYL:R (n+min n (N-n))=wr (R n) n (List.take (min n (N-n)) (R n)):=by
   obtain⟨k,F⟩: ∃k,k=min n (N-n):=⟨_,rfl⟩
   rw[<-F];have G:List.take k (R n)=List.replicate k (eIn x):=(by rw[a,List.take_append_of_le_length (by simp;omega),List.take_replicate,Nat.min_eq_left (by omega)]);have I:List.take n (R n)=List.replicate n (eIn x):=(by rw[a];simp);have J:List.drop (n+k) (R n)=List.replicate (N-(n+k)) Z:=(by rw[a];simp only[List.drop_append,bx0,List.drop_replicate];rw[show n-(n+k)=0 by omega,List.replicate_zero,List.nil_append];congr 1;omega);unfold wr;rw[G,I,bx0,J,a];dsimp only;rw[<-List.replicate_append_replicate]
  repeat' first|apply bn1<;>(simp only[go_sem,A,C,E];try simp (disch:=omega) only[Iw])|apply bn2 (by omega)|refine⟨by omega,?_⟩|fail
  exact m _ _ _ (n+min n (N-n)) (by omega) (by(refine cR [29] (by omega) (by repeat' first|exact bo2|refine xqI rfl rfl ?_|refine xqO (by omega) rfl rfl (by rfl) ?_|fail) ⟨⟨by simp,by simp[sgL],_,rfl,j4 (f _) aYL rfl⟩,trivial⟩ (by simp[sgL]))) ⟨by omega,by omega⟩ (by omega)
 ·repeat' first|apply bn1<;>(simp only[go_sem])|apply bn3 (by omega)|fail
  have o:n=N:=by omega
  (refine u _ _ _ _ _ 2 (boQ 3 1 N N) (hp [(1,⟨3,N,(List.replicate N x).map eIn⟩)]) _ _ (.inr rfl) rfl (fU [29] (by omega) (by repeat' first|exact bo2| ((with_reducible apply bo0);exact bpB (by omega) rfl rfl (by rfl) rfl)| ((with_reducible apply bo1);apply bo7)|fail) ⟨⟨by simp,by simp[sgL],_,rfl,bP (aG QX _) (by rw[a,o];simp) rfl⟩,trivial⟩ (by simp[sgL])) ?_);exact⟨rfl,rfl,rfl⟩
theorem j3{τ:Nat->Nat}{m:Nat}{l:List CIn}:bA.rn τ ⟨3,m,l.map eIn⟩=⟨3,m,l.map eIn⟩:=by refine rF fun r b x a=> ?_;obtain⟨y,_,rfl⟩:=CF.1 b;simp only[eIn,t3,bq7,or_false] at a;rcases a with rfl|rfl|rfl<;>rfl
theorem a7{x:CIn}{N:Nat}(b:1<=N)(a:N<=300)(hmul: ∀{H:aA} {nx:Nat} {K:bNX},K (.tup [.c (.v (.int .u64 0)),.c (.v (.int .u64 N))]) H nx->bNW cE [btN 1,btN N] H nx K)
 {i0:Nat} (j:i0<nx) (d:H i0=some ⟨3,1,[eIn x]⟩) (h:K (boQ 3 nx N N) ((H.del i0).set nx ⟨3,N,(List.replicate N x).map eIn⟩) (nx+1)):bNW eT [boQ 3 i0 1 1,boP N] H nx K:=by
 refine(a8 x N b a hmul).AF [i0] rfl ⟨qS (by simp) rfl rfl rfl rfl,aE rfl,trivial⟩ ⟨⟨by simp,id,_,d,bP (aG QX _) rfl rfl⟩,trivial⟩ (by simp) (by simp;omega) (by simp) fun r k l _ ⟨e,f,g⟩=> ?_
 subst e;subst f;subst g
 generalize List.replicate N x=bk1 at*
 have i:back (tau 1 nx (nth [i0])) (hp [(1,⟨3,N,bk1.map eIn⟩)]) 2 H=(H.del i0).set nx ⟨3,N,bk1.map eIn⟩:=by simp[back,hp,aA.set,aA.nil,tau,nth,j3,aA.eL,aA.yI]
 rw[<-i] at h
 exact h
end
section
variable{H:aA}{nx:Nat}{K:bNX}
theorem c7{N:Nat}(l2:N<=300)(h:K (.tup [.c (.v (.int .u64 0)),.c (.v (.int .u64 N))]) H nx):bNW eF [btN 1,btN N] H nx K:=by
 refine aB.pure (args0:=[btN 1,btN N]) (R:=fun e=>e= .tup [.c (.v (.int .u64 0)),.c (.v (.int .u64 N))]) ?_ rfl (aI ⟨aE rfl,aE rfl,trivial⟩) (fun r f=>f▸h);clear h;refine pB rfl fun Q d=> ?_;unfold iN;repeat' first|apply bn1<;>(simp only[go_sem])|fail
 refine aZ d (.tup [.c (.v (.int .u64 0)),.c (.v (.int .u64 N))]) ?_ rfl rfl;clear d;refine(fun(h: ∀{a b x y:Int},a=x->b=y->some (D.tup [.c (.v (.int .u64 a)),.c (.v (.int .u64 b))])=some (D.tup [.c (.v (.int .u64 x)),.c (.v (.int .u64 y))]))=>h ?_ ?_) (fun g i=>by rw[g,i]);·revert l2;revert N;decide+kernel
 ·revert l2;revert N;decide+kernel
theorem b7{N:Nat}(l2:N<=300)(h:K (.tup [.c (.v (.int .u64 0)),.c (.v (.int .u64 N))]) H nx):bNW cE [btN 1,btN N] H nx K:=by
 refine aB.pure (args0:=[btN 1,btN N]) (R:=fun a=>a= .tup [.c (.v (.int .u64 0)),.c (.v (.int .u64 N))]) ?_ rfl (aI ⟨aE rfl,aE rfl,trivial⟩) (fun r b=>b▸h);clear h;refine tM rfl fun Q d=> ?_;unfold kO;repeat' first| (first|apply bn1|apply c7 l2)<;>(simp only[go_sem])|fail
 all_goals first|with_reducible refine aZ d _ rfl rfl ?_|skip
 all_goals rfl
theorem e7{x:CIn}{i0:Nat}(p:i0<nx)(g:H i0=some ⟨3,1,[eIn x]⟩)(h: ∀e a,nx<=a->(∀id,id<nx->id≠i0->e id=H id)->K (dS (([]:List CIn).map eIn)) e a):bNW eT [boQ 3 i0 1 1,boP 0] H nx K:=by
 apply aB.tW;refine cJ.mk Tryz.func157 (by kernel_rfl) uN rfl fun Q i=> ?_;unfold gJ;have bqH:IntKind.u64.wrap 1=1:=by decide
 have bk1:IntKind.u64.wrap 0=0:=by decide
 have b:((1:Nat):Int)=1:=rfl;have f:bQ nx [i0]:=AM.apart (by simp) (by simp;omega);simp only[bQ,eZ] at f;repeat' first| (first|apply bn1|apply b7 (N:=0) (by omega))<;>(simp only[go_sem,g,bqH,bk1,b,f,boC];try simp (disch:=omega) only[Iw])|apply bn3 (by omega)|refine⟨by omega,?_⟩|fail
 have j:min 1 0=0:=rfl;have d:wr ([]:List (List D1)) 0 []=[]:=rfl;simp only[j,List.take_zero,d,bxY,if_true,go_sem];apply bn0;repeat' first|apply bn1<;>(simp only[go_sem])|fail
 refine aM.gP (β:=Unit) (fun _=>en [(8,boP 0),(7,.one (.c (.osl 3 (nx+22) 0 0 0)))]) (fun _ H1 _=>∀id,id<nx->id≠i0->H1 id=H id) (fun _=>0) () ⟨noF,_,oF (oF K6 (apS (.VS ..))) (aE rfl),aK,fun id k _=>by simp (disch:=omega) only[aA.aC]⟩ ?_;rintro _ H1 l m n bpQ o;repeat' first|apply bn1<;>(simp only[go_sem])|apply bn3 (by omega)|fail
 exact i _ _ _ _ _ (.inr rfl) rfl ⟨dS [],_,noF,apS (.frz (.nil ..)),aK,h _ _ (by omega) n⟩
theorem d6{i:CIn}(a:bm3 i)(h:K (dB (!inB i)) H nx):bNW tQ [boR (eIn i)] H nx K:=by
 refine aB.pure (args0:=[boR (eIn i)]) (R:=fun b=>b=dB (!inB i)) ?_ rfl (aI ⟨aE rfl,trivial⟩) (fun r c=>c▸h);clear h;refine RR rfl fun Q d=> ?_;unfold yG;repeat' first| (first|apply bn1|apply hX (i:=i) a.r a.t a.s)<;>(simp only[go_sem])|fail
 all_goals first|with_reducible refine aZ d _ rfl rfl ?_|skip
 all_goals first|exact pD (by omega)|exact q9 (by omega)|exact j7 (by omega)|rfl
variable{c:Cfg}{s:CSt}
theorem e6{l:List CIn}(a:jO c)(k:beL s)(n:i7 l)(h:K (dB (hE c s l)) H nx):bNW zH [boR (cU c),boR (eI s),dS (l.map eIn)] H nx K:=by
 refine aB.pure (args0:=[boR (cU c),boR (eI s),dS (l.map eIn)]) (R:=fun t=>t=dB (hE c s l)) ?_ rfl (aI ⟨aE rfl,aE rfl,aE rfl,trivial⟩) (fun r u=>u▸h);clear h;refine XF rfl fun Q m=> ?_;unfold B6;have v:=n.len;cases e:cyB c s
 ·repeat' first| (first|apply bn1|apply bd4 a k)<;>(simp only[go_sem,e])|fail
  refine aZ m _ rfl rfl (by unfold hE;rw[e];rfl)
 by_cases q:l.length<=300
 ·have b:((l.length:Int)<=300)=True:=eq_true (by omega);have f:0<=bK (fun i=> !inB i) l↔l.all inB=false:=by rw[cH,<-Bool.not_eq_true,w2];simp
  cases j:l.all inB
  ·have d:(0<=bK (fun i=> !inB i) l)=True:=eq_true (f.2 j);have g:decide (0<=bK (fun i=> !inB i) l)=true:=decide_eq_true (f.2 j);repeat' first| (first|apply bn1|apply bd4 a k|refine pP (l:=l) (caps:=[]) (p:=fun i=> !inB i) (by omega) rfl (aE rfl) (kC rfl) (fun x o H nx K h=>d6 (n.all x o) h) ?_)<;>(simp only[go_sem,e,b,d,g])|fail
   refine aZ m _ rfl rfl (by unfold hE;rw[e,j,Bool.and_false,Bool.and_false];rfl)
  ·have d:(0<=bK (fun i=> !inB i) l)=False:=eq_false fun h=>by rw[f.1 h] at j;cases j
   have g:decide (0<=bK (fun i=> !inB i) l)=false:=(by simp only[d,decide_false]);repeat' first| (first|apply bn1|apply bd4 a k|refine pP (l:=l) (caps:=[]) (p:=fun i=> !inB i) (by omega) rfl (aE rfl) (kC rfl) (fun x o H nx K h=>d6 (n.all x o) h) ?_)<;>(simp only[go_sem,e,b,d,g])|fail
   refine aZ m _ rfl rfl (by unfold hE;rw[e,j,decide_eq_true q];rfl)
 ·have b:((l.length:Int)<=300)=False:=eq_false (by omega);repeat' first| (first|apply bn1|apply bd4 a k)<;>(simp only[go_sem,e,b])|fail
  refine aZ m _ rfl rfl (by unfold hE;rw[e,decide_eq_false q];rfl)
theorem d7{l:List CIn}(C:jO c)(hf:beL s)(D:i7 l)
 (h: ∀E o r F,nx<=o->bIO E r (h6 c s l) F->(∀j,F j->nx<=j/\j<o)->(∀j,j<nx->E j=H j)->K (.one (.agg r)) E o):bNW tV [boR (cU c),boR (eI s),dS (l.map eIn)] H nx K:=by
 refine QC rfl fun Q hQ=> ?_
 unfold xR
 cases G:hE c s l
 ·unfold h6 at h;rw[if_neg (by rw[G];decide)] at h;repeat' first| (first|apply bn1|apply e6 C hf D)<;>(simp only[go_sem,G,boC])|fail
  exact hQ _ _ _ _ _ (.inr rfl) (bBC rfl aA.bH rfl) (h _ _ _ (fun _=>False) (by omega) iR (fun j I=>I.elim) fun id f=>by simp (disch:=omega) only[aA.aC])
 unfold h6 at h
 rw[if_pos G] at h
 obtain⟨W,hl,hi⟩:=hK.1 G
 obtain⟨Y,hs⟩:=bmR.1 W
 repeat' first| (first|apply bn1|apply e6 C hf D|refine fJ (hs.sz Y) (fun E o nm cells hx m boS n=> ?_))<;>(simp only[go_sem,G,boC])|fail
 have J:cells.length=5:=by obtain⟨_,_,_,_,_,rfl,_⟩:=m.ex;rfl
 have L:cells++List.drop cells.length [D1.osl 0 0 0 0 0,.osl 0 0 0 0 0,.osl 0 0 0 0 0,.osl 0 0 0 0 0,.osl 0 0 0 0 0]=cells:=by rw[J];simp
 refine⟨J,by omega,?_⟩
 rw[L]
 try apply bn0
 repeat' first|apply bn1<;>(simp only[go_sem])|fail
 refine aM.TF fun bqO t=> ?_
 have v: ∀id,id<nx+3->bqO id=E id:=fun id f=>by rw[t,aA.aC (by omega)]
 have c0:bqO nx=some ⟨3,1,[cU c]⟩:=by rw[v _ (by omega),n _ (by omega)];simp only[aA.set,bqT,Nat.reduceEqDiff,if_false,if_true,brN,reduceIte]
 have c2:bqO (nx+2)=some ⟨5,1,[[.osl 0 0 0 0 0,.osl 0 0 0 0 0,.osl 0 0 0 0 0,.osl 0 0 0 0 0,.osl 0 0 0 0 0]]⟩:=by rw[v _ (by omega),n _ (by omega)];simp only[aA.set,bqU,Nat.reduceEqDiff,bqV,if_false,if_true,reduceIte]
 have ab: ∀id,id<nx->bqO id=H id:=fun id f=>by rw[v _ (by omega),n _ (by omega)];simp only[aA.set,show ¬id=nx by omega,show ¬id=nx+1 by omega,show ¬id=nx+2 by omega,if_false]
 have gR:Rep (fun id=>id<nx+3) bqO o (nx+10) nm s:=by have w:=fun k g=>boS.rng k g;refine⟨⟨cells,by rw[t];exact aA.bH,m.frame fun k g=>by have:=w k g;rw[t,aA.aC (by omega)]⟩,⟨boS.inj,fun k g=>by have:=w k g;omega,fun k g hn=>by have:=w k g;omega⟩,fun k g=>by have:=w k g;omega,⟨by omega,by omega⟩,fun id f=>by omega⟩
 clear t m boS n v
 refine aM.gP (β:=Nat×(Nat->Nat)) (fun u=>en [(20,boP u.1),(19,boP l.length),(18,dS (l.map eIn)),(7,.one (.c (.ptr 5 (nx+10) 0 0))),(6,.one (.c (.ptr 5 (nx+2) 0 0))),(3,.one (.c (.ptr 3 nx 0 0)))])
  (fun u H1 x=>u.1<=l.length/\Rep (fun id=>id<nx+3) H1 x (nx+10) u.2 (sQ c s (l.take u.1))/\ ∀id,id<nx+3->H1 id=bqO id)
  (fun u=>l.length-u.1) (0,nm) ⟨noF,_,by repeat' first|exact bo2|refine xqI rfl rfl ?_|refine xqP (by omega) rfl rfl ?_|fail,aK,by dsimp only;omega,gR.frame (by omega) rfl (fun _ _=>rfl) (fun id (f:id<nx+3)=>⟨by omega,by omega,fun k g he=>gR.names.av k g (he▸f)⟩),fun _ _=>rfl⟩ ?_
 rintro⟨k,p⟩ H1 x ak ⟨g,m,y⟩ bpQ ad
 dsimp only at g m
 have bqC:=(y nx (by omega)).trans c0
 have g2:=(y (nx+2) (by omega)).trans c2
 obtain⟨S,z⟩: ∃S,S=sQ c s (l.take k):=⟨_,rfl⟩
 have Z:COk c S:=by rw[z];exact(afM Y hs).1
 rw[<-z] at m
 have al:=m.i0
 by_cases M:k<l.length
 ·obtain⟨i,f⟩: ∃i,i=l.getD k default:=⟨_,rfl⟩
  have ae:vZ i:=by rw[f];exact hi _ (cC M)
  have hA:bQ x [nx]:=AM.apart (by simp) (by simp;omega);simp only[bQ,eZ] at hA;repeat' first|apply bn1<;>(simp only[go_sem,t1,bqT,f.symm,bqC,hA])|apply bn2 (by omega)|refine⟨by omega,?_⟩|fail
  have N:=m.names.lt;refine tX (X:=fun id=>id<nx+3) Y Z ae (m.frame (by omega) (aA.aC (by omega)) (fun k g=>aA.aC (by have:=N k g;omega)) fun id O=>⟨by omega,by omega,fun k g he=>m.names.av k g (he▸O)⟩) fun H2 af ag a b d e ah P ai=> ?_;have n: ∀id,id<nx+3->H2 id=bqO id:=fun id f=>by rw[ai id f,aA.aC (by omega)];exact y id f
  have B:sQ c s (l.take (k+1))=vF c i S:=by rw[agA M,<-z,<-f]
  simp only[go_sem];repeat' first|apply bn1<;>(simp only[go_sem];try simp (disch:=omega) only[Iw])|fail
  exact ad _ _ _ (k+1,ag) noF _ (by omega) (by dsimp only;omega) (by repeat' first|exact bo2|refine xqI rfl rfl ?_|refine xqP (by omega) rfl rfl ?_|fail) aK ⟨by dsimp only;omega,by dsimp only;rw[B];exact P.frame (by omega) rfl (fun _ _=>rfl) (fun id f=>⟨by omega,by omega,fun k g he=>P.names.av k g (he▸f)⟩),n⟩
 ·have B:S=sQ c s l:=by rw[z,boL (by omega)]
  obtain⟨aa,aj,R⟩:=m.st;obtain⟨wc,hc,pc,vc,tc,T,_⟩:=R.ex;have q:=aj;rw[T] at q;unfold U2 at q;repeat' first|apply bn1<;>(simp only[go_sem,q])|apply bn3 (by omega)|fail
  have an:=m.names.lt;refine aB.ao4 (args':=[boR (eI S)]) (without (fun j=>∃k,k<19/\j=p k) H1) (fun j=>∃k,k<19/\j=p k) rfl (fun i d0 d h1 W=> ?_) kS ?_
  ·match i with
   |0=>simp only[List.getElem?_cons_zero,Option.some.injEq] at h1 W;subst h1;subst W;have:=A8 (σ:=id) (nh:=x+4) (R.VI (F:=fun j=>∃k,k<19/\j=p k) (fun k g=>⟨k,g,rfl⟩) Z.pl Z.sl);rw[T] at this;exact lY this
   |i+1=>simp at h1
  refine bKP (Z.sz Y) fun H2 af r F ah U V A=> ?_;have e2:H2 (nx+2)=some ⟨5,1,[[.osl 0 0 0 0 0,.osl 0 0 0 0 0,.osl 0 0 0 0 0,.osl 0 0 0 0 0,.osl 0 0 0 0 0]]⟩:=by rw[A _ (by omega),iI (fun⟨k,g,he⟩=>m.names.av k g (show p k<nx+3 by omega))];exact g2
  obtain⟨d1,d2,d3,bkS,bk2,bF4,bF5,bF6,bF7,bF8,rfl,hq⟩:=id U;simp only[go_sem,e2];apply bn0;repeat' first|apply bn1<;>(simp only[go_sem])|fail
  rw[<-B] at h;refine hQ _ _ _ _ _ (.inr rfl) (bBC rfl aA.bH rfl) (h _ _ _ F (by omega) (bIM _ _ _ _ _ U fun j I=>aA.aC (by have:=V j I;omega)) (fun j I=>by have:=V j I;omega) fun id f=> ?_);rw[aA.aC (by omega),A _ (by omega),iI (fun⟨k,g,he⟩=>m.names.av k g (show p k<nx+3 by omega)),y id (by omega)];exact ab id f
theorem c6{n:Int}(V: -2^63<=n/\n<2^63)(t:jO c)(R:beL s)
 (h: ∀C m r F,nx<=m->bIO C r (b9 c s n) F->(∀j,F j->nx<=j/\j<m)->(∀j,j<nx->C j=H j)->K (.one (.agg r)) C m):bNW xN [boR (cU c),boR (eI s),boP n] H nx K:=by
 by_cases hp:1<=n/\n<=300
 ·obtain⟨N,rfl⟩: ∃N:Nat,n=N:=⟨n.toNat,by omega⟩
  rw[c3 hp.2,Int.toNat_natCast] at h;replace hp:1<=N/\N<=300:=by omega
  refine c4 rfl fun Q A=> ?_;unfold u0;have o:(0<(N:Int))=True:=eq_true (by omega);repeat' first| (first|apply bn1|refine eR (fun H1 g D a=> ?_))<;>(simp only[go_sem,boC,o])|apply bn3 (by omega)|fail
  have boU:H1 nx=some ⟨3,1,[cU c]⟩:=by rw[a _ (by omega)];simp[aA.set,msk]
  have p:H1 (nx+1)=some ⟨5,1,[eI s]⟩:=by rw[a _ (by omega)];simp[aA.set,msk]
  have u:H1 (nx+2)=some ⟨5,1,[[.osl 0 0 0 0 0,.osl 0 0 0 0 0,.osl 0 0 0 0 0,.osl 0 0 0 0 0,.osl 0 0 0 0 0]]⟩:=by rw[a _ (by omega)];simp[aA.set,msk]
  have v: ∀id,id<nx->H1 id=H id:=fun id b=>by rw[a _ (by omega)];simp[aA.set,msk,show ¬id=nx by omega,show ¬id=nx+1 by omega,show ¬id=nx+2 by omega]
  have w: ∀G:aA,msk (nx+5) [3] G nx=G nx:=fun G=>by unfold msk;rw[if_neg (by simp;omega)]
  have y: ∀G:aA,msk (nx+5) [3] G (nx+1)=G (nx+1):=fun G=>by unfold msk;rw[if_neg (by simp)]
  refine⟨⟨fun _=>by rw[y,p];rfl,fun _=>by rw[w,boU];rfl⟩,?_⟩;refine a7 (i0:=nx+8) hp.1 hp.2 (fun h=>b7 (by omega) h) (by omega) aA.bH ?_;obtain⟨l,B⟩: ∃l,l=List.replicate N pU:=⟨_,rfl⟩
  have W:l.length=N:=by rw[B];simp
  have E: ∀i∈l,vZ i:=fun i q=>by rw[B] at q;rw[(List.mem_replicate.1 q).2];exact⟨rfl,rfl,rfl⟩
  rw[<-B] at h ⊢;clear B a;refine(fun(h: ∀G,G=_->DQ _ _ _ _ _ _ _ _ _ _ _ _ G _)=>h _ rfl) fun G bqK=> ?_;have bqC:G nx=some ⟨3,1,[cU c]⟩:=by rw[bqK,aA.aC (by omega),aA.jG (by omega),aA.aC (by omega)];exact boU
  have I:G (nx+1)=some ⟨5,1,[eI s]⟩:=by rw[bqK,aA.aC (by omega),aA.jG (by omega),aA.aC (by omega)];exact p
  have J:G (nx+2)=some ⟨5,1,[[.osl 0 0 0 0 0,.osl 0 0 0 0 0,.osl 0 0 0 0 0,.osl 0 0 0 0 0,.osl 0 0 0 0 0]]⟩:=by rw[bqK,aA.aC (by omega),aA.jG (by omega),aA.aC (by omega)];exact u
  have L: ∀id,id<nx->G id=H id:=fun id b=>by rw[bqK,aA.aC (by omega),aA.jG (by omega),aA.aC (by omega)];exact v id b
  have X:G g=some ⟨3,N,l.map eIn⟩:=by rw[bqK];exact aA.bH
  clear bqK boU p u v;simp only[go_sem];refine⟨⟨fun _=>by rw[y,I];rfl,fun _=>by rw[w,bqC];rfl⟩,?_⟩;refine aB.ao4 (args':=[boR (cU c),boR (eI s),dS (l.map eIn)]) (without (fun j=>j=g) G) (fun j=>j=g) rfl (fun i d0 d S T=>by rcases i with _|_|_|i<;>cases S<;>cases T<;>first|exact aE rfl|exact yP QX X (by omega) (by omega) rfl) kS ?_;refine d7 t R ⟨by omega,fun i q=>by obtain⟨S,T,h3⟩:=E i q;exact⟨by omega,by omega,by omega⟩⟩ fun Y M r F O boS z e=> ?_;have P:=(e (nx+2) (by omega)).trans ((iI (by omega)).trans J);obtain⟨Z,d2,d3,bkS,bk2,bF4,bF5,bF6,bF7,bF8,rfl,hq⟩:=id boS;simp only[go_sem,P];apply bn0;repeat' first|apply bn1<;>(simp only[go_sem])|fail
  refine A _ _ _ _ _ (.inr rfl) (bBC rfl aA.bH rfl) (h _ _ _ F (by omega) (bIM _ _ _ _ _ boS fun j k=>aA.aC (by have:=z j k;omega)) (fun j k=>by have:=z j k;omega) fun id b=> ?_);rw[aA.aC (by omega),e _ (by omega),iI (by omega)];exact L id b
 refine c4 rfl fun Q A=> ?_
 unfold u0
 by_cases U:n<=300
 case neg=>
  repeat' first|apply bn1<;>(simp only[go_sem,boC])|apply bn2 (by omega)|fail
  rw[e8 U] at h;exact A _ _ _ _ _ (.inr rfl) (bBC rfl aA.bH rfl) (h _ _ _ (fun _=>False) (by omega) iR (fun j k=>k.elim) fun id b=>by simp (disch:=omega) only[aA.aC])
 have o:(0<n)=False:=eq_false (by omega)
 rw[c3 U,show n.toNat=0 by omega,List.replicate_zero] at h
 repeat' first| (first|apply bn1|refine eR (fun H1 g D a=> ?_))<;>(simp only[go_sem,boC,o])|apply bn3 (by omega)|fail
 have boU:H1 nx=some ⟨3,1,[cU c]⟩:=by rw[a _ (by omega)];simp (disch:=omega) only[aA.aC,aA.bH]
 have p:H1 (nx+1)=some ⟨5,1,[eI s]⟩:=by rw[a _ (by omega)];simp (disch:=omega) only[aA.aC,aA.bH]
 have u:H1 (nx+2)=some ⟨5,1,[[.osl 0 0 0 0 0,.osl 0 0 0 0 0,.osl 0 0 0 0 0,.osl 0 0 0 0 0,.osl 0 0 0 0 0]]⟩:=by rw[a _ (by omega)];simp (disch:=omega) only[aA.aC,aA.bH]
 have v: ∀id,id<nx->H1 id=H id:=fun id b=>by rw[a _ (by omega)];simp (disch:=omega) only[aA.aC]
 have w: ∀G:aA,msk (nx+5) [3] G nx=G nx:=fun G=>by unfold msk;rw[if_neg (by simp;omega)]
 have y: ∀G:aA,msk (nx+5) [3] G (nx+1)=G (nx+1):=fun G=>by unfold msk;rw[if_neg (by simp)]
 refine⟨⟨fun _=>by rw[y,p];rfl,fun _=>by rw[w,boU];rfl⟩,?_⟩
 refine e7 (x:=pU) (i0:=nx+8) (by omega) aA.bH fun G aa ab f=> ?_
 have bqC:G nx=some ⟨3,1,[cU c]⟩:=by rw[f _ (by omega) (by omega),aA.aC (by omega)];exact boU
 have I:G (nx+1)=some ⟨5,1,[eI s]⟩:=by rw[f _ (by omega) (by omega),aA.aC (by omega)];exact p
 have J:G (nx+2)=some ⟨5,1,[[.osl 0 0 0 0 0,.osl 0 0 0 0 0,.osl 0 0 0 0 0,.osl 0 0 0 0 0,.osl 0 0 0 0 0]]⟩:=by rw[f _ (by omega) (by omega),aA.aC (by omega)];exact u
 have L: ∀id,id<nx->G id=H id:=fun id b=>by rw[f _ (by omega) (by omega),aA.aC (by omega)];exact v id b
 clear a f boU p u v
 simp only[go_sem]
 refine⟨⟨fun _=>by rw[y,I];rfl,fun _=>by rw[w,bqC];rfl⟩,?_⟩
 refine d7 t R (l:=[]) ⟨by simp,fun i q=>by cases q⟩ fun Y M r F O boS z e=> ?_
 have P:=(e (nx+2) (by omega)).trans J
 obtain⟨Z,d2,d3,bkS,bk2,bF4,bF5,bF6,bF7,bF8,rfl,hq⟩:=id boS
 simp only[go_sem,P]
 apply bn0
 repeat' first|apply bn1<;>(simp only[go_sem])|fail
 refine A _ _ _ _ _ (.inr rfl) (bBC rfl aA.bH rfl) (h _ _ _ F (by omega) (bIM _ _ _ _ _ boS fun j k=>aA.aC (by have:=z j k;omega)) (fun j k=>by have:=z j k;omega) fun id b=> ?_)
 rw[aA.aC (by omega),e _ (by omega)];exact L id b
theorem hI{n:Int}(e: -2^63<=n/\n<2^63)(a:jO c)(d:beL s):bNW xN [boR (cU c),boR (eI s),boP n] .nil 0 fun r b f=>(r.free=true/\bE9 b)/\ ∃cs F,r= .one (.agg cs)/\bIO b cs (b9 c s n) F/\ ∀j,F j->j<f:=by apply aB.tW;refine c6 e a d fun b g r F k boS h d=> ?_;obtain⟨bp6,az9,az2,aAD,aAE,aAA⟩:=bFQ bIM bM5 bM1 boS fun j i=>(h j i).2;exact⟨_,_,_,lY az9,kS,⟨by simp[D.free,DV.cells,aAE],aAD⟩,_,bp6,rfl,az2,aAA⟩
theorem hL{n:Int}{e f:List D1}{bp6 bF4:Nat->Prop}(g: -2^63<=n/\n<2^63)(d:jO c)(i:beL s)(k:bBO H e c bp6)(l:bIO H f s bF4)
 (h: ∀b a r F,nx<=a->bIO b r (b9 c s n) F->(∀j,F j->nx<=j/\j<a)->(∀j,j<nx->b j=H j)->K (.one (.agg r)) b a):bNW xN [.one (.agg e),.one (.agg f),boP n] H nx K:=by
 refine(hI g d i).bFZ rfl (aI (bzW (bB8 bEJ k) (bzW (bB8 bJ4 l) (bzW (bEB rfl) bDI)))) ?_
 rintro r b q ⟨cs,F,rfl,boS,m⟩
 obtain⟨o,az9,az2⟩:=bFG bM2 (H:=H) (nx:=nx) boS m
 exact h _ _ _ o (by omega) az9 az2 fun j p=>bFH p
theorem hH{n:Int}(b: -2^63<=n/\n<2^63)(a:jO c)(d:beL s)(h:K (boR (eI (b9 c s n))) H nx):bNW xN [boR (cU c),boR (eI s),boP n] H nx K:=aB.fresh (R:=fun r=>r=boR (eI (b9 c s n))) (aB.forget (c6 b a d fun _ _ r F _ boS _ _=>⟨boR (eI (b9 c s n)),lY (bJ4 _ _ _ _ boS).2.cvL,rfl,rfl,rfl⟩)) rfl fun r e=>e▸h
end
theorem h7(c:Cfg)(s:CSt)(n:Int)(B:aZW (2^63) c)(J:w5 (2^63) s)(L: -2^63<=n/\n<2^63):bNW bOL [boR (cU c),boR (eI s),boP n] .nil 0 fun rr _ _=>rr.plain=true/\rr=dB true:=by
 refine cJ.mk Tryz.func8 (by kernel_rfl) c1 rfl fun Q hQ=> ?_;unfold aD;have r0:=beN 1048576 c (by omega);by_cases h0:aZ9 1048576 c<0
 case pos=>
  repeat' first| (first|apply bn1|apply a3E (x:=c) (a:=1048576) (by omega) B)<;>(simp only[go_sem,eq_true h0])|fail
  all_goals exact hQ _ _ _ _ _ (.inr rfl) rfl ⟨rfl,rfl⟩
 have r1:=beF (aZ9 1048576 c) s (by omega);by_cases h1:a1W (aZ9 1048576 c) s<0
 case pos=>
  repeat' first| (first|apply bn1|apply a3E (x:=c) (a:=1048576) (by omega) B|apply a4H (x:=s) (a:=aZ9 1048576 c) (by omega) J)<;>(simp only[go_sem,eq_false h0,eq_true h1])|fail
  all_goals exact hQ _ _ _ _ _ (.inr rfl) rfl ⟨rfl,rfl⟩
 have v:=beC 1048576 c (by omega) (by omega) (by omega);have kE:=bE1 (a:=1048576) (x:=c) (by omega) (by omega);have y:=bdJ (aZ9 1048576 c) s (by omega) (by omega) (by omega);have blH:=bMV (a:=aZ9 1048576 c) (x:=s) (by omega) (by omega);repeat' first| (first|apply bn1|apply a3E (x:=c) (a:=1048576) (by omega) B|apply a4H (x:=s) (a:=aZ9 1048576 c) (by omega) J|apply bJ5 v|apply bJS y)<;>(simp only[go_sem,eq_false h0,eq_false h1])|fail
 refine fS v.fit y.fit fun H1 t ag bpR=> ?_;obtain⟨w,hw⟩: ∃w,w=b9 c s n:=⟨_,rfl⟩
 have u:w5 (2^21) w:=by rw[hw];exact i2
 have zw:bIP w<=2^50:=by rw[hw];exact j2
 rw[<-hw];simp only[go_sem];generalize aU3:dT 16 [6] _ H1=U;have f:U 0=some ⟨3,1,[cU c]⟩:=by rw[<-aU3,um1 (by omega),bpR 0 (by omega)];rfl
 have l:U 1=some ⟨5,1,[eI s]⟩:=by rw[<-aU3,um1 (by omega),bpR 1 (by omega)];rfl
 have kw:U 22=some ⟨5,1,[[.osl 0 0 0 0 0,.osl 0 0 0 0 0,.osl 0 0 0 0 0,.osl 0 0 0 0 0,.osl 0 0 0 0 0]]⟩:=by rw[<-aU3];exact aH6 (k:=6)
 have kK: ∀(G:aA) (j:Nat),j≠22->msk 16 [6] G j=G j:=fun G j h=>mk1 (by omega);have blM:=fun G=>kK G 0 (by omega);have M:=fun G=>kK G 1 (by omega);have m:bQ t [0,1,22]:=AM.apart (by simp<;>omega) (by simp<;>omega);simp only[bQ,eZ] at m;(try simp only[go_sem,boC,f,l,kw,blM,M,m,boC]);repeat' first| (first|apply bn1|refine bD4 v (fun H2 p R0 bp6 ah z bqC f2=> ?_))<;>(simp only[go_sem,boC,f,l,kw,blM,M,m,boC])|fail
 obtain⟨d1,d2,d3,ai,aj,ak,rfl,bqB⟩:=id z;refine⟨rfl,by simp,?_⟩;replace f:=(f2 0 (by omega)).trans ((aA.aC (by omega)).trans f);replace l:=(f2 1 (by omega)).trans ((aA.aC (by omega)).trans l);have kw:=(f2 22 (by omega)).trans aA.bH;have m:bQ p [0,1,22,t+2]:=AM.apart (by simp<;>omega) (by simp<;>omega);simp only[bQ,eZ] at m;apply bn0;repeat' first| (first|apply bn1|refine bKG y (fun H3 b R1 bF4 al A C bpS=> ?_))<;>(simp only[go_sem,f,l,kw,m,boC])|fail
 obtain⟨e1,e2,e3,e4,e5,an,ao,aq,ar,au,rfl,q1⟩:=id A;refine⟨rfl,by simp,?_⟩;replace f:=(bpS 0 (by omega)).trans ((aA.aC (by omega)).trans f);replace l:=(bpS 1 (by omega)).trans ((aA.aC (by omega)).trans l);replace kw:=(bpS 22 (by omega)).trans ((aA.aC (by omega)).trans kw);have Z:=(bpS (t+2) (by omega)).trans aA.bH;replace z:=bAQ _ H3 _ _ _ z fun j d=>(bpS j (by have:=bqC j d;omega)).trans (aA.aC (by have:=bqC j d;omega));have m:bQ b [0,1,22,t+2,p+2]:=AM.apart (by simp<;>omega) (by simp<;>omega);simp only[bQ,eZ] at m;apply bn0;repeat' first| (first|apply bn1| (refine hL L v.fit y.fit (by refine bAQ _ _ _ _ _ z fun j d=> ?_;have:=bqC j d;rw[aA.aC (by omega)]) (by refine bIM _ _ _ _ _ A fun j d=> ?_;have:=C j d;rw[aA.aC (by omega)]) (fun bqL aa R F aw P g bpT=> ?_)))<;>(simp only[go_sem,f,l,kw,Z,m,boC])|fail
 rw[<-hw] at P;obtain⟨b1,b2,boX,boY,boZ,kN,k3,k4,B4,k5,rfl,qr⟩:=id P;refine⟨rfl,by simp,?_⟩;generalize hY:aA.set bqL (b+4) _=Y;have ym: ∀j,j≠b+4->Y j=bqL j:=fun j h=>by rw[<-hY];exact aA.aC h
 have r:Y (b+4)=some ⟨5,1,[[b1,b2,boX,boY,boZ]]⟩:=by rw[<-hY];exact aA.bH
 have I: ∀j,j<b->j≠p+2->Y j=H3 j:=fun j h E=>(ym j (by omega)).trans ((bpT j (by omega)).trans (aA.aC E));replace f:=(I 0 (by omega) (by omega)).trans f;replace l:=(I 1 (by omega) (by omega)).trans l;replace kw:=(I 22 (by omega) (by omega)).trans kw;replace Z:=(I (t+2) (by omega) (by omega)).trans Z;have N:=(ym (p+2) (by omega)).trans ((bpT (p+2) (by omega)).trans aA.bH);replace z:=bAQ _ Y _ _ _ z fun j d=>I j (by have:=bqC j d;omega) (by have:=bqC j d;omega);replace A:=bIM _ Y _ _ _ A fun j d=>I j (by have:=C j d;omega) (by have:=C j d;omega);replace P:=bIM _ Y _ _ _ P fun j d=>ym j (by have:=g j d;omega);have m:bQ aa [0,1,22,t+2,p+2,b+4]:=AM.apart (by simp<;>omega) (by simp<;>omega);simp only[bQ,eZ] at m;apply bn0;repeat' first| (first|apply bn1|apply bKL u P|apply bJ5 v|apply bEY v z|apply bJS y|apply bKL y A| (refine bC5 (F:=bp6) (fun j d=>by have:=bqC j d;omega) z v (by omega) (by omega) (fun aZJ ab ax j6 bpU=> ?_)))<;>(simp only[go_sem,f,l,kw,Z,N,r,m,boC])|fail
 have q: ∀j,j<t\/p<=j->¬bp6 j:=fun j h E=>by have:=bqC j E;omega
 replace f:=(bpU 0 (by omega) (q _ (by omega))).trans f;replace l:=(bpU 1 (by omega) (q _ (by omega))).trans l;replace kw:=(bpU 22 (by omega) (q _ (by omega))).trans kw;replace N:=(bpU (p+2) (by omega) (q _ (by omega))).trans N;replace r:=(bpU (b+4) (by omega) (q _ (by omega))).trans r;replace A:=bIM _ aZJ _ _ _ A fun j d=>bpU j (by have:=C j d;omega) (q j (by have:=C j d;omega));replace P:=bIM _ aZJ _ _ _ P fun j d=>bpU j (by have:=g j d;omega) (q j (by have:=g j d;omega));have m:bQ ab [0,1,22,p+2,b+4]:=AM.apart (by simp<;>omega) (by simp<;>omega);simp only[bQ,eZ] at m;(try simp only[go_sem,boC,f,l,kw,N,r,m,boC]);repeat' first| (first|apply bn1|apply bpK (by omega)| (refine bJ8 (F:=bF4) (fun j d=>by have:=C j d;omega) A y (by omega) (by omega) (fun k6 ad ay bpN bpV=> ?_)))<;>(simp only[go_sem,boC,f,l,kw,N,r,m,boC])|fail
 have q: ∀j,j<p\/b<=j->¬bF4 j:=fun j h E=>by have:=C j E;omega
 replace f:=(bpV 0 (by omega) (q _ (by omega))).trans f;replace l:=(bpV 1 (by omega) (q _ (by omega))).trans l;replace kw:=(bpV 22 (by omega) (q _ (by omega))).trans kw;replace r:=(bpV (b+4) (by omega) (q _ (by omega))).trans r;replace P:=bIM _ k6 _ _ _ P fun j d=>bpV j (by have:=g j d;omega) (q j (by have:=g j d;omega));have m:bQ ad [0,1,22,b+4]:=AM.apart (by simp<;>omega) (by simp<;>omega);simp only[bQ,eZ] at m;(try simp only[go_sem,boC,f,l,kw,r,m,boC]);repeat' first| (first|apply bn1|apply bKL u P| (refine bJ8 (F:=F) (fun j d=>by have:=g j d;omega) P u (by omega) (by omega) (fun k7 e az tw bpW=> ?_)))<;>(simp only[go_sem,boC,f,l,kw,r,m,boC])|fail
 have q: ∀j,j<b+5->¬F j:=fun j h E=>by have:=g j E;omega
 replace f:=(bpW 0 (by omega) (q _ (by omega))).trans f;replace l:=(bpW 1 (by omega) (q _ (by omega))).trans l;replace kw:=(bpW 22 (by omega) (q _ (by omega))).trans kw;replace r:=(bpW (b+4) (by omega) (q _ (by omega))).trans r;have m:bQ e [0,1,22,b+4]:=AM.apart (by simp<;>omega) (by simp<;>omega);simp only[bQ,eZ] at m;(try simp only[go_sem,boC,f,l,kw,r,m,boC]);repeat' first| (first|apply bn1|apply bK9 u (by omega) (by omega) tw)<;>(simp only[go_sem,boC,f,l,kw,r,m,boC])|apply bn3 (by omega)|fail
 have ae: ∀{H:aA} {nx:Nat} {K:bNX},K (boR (eI w)) H nx->bNW xN [boR (cU c),boR (eI s),boP n] H nx K:=fun h=>hH L v.fit y.fit (by rw[<-hw];exact h);have blM: ∀G:aA,msk (e+10) [6] G 0=G 0:=fun G=>mk1 (by omega);have M: ∀G:aA,msk (e+10) [6] G 1=G 1:=fun G=>mk1 (by omega);have O: ∀o,dT (e+10) [6] (aA.set k7 (e+16) o) (msk (e+10) [6] k7)=aA.set k7 (e+16) o:=fun o=>bNN;have S: ∀o,msk (e+10) [6] (aA.set k7 (e+16) o)=msk (e+10) [6] k7:=fun o=>PK (i:=6) (by simp);have T:=fun o=>(aA.aC (o:=o) (show 0≠e+16 by omega)).trans f;have V:=fun o=>(aA.aC (o:=o) (show 1≠e+16 by omega)).trans l;have W:=fun o=>(aA.aC (o:=o) (show 22≠e+16 by omega)).trans kw;have X:=fun o=>(aA.aC (o:=o) (show b+4≠e+16 by omega)).trans r;have af:=fun o=>bIM _ (aA.set k7 (e+16) o) _ _ _ tw fun j d=>aA.aC (by have:=g j d;omega);(try simp only[go_sem,boC,f,l,kw,r,blM,M,O,S,T,V,W,X,m,boC]);repeat' first| (first|apply bn1|apply bJ5 v|apply bJS y|apply ae|apply a9P u|apply bK9 u (by omega) (by omega) (af _))<;>(simp only[go_sem,boC,f,l,kw,r,blM,M,O,S,T,V,W,X,m,boC])|apply bn3 (by omega)|fail
 all_goals exact hQ _ _ _ _ _ (.inr rfl) rfl ⟨rfl,rfl⟩
end Go.Proofs.YtlncecohbakleaaGreat
