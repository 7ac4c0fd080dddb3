/- Texts laid together by a program: rules, contracts and the walk that leads to the law. -/
import Derived.Test.YtdkfhdmagdaceaaGreatPN7
import Derived.Test.YtdkfhdmagdaceaaGreatPN4
import Derived.Test.YtdkfhdmagdaceaaGreatPN3
import Derived.Test.YtdkfhdmagdaceaaGreatPN5
import Derived.Test.YtdkfhdmagdaceaaGreatPN6
set_option linter.unusedVariables false
set_option linter.unusedSimpArgs false
set_option linter.unusedSectionVars false
set_option maxRecDepth 100000
set_option maxHeartbeats 8000000
namespace Go.Proofs.YtdkfhdmagdaceaaGreat
open Go Go.AM
attribute [local irreducible] aM wv aB vd wvH
section
variable {H : aA} {nx : Nat} {K : D → aA → Nat → Prop}
theorem RI (l:List Int) (p:Nat) (hl:kZ l) (b:p+7<2^50):aB Tryz.prog qM [bkP 2 0] (hp [(0,rdO l p)]) 1
 fun c H' d=>d=1∧ ∃o',H'=hp [(0,o')]∧C7 o'∧ ∃(a:Nat) (x:Int),o'=rdO l a∧p≤a∧a≤p+7∧c=boP x∧(0≤x∧x≤63):=by
 refine N4 rfl fun Q e=> ?_
 unfold vH
 repeat' first| (first|apply bn1|refine aX hl (by omega) (by omega) (by omega) rfl (fun x g h=> ?_))<;>(simp only[go_sem];try simp (disch:=omega) only[Iw])|refine⟨by omega,?_⟩|fail
 have f:x=0∨x=1∨x=2∨x=3∨x=4∨x=5∨x=6∨x=7:=by omega
 rcases f with rfl|rfl|rfl|rfl|rfl|rfl|rfl|rfl
 all_goals simp only[go_sem];try simp (disch:=omega) only[Iw]
 all_goals repeat' first|apply bn1<;>(simp only[go_sem])|refine⟨by omega,?_⟩|fail
 all_goals exact lA e (boP _) _ _ rfl (aE rfl) rfl (aV _ _) ⟨_,_,rfl,by omega,by omega,rfl,by omega,by omega⟩
variable{l:List Int}
theorem SE{p i:Nat} (hl:kZ l) (b:p+7<2^50) (hi:i<nx) (c:H i=some (rdO l p)) (h: ∀(a:Nat) (x:Int),p≤a→a≤p+7→(0≤x∧x≤63)→K (boP x) (H.set i (rdO l a)) nx):
 aB Tryz.prog qM [bkP 2 i] H nx K:=
 (RI l p hl b).OU i rfl (gW ⟨DG (by omega) rfl,trivial⟩) hi c (aV l p) fun r o' ⟨a,x,e,f,g,j,k⟩=>by subst e;subst j;exact EW (A:=fun d=>K d (H.set i (rdO l a)) nx) rfl (h a x f g k)
theorem TX (l:List Int) (p:Nat) (hl:kZ l) (c:p+8<2^50):aB Tryz.prog tN [bkP 2 0,boP 99999] (hp [(0,rdO l p)]) 1
 fun d H' e=>e=1∧ ∃o',H'=hp [(0,o')]∧C7 o'∧ ∃(b:Nat) (m:List Rng),o'=rdO l b∧p≤b∧b≤p+8∧d=dS (m.map eN)∧(DH m):=by
 refine RN rfl fun Q a=> ?_
 unfold w9
 repeat' first| (first|apply bn1|refine aX hl (by omega) (by omega) (by omega) rfl (fun x g i=> ?_)|refine uA (by omega) rfl ?_)<;>(simp only[go_sem];try simp (disch:=omega) only[Iw])|refine bnE (fun h=> ?_) fun h=> ?_|refine⟨by omega,?_⟩|fail
 ·exact lA a (dS ((al2 _ _).map eN)) _ _ rfl (yP (l:=al2 _ _) K3 rfl rfl (by simp[al2]) (by decide)) rfl (aV _ _) ⟨_,al2 _ _,rfl,by omega,by omega,rfl,apM _ _ (by omega)⟩
 ·have f:x=0∨x=1∨x=2:=by omega
  rcases f with rfl|rfl|rfl;·exact lA a (dS (((E9 false).take 1).map eN)) _ _ rfl (DJ (rows:=((E9 false).take 1).map eN) (aG K3 _) rfl (by decide) rfl rfl rfl (by simp[E9])) rfl (aV _ _) ⟨_,(E9 false).take 1,rfl,by omega,by omega,rfl,PO _ 1 (by decide)⟩
  ·exact lA a (dS (((E9 false).take 2).map eN)) _ _ rfl (DJ (rows:=((E9 false).take 2).map eN) (aG K3 _) rfl (by decide) rfl rfl rfl (by simp[E9])) rfl (aV _ _) ⟨_,(E9 false).take 2,rfl,by omega,by omega,rfl,PO _ 2 (by decide)⟩
  ·exact lA a (dS (((E9 _).take 3).map eN)) _ _ rfl (DJ (rows:=((E9 _).take 3).map eN) (aG K3 _) rfl (by decide) rfl rfl rfl (by simp[E9])) rfl (aV _ _) ⟨_,(E9 _).take 3,rfl,by omega,by omega,rfl,PO _ 3 (by decide)⟩
 ·exact lA a (dS (((E9 _).take 3).map eN)) _ _ rfl (DJ (rows:=((E9 _).take 3).map eN) (aG K3 _) rfl (by decide) rfl rfl rfl (by simp[E9])) rfl (aV _ _) ⟨_,(E9 _).take 3,rfl,by omega,by omega,rfl,PO _ 3 (by decide)⟩
theorem IV{p i:Nat} (hl:kZ l) (b:p+8<2^50) (hi:i<nx) (c:H i=some (rdO l p)) (h: ∀(a:Nat) (m:List Rng),p≤a→a≤p+8→(DH m)→K (dS (m.map eN)) (H.set i (rdO l a)) nx):
 aB Tryz.prog tN [bkP 2 i,boP 99999] H nx K:=
 (TX l p hl b).OU i rfl (gW ⟨DG (by omega) rfl,aE rfl,trivial⟩) hi c (aV l p) fun r o' ⟨a,m,e,f,g,j,k⟩=>by subst e;subst j;exact EW (A:=fun d=>K d (H.set i (rdO l a)) nx) rfl (h a m f g k)
theorem aPB{p:Nat}{Q:AQ} (k: ∀ex f H2 e d nh d2 h F σ,ex=AEx.normal∨ex=AEx.ret→yT H2 f GO=some d→CvR 1 d H2 nh d2 h F σ→(nh=1∧ ∃o',h=hp [(0,o')]∧C7 o'∧ ∃(a:Nat) (m:List Rng),o'=rdO l a∧p≤a∧a≤p+20∧d2=dS (m.map eN)∧(m.length≤8))→Q ex f H2 e)
 {f:Env} {H2:aA} {e b n cap ext a:Nat} {rows:List (List D1)} {m:List Rng} (o:yT H2 f GO=some (.one (.c (.osl 4 b 0 n cap)))) (q:H2 0=some (rdO l a)) (r:H2 b=some ⟨4,ext,rows⟩) (s:p≤a) (t:a≤p+20) (i:rows.take n=m.map eN) (g:m.length≤8∧n≤cap∧b≠0∧n≤rows.length):Q .ret f H2 e:=by
 obtain⟨g,w,u,v⟩:=g
 have j:n=(m.map eN).length:=by rw[←i];simp;omega
 exact lA k (dS (m.map eN)) _ _ o (DJ (rows:=m.map eN) (aG K3 _) j u r rfl (by rw[←j];exact i) (by omega)) q (aV _ _) ⟨a,m,rfl,s,t,rfl,g⟩
theorem aPJ (l:List Int) (p:Nat) (n:Int) (g:0<n∧n<9000) (hl:kZ l) (c:p+1<2^50):aB Tryz.prog kE [bkP 2 0,boP n] (hp [(0,rdO l p)]) 1
 fun d H' e=>e=1∧ ∃o',H'=hp [(0,o')]∧C7 o'∧ ∃(a:Nat) (b:Bool),o'=rdO l a∧p≤a∧a≤p+1∧d=dB b∧(True):=by
 refine LF rfl fun Q f=> ?_
 unfold rH
 repeat' first| (first|apply bn1|apply bpJ (by omega)|refine aX hl (by omega) (by omega) (by omega) rfl (fun x h i=> ?_))<;>(simp only[go_sem];try simp (disch:=omega) only[Iw])|fail
 exact lA f (dB _) _ _ rfl (aE rfl) rfl (aV _ _) ⟨_,_,rfl,by omega,by omega,rfl,trivial⟩
theorem d6{p i:Nat}{n:Int} (e:0<n∧n<9000) (hl:kZ l) (c:p+1<2^50) (hi:i<nx) (f:H i=some (rdO l p)) (h: ∀(a:Nat) (b:Bool),p≤a→a≤p+1→(True)→K (dB b) (H.set i (rdO l a)) nx):
 aB Tryz.prog kE [bkP 2 i,boP n] H nx K:=
 (aPJ l p n e hl c).OU i rfl (gW ⟨DG (by omega) rfl,aE rfl,trivial⟩) hi f (aV l p) fun r o' ⟨a,b,g,j,k,m,o⟩=>by subst g;subst m;exact EW (A:=fun d=>K d (H.set i (rdO l a)) nx) rfl (h a b j k o)
theorem aQP (l:List Int) (p:Nat) (hl:kZ l) (e:p+20<2^50):aB Tryz.prog tN [bkP 2 0,boP 1] (hp [(0,rdO l p)]) 1
 fun g H' i=>i=1∧ ∃o',H'=hp [(0,o')]∧C7 o'∧ ∃(c:Nat) (m:List Rng),o'=rdO l c∧p≤c∧c≤p+20∧g=dS (m.map eN)∧(m.length≤8):=by
 refine RN rfl fun Q a=> ?_
 unfold w9
 repeat' first| (first|apply bn1|refine aX hl (by omega) (by omega) (by omega) rfl (fun x j o=> ?_))<;>(simp only[go_sem];try simp (disch:=omega) only[Iw])|refine bnE (fun h=> ?_) fun h=> ?_|refine⟨by omega,?_⟩|fail
 case' refine_2.refine_1=>(have d:x=0∨x=1∨x=2:=by omega);rcases d with rfl|rfl|rfl
 all_goals (refine(fun(h: ∀b:Bool,_)=>d6 (n:=1) (by omega) hl (by omega) (by omega) rfl (fun w b q r _=> ?_)) (fun _=>trivial);cases b)
 all_goals (simp only[go_sem];try apply bn0)
 all_goals repeat' first|apply bn1<;>(simp only[go_sem])|fail
 all_goals first
  | (refine aX hl (by omega) (by omega) (by omega) rfl (fun k s t=> ?_)
     have u:k=0∨k=1∨k=2∨k=3:=by omega
     rcases u with rfl|rfl|rfl|rfl
     all_goals first| (exfalso;omega)| (simp only[go_sem];try apply bn0))
  |skip
 all_goals try repeat' first| (first|apply bn1|refine aX hl (by omega) (by omega) (by omega) rfl (fun x j o=> ?_))<;>(simp only[go_sem];try simp (disch:=omega) only[Iw])|refine bnE (fun h=> ?_) fun h=> ?_| (with_reducible first|refine fun(cap:Nat) (f:_≤cap)=> ?_|refine fun(v:_≤cap)=> ?_)|refine⟨by omega,?_⟩|fail
 all_goals first
  | (have d:x=0∨x=1∨x=2:=by omega
     rcases d with rfl|rfl|rfl
     all_goals first| (exfalso;omega)| (simp only[go_sem];try simp (disch:=omega) only[Iw];(refine⟨by omega,bn0 ?_⟩);repeat' first|apply bn1<;>(simp only[go_sem])|fail)|skip)
  |skip
 all_goals try refine⟨by omega,?_⟩
 all_goals try (try apply bn0;repeat' first|apply bn1<;>(simp only[go_sem])|fail)
 all_goals first
  |exact aPB a (m:=[⟨_,_,_,_⟩]) rfl rfl rfl (by omega) (by omega) rfl ⟨by simp,by omega,by decide,by simp⟩
  |exact aPB a (m:=[⟨_,_,_,_⟩,⟨_,_,_,_⟩]) rfl rfl rfl (by omega) (by omega) rfl ⟨by simp,by omega,by decide,by simp⟩
  |exact aPB a (m:=[⟨_,_,_,_⟩,⟨_,_,_,_⟩,⟨_,_,_,_⟩]) rfl rfl rfl (by omega) (by omega) rfl ⟨by simp,by omega,by decide,by simp⟩
  |exact aPB a (m:=[⟨_,_,_,_⟩,⟨_,_,_,_⟩,⟨_,_,_,_⟩,⟨_,_,_,_⟩]) rfl rfl rfl (by omega) (by omega) rfl ⟨by simp,by omega,by decide,by simp⟩
  |exact aPB a (m:=[⟨_,_,_,_⟩,⟨_,_,_,_⟩,⟨_,_,_,_⟩,⟨_,_,_,_⟩,⟨_,_,_,_⟩]) rfl rfl rfl (by omega) (by omega) rfl ⟨by simp,by omega,by decide,by simp⟩
  |exact aPB a (m:=[⟨_,_,_,_⟩,⟨_,_,_,_⟩,⟨_,_,_,_⟩,⟨_,_,_,_⟩,⟨_,_,_,_⟩,⟨_,_,_,_⟩]) rfl rfl rfl (by omega) (by omega) rfl ⟨by simp,by omega,by decide,by simp⟩
  |exact aPB a (m:=[⟨_,_,_,_⟩,⟨_,_,_,_⟩,⟨_,_,_,_⟩,⟨_,_,_,_⟩,⟨_,_,_,_⟩,⟨_,_,_,_⟩,⟨_,_,_,_⟩]) rfl rfl rfl (by omega) (by omega) rfl ⟨by simp,by omega,by decide,by simp⟩
theorem aQQ{p i:Nat} (hl:kZ l) (b:p+20<2^50) (hi:i<nx) (c:H i=some (rdO l p)) (h: ∀(a:Nat) (m:List Rng),p≤a→a≤p+20→(m.length≤8)→K (dS (m.map eN)) (H.set i (rdO l a)) nx):
 aB Tryz.prog tN [bkP 2 i,boP 1] H nx K:=
 (aQP l p hl b).OU i rfl (gW ⟨DG (by omega) rfl,aE rfl,trivial⟩) hi c (aV l p) fun r o' ⟨a,m,e,f,g,j,k⟩=>by subst e;subst j;exact EW (A:=fun d=>K d (H.set i (rdO l a)) nx) rfl (h a m f g k)
end
def aJO:AC:= (boG [f5 2 0,f5 3 1,dO 4 boD] [2,3] (.seq (boG [f8 8 3 2,f6 9 aIV [8],f4 10 9,RM 11 10,g9 12 0 3 11 false,GQ 13 (.load 2 true 12) 11 false,GQ 14 (.call aIU [13]) 11 false,hP 15 14 11 false,f3 16 11 boE 15,RM 17 16,g9 18 2 3 17 false,hD 19 18 17 false,GQ 20 (.len false 19) 17 false,hO 21 .neq 20 (ki 3) 17 false,f3 22 17 boE 21,RM 23 22,g9 24 3 3 23 false,hD 25 24 23 false,GQ 26 (.len false 25) 23 false,hO 27 .neq 26 (ki 4) 23 false,f3 28 23 boE 27] [2,3,28] (.cond 28 (boG [dO 4 boD] [4] .ret) .skip)) (boG [dO 5 (ki 0)] [2,3,5] (.seq (boG [dO 6 (ki 0)] [2,3,5,6] (.block 0 (.loop (.seq (boG [RM 29 6,dI 30 .lss 29 (ki 3)] [2,3,5,6,30] (.cond 30 .skip (.exit 0))) (.seq (.block 1 (.seq (boG [f8 33 3 2,f8 34 5 3,RM 35 6,f6 36 aIY [33,34,35],f4 37 36] [2,3,5,6,37] (.cond 37 (boG [dO 4 boD] [4] .ret) .skip)) (m2 [RM 38 5,RF 39 2 3,RL 40 39,RM 41 6,e0 42 4 40 41,RF 43 2 42,RL 44 43,f1 45 44,dI 46 .add 38 45,RM 5 46] [2,3,5,6]))) (m2 [RM 31 6,dI 32 .add 31 (ki 1),RM 6 32] [2,3,5,6])))))) (.seq (boG [dO 7 (ki 0)] [2,3,5,7] (.block 2 (.loop (.seq (boG [RM 47 7,dI 48 .leq 47 (ki 3)] [2,3,5,7,48] (.cond 48 .skip (.exit 2))) (.seq (.block 3 (.seq (boG [f8 51 3 2,f8 52 5 3,RM 53 7,f6 54 aIT [51,52,53],f4 55 54] [2,3,5,7,55] (.cond 55 (boG [dO 4 boD] [4] .ret) .skip)) (m2 [RM 56 5,RF 57 3 3,RL 58 57,RM 59 7,e0 60 3 58 59,RF 61 0 60,RL 62 61,f1 63 62,dI 64 .sub 56 63,RF 65 3 3,RL 66 65,RM 67 7,e0 68 3 66 67,RF 69 1 68,RL 70 69,f1 71 70,dI 72 .sub 64 71,RM 5 72] [2,3,5,7]))) (m2 [RM 49 7,dI 50 .add 49 (ki 1),RM 7 50] [2,3,5,7])))))) (boG [RM 73 5,dI 74 .eql 73 (ki 0),RM 75 74,dA (some 76) (.load 3 true 2) (some (75,true)) [] [] true,GQ 77 (.load 5 true 3) 75 true,dA (some 78) (.call aIZ [77]) (some (75,true)) [] [3] false,GQ 79 (.call aI6 [76,78]) 75 true,f3 80 75 79 boD,RM 4 80] [4] .ret))))))
def aJ9:List aW:=[.tm 4]
theorem aMD:aO Tryz.prog Tryz.f38 (bnD aJO)=some (aJO,aJ9):=by kernel_rfl
theorem aLQ:aN Tryz.prog aI5 Tryz.f38 aJO aJ9:=aN.mk Tryz.func38 (by kernel_rfl) aMD
def aJG:AC:= (boG [f5 3 0,f5 4 1,dO 6 boD] [2,3,4] (boG [RF 12 2 4,RL 13 12,RM 14 2,e0 15 4 13 14,f8 16 4 15,f7 7 [VZ,OZ,OZ,VZ],g0 4 true 7 16] [2,3,7] (.seq (boG [RF 17 0 7,RL 18 17,RF 19 2 3,RL 20 19,RM 21 2,e0 22 1 20 21,RL 23 22,f1 24 23,f6 25 y2 [18,(ki 0),24],f4 26 25,RM 27 26,g9 28 1 7 27 false,hD 29 28 27 false,GQ 30 (.len false 29) 27 false,hO 31 .gtr 30 (ki 2) 27 false,f3 32 27 boE 31,RM 33 32,g9 34 1 7 33 false,hD 35 34 33 false,GQ 36 (.len false 35) 33 false,g9 37 0 7 33 false,hD 38 37 33 false,hO 39 .gtr 36 38 33 false,f3 40 33 boE 39,RM 41 40,g9 42 2 7 41 false,hD 43 42 41 false,GQ 44 (.len false 43) 41 false,hO 45 .gtr 44 (ki 4) 41 false,f3 46 41 boE 45,RM 47 46,g9 48 3 7 47 false,hD 49 48 47 false,GQ 50 (.call y2 [49,(ki 0),(ki 3)]) 47 false,hP 51 50 47 false,f3 52 47 boE 51] [2,3,7,52] (.cond 52 (boG [dO 6 boD] [6] .ret) .skip)) (.seq (boG [dO 8 (ki 0)] [2,3,7,8] (.block 0 (.loop (.seq (boG [RM 53 8,RF 54 1 7,RL 55 54,f1 56 55,dI 57 .lss 53 56] [2,3,7,8,57] (.cond 57 .skip (.exit 0))) (.seq (.block 1 (boG [RF 60 1 7,RL 61 60,RM 62 8,e0 63 1 61 62,RL 64 63,RF 65 0 7,RL 66 65,RF 67 1 7,RL 68 67,f1 69 68,dI 70 .sub 66 69,RM 71 8,dI 72 .add 70 71,dI 73 .neq 64 72] [2,3,7,8,73] (.cond 73 (boG [dO 6 boD] [6] .ret) .skip))) (m2 [RM 58 8,dI 59 .add 58 (ki 1),RM 8 59] [2,3,7,8])))))) (.seq (boG [dO 9 (ki 0)] [2,3,7,9] (.block 2 (.loop (.seq (boG [RM 74 9,RF 75 2 7,RL 76 75,f1 77 76,dI 78 .lss 74 77] [2,3,7,9,78] (.cond 78 .skip (.exit 2))) (.seq (.block 3 (boG [RF 81 2 7,RL 82 81,RM 83 9,e0 84 3 82 83,f8 85 3 84,f7 10 [VZ,VZ,VZ],g0 3 true 10 85] [2,3,7,9,10] (.seq (boG [RF 86 0 10,RL 87 86,RM 88 2,dI 89 .neq 87 88,RM 90 89,g9 91 1 10 90 false,hD 92 91 90 false,g9 93 0 7 90 false,hD 94 93 90 false,g9 95 1 7 90 false,hD 96 95 90 false,GQ 97 (.len false 96) 90 false,hO 98 .sub 94 97 90 false,hO 99 .sub 98 (ki 1) 90 false,GQ 100 (.call y2 [92,(ki 0),99]) 90 false,hP 101 100 90 false,f3 102 90 boE 101,RM 103 102,hG 104 9 103 false,hO 105 .gtr 104 (ki 0) 103 false,hG 106 105 103 false,g9 107 2 7 106 true,hD 108 107 106 true,hG 109 9 106 true,hO 110 .sub 109 (ki 1) 106 true,j0 111 3 108 110 106 true,g9 112 1 111 106 true,hD 113 112 106 true,g9 114 1 10 106 true,hD 115 114 106 true,hO 116 .geq 113 115 106 true,GQ 117 (.pick 106 116 boD) 103 false,f3 118 103 boE 117,RM 119 118,g9 120 2 10 119 false,dA (some 121) (.load 1 false 120) (some (119,false)) [] [] true,g9 122 0 3 119 false,hD 123 122 119 false,g9 124 2 3 119 false,hD 125 124 119 false,hG 126 2 119 false,j0 127 1 125 126 119 false,hD 128 127 119 false,g9 129 1 10 119 false,hD 130 129 119 false,j0 131 7 128 130 119 false,GQ 132 (.load 7 true 131) 119 false,dA (some 133) (.call y3 [123,132]) (some (119,false)) [] [35] false,hO 134 .neq 121 133 119 false,f3 135 119 boE 134] [2,3,7,9,10,135] (.cond 135 (boG [dO 6 boD] [6] .ret) .skip)) (boG [dO 11 (ki 0)] [2,3,7,9,10,11] (.block 4 (.loop (.seq (boG [RM 136 11,RM 137 9,dI 138 .lss 136 137] [2,3,7,9,10,11,138] (.cond 138 .skip (.exit 4))) (.seq (.block 5 (boG [RF 141 2 3,RL 142 141,RM 143 2,e0 144 1 142 143,RL 145 144,RF 146 2 7,RL 147 146,RM 148 11,e0 149 3 147 148,RF 150 1 149,RL 151 150,e0 152 7 145 151,RF 153 0 152,RL 154 153,RF 155 2 3,RL 156 155,RM 157 2,e0 158 1 156 157,RL 159 158,RF 160 1 10,RL 161 160,e0 162 7 159 161,RF 163 0 162,RL 164 163,dI 165 .eql 154 164,RM 166 165,g9 167 2 7 166 true,hD 168 167 166 true,hG 169 11 166 true,j0 170 3 168 169 166 true,g9 171 2 170 166 true,hD 172 171 166 true,g9 173 2 10 166 true,hD 174 173 166 true,hO 175 .neq 172 174 166 true,f3 176 166 175 boD] [2,3,7,9,10,11,176] (.cond 176 (boG [dO 6 boD] [6] .ret) .skip))) (m2 [RM 139 11,dI 140 .add 139 (ki 1),RM 11 140] [2,3,7,9,10,11]))))))))) (m2 [RM 79 9,dI 80 .add 79 (ki 1),RM 9 80] [2,3,7,9])))))) (boG [dO 6 boE] [6] .ret))))))
def aJ2:List aW:=[.tm 6]
theorem aLJ:aO Tryz.prog Tryz.f121 (bnD aJG)=some (aJG,aJ2):=by kernel_rfl
theorem aLA:aN Tryz.prog aIY Tryz.f121 aJG aJ2:=aN.mk Tryz.func121 (by kernel_rfl) aLJ
def aI4:AC:= (boG [f5 3 0,f5 4 1,dO 6 boD] [2,3,4] (boG [RF 15 3 4,RL 16 15,RM 17 2,e0 18 3 16 17,f8 19 3 18,f7 7 [OZ,OZ,VZ],g0 3 true 7 19] [2,3,4,7] (.seq (boG [RF 20 0 7,RL 21 20,f1 22 21,dI 23 .gtr 22 (ki 2),RM 24 23,g9 25 1 7 24 false,hD 26 25 24 false,GQ 27 (.len false 26) 24 false,hO 28 .gtr 27 (ki 2) 24 false,f3 29 24 boE 28,RM 30 29,g9 31 2 7 30 false,hD 32 31 30 false,GQ 33 (.call y2 [32,(ki 0),(ki 2)]) 30 false,hP 34 33 30 false,f3 35 30 boE 34] [2,3,4,7,35] (.cond 35 (boG [dO 6 boD] [6] .ret) .skip)) (boG [rq 36 (.bC 5 0 [VZ,VZ,VZ,VZ,OZ] []),RM 8 36] [2,3,4,7,8] (.seq (boG [dO 9 (ki 0)] [2,3,4,7,8,9] (.block 0 (.loop (.seq (boG [RM 37 9,RF 38 1 7,RL 39 38,f1 40 39,dI 41 .lss 37 40] [2,3,4,7,8,9,41] (.cond 41 .skip (.exit 0))) (.seq (.block 1 (boG [RF 44 1 7,RL 45 44,RM 46 9,e0 47 5 45 46,f8 48 5 47,f7 10 [VZ,VZ,VZ,VZ,OZ],g0 5 true 10 48] [2,3,4,7,8,9,10] (.seq (boG [f8 49 5 4,RF 50 0 10,RL 51 50,RF 52 1 10,RL 53 52,RM 54 2,f6 55 aJX [49,51,53,54],f4 56 55,RM 57 56,g9 58 2 10 57 false,GQ 59 (.load 3 true 58) 57 false,GQ 60 (.call aIP [59]) 57 false,hP 61 60 57 false,f3 62 57 boE 61,RM 63 62,g9 64 2 10 63 false,g9 65 0 64 63 false,hD 66 65 63 false,g9 67 2 3 63 false,hD 68 67 63 false,g9 69 0 10 63 false,hD 70 69 63 false,j0 71 1 68 70 63 false,hD 72 71 63 false,g9 73 1 10 63 false,hD 74 73 63 false,j0 75 7 72 74 63 false,g9 76 0 75 63 false,hD 77 76 63 false,hO 78 .neq 66 77 63 false,f3 79 63 boE 78] [2,3,4,7,8,9,10,79] (.cond 79 (boG [dO 6 boD] [6] .ret) .skip)) (m2 [RM 80 8,RF 81 0 10,RL 82 81,RF 83 1 10,RL 84 83,rq 85 (.build [VZ,VZ,VZ,VZ,OZ] [(0,1,82),(1,1,84)]),rq 86 (.bC 5 1 [VZ,VZ,VZ,VZ,OZ] [(0,5,85)]),rq 87 (.append 5 80 86),RM 8 87] [2,3,4,7,8,9])))) (m2 [RM 42 9,dI 43 .add 42 (ki 1),RM 9 43] [2,3,4,7,8,9])))))) (.seq (boG [dO 11 (ki 0)] [2,3,4,7,8,11] (.block 2 (.loop (.seq (boG [RM 88 11,RF 89 0 7,RL 90 89,f1 91 90,dI 92 .lss 88 91] [2,3,4,7,8,11,92] (.cond 92 .skip (.exit 2))) (.seq (.block 3 (boG [RF 95 0 7,RL 96 95,RM 97 11,e0 98 3 96 97,f8 99 3 98,f7 12 [VZ,VZ,VZ],g0 3 true 12 99] [2,3,4,7,8,11,12] (.seq (boG [f8 100 5 4,RF 101 0 12,RL 102 101,RF 103 1 12,RL 104 103,RM 105 2,f6 106 aJX [100,102,104,105],f4 107 106,RM 108 107,g9 109 2 12 108 false,hD 110 109 108 false,g9 111 1 3 108 false,hD 112 111 108 false,hG 113 2 108 false,j0 114 1 112 113 108 false,hD 115 114 108 false,GQ 116 (.call y2 [110,(ki 0),115]) 108 false,hP 117 116 108 false,f3 118 108 boE 117,RM 119 118,hG 120 11 119 false,hO 121 .gtr 120 (ki 0) 119 false,hG 122 121 119 false,g9 123 2 12 122 true,hD 124 123 122 true,g9 125 1 3 122 true,hD 126 125 122 true,hG 127 2 122 true,j0 128 1 126 127 122 true,hD 129 128 122 true,hO 130 .neq 124 129 122 true,GQ 131 (.pick 122 130 boD) 119 false,f3 132 119 boE 131] [2,3,4,7,8,11,12,132] (.cond 132 (boG [dO 6 boD] [6] .ret) .skip)) (m2 [RM 133 8,RF 134 0 12,RL 135 134,RF 136 1 12,RL 137 136,rq 138 (.build [VZ,VZ,VZ,VZ,OZ] [(0,1,135),(1,1,137)]),rq 139 (.bC 5 1 [VZ,VZ,VZ,VZ,OZ] [(0,5,138)]),rq 140 (.append 5 133 139),RM 8 140] [2,3,4,7,8,11])))) (m2 [RM 93 11,dI 94 .add 93 (ki 1),RM 11 94] [2,3,4,7,8,11])))))) (.seq (boG [dO 13 (ki 0)] [8,13] (.block 4 (.loop (.seq (boG [RM 141 13,RM 142 8,f1 143 142,dI 144 .lss 141 143] [8,13,144] (.cond 144 .skip (.exit 4))) (.seq (.block 5 (boG [dO 14 (ki 0)] [8,13,14] (.block 6 (.loop (.seq (boG [RM 147 14,RM 148 13,dI 149 .lss 147 148] [8,13,14,149] (.cond 149 .skip (.exit 6))) (.seq (.block 7 (boG [RM 152 8,RM 153 14,e0 154 5 152 153,RF 155 0 154,RL 156 155,RM 157 8,RM 158 13,e0 159 5 157 158,RF 160 0 159,RL 161 160,dI 162 .eql 156 161,RM 163 162,hG 164 8 163 true,hG 165 14 163 true,j0 166 5 164 165 163 true,g9 167 1 166 163 true,hD 168 167 163 true,hG 169 8 163 true,hG 170 13 163 true,j0 171 5 169 170 163 true,g9 172 1 171 163 true,hD 173 172 163 true,hO 174 .geq 168 173 163 true,f3 175 163 174 boD] [8,13,14,175] (.cond 175 (boG [dO 6 boD] [6] .ret) .skip))) (m2 [RM 150 14,dI 151 .add 150 (ki 1),RM 14 151] [8,13,14]))))))) (m2 [RM 145 13,dI 146 .add 145 (ki 1),RM 13 146] [8,13])))))) (boG [dO 6 boE] [6] .ret))))))))
def aJT:List aW:=[.tm 6]
theorem aKM:aO Tryz.prog Tryz.f122 (bnD aI4)=some (aI4,aJT):=by kernel_rfl
theorem aKP:aN Tryz.prog aIT Tryz.f122 aI4 aJT:=aN.mk Tryz.func122 (by kernel_rfl) aKM
def aJA:AC:= (boG [f5 1 0,f7 2 [OZ,OZ,OZ,OZ,OZ,OZ]] [1,2] (.seq (.region [RF 9 0 1 0,boF 10 (.load 2 true 9) [7] [] false 1,RF 12 4 1 3,g8 13 12 [7] [] true 4,f7 3 [OZ,OZ,OZ,OZ,OZ,OZ] 7,boF 11 (.call aIR [10]) [7] [4] false 2,boF 14 (.call aIM [13]) [7] [] false 5,rq 15 (.build [OZ,OZ,OZ,OZ,OZ,OZ] [(0,2,11),(5,1,14)]) 6,g0 6 true 3 15 8] 9 [1,2,3]) (.seq (boG [dO 4 (ki 0)] [1,2,3,4] (.block 0 (.loop (.seq (boG [RM 16 4,RF 17 2 1,RL 18 17,f1 19 18,dI 20 .lss 16 19] [1,2,3,4,20] (.cond 20 .skip (.exit 0))) (.seq (.block 1 (boG [RF 23 2 3,g8 24 23 [8] [] false,RF 25 2 1,RL 26 25,RM 27 4,e0 28 4 26 27,RF 29 0 28,RL 30 29,rq 31 (.bC 1 1 [VZ] [(0,1,30)]),rq 32 (.append 1 24 31),RF 33 2 3,g0 1 false 33 32] [1,2,3,4] (boG [dO 5 (ki 0)] [1,2,3,4,5] (.block 2 (.loop (.seq (boG [RM 34 5,RF 35 2 1,RL 36 35,RM 37 4,e0 38 4 36 37,RF 39 1 38,RL 40 39,f1 41 40,dI 42 .lss 34 41] [1,2,3,4,5,42] (.cond 42 .skip (.exit 2))) (.seq (.block 3 (m2 [RF 45 3 3,RL 46 45,RM 47 4,RF 48 2 1,RL 49 48,RM 50 4,e0 51 4 49 50,RF 52 1 51,RL 53 52,RM 54 5,e0 55 1 53 54,RL 56 55,rq 57 (.build [VZ,VZ,VZ,VZ,OZ] [(0,1,47),(1,1,56)]),f6 58 aJS [46,57],RF 59 3 3,g0 1 false 59 58] [1,2,3,4,5])) (m2 [RM 43 5,dI 44 .add 43 (ki 1),RM 5 44] [1,2,3,4,5])))))))) (m2 [RM 21 4,dI 22 .add 21 (ki 1),RM 4 22] [1,2,3,4])))))) (.seq (boG [dO 6 (ki 0)] [1,2,3,6] (.block 4 (.loop (.seq (boG [RM 60 6,RF 61 3 1,RL 62 61,f1 63 62,dI 64 .lss 60 63] [1,2,3,6,64] (.cond 64 .skip (.exit 4))) (.seq (.block 5 (.seq (boG [dO 7 (ki 0)] [1,2,3,6,7] (.block 6 (.loop (.seq (boG [RM 67 7,RF 68 3 1,RL 69 68,RM 70 6,e0 71 3 69 70,RF 72 0 71,RL 73 72,f1 74 73,dI 75 .lss 67 74] [1,2,3,6,7,75] (.cond 75 .skip (.exit 6))) (.seq (.block 7 (m2 [RF 78 3 3,RL 79 78,RF 80 3 1,RL 81 80,RM 82 6,e0 83 3 81 82,RF 84 0 83,RL 85 84,RM 86 7,e0 87 3 85 86,RF 88 0 87,RL 89 88,RF 90 3 1,RL 91 90,RM 92 6,e0 93 3 91 92,RF 94 0 93,RL 95 94,RM 96 7,e0 97 3 95 96,RF 98 1 97,RL 99 98,rq 100 (.build [VZ,VZ,VZ,VZ,OZ] [(0,1,89),(1,1,99)]),f6 101 aJS [79,100],RF 102 3 3,g0 1 false 102 101] [1,2,3,6,7])) (m2 [RM 76 7,dI 77 .add 76 (ki 1),RM 7 77] [1,2,3,6,7])))))) (boG [dO 8 (ki 0)] [1,2,3,6,8] (.block 8 (.loop (.seq (boG [RM 103 8,RF 104 3 1,RL 105 104,RM 106 6,e0 107 3 105 106,RF 108 1 107,RL 109 108,f1 110 109,dI 111 .lss 103 110] [1,2,3,6,8,111] (.cond 111 .skip (.exit 8))) (.seq (.block 9 (m2 [RF 114 4 3,RL 115 114,RF 116 3 1,RL 117 116,RM 118 6,e0 119 3 117 118,RF 120 1 119,RL 121 120,RM 122 8,e0 123 5 121 122,f8 124 5 123,f6 125 aJS [115,124],RF 126 4 3,g0 1 false 126 125] [1,2,3,6,8])) (m2 [RM 112 8,dI 113 .add 112 (ki 1),RM 8 113] [1,2,3,6,8])))))))) (m2 [RM 65 6,dI 66 .add 65 (ki 1),RM 6 66] [1,2,3,6])))))) (boG [f8 127 6 3,f6 128 aI0 [127],g0 6 true 2 128] [2] .ret)))))
def aJV:List aW:=[.cell 2 6 true]
theorem aK2:aO Tryz.prog Tryz.f123 (bnD aJA)=some (aJA,aJV):=by kernel_rfl
theorem aLK:aN Tryz.prog aIZ Tryz.f123 aJA aJV:=aN.mk Tryz.func123 (by kernel_rfl) aK2
def a3F:AC:= (boG [f5 4 0,dO 8 boD] [1,2,3,4] (.seq (boG [RM 11 1,f6 12 y2 [11,(ki 0),(ki 2)],f4 13 12] [1,2,3,4,13] (.cond 13 (boG [dO 8 boD] [8] .ret) .skip)) (boG [RF 14 2 4,RL 15 14,RM 16 1,e0 17 4 15 16,RF 18 2 17,RL 19 18,RM 9 19] [2,3,9] (.seq (boG [dO 10 (ki 0)] [2,3,9,10] (.block 0 (.loop (.seq (boG [RM 20 10,RM 21 9,f1 22 21,dI 23 .lss 20 22] [2,3,9,10,23] (.cond 23 .skip (.exit 0))) (.seq (.block 1 (boG [RM 26 9,RM 27 10,e0 28 3 26 27,RF 29 1 28,RL 30 29,RM 31 2,dI 32 .eql 30 31,RM 33 32,hG 34 9 33 true,hG 35 10 33 true,j0 36 3 34 35 33 true,g9 37 2 36 33 true,hD 38 37 33 true,hG 39 3 33 true,hO 40 .eql 38 39 33 true,f3 41 33 40 boD] [2,3,9,10,41] (.cond 41 (boG [dO 8 boE] [8] .ret) .skip))) (m2 [RM 24 10,dI 25 .add 24 (ki 1),RM 10 25] [2,3,9,10])))))) (boG [dO 8 boD] [8] .ret)))))
def a5H:List aW:=[.tm 8]
theorem bc0:aO Tryz.prog Tryz.f210 (bnD a3F)=some (a3F,a5H):=by kernel_rfl
theorem bcJ:aN Tryz.prog aJX Tryz.f210 a3F a5H:=aN.mk Tryz.func210 (by kernel_rfl) bc0
section
variable {H : aA} {nx : Nat} {K : D → aA → Nat → Prop}
theorem yO {α:Type} [Inhabited α] {a b:List α} (hl:a.length=b.length) (h: ∀i,i<a.length→a.getD i default=b.getD i default):a=b:=by refine br2 hl fun i c d=> ?_;have:=h i c;simpa [List.getD,c,d] using this
theorem tP {a:List Int} {b:List Int} (g:a.length<2^40) (j:b.length<2^40) (h:K (dB (decide (a=b))) H nx):aB Tryz.prog jM [dS (a.map aJ),dS (b.map aJ)] H nx K:=by
 refine aB.pure (args0:=[dS (a.map aJ),dS (b.map aJ)]) (R:=fun e=>e=dB (decide (a=b))) ?_ rfl (aI ⟨aE rfl,aE rfl,trivial⟩) (fun r hr=>hr▸h);clear h;refine SU rfl fun Q c=> ?_;unfold xO;by_cases hl:a.length=b.length
 ·repeat' first|apply bn1<;>(simp only[go_sem])|apply bn3 (by omega)|fail
  (refine aM.loop (α:={k:Nat//k≤a.length∧(∀i,i<k→a.getD i default=b.getD i default)}) (fun u=>en [(5,boP u.1),(1,dS (b.map aJ)),(0,dS (a.map aJ))]) (fun _=>.nil) _ (fun u=>a.length-u.1) ⟨0,by omega,(by intros;first|trivial|omega)⟩ (bU (m5 _) (by repeat' first|exact bo2|refine xqI rfl rfl ?_|fail)) ?_);(rintro⟨k,l,hinv⟩ bpQ d);by_cases f:k<a.length
  ·repeat' first|apply bn1<;>(simp only[go_sem];try simp (disch:=omega) only[Iw])|apply bn2 (by omega)|refine bnE (fun h=> ?_) fun h=> ?_|refine⟨by omega,?_⟩|fail
   ·refine aZ c _ rfl rfl (j7 ?_);intro he;subst he;simp_all
   · (refine d _ _ _ ⟨k+1,by omega,iS hinv (by omega)⟩ (by omega) (by(try dsimp only);omega) (bU (m5 _) (by repeat' first|exact bo2|refine xqI rfl rfl ?_|fail)))
  ·repeat' first|apply bn1<;>(simp only[go_sem])|apply bn3 (by omega)|fail
   refine aZ c _ rfl rfl (q9 (yO hl fun i hi=>hinv i (by omega)))
 ·repeat' first|apply bn1<;>(simp only[go_sem])|apply bn2 (by omega)|fail
  refine aZ c _ rfl rfl (j7 fun he=>hl (by rw[he]))
theorem W9 {a:Rsp} {b:Rsp} (c:a.data.length<2^40) (d:b.data.length<2^40) (h:K (dB (decide (a=b))) H nx):aB Tryz.prog qO [boR (tG a),boR (tG b)] H nx K:=by
 refine aB.pure (args0:=[boR (tG a),boR (tG b)]) (R:=fun e=>e=dB (decide (a=b))) ?_ rfl (aI ⟨aE rfl,aE rfl,trivial⟩) (fun r hr=>hr▸h);clear h;refine UL rfl fun Q f=> ?_;unfold AT;repeat' first| (first|apply bn1|refine bpL (fun h=> ?_) fun h=> ?_|apply tP c d)<;>(simp only[go_sem])|fail
 all_goals first|with_reducible refine aZ f _ rfl rfl ?_|skip
 all_goals (obtain⟨az9,az2,aAD⟩:=a;obtain⟨g,i,boX⟩:=b;dsimp only at*;first|exact q9 (by simp_all)|exact j7 (by simp_all)|exact pD (by simp_all))
theorem VN {a b:Rsp} (c:a.data.length<2^40) (d:b.data.length<2^40) (h:K (dB (decide (a=b))) H nx):aB Tryz.prog qO [.one (.agg [cI a.id,cI a.code,.isl (a.data.map aJ)]),.one (.agg [cI b.id,cI b.code,.isl (b.data.map aJ)])] H nx K:=W9 c d h
theorem AL {a:List Job} {b:List Job} (t:a.length<2^40) (v:b.length<2^40) (e: ∀j∈a,j.rsp.data.length<2^40) (f: ∀j∈b,j.rsp.data.length<2^40) (h:K (dB (decide (a=b))) H nx):aB Tryz.prog jN [dS (a.map aS),dS (b.map aS)] H nx K:=by
 refine aB.pure (args0:=[dS (a.map aS),dS (b.map aS)]) (R:=fun q=>q=dB (decide (a=b))) ?_ rfl (aI ⟨aE rfl,aE rfl,trivial⟩) (fun r hr=>hr▸h);clear h;refine RW rfl fun Q d=> ?_;unfold xT;by_cases hl:a.length=b.length
 ·repeat' first|apply bn1<;>(simp only[go_sem])|apply bn3 (by omega)|fail
  (refine aM.loop (α:={k:Nat//k≤a.length∧(∀i,i<k→a.getD i default=b.getD i default)}) (fun u=>en [(5,boP u.1),(1,dS (b.map aS)),(0,dS (a.map aS))]) (fun _=>.nil) _ (fun u=>a.length-u.1) ⟨0,by omega,(by intros;first|trivial|omega)⟩ (bU (m5 _) (by repeat' first|exact bo2|refine xqI rfl rfl ?_|fail)) ?_);(rintro⟨k,w,hinv⟩ bpQ g);by_cases m:k<a.length
  ·have d1:=e _ (cC (l:=a) (k:=k) m);have d2:=f _ (cC (l:=b) (k:=k) (by omega));have c: ¬a.getD k default=b.getD k default→¬a=b:=fun o p=>o (by rw[p]);have heq:(a.getD k default).who=(b.getD k default).who→(a.getD k default).n=(b.getD k default).n→(a.getD k default).rsp=(b.getD k default).rsp→a.getD k default=b.getD k default:=(by generalize a.getD k default=x;generalize b.getD k default=y;obtain⟨z,bpZ,aYM⟩:=x;obtain⟨A,aHC,aHD⟩:=y;dsimp only;intro o p s;subst o;subst p;subst s;rfl);repeat' first| (first|apply bn1|refine bpL (fun h=> ?_) fun h=> ?_|apply VN (a:=(a.getD k default).rsp) (b:=(b.getD k default).rsp) d1 d2)<;>(simp only[go_sem];try simp (disch:=omega) only[Iw])|apply bn2 (by omega)|refine bnE (fun h=> ?_) fun h=> ?_|refine⟨by omega,?_⟩|fail
   ·refine aZ d _ rfl rfl (j7 (c fun he=>absurd (congrArg Job.who he) (by assumption)))
   ·refine aZ d _ rfl rfl (j7 (c fun he=>absurd (congrArg Job.n he) (by assumption)))
   ·refine aZ d _ rfl rfl (j7 (c fun he=>absurd (congrArg Job.rsp he) (by assumption)))
   · (refine g _ _ _ ⟨k+1,by omega,iS hinv (heq (by omega) (by omega) (Classical.not_not.1 (by assumption)))⟩ (by omega) (by(try dsimp only);omega) (bU (m5 _) (by repeat' first|exact bo2|refine xqI rfl rfl ?_|fail)))
  ·repeat' first|apply bn1<;>(simp only[go_sem])|apply bn3 (by omega)|fail
   refine aZ d _ rfl rfl (q9 (yO hl fun i hi=>hinv i (by omega)))
 ·repeat' first|apply bn1<;>(simp only[go_sem])|apply bn2 (by omega)|fail
  refine aZ d _ rfl rfl (j7 fun he=>hl (by rw[he]))
theorem YN {a:List Int} {b:List Int} {u:List Int} {v:List Int} (c:a.length<2^40) (d:b.length<2^40) (hu:u.length<2^40) (e:v.length<2^40) (h:K (dB (decide (a=u∧b=v))) H nx):aB Tryz.prog wK [.one (.agg [.isl (a.map aJ),.isl (b.map aJ)]),.one (.agg [.isl (u.map aJ),.isl (v.map aJ)])] H nx K:=by
 refine aB.pure (args0:=[.one (.agg [.isl (a.map aJ),.isl (b.map aJ)]),.one (.agg [.isl (u.map aJ),.isl (v.map aJ)])]) (R:=fun f=>f=dB (decide (a=u∧b=v))) ?_ rfl (aI ⟨aE rfl,aE rfl,trivial⟩) (fun r hr=>hr▸h);clear h;refine UZ rfl fun Q g=> ?_;unfold zY;repeat' first| (first|apply bn1|refine bpL (fun h=> ?_) fun h=> ?_|apply tP c hu|apply tP d e)<;>(simp only[go_sem])|fail
 all_goals first|with_reducible refine aZ g _ rfl rfl ?_|skip
 all_goals first|exact q9 (by simp_all)|exact j7 (by simp_all)|exact pD (by simp_all)
end
end Go.Proofs.YtdkfhdmagdaceaaGreat
