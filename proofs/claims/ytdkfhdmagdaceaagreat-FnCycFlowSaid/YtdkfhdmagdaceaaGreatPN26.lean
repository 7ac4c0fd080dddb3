/- Texts laid together by a program: rules, contracts and the walk that leads to the law. -/
import Derived.Test.YtdkfhdmagdaceaaGreatPN9
import Derived.Test.YtdkfhdmagdaceaaGreatPN22
import Derived.Test.YtdkfhdmagdaceaaGreatPN14
import Derived.Test.YtdkfhdmagdaceaaGreatPN23
import Derived.Test.YtdkfhdmagdaceaaGreatPN11
import Derived.Test.YtdkfhdmagdaceaaGreatPN7
import Derived.Test.YtdkfhdmagdaceaaGreatPN24
set_option linter.unusedVariables false
set_option linter.unusedSimpArgs false
set_option linter.unusedSectionVars false
set_option maxRecDepth 100000
set_option maxHeartbeats 8000000
namespace Go.AM
theorem aS2 {H:aA} {nx t:Nat} {o o':bA} (b:H t=some o) (c:CvO H noF id nx o' o):CvX noF nx H (H.set t o'):=apO (t:=t) (o':=o') (fun j a=>a.elim) aA.bH b (fun h=>h) c fun j a _=>aA.aC a
def aTA (H:aA) (F:Nat→Prop) (σ:Nat→Nat) (nh:Nat) (R' R:List (List D1)):Prop:=R'.length=R.length∧ ∀(i:Nat) (r' r:List D1),R'[i]?=some r'→R[i]?=some r→CvL H F σ nh r' r
section
variable {H : aA} {F : Nat → Prop} {σ : Nat → Nat} {nh : Nat} {R R' S S' : List (List D1)} {r r' : List D1}
theorem aT0:aTA H F σ nh [] []:=⟨rfl,fun i r' r h=>by simp at h⟩
theorem aSR (h:CvL H F σ nh r' r) (e:aTA H F σ nh R' R):aTA H F σ nh (r'::R') (r::R):=by
 refine⟨by simp[e.1],fun i a b c d=> ?_⟩
 match i with
 |0=>simp at c d;subst c;subst d;exact h
 |i+1=>simp at c d;exact e.2 i a b c d
theorem aTZ (e: ∀r∈R,∀x∈r,x.dQ=true):aTA H F σ nh R R:=⟨rfl,fun i a b c d=>by
 rw[c] at d;cases d
 exact GW fun x f=>e a (s3 c) x f⟩
theorem aTS (h:aTA H F σ nh R' R) (e:aTA H F σ nh S' S):aTA H F σ nh (R'++S') (R++S):=by
 refine⟨by simp[h.1,e.1],fun i a b c d=> ?_⟩;rw[o5] at c d;rw[h.1] at c;by_cases hi:i<R.length;·rw[if_pos hi] at c d;exact h.2 i a b c d
 ·rw[if_neg hi] at c d;exact e.2 _ a b c d
theorem aUI {n m:Nat} (h:aTA H F σ nh R' R):CvO H F σ nh ⟨n,m,R'⟩ ⟨n,m,R⟩:=by
 refine⟨rfl,rfl,Nat.le_of_eq h.1,fun _ b=> ?_,fun i a c=> ?_⟩;·dsimp only at b ⊢;have:=h.1;rw[b] at this;exact H4.1 this.symm
 ·have hi:i<R.length:=by rw[←h.1];exact(m3.1 c).1
  exact⟨R[i],n1 hi,h.2 i a _ c (n1 hi)⟩
end
theorem aM.aUF {P:Program} {T:Nat} {e:Env} {H:aA} {nx:Nat} {Q:AQ} {x y:AC} {zs:List AC} {β:Type} (E:β→Env) (Φ:β→aA→Nat→Prop)
 (h: ∀K:Env→aA→Nat→Prop,(∀e' H' nx' b F H2,nx≤nx'→CvE H' F id nx' (E b) e'→CvX F nx' H' H2→Φ b H2 nx'→K e' H' nx')→aM P T [x] e H nx (AQ.then K Q))
 (i: ∀b H1 a,nx≤a→Φ b H1 a→aM P T (y::zs) (E b) H1 a Q):aM P T (.seq x y::zs) e H nx Q:=by
 refine aM.seq (aM.cut (fun e' H' nx'=>nx≤nx'∧ ∃b F H2,CvE H' F id nx' (E b) e'∧CvX F nx' H' H2∧Φ b H2 nx') (h _ fun e' H' nx' b F H2 c d f g=>⟨c,b,F,H2,d,f,g⟩) fun e' H' nx' _ ⟨c,b,F,H2,d,f,g⟩=> ?_)
 exact aM.tW (E b) H2 F (fun t=>.inr (d t)) f (i b H2 nx' c g)
end Go.AM
namespace Go.Proofs.YtdkfhdmagdaceaaGreat
open Go Go.AM
attribute [local irreducible] aM wv aB vd wvH
section
variable {H : aA} {nx : Nat} {K : D → aA → Nat → Prop}
theorem aRR:cJ Tryz.prog lJ Tryz.f217 qQ FY:=cJ.mk Tryz.func217 (by kernel_rfl) QV
theorem aQN {l:List Int} {p i:Nat} (hl:kZ l) (ah:p+1000<2^50) (hi:i<nx) (ho:H i=some (rdO l p))
 (h: ∀H' nx' p' (m:List Rng) (C:List Int) (aUU:Prog) (Ps:List Prog) bl D I cp mp boW c0,p≤p'→p'≤p+1000→DH m→C.length=4∧All C 0 3→Ps.length=2→(∀S∈aUU::Ps,S.length≤12∧ ∀q∈S,dH q)→H' i=some (rdO l p')→Own aJ 1 H' bl D C→Own eB 7 H' boW c0 aUU→H' I=some ⟨1,mp,[.osl 7 boW 0 aUU.length c0]::Ps.map jR⟩→3≤cp→cp≤mp→nx≤bl→nx≤I→nx≤boW→bl<nx'→I<nx'→boW<nx'→[bl,I,boW].Nodup→(∀id,id<nx→id≠i→H' id=H id)→
  K (boR [.isl (m.map eN),.osl 1 bl 0 4 D,.osl 1 I 0 3 cp]) H' nx'):aB Tryz.prog lJ [bkP 2 i,boP 6] H nx K:=by
 refine aRR rfl fun Q hQ=> ?_
 unfold qQ
 have J:bQ nx [i]:=AM.apart (by simp) (by simp;omega)
 simp only[bQ,eZ] at J
 repeat' first| (first|apply bn1| (refine IV (p:=p) hl (by omega) (by omega) (by rw[aA.aC (by omega)];exact ho) (fun pm m bh bj aa=> ?_)))<;>(simp only[go_sem,boC,J])|fail
 apply aM.EJ 1
 refine aM.aTJ fun bqO f=> ?_
 have bqB:bqO i=some (rdO l pm):=by rw[f];exact(by simp only[aA.set,aA.del,t1,Nat.reduceAdd,bqU,Nat.reduceEqDiff,bqT,bqV,if_true,if_false,J];done)
 have A:bqO nx=some ⟨3,1,[[.osl 0 0 0 0 0,.osl 0 0 0 0 0,.osl 0 0 0 0 0]]⟩:=by rw[f];exact(by simp only[aA.set,aA.del,t1,Nat.reduceAdd,bqU,Nat.reduceEqDiff,bqT,bqV,if_true,if_false,J];done)
 have B:bqO (nx+4)=some ⟨3,1,[[.isl (m.map eN),.osl 0 0 0 0 0,.osl 0 0 0 0 0]]⟩:=by rw[f];exact(by simp only[aA.set,aA.del,t1,Nat.reduceAdd,bqU,Nat.reduceEqDiff,bqT,bqV,if_true,if_false,J];done)
 have E:bqO (nx+7)=some ⟨1,0,[]⟩:=by rw[f];exact(by simp only[aA.set,aA.del,t1,Nat.reduceAdd,bqU,Nat.reduceEqDiff,bqT,bqV,if_true,if_false,J];done)
 have L: ∀id,id<nx→id≠i→bqO id=H id:=fun id s g=>by rw[f,aA.aC (by omega),aA.aC (by omega),aA.aC g,aA.aC (by omega)]
 clear f
 refine aM.gP (β:=Nat×Nat×List Int×Nat×Nat) (fun u=>en [(6,boP u.1),(5,bkP 3 (nx+4)),(4,bkP 3 nx),(1,boP 6),(0,bkP 2 i)])
  (fun u H1 d=>(u.1≤4∧p≤u.2.1∧u.2.1≤p+8+u.1∧u.2.2.1.length=u.1∧nx+7≤u.2.2.2.1∧u.2.2.2.1<d)∧H1 i=some (rdO l u.2.1)∧H1 nx=some ⟨3,1,[[.osl 0 0 0 0 0,.osl 0 0 0 0 0,.osl 0 0 0 0 0]]⟩∧H1 (nx+4)=some ⟨3,1,[[.isl (m.map eN),.osl 1 u.2.2.2.1 0 u.1 u.2.2.2.2,.osl 0 0 0 0 0]]⟩∧Own aJ 1 H1 u.2.2.2.1 u.2.2.2.2 u.2.2.1∧All u.2.2.1 0 3∧ ∀id,id<nx→id≠i→H1 id=H id)
  (fun u=>4-u.1) (0,pm,[],nx+7,0) ⟨noF,bqO.set (nx+4) ⟨3,1,[[.isl (m.map eN),.osl 1 (nx+7) 0 0 0,.osl 0 0 0 0 0]]⟩,by repeat' first|exact bo2|refine xqI rfl rfl ?_|refine xqP (by omega) rfl rfl ?_|fail,aS2 B (aP (aH (bB rfl) (aH (.VS _ _ _ _ _ _) (aH (.VS _ _ _ _ _ _) eP)))),by dsimp only;simp;omega,(by simp only[aA.set,aA.del,t1,Nat.reduceAdd,bqU,Nat.reduceEqDiff,bqT,bqV,if_true,if_false,J,bqB];done),(by simp only[aA.set,aA.del,t1,Nat.reduceAdd,bqU,Nat.reduceEqDiff,bqT,bqV,if_true,if_false,J,A];done),(by simp only[aA.set,aA.del,t1,Nat.reduceAdd,bqU,Nat.reduceEqDiff,bqT,bqV,if_true,if_false,J];done),⟨0,(by simp only[aA.set,aA.del,t1,Nat.reduceAdd,bqU,Nat.reduceEqDiff,bqT,bqV,if_true,if_false,J,E,q0];done),m5 _,m5 _⟩,fun x hx=>absurd hx (by simp),fun id s g=>by rw[aA.aC (by omega)];exact L id s g⟩ ?_
 clear bqB A B E L
 rintro⟨k,pl,C,bl,D⟩ H1 d T ⟨⟨bpR,f2,bpS,bpT,bpU,bpV⟩,bqB,A,B,⟨ml,E,e1,U⟩,W,L⟩ bpQ N
 dsimp only at bpR f2 bpS bpT bpU bpV bqB A B E e1 U W
 have ai:C.take k=C:=boL (by omega)
 have a:bQ d [i,nx,nx+4,bl]:=AM.apart (by simp;omega) (by simp;omega)
 simp only[bQ,eZ] at a
 by_cases aj:k<4
 ·have hM: ∀G:aA,msk (d+2) [4] G (nx+4)=G (nx+4):=fun G=>mk1 (by omega);repeat' first| (first|apply bn1|refine aX (p:=pl) hl (by omega) (by omega) (by omega) bqB (fun x s g=> ?_))<;>(simp only[go_sem,boC,bqB,A,B,E,a,ai,hM];try simp (disch:=omega) only[Iw])|apply bn2 (by omega)| (with_reducible first|refine fun(cap:Nat) (z:_≤cap)=> ?_|refine fun(X:_≤cap)=> ?_)|refine⟨by omega,?_⟩|fail
  exact N _ _ _ (k+1,pl+1,C++[x],d+7,cap) noF _ (by omega) (by dsimp only;omega) (by dsimp only;repeat' first|exact bo2|refine xqI rfl rfl ?_|refine xqP (by omega) rfl rfl ?_|fail) aK ⟨by simp;omega,(by simp only[aA.set,aA.del,t1,Nat.reduceAdd,bqU,Nat.reduceEqDiff,bqT,bqV,if_true,if_false,a];done),(by simp only[aA.set,aA.del,t1,Nat.reduceAdd,bqU,Nat.reduceEqDiff,bqT,bqV,if_true,if_false,a,A];done),(by simp only[aA.set,aA.del,t1,Nat.reduceAdd,bqU,Nat.reduceEqDiff,bqT,bqV,if_true,if_false,a];done),⟨cap,(by simp only[aA.set,aA.del,t1,Nat.reduceAdd,bqU,Nat.reduceEqDiff,bqT,bqV,if_true,if_false,a];done),by simp;omega,m5 _⟩,KC W (by omega) (by omega),fun id s g=>by rw[aA.aC (by omega),aA.aC (by omega),aA.aC (by omega),aA.aC g,aA.jG (by omega)];exact L id s g⟩
 have ak:k=4:=by omega
 subst ak
 have al:=bpT
 repeat' first|apply bn1<;>(simp only[go_sem,t1])|apply bn3 (by omega)|fail
 apply aM.EJ 1
 refine aM.aTJ fun bqO f=> ?_
 have r0:bqO i=some (rdO l pl):=by rw[f];exact(by simp only[aA.set,aA.del,t1,Nat.reduceAdd,bqU,Nat.reduceEqDiff,bqT,bqV,if_true,if_false,a,bqB];done)
 have r1:bqO nx=some ⟨3,1,[[.osl 0 0 0 0 0,.osl 0 0 0 0 0,.osl 0 0 0 0 0]]⟩:=by rw[f];exact(by simp only[aA.set,aA.del,t1,Nat.reduceAdd,bqU,Nat.reduceEqDiff,bqT,bqV,if_true,if_false,a,A];done)
 have r2:bqO (nx+4)=some ⟨3,1,[[.isl (m.map eN),.osl 1 bl 0 4 D,.osl 0 0 0 0 0]]⟩:=by rw[f];exact(by simp only[aA.set,aA.del,t1,Nat.reduceAdd,bqU,Nat.reduceEqDiff,bqT,bqV,if_true,if_false,a,B];done)
 have r3:Own aJ 1 bqO bl D C:=⟨ml,by rw[f];exact(by simp only[aA.set,aA.del,t1,Nat.reduceAdd,bqU,Nat.reduceEqDiff,bqT,bqV,if_true,if_false,a,E];done),e1,U⟩
 have r4:bqO (d+3)=some ⟨1,0,[]⟩:=by rw[f];exact(by simp only[aA.set,aA.del,t1,Nat.reduceAdd,bqU,Nat.reduceEqDiff,bqT,bqV,if_true,if_false,a];done)
 have rf: ∀id,id<nx→id≠i→bqO id=H id:=fun id s g=>by rw[f,aA.aC (by omega)];exact L id s g
 clear f bqB A B E L e1 U
 refine aM.gP (β:=Nat×Nat×(List (List D1)×Nat×Nat)×(Prog×Nat×Nat)×List Prog) (fun u=>en [(7,boP u.1),(5,bkP 3 (nx+4)),(4,bkP 3 nx),(1,boP 6),(0,bkP 2 i)])
  (fun u H1 d=>((u.1≤3∧p≤u.2.1∧u.2.1≤p+12+300*u.1)∧(nx+5≤u.2.2.1.2.1∧u.2.2.1.2.1<d∧bl≠u.2.2.1.2.1∧bl<d))∧H1 i=some (rdO l u.2.1)∧H1 nx=some ⟨3,1,[[.osl 0 0 0 0 0,.osl 0 0 0 0 0,.osl 0 0 0 0 0]]⟩∧H1 (nx+4)=some ⟨3,1,[[.isl (m.map eN),.osl 1 bl 0 4 D,.osl 1 u.2.2.1.2.1 0 u.1 u.2.2.1.2.2]]⟩∧Own aJ 1 H1 bl D C∧
   (∃mp,H1 u.2.2.1.2.1=some ⟨1,mp,u.2.2.1.1⟩∧u.1≤u.2.2.1.2.2∧u.2.2.1.2.2≤mp)∧
   (0<u.1→Own eB 7 H1 u.2.2.2.1.2.1 u.2.2.2.1.2.2 u.2.2.2.1.1∧u.2.2.1.1=[.osl 7 u.2.2.2.1.2.1 0 u.2.2.2.1.1.length u.2.2.2.1.2.2]::u.2.2.2.2.map jR∧u.2.2.2.2.length+1=u.1∧(∀S∈u.2.2.2.1.1::u.2.2.2.2,S.length≤12∧ ∀q∈S,dH q)∧nx+5≤u.2.2.2.1.2.1∧u.2.2.2.1.2.1<d∧[bl,u.2.2.1.2.1,u.2.2.2.1.2.1].Nodup)∧(u.1=0→u.2.2.1.1=[])∧ ∀id,id<nx→id≠i→H1 id=H id)
  (fun u=>3-u.1) (0,pl,([],d+3,0),([],0,0),[]) ⟨noF,bqO.set (nx+4) ⟨3,1,[[.isl (m.map eN),.osl 1 bl 0 4 D,.osl 1 (d+3) 0 0 0]]⟩,by repeat' first|exact bo2|refine xqI rfl rfl ?_|refine xqP (by omega) rfl rfl ?_|fail,aS2 r2 (aP (aH (bB rfl) (aH (.osl _ _ _ _ _ (by omega)) (aH (.VS _ _ _ _ _ _) eP)))),by dsimp only;omega,(by simp only[aA.set,aA.del,t1,Nat.reduceAdd,bqU,Nat.reduceEqDiff,bqT,bqV,if_true,if_false,a,r0];done),(by simp only[aA.set,aA.del,t1,Nat.reduceAdd,bqU,Nat.reduceEqDiff,bqT,bqV,if_true,if_false,a,r1];done),(by simp only[aA.set,aA.del,t1,Nat.reduceAdd,bqU,Nat.reduceEqDiff,bqT,bqV,if_true,if_false,a];done),r3.of (by rw[aA.aC (by omega)]),⟨0,(by simp only[aA.set,aA.del,t1,Nat.reduceAdd,bqU,Nat.reduceEqDiff,bqT,bqV,if_true,if_false,a,r4];done),m5 _,m5 _⟩,fun h=>by dsimp only at h;omega,fun _=>rfl,fun id s g=>by rw[aA.aC (by omega)];exact rf id s g⟩ ?_
 clear r0 r1 r2 r3 r4 rf
 have bm:nx+8≤d:=by omega
 clear T a
 rintro⟨k,pl,⟨rows,I,cp⟩,⟨aUU,boW,c0⟩,Ps⟩ H1 d T ⟨⟨⟨bpR,f2,bpS⟩,bpT,bpU,bpV,bpW⟩,bqB,A,B,E,⟨mp,q4,e1,U⟩,q5,q6,L⟩ bpQ N
 dsimp only at bpR f2 bpS bpT bpU bpV bpW bqB A B E q4 q5 q6 e1 U
 have a:bQ d [i,nx,nx+4,bl,I]:=AM.apart (by simp;omega) (by simp;omega)
 simp only[bQ,eZ] at a
 by_cases aj:k<3
 ·repeat' first| (first|apply bn1| (refine aX (p:=pl) hl (by omega) (by omega) (by omega) (by simp only[aA.set,aA.del,t1,Nat.reduceAdd,bqU,Nat.reduceEqDiff,bqT,bqV,if_true,if_false,a,bqB];done) (fun x bn bo=> ?_)))<;>(simp only[go_sem,boC,bqB,A,B,a];try simp (disch:=omega) only[Iw])|apply bn2 (by omega)|fail
  refine aM.aTJ fun bqO f=> ?_;have r0:bqO i=some (rdO l (pl+1)):=by rw[f];exact(by simp only[aA.set,aA.del,t1,Nat.reduceAdd,bqU,Nat.reduceEqDiff,bqT,bqV,if_true,if_false,a,bqB];done)
  have r1:bqO (d+2)=some ⟨7,0,[]⟩:=by rw[f];exact(by simp only[aA.set,aA.del,t1,Nat.reduceAdd,bqU,Nat.reduceEqDiff,bqT,bqV,if_true,if_false,a];done)
  have rf: ∀id,id<d→id≠i→bqO id=H1 id:=fun id s g=>by rw[f,aA.aC g,aA.aC (by omega)]
  clear f
  refine aM.gP (β:=Nat×Nat×Prog×Nat×Nat) (fun u=>en [(9,boP u.1),(8,.one (.c (.osl 7 u.2.2.2.1 0 u.2.2.1.length u.2.2.2.2))),(7,boP k),(5,bkP 3 (nx+4)),(4,bkP 3 nx),(1,boP 6),(0,bkP 2 i)])
   (fun u H2 n=>(u.1≤6∧p≤u.2.1∧u.2.1≤pl+1+41*(6-u.1)∧(∀q∈u.2.2.1,dH q)∧2*u.1+u.2.2.1.length≤12)∧(d≤u.2.2.2.1∧u.2.2.2.1<n)∧H2 i=some (rdO l u.2.1)∧Own eB 7 H2 u.2.2.2.1 u.2.2.2.2 u.2.2.1∧ ∀id,id<d→id≠i→H2 id=H1 id)
   (fun u=>u.1) (x.toNat,pl+1,[],d+2,0) ⟨noF,_,by repeat' first|exact bo2|refine xqI rfl rfl ?_|refine xqP (by omega) rfl rfl ?_|refine xqV rfl (by omega) ?_| (with_reducible apply bo3)| ((with_reducible apply bo0);exact bpA)| ((with_reducible apply bo1);apply bo7)|fail,aK,⟨by dsimp only;omega,by dsimp only;omega,by dsimp only;omega,fun q hq=>by simp at hq,by simp;omega⟩,by dsimp only;omega,r0,⟨0,r1,m5 _,m5 _⟩,rf⟩ ?_
  clear r0 r1 rf;rintro⟨j,pj,rs,b,cr⟩ H2 n an ⟨⟨g1,g2,g3,g4,g5⟩,⟨bkU,bkV⟩,V,⟨mr,s1,d1,d2⟩,M⟩ bqR ao;dsimp only at g1 g2 g3 g4 g5 bkU bkV V s1 d1 d2;have aq:rs.take rs.length=rs:=bq4;have w:bQ n [i,b]:=AM.apart (by simp;omega) (by simp;omega);simp only[bQ,eZ] at w;by_cases hj:0<j
  ·apply aM.seq;repeat' first|apply boB<;>(simp only[go_sem])|apply bn2 (by omega)|fail
   apply aM.seq;repeat' first| (first|apply boB|refine ID (p:=pj) hl (by omega) (by omega) V (fun pq q bq br ae=> ?_))<;>(simp only[go_sem,boC,V,s1,w])|fail
   refine aM.aUF (β:=Nat×Prog×Nat×Nat) (fun u=>en [(10,bkP 7 (n+4)),(9,boP j),(8,.one (.c (.osl 7 u.2.2.1 0 u.2.1.length u.2.2.2))),(7,boP k),(5,bkP 3 (nx+4)),(4,bkP 3 nx),(1,boP 6),(0,bkP 2 i)])
    (fun u H3 O=>(p≤u.1∧u.1≤pj+41∧(∀q∈u.2.1,dH q)∧u.2.1.length≤rs.length+1)∧(d≤u.2.2.1∧u.2.2.1<O∧u.2.2.1≠n+4)∧H3 i=some (rdO l u.1)∧H3 (n+4)=some ⟨7,1,[eB q]⟩∧Own eB 7 H3 u.2.2.1 u.2.2.2 u.2.1∧ ∀id,id<d→id≠i→H3 id=H1 id) (fun bkT Y=> ?_) ?_
   ·repeat' first| (first|apply bn1|refine bpL (fun h=> ?_) fun h=> ?_| (refine aX (p:=pq) hl (by omega) (by omega) (by omega) (by simp only[aA.set,aA.del,t1,Nat.reduceAdd,bqU,Nat.reduceEqDiff,bqT,bqV,if_true,if_false,w];done) (fun x s g=> ?_)))<;>(simp only[go_sem,boC,V,s1,w,aq])|refine bnE (fun h=> ?_) fun h=> ?_| (with_reducible first|refine fun(cap:Nat) (z:_≤cap)=> ?_|refine fun(X:_≤cap)=> ?_)|refine⟨by omega,?_⟩|fail
    ·refine Y _ _ _ (pq+1,rs++[⟨q.id,3,q.addr,1,false,[],[]⟩],n+26,cap) noF (aA.set _ (n+26) ⟨7,cap,(rs++[(⟨q.id,3,q.addr,1,false,[],[]⟩:Req)]).map eB⟩) (by omega) (by dsimp only;rw[t2,List.length_singleton];repeat' first|exact bo2|refine xqI rfl rfl ?_|refine xqP (by omega) rfl rfl ?_|refine xqO (by omega) rfl rfl (by rfl) ?_|fail)
      (aS2 aA.bH (uO (R:=rs.map eB) (r':=eB ⟨q.id,3,q.addr,1,false,[],[]⟩) (by simp) rfl (fun r hr=>(aG rL rs r hr).2) rfl (aH (bB rfl) (aH (bB rfl) (aH (bB rfl) (aH (bB rfl) (aH (bB rfl) (aH xG (aH xG eP)))))))))
      ⟨⟨by dsimp only;omega,by dsimp only;omega,fun q' v=> ?_,by simp⟩,⟨by dsimp only;omega,by dsimp only;omega,by dsimp only;omega⟩,(by simp only[aA.set,aA.del,t1,Nat.reduceAdd,bqU,Nat.reduceEqDiff,bqT,bqV,if_true,if_false,w];done),(by simp only[aA.set,aA.del,t1,Nat.reduceAdd,bqU,Nat.reduceEqDiff,bqT,bqV,if_true,if_false,w];done),⟨cap,aA.bH,by simpa using z,m5 _⟩,fun id s g=>by rw[aA.aC (by omega),aA.aC (by omega),aA.aC (by omega),aA.aC (by omega),aA.aC g,aA.jG (by omega)];exact M id s g⟩
     rcases o3.1 v with v|v
     ·exact g4 q' v
     ·simp at v;subst v;exact bkX.MM ae
    ·exact Y _ _ _ (pq+1,rs,b,cr) noF _ (by omega) (by dsimp only;repeat' first|exact bo2|refine xqI rfl rfl ?_|refine xqP (by omega) rfl rfl ?_|refine xqO (by omega) rfl rfl (by rfl) ?_|fail) aK ⟨⟨by dsimp only;omega,by dsimp only;omega,g4,by dsimp only;omega⟩,⟨by dsimp only;omega,by dsimp only;omega,by dsimp only;omega⟩,(by simp only[aA.set,aA.del,t1,Nat.reduceAdd,bqU,Nat.reduceEqDiff,bqT,bqV,if_true,if_false,w];done),(by simp only[aA.set,aA.del,t1,Nat.reduceAdd,bqU,Nat.reduceEqDiff,bqT,bqV,if_true,if_false,w];done),⟨mr,(by simp only[aA.set,aA.del,t1,Nat.reduceAdd,bqU,Nat.reduceEqDiff,bqT,bqV,if_true,if_false,w,s1];done),d1,d2⟩,fun id s g=>by rw[aA.aC (by omega),aA.aC g];exact M id s g⟩
    all_goals exact Y _ _ _ (pq,rs,b,cr) noF _ (by omega) (by dsimp only;repeat' first|exact bo2|refine xqI rfl rfl ?_|refine xqP (by omega) rfl rfl ?_|refine xqO (by omega) rfl rfl (by rfl) ?_|fail) aK ⟨⟨by dsimp only;omega,by dsimp only;omega,g4,by dsimp only;omega⟩,⟨by dsimp only;omega,by dsimp only;omega,by dsimp only;omega⟩,(by simp only[aA.set,aA.del,t1,Nat.reduceAdd,bqU,Nat.reduceEqDiff,bqT,bqV,if_true,if_false,w];done),(by simp only[aA.set,aA.del,t1,Nat.reduceAdd,bqU,Nat.reduceEqDiff,bqT,bqV,if_true,if_false,w];done),⟨mr,(by simp only[aA.set,aA.del,t1,Nat.reduceAdd,bqU,Nat.reduceEqDiff,bqT,bqV,if_true,if_false,w,s1];done),d1,d2⟩,fun id s g=>by rw[aA.aC (by omega),aA.aC g];exact M id s g⟩
   ·rintro⟨pk,rk,bk,ck⟩ H3 O ar ⟨⟨aUV,aUW,aIG,aII⟩,⟨aUX,aIH,aUY⟩,v0,v1,⟨mk,v2,bqH,bqI⟩,vf⟩;dsimp only at aUV aUW aIG aII aUX aIH aUY v0 v2 bqH bqI;have au:rk.take rk.length=rk:=bq4;have o:bQ O [i,bk,n+4]:=AM.apart (by simp;omega) (by simp;omega);simp only[bQ,eZ] at o;repeat' first|apply bn1<;>(simp only[go_sem,boC,v0,v1,v2,o,au];try simp (disch:=omega) only[Iw])| (with_reducible first|refine fun(cap:Nat) (z:_≤cap)=> ?_|refine fun(X:_≤cap)=> ?_)|refine⟨by omega,?_⟩|fail
    refine ao _ _ _ (j-1,pk,rk++[q],O+3,cap) noF _ (by omega) (by dsimp only;omega) (by dsimp only;rw[t2,List.length_singleton];repeat' first|exact bo2|refine xqI rfl rfl ?_|refine xqP (by omega) rfl rfl ?_|refine xqO (by omega) rfl rfl (by rfl) ?_|refine xqV rfl (by omega) ?_|fail) aK ⟨⟨by dsimp only;omega,by dsimp only;omega,by dsimp only;omega,fun q' v=> ?_,by simp;omega⟩,⟨by dsimp only;omega,by dsimp only;omega⟩,(by simp only[aA.set,aA.del,t1,Nat.reduceAdd,bqU,Nat.reduceEqDiff,bqT,bqV,if_true,if_false,o,v0];done),⟨cap,(by simp only[aA.set,aA.del,t1,Nat.reduceAdd,bqU,Nat.reduceEqDiff,bqT,bqV,if_true,if_false,o];done),by simpa using z,m5 _⟩,fun id s g=>by rw[aA.aC (by omega),aA.aC (by omega),aA.jG (by omega)];exact vf id s g⟩;rcases o3.1 v with v|v;·exact aIG q' v
    ·simp at v;subst v;exact ae
  ·have aw:(rs.length:Int)≤12:=(by omega);have s2:=(M (nx+4) (by omega) (by omega)).trans B;have bp7:=(M I (by omega) (by omega)).trans q4;have o:bQ n [i,b,nx+4,I]:=AM.apart (by simp;omega) (by simp;omega);simp only[bQ,eZ] at o;have hM: ∀G:aA,msk (n+2) [7] G (nx+4)=G (nx+4):=fun G=>mk1 (by omega)
   have bs:rows.length=k:=by
    by_cases h0:k=0;·rw[q6 h0,h0];rfl
    ·obtain⟨_,e,U,_⟩:=q5 (by omega);rw[e,List.length_cons,bqW];exact U
   have ax:rows.take k=rows:=boL (by omega);have ay:(if (12:Int)<(rs.length:Int) then (12:Int) else (rs.length:Int)).toNat=rs.length:=(by rw[if_neg (by omega)];simp);repeat' first|apply bn1<;>(simp only[go_sem,boC,V,s1,s2,bp7,o,hM,ax,ay];try simp (disch:=omega) only[Iw])|apply bn3 (by omega)| (with_reducible first|refine fun(cap:Nat) (z:_≤cap)=> ?_|refine fun(X:_≤cap)=> ?_)|refine⟨by omega,?_⟩|fail
   have af:rs.length≤12∧ ∀q∈rs,dH q:=⟨by omega,g4⟩
   have Z: ∀(G:aA),(∀id,id<nx→id≠i→G id=H2 id)→∀id,id<nx→id≠i→G id=H id:=fun G bqK id s g=>by rw[bqK id s g,M id (by omega) g];exact L id s g
   have ab:Own aJ 1 H2 bl D C:=E.of (M bl (by omega) (by omega));have bp8:=(M nx (by omega) (by omega)).trans A;by_cases h0:k=0
   ·subst h0;rw[q6 rfl]
    exact N _ _ _ (1,pj,([[.osl 7 b 0 rs.length cr]],n+10,cap),(rs,b,cr),[]) noF _ (by omega) (by dsimp only;omega) (by dsimp only;repeat' first|exact bo2|refine xqI rfl rfl ?_|refine xqP (by omega) rfl rfl ?_|fail) aK ⟨by dsimp only;omega,(by simp only[aA.set,aA.del,t1,Nat.reduceAdd,bqU,Nat.reduceEqDiff,bqT,bqV,if_true,if_false,o,V];done),by rw[aA.aC (by omega),aA.aC (by omega),aA.aC (by omega),aA.jG (by omega)];exact bp8,(by simp only[aA.set,aA.del,t1,Nat.reduceAdd,bqU,Nat.reduceEqDiff,bqT,bqV,if_true,if_false,o];done),ab.of (by rw[aA.aC (by omega),aA.aC (by omega),aA.aC (by omega),aA.jG (by omega)]),⟨cap,(by simp only[aA.set,aA.del,t1,Nat.reduceAdd,bqU,Nat.reduceEqDiff,bqT,bqV,if_true,if_false,o,List.nil_append];done),by dsimp only;omega,by dsimp only;omega⟩,
     fun _=>⟨⟨mr,(by simp only[aA.set,aA.del,t1,Nat.reduceAdd,bqU,Nat.reduceEqDiff,bqT,bqV,if_true,if_false,o,s1];done),d1,d2⟩,rfl,rfl,fun S y=>by(simp at y;subst y;exact af),by dsimp only;omega,by dsimp only;omega,by simp;omega⟩,fun h=>by dsimp only at h;omega,Z _ fun id s g=>by rw[aA.aC (by omega),aA.aC (by omega),aA.aC (by omega),aA.jG (by omega)]⟩
   ·obtain⟨o0,ag,az,ad,ba,bb,P⟩:=q5 (by omega);generalize bqK:aA.set _ (nx+4) _=aUZ;have bqK:=bqK.symm;have aU0:aUZ i=some (rdO l pj):=(by rw[bqK];exact(by simp only[aA.set,aA.del,t1,Nat.reduceAdd,bqU,Nat.reduceEqDiff,bqT,bqV,if_true,if_false,o,V];done));have bpN:aUZ nx=some ⟨3,1,[[.osl 0 0 0 0 0,.osl 0 0 0 0 0,.osl 0 0 0 0 0]]⟩:=(by rw[bqK,aA.aC (by omega),aA.aC (by omega),aA.aC (by omega),aA.jG (by omega)];exact bp8);have bpO:aUZ (nx+4)=some ⟨3,1,[[.isl (m.map eN),.osl 1 bl 0 4 D,.osl 1 (n+10) 0 (k+1) cap]]⟩:=(by rw[bqK];exact(by simp only[aA.set,aA.del,t1,Nat.reduceAdd,bqU,Nat.reduceEqDiff,bqT,bqV,if_true,if_false,o];done));have bpP:Own aJ 1 aUZ bl D C:=ab.of (by rw[bqK,aA.aC (by omega),aA.aC (by omega),aA.aC (by omega),aA.jG (by omega)]);have bpY:aUZ (n+10)=some ⟨1,cap,rows++[[.osl 7 b 0 rs.length cr]]⟩:=(by rw[bqK];exact(by simp only[aA.set,aA.del,t1,Nat.reduceAdd,bqU,Nat.reduceEqDiff,bqT,bqV,if_true,if_false,o];done));have aU1:aUZ b=some ⟨7,mr,rs.map eB⟩:=(by rw[bqK];exact(by simp only[aA.set,aA.del,t1,Nat.reduceAdd,bqU,Nat.reduceEqDiff,bqT,bqV,if_true,if_false,o,s1];done));have bc:boW≠I:=(by simp at P;omega);have bt:boW≠bl:=(by simp at P;omega);have aU2:Own eB 7 aUZ boW c0 aUU:=o0.of (by rw[bqK,aA.aC (by omega),aA.aC (by omega),aA.aC (by omega),aA.jG bc];exact M boW (by omega) (by omega));have tf: ∀id,id<nx→id≠i→aUZ id=H id:=Z _ fun id s g=>by rw[bqK,aA.aC (by omega),aA.aC (by omega),aA.aC (by omega),aA.jG (by omega)]
    clear bqK V s1 s2 bp7 bp8 bqB A B E q4 ab L M Z
    refine N _ _ _ (k+1,pj,(rows++[jR rs],n+10,cap),(aUU,boW,c0),Ps++[rs]) (fun t=>t=b) ((without (fun t=>t=b) aUZ).set (n+10) ⟨1,cap,rows++[jR rs]⟩) (by omega) (by dsimp only;omega) (by dsimp only;repeat' first|exact bo2|refine xqI rfl rfl ?_|refine xqP (by omega) rfl rfl ?_|fail)
     (apO (t:=n+10) (o':=⟨1,cap,rows++[jR rs]⟩) (fun j hj=>by have bu:j=b:=hj;rw[aA.aC (by omega)];exact if_pos hj) aA.bH bpY (by omega) (aUI (aTS (by rw[ag];exact aSR (aH (.osl _ _ _ _ _ (by omega)) eP) (aTZ fun r hr=>(aG iR _ r hr).2)) (aSR (aH (bW rL aU1 rfl d1 rfl) eP) aT0))) fun j bd bf=>by rw[aA.aC bd,iI (F:=fun t=>t=b) bf])
     ⟨by dsimp only;omega,by rw[aA.aC (by omega),iI (by omega)];exact aU0,by rw[aA.aC (by omega),iI (by omega)];exact bpN,by rw[aA.aC (by omega),iI (by omega)];exact bpO,bpP.of (by rw[aA.aC (by omega),iI (by omega)]),⟨cap,aA.bH,by dsimp only;omega,m5 _⟩,
      fun _=>⟨aU2.of (by(try dsimp only);rw[aA.aC (by omega),iI (by omega)]),by dsimp only;rw[ag,bqX];rfl,by dsimp only;rw[t2,List.length_singleton];omega,fun S y=> ?_,by dsimp only;omega,by dsimp only;omega,by simp;omega⟩,fun h=>by dsimp only at h;omega,fun id s g=>by rw[aA.aC (by omega),iI (by omega)];exact tf id s g⟩
    rw[←List.cons_append,o3] at y;rcases y with y|y;·exact ad S y
    ·simp at y;subst y;exact af
 have bg:k=3:=by omega
 subst bg
 obtain⟨o0,rfl,az,ad,ba,bb,P⟩:=q5 (by omega)
 repeat' first|apply bn1<;>(simp only[go_sem,boC,bqB,A,B,a])|apply bn3 (by omega)|fail
 have hh:=fun H'=>h H' (d+4) pl m C aUU Ps bl D I cp mp boW c0 f2 (by omega) aa ⟨al,W⟩ (by omega) ad
 exact hQ _ _ _ _ _ (.inr rfl) (fZ (m:=1) rfl aA.bH rfl) (hh _ (by simp only[aA.set,aA.del,t1,Nat.reduceAdd,bqU,Nat.reduceEqDiff,bqT,bqV,if_true,if_false,a,bqB];done) (E.of (by rw[aA.aC (by omega)])) (o0.of (by rw[aA.aC (by omega)])) (by simp only[aA.set,aA.del,t1,Nat.reduceAdd,bqU,Nat.reduceEqDiff,bqT,bqV,if_true,if_false,a,q4];done) (by omega) U (by omega) (by omega) (by omega) (by omega) (by omega) (by omega) P fun id s g=>by rw[aA.aC (by omega)];exact L id s g)
theorem aP3:cJ Tryz.prog aNJ Tryz.f143 at4 aOA:=cJ.mk Tryz.func143 (by kernel_rfl) aPQ
theorem aS9 {F:Nat→Prop} {a mp boW c0 b len0:Nat} {aUU:Prog} {Ps:List Prog} (h:H a=some ⟨1,mp,[.osl 7 boW 0 len0 c0]::Ps.map jR⟩) (c:len0=aUU.length) (o:Own eB 7 H boW c0 aUU) (d:F a) (e:F boW) (hc:Ps.length+1≤b):Frz H F (.isl ((aUU::Ps).map jR)) (.osl 1 a 0 (Ps.length+1) b):=by
 subst c;obtain⟨m,f,g,bqD⟩:=o;refine QM d h rfl (by simp) (by simp) hc fun i r' hr=> ?_;rw[Y4]
 match i with
 |0=>simp only[n3,List.getElem?_cons_zero,Option.some.injEq] at hr;subst hr;exact⟨rfl,_,rfl,fO (ay5 (σ:=id) (nh:=0) rfl (bW rL f rfl g e)) LH⟩
 |i+1=>rw[n3,List.getElem?_cons_succ] at hr;have:=aG iR _ _ (s3 hr);exact⟨this.1,r',hr,amO this.2⟩
theorem aT7 {F:Nat→Prop} {a mp b:Nat} {r:List D1} {Ps:List Prog} (h:H a=some ⟨1,mp,r::Ps.map jR⟩) (c:F a) {len:Nat} (hl:len=Ps.length) (hc:len≤b):Frz H F (.isl (Ps.map jR)) (.osl 1 a 1 len b):=by subst hl;refine QM c h rfl (by simp) (by simp;omega) hc fun i r' hr=> ?_;have:=aG iR _ _ (s3 hr);exact⟨this.1,r',by rw[Y3];exact hr,amO this.2⟩
theorem aT9 {m:List Rng} {c:List Int} {P:List Prog} (f:m.length≤8) (g:c.length≤4) (h:P.length≤3) (d: ∀b∈P,b.length≤13∧ ∀q∈b,q.data.length≤8∧q.g6.length≤8):jO ⟨m,c,P⟩:=⟨by dsimp only;omega,by dsimp only;omega,by dsimp only;omega,fun b a=>by have:=(d b a).1;omega,fun b a q e=>by have:=(d b a).2 q e;omega⟩
theorem aTR {q:Req} (h:dH q):q.data.length≤8∧q.g6.length≤8:=by obtain⟨_,_,⟨c,_⟩,a,b,_⟩:=h;unfold n5 at a b;split at a<;>omega
theorem aQA {l:List Int} {p i:Nat} {n:Int} (hn:0<n∧n<9000) (hl:kZ l) (ah:p+1200<2^50) (hi:i<nx) (ho:H i=some (rdO l p))
 (h: ∀H' nx' p' (c:Cfg),nx≤nx'→jO c→p≤p'→p'≤p+1200→H' i=some (rdO l p')→(∀id,id<nx→id≠i→H' id=H id)→K (boR (cU c)) H' nx'):aB Tryz.prog aNJ [bkP 2 i,boP n] H nx K:=by
 apply aB.tW
 refine aP3 rfl fun Q hQ=> ?_
 unfold at4
 have hA:bQ nx [i]:=AM.apart (by simp) (by simp;omega)
 simp only[bQ,eZ] at hA
 repeat' first| (first|apply bn1| (refine aQN (p:=p) hl (by omega) (by omega) (by rw[aA.aC (by omega)];exact ho) (fun H1 f pb m I aUU Ps bl T o W mp boW c0 g e h3 X h5 N bqB u A w e1 e2 aUV aUW aIG aII aUX aIH ai D=> ?_)))<;>(simp only[go_sem,boC,hA])|fail
 have h3:=h3.1
 have X:=X.1
 have N: ∀s∈aUU::Ps,s.length≤12∧ ∀q∈s,q.data.length≤8∧q.g6.length≤8:=fun s b=>⟨(N s b).1,fun q hq=>aTR ((N s b).2 q hq)⟩
 have B:H1 nx=some ⟨3,1,[[.osl 0 0 0 0 0,.osl 0 0 0 0 0,.osl 0 0 0 0 0]]⟩:=by rw[D _ (by omega) (by omega)];exact aA.bH
 have D: ∀id,id<nx→id≠i→H1 id=H id:=fun id g e=>by rw[D id (by omega) e,aA.aC (by omega)]
 have ar: ¬bl=o∧ ¬bl=boW∧ ¬o=boW:=by simp at ai;omega
 generalize bqK:H1.set (nx+3) _=G
 have bqK:=bqK.symm
 have r0:G i=some (rdO l pb):=by rw[bqK,aA.aC (by omega)];exact bqB
 have r1:G nx=some ⟨3,1,[[.osl 0 0 0 0 0,.osl 0 0 0 0 0,.osl 0 0 0 0 0]]⟩:=by rw[bqK,aA.aC (by omega)];exact B
 have r2:G (nx+3)=some ⟨3,1,[[.isl (m.map eN),.osl 1 bl 0 4 T,.osl 1 o 0 3 W]]⟩:=by rw[bqK];exact aA.bH
 obtain⟨Y,Z,d1,d2⟩:Own aJ 1 G bl T I:=u.of (by rw[bqK,aA.aC (by omega)])
 have r4:G o=some ⟨1,mp,[.osl 7 boW 0 aUU.length c0]::Ps.map jR⟩:=by rw[bqK,aA.aC (by omega)];exact w
 obtain⟨mr,r5,d3,bkS⟩:Own eB 7 G boW c0 aUU:=A.of (by rw[bqK,aA.aC (by omega)])
 have rf: ∀id,id<nx→id≠i→G id=H id:=fun id g e=>by rw[bqK,aA.aC (by omega)];exact D id g e
 clear bqK bqB B u w A D
 have a:bQ f [i,nx,nx+3,bl,o,boW]:=AM.apart (by simp;omega) (by simp;omega)
 simp only[bQ,eZ] at a
 have t: ∀(aID:aA) (P:Nat) (m':List Rng) (R:List Int) (P':List Prog) (d1 d2 d3:D1) (J:Nat) (F:Nat→Prop),f≤P→aID nx=some ⟨3,1,[[d1,d2,d3]]⟩→m'.length≤8→R.length≤4→P'.length≤3→(∀s∈P',s.length≤13∧ ∀q∈s,q.data.length≤8∧q.g6.length≤8)→p≤J→J≤p+1200→aID i=some (rdO l J)→(∀id,id<nx→id≠i→aID id=H id)→(∀j,F j→nx+5≤j)→Frz aID F (.isl (m'.map eN)) d1→Frz aID F (.isl (R.map aJ)) d2→Frz aID F (.isl (P'.map jR)) d3→
  ∀{e2:Env},e2 4= .one (.c (.ptr 3 nx 0 0))→Q .ret e2 aID P:=fun aID P m' R P' d1 d2 d3 J F g1 g2 g3 g4 g5 bkU bkV bp4 bp5 aj ab ak al an e2 he=>by
  refine hQ _ _ _ _ _ (.inr rfl) (fZ (m:=1) he g2 rfl) ⟨boR (cU ⟨m',R,P'⟩),without F aID,F,A8 (fO ak (fO al (fO an LH))),kS,h _ P J _ (by omega) (aT9 g3 g4 g5 bkU) bkV bp4 (by rw[iI fun S=>by have:=ab _ S;omega];exact bp5) fun id g e=>by rw[iI fun S=>by have:=ab _ S;omega];exact aj id g e⟩
 have fl: ∀(aID:aA) (F:Nat→Prop) (L:List Int),L.length=4→aID bl=some ⟨1,Y,L.map aJ⟩→F bl→Frz aID F (.isl (L.map aJ)) (.osl 1 bl 0 4 T):=fun aID F L h0 g e=>ay5 (σ:=id) (nh:=0) rfl (bW bF g h0.symm (by omega) e)
 have fp: ∀(aID:aA) (F:Nat→Prop),aID o=some ⟨1,mp,[.osl 7 boW 0 aUU.length c0]::Ps.map jR⟩→aID boW=some ⟨7,mr,aUU.map eB⟩→F o→F boW→Frz aID F (.isl ((aUU::Ps).map jR)) (.osl 1 o 0 3 W):=fun aID F g e h7 h8=>by have:=aS9 (F:=F) g rfl ⟨mr,e,d3,bkS⟩ h7 h8 (show Ps.length+1≤W by omega);rwa [show Ps.length+1=3 by omega] at this
 (try simp only[go_sem,boC,r0,r1,r2,Z,r4,r5,a]);repeat' first| (first|apply bn1|refine d6 (p:=pb) hn hl (by omega) (by omega) r0 (fun O bb ad ae _=> ?_))<;>(simp only[go_sem,boC,r0,r1,r2,Z,r4,r5,a])| ((refine bnF (fun h=> ?_) (fun h=> ?_))<;>try subst h)|fail
 case refine_2=>exact t _ _ m I (aUU::Ps) _ _ _ O (fun j=>j=bl∨j=o∨j=boW) (by omega) aA.bH (by omega) (by omega) (by simp;omega) (fun s b=>by have:=N s b;exact⟨by omega,this.2⟩) (by omega) (by omega) (by simp only[aA.set,aA.del,t1,Nat.reduceAdd,bqU,Nat.reduceEqDiff,bqT,bqV,if_true,if_false,a];done) (fun id g e=>by rw[aA.aC (by omega),aA.aC e];exact rf id g e) (fun j S=>by omega) (.same _ rfl) (fl _ _ _ X (by simp only[aA.set,aA.del,t1,Nat.reduceAdd,bqU,Nat.reduceEqDiff,bqT,bqV,if_true,if_false,a,Z];done) (.inl rfl)) (fp _ _ (by simp only[aA.set,aA.del,t1,Nat.reduceAdd,bqU,Nat.reduceEqDiff,bqT,bqV,if_true,if_false,a,r4];done) (by simp only[aA.set,aA.del,t1,Nat.reduceAdd,bqU,Nat.reduceEqDiff,bqT,bqV,if_true,if_false,a,r5];done) (.inr (.inl rfl)) (.inr (.inr rfl))) rfl
 generalize bqK:aA.set G i _=aID
 have bqK:=bqK.symm
 have bqB:aID i=some (rdO l O):=by rw[bqK];exact aA.bH
 have B:aID nx=some ⟨3,1,[[.osl 0 0 0 0 0,.osl 0 0 0 0 0,.osl 0 0 0 0 0]]⟩:=by rw[bqK,aA.aC (by omega)];exact r1
 have M:aID (nx+3)=some ⟨3,1,[[.isl (m.map eN),.osl 1 bl 0 4 T,.osl 1 o 0 3 W]]⟩:=by rw[bqK,aA.aC (by omega)];exact r2
 have u:aID bl=some ⟨1,Y,I.map aJ⟩:=by rw[bqK,aA.aC (by omega)];exact Z
 have w:aID o=some ⟨1,mp,[.osl 7 boW 0 aUU.length c0]::Ps.map jR⟩:=by rw[bqK,aA.aC (by omega)];exact r4
 have A:aID boW=some ⟨7,mr,aUU.map eB⟩:=by rw[bqK,aA.aC (by omega)];exact r5
 have D: ∀id,id<nx→id≠i→aID id=H id:=fun id g e=>by rw[bqK,aA.aC e];exact rf id g e
 clear bqK r0 r1 r2 Z r4 r5 rf
 have E: ∀(d k:Nat) (G:aA),msk (f+d) [k] G (nx+3)=G (nx+3):=fun d k G=>mk1 (by omega)
 refine aX (p:=O) hl (by omega) (by omega) (by omega) bqB fun x g e=> ?_
 (try simp only[go_sem,boC,bqB,B,M,u,w,A,a,E]);repeat' first| (first|apply bn1|refine aQQ (p:=O+1) hl (by omega) (by omega) aA.bH (fun p2 bp3 ad ae af=> ?_))<;>(simp only[go_sem,boC,bqB,B,M,u,w,A,a,E])|refine bnE (fun h=> ?_) fun h=> ?_|refine⟨by omega,?_⟩|fail
 ·exact t _ _ bp3 I (aUU::Ps) _ _ _ p2 (fun j=>j=bl∨j=o∨j=boW) (by omega) aA.bH (by omega) (by omega) (by simp;omega) (fun s b=>by have:=N s b;exact⟨by omega,this.2⟩) (by omega) (by omega) (by simp only[aA.set,aA.del,t1,Nat.reduceAdd,bqU,Nat.reduceEqDiff,bqT,bqV,if_true,if_false,a];done) (fun id g e=>by rw[aA.aC (by omega),aA.aC (by omega),aA.aC e];exact D id g e) (fun j S=>by omega) (.same _ rfl) (fl _ _ _ X (by simp only[aA.set,aA.del,t1,Nat.reduceAdd,bqU,Nat.reduceEqDiff,bqT,bqV,if_true,if_false,a,u];done) (.inl rfl)) (fp _ _ (by simp only[aA.set,aA.del,t1,Nat.reduceAdd,bqU,Nat.reduceEqDiff,bqT,bqV,if_true,if_false,a,w];done) (by simp only[aA.set,aA.del,t1,Nat.reduceAdd,bqU,Nat.reduceEqDiff,bqT,bqV,if_true,if_false,a,A];done) (.inr (.inl rfl)) (.inr (.inr rfl))) rfl
 ·refine aX (p:=O+1) hl (by omega) (by omega) (by omega) aA.bH fun y au aw=> ?_;(try simp only[go_sem,boC,bqB,B,M,u,w,A,a,E]);repeat' first|apply bn1<;>(simp only[go_sem,boC,bqB,B,M,u,w,A,a,E])|fail
  generalize aU3:dT (f+9) [4] _ (msk (f+9) [4] aID)=U;have k1:U nx=some ⟨3,1,[[.osl 0 0 0 0 0,.osl 0 0 0 0 0,.osl 0 0 0 0 0]]⟩:=by rw[←aU3,um1 (by omega),mk1 (by omega)];exact B
  have k2:U (nx+3)=some ⟨3,1,[[.isl (m.map eN),.osl 1 bl 0 4 T,.osl 1 o 0 3 W]]⟩:=by rw[←aU3,um1 (by omega),mk1 (by omega)];exact M
  have k3:U bl=some ⟨1,Y,I.map aJ⟩:=by rw[←aU3,um1 (by omega),mk1 (by omega)];exact u
  have k4:U o=some ⟨1,mp,[.osl 7 boW 0 aUU.length c0]::Ps.map jR⟩:=by rw[←aU3,um1 (by omega),mk1 (by omega)];exact w
  have k5:U boW=some ⟨7,mr,aUU.map eB⟩:=by rw[←aU3,um1 (by omega),mk1 (by omega)];exact A
  have kf: ∀id,id<nx→id≠i→U id=H id:=fun id g e=>by rw[←aU3,um1 (by omega),mk1 (by omega)];exact D id g e
  have k6:U (f+9+4)=some ⟨1,2,[[.v (.int .i64 (-1))],[.v (.int .i64 4)]]⟩:=by rw[←aU3,aH6];exact aA.bH
  clear aU3 bqB B M u w A D;refine⟨fun _=>by rw[k2];rfl,?_⟩;refine aX (p:=O+2) hl (by omega) (by omega) (by omega) aA.bH fun z ao ax=> ?_;(try simp only[go_sem,boC,k2,a,E]);repeat' first|apply bn1<;>(simp only[go_sem,boC,k2,a,E])|fail
  generalize aU3:dT (f+9) [4] _ (msk (f+9) [4] U)=V;have bpN:V nx=some ⟨3,1,[[.osl 0 0 0 0 0,.osl 0 0 0 0 0,.osl 0 0 0 0 0]]⟩:=by rw[←aU3,um1 (by omega),mk1 (by omega)];exact k1
  have bpO:V (nx+3)=some ⟨3,1,[[.isl (m.map eN),.osl 1 bl 0 4 T,.osl 1 o 0 3 W]]⟩:=by rw[←aU3,um1 (by omega),mk1 (by omega)];exact k2
  have bpP:V bl=some ⟨1,Y,I.map aJ⟩:=by rw[←aU3,um1 (by omega),mk1 (by omega)];exact k3
  have bpY:V o=some ⟨1,mp,[.osl 7 boW 0 aUU.length c0]::Ps.map jR⟩:=by rw[←aU3,um1 (by omega),mk1 (by omega)];exact k4
  have aU1:V boW=some ⟨7,mr,aUU.map eB⟩:=by rw[←aU3,um1 (by omega),mk1 (by omega)];exact k5
  have tf: ∀id,id<nx→id≠i→V id=H id:=fun id g e=>by rw[←aU3,um1 (by omega),mk1 (by omega)];exact kf id g e
  have aU2:V (f+13)=some ⟨1,2,[[.v (.int .i64 (-1))],[.v (.int .i64 4)]]⟩:=by rw[show f+13=f+9+4 from rfl,←aU3,aH6,aA.aC (by omega)];exact k6
  clear aU3 k1 k2 k3 k4 k5 k6 kf;refine⟨fun _=>by rw[bpO];rfl,by omega,?_⟩;obtain⟨v,hv⟩:=aN1 (L:=[[.v (.int .i64 (-1))],[.v (.int .i64 4)]]) (by simp) ao (by simp;omega);(try simp only[go_sem,boC,bpN,bpO,bpP,bpY,aU1,aU2,hv,a,E]);repeat' first|apply bn1<;>(simp only[go_sem,boC,bpN,bpO,bpP,bpY,aU1,aU2,hv,a,E])|refine⟨by omega,?_⟩|fail
  exact t _ _ m (I.set y.toNat v) (aUU::Ps) _ _ _ (O+3) (fun j=>j=bl∨j=o∨j=boW) (by omega) aA.bH (by omega) (by simp;omega) (by simp;omega) (fun s b=>by have:=N s b;exact⟨by omega,this.2⟩) (by omega) (by omega) (by simp only[aA.set,aA.del,t1,Nat.reduceAdd,bqU,Nat.reduceEqDiff,bqT,bqV,if_true,if_false,a];done) (fun id g e=>by rw[aA.aC (by omega),aA.aC (by omega),aA.aC e];exact tf id g e) (fun j S=>by omega) (.same _ rfl) (fl _ _ _ (by simp;omega) (by simp only[aA.set,aA.del,t1,Nat.reduceAdd,bqU,Nat.reduceEqDiff,bqT,bqV,if_true,if_false,a];done) (.inl rfl)) (fp _ _ (by simp only[aA.set,aA.del,t1,Nat.reduceAdd,bqU,Nat.reduceEqDiff,bqT,bqV,if_true,if_false,a,bpY];done) (by simp only[aA.set,aA.del,t1,Nat.reduceAdd,bqU,Nat.reduceEqDiff,bqT,bqV,if_true,if_false,a,aU1];done) (.inr (.inl rfl)) (.inr (.inr rfl))) rfl
 ·exact t _ _ m (I.drop 1) (aUU::Ps) _ _ _ (O+1) (fun j=>j=bl∨j=o∨j=boW) (by omega) aA.bH (by omega) (by simp;omega) (by simp;omega) (fun s b=>by have:=N s b;exact⟨by omega,this.2⟩) (by omega) (by omega) (by simp only[aA.set,aA.del,t1,Nat.reduceAdd,bqU,Nat.reduceEqDiff,bqT,bqV,if_true,if_false,a,bqB];done) (fun id g e=>by rw[aA.aC (by omega),aA.aC (by omega),aA.aC e];exact D id g e) (fun j S=>by omega) (.same _ rfl) (ay5 (σ:=id) (nh:=0) rfl (aTY (aG bF _) (by simp;omega) (.inl rfl) (show aA.set _ nx _ bl=some ⟨1,Y,I.map aJ⟩ from (by simp only[aA.set,aA.del,t1,Nat.reduceAdd,bqU,Nat.reduceEqDiff,bqT,bqV,if_true,if_false,a,u];done)) rfl (by simp;omega) (by rw[boL (by simp),brE]) (by simp;omega))) (fp _ _ (by simp only[aA.set,aA.del,t1,Nat.reduceAdd,bqU,Nat.reduceEqDiff,bqT,bqV,if_true,if_false,a,w];done) (by simp only[aA.set,aA.del,t1,Nat.reduceAdd,bqU,Nat.reduceEqDiff,bqT,bqV,if_true,if_false,a,A];done) (.inr (.inl rfl)) (.inr (.inr rfl))) rfl
 ·exact t _ _ m I Ps _ _ _ (O+1) (fun j=>j=bl∨j=o∨j=boW) (by omega) aA.bH (by omega) (by omega) (by omega) (fun s b=>by have:=N s (bq9 _ b);exact⟨by omega,this.2⟩) (by omega) (by omega) (by simp only[aA.set,aA.del,t1,Nat.reduceAdd,bqU,Nat.reduceEqDiff,bqT,bqV,if_true,if_false,a,bqB];done) (fun id g e=>by rw[aA.aC (by omega),aA.aC (by omega),aA.aC e];exact D id g e) (fun j S=>by omega) (.same _ rfl) (fl _ _ _ X (by simp only[aA.set,aA.del,t1,Nat.reduceAdd,bqU,Nat.reduceEqDiff,bqT,bqV,if_true,if_false,a,u];done) (.inl rfl)) (aT7 (Ps:=Ps) (mp:=mp) (r:=[.osl 7 boW 0 aUU.length c0]) (by simp only[aA.set,aA.del,t1,Nat.reduceAdd,bqU,Nat.reduceEqDiff,bqT,bqV,if_true,if_false,a,w];done) (.inr (.inl rfl)) h5.symm (by omega)) rfl
 ·have hN: ∀(d k:Nat) (G:aA),msk (f+d) [k] G o=G o:=fun d k G=>mk1 (by omega);have ag:aUU.take aUU.length=aUU:=bq4;(try simp only[go_sem,boC,bqB,B,M,u,w,A,a,E,hN]);repeat' first|apply bn1<;>(simp only[go_sem,boC,bqB,B,M,u,w,A,a,E,hN])|fail
  refine aRK (p:=O+1) hl (by omega) (by omega) aA.bH fun p2 q ad ae af=> ?_;(try simp only[go_sem,boC,bqB,B,M,u,w,A,a,E,hN,ag]);repeat' first|apply bn1<;>(simp only[go_sem,boC,bqB,B,M,u,w,A,a,E,hN,ag])|refine⟨by omega,?_⟩|fail
  have aq:=N aUU (by simp);refine⟨by omega,fun cap aa _=>⟨by omega,?_⟩⟩;try apply bn0
  repeat' first|apply bn1<;>(simp only[go_sem,bqB,B,M,u,w,A,a])|fail
  refine t _ _ m I ((aUU++[q])::Ps) _ _ _ p2 (fun j=>j=bl∨j=o∨j=f+22) (by omega) aA.bH (by omega) (by omega) (by simp;omega) (fun s b=> ?_) (by omega) (by omega) (by simp only[aA.set,aA.del,t1,Nat.reduceAdd,bqU,Nat.reduceEqDiff,bqT,bqV,if_true,if_false,a];done) (fun id g e=>by rw[aA.aC (by omega),aA.aC (by omega),aA.aC (by omega),aA.aC (by omega),aA.aC e,aA.jG (by omega)];exact D id g e) (fun j S=>by omega) (.same _ rfl) (fl _ _ _ X (by simp only[aA.set,aA.del,t1,Nat.reduceAdd,bqU,Nat.reduceEqDiff,bqT,bqV,if_true,if_false,a,u];done) (.inl rfl)) ?_ rfl
  ·rcases t3.1 b with b|b
   ·subst b;refine⟨by rw[t2,List.length_singleton];omega,fun q' C=> ?_⟩;rcases o3.1 C with C|C;·exact aq.2 q' C
    ·simp at C;subst C;exact af
   ·have:=N s (bq9 _ b);exact⟨by omega,this.2⟩
  ·have e3:(3:Nat)=Ps.length+1:=(by omega);rw[e3];exact aS9 (mp:=mp) (boW:=f+22) (c0:=cap) (len0:=aUU.length+1) (by simp only[aA.set,aA.del,t1,Nat.reduceAdd,bqU,Nat.reduceEqDiff,bqT,bqV,if_true,if_false,a];done) (by simp) ⟨cap,(by simp only[aA.set,aA.del,t1,Nat.reduceAdd,bqU,Nat.reduceEqDiff,bqT,bqV,if_true,if_false,a];done),by simpa using aa,m5 _⟩ (.inr (.inl rfl)) (.inr (.inr rfl)) (by omega)
end
theorem TZ:cJ Tryz.prog DB Tryz.f39 AV IY:=cJ.mk Tryz.func39 (by kernel_rfl) UH
theorem OX:cJ Tryz.prog xN Tryz.f35 u0 DP:=cJ.mk Tryz.func35 (by kernel_rfl) N3
section
variable {H : aA} {nx : Nat} {K : D → aA → Nat → Prop}
theorem FF (h:K (.tup [.c (.v (.int .u64 0)),.c (.v (.int .u64 3))]) H nx):aB Tryz.prog eF [btN 1,btN 3] H nx K:=by
 refine aB.pure (args0:=[btN 1,btN 3]) (R:=fun a=>a= .tup [.c (.v (.int .u64 0)),.c (.v (.int .u64 3))]) ?_ rfl (aI ⟨aE rfl,aE rfl,trivial⟩) (fun r hr=>hr▸h);clear h;refine pB rfl fun Q b=> ?_;unfold iN;repeat' first|apply bn1<;>(simp only[go_sem])|fail
 exact aZ b (.tup [.c (.v (.int .u64 0)),.c (.v (.int .u64 3))]) (by rfl) rfl rfl
theorem JQ (h:K (.tup [.c (.v (.int .u64 0)),.c (.v (.int .u64 3))]) H nx):aB Tryz.prog cE [btN 1,btN 3] H nx K:=by
 refine aB.pure (args0:=[btN 1,btN 3]) (R:=fun a=>a= .tup [.c (.v (.int .u64 0)),.c (.v (.int .u64 3))]) ?_ rfl (aI ⟨aE rfl,aE rfl,trivial⟩) (fun r hr=>hr▸h);clear h;refine tM rfl fun Q b=> ?_;unfold kO;repeat' first| (first|apply bn1|apply FF)<;>(simp only[go_sem])|fail
 all_goals first|with_reducible refine aZ b _ rfl rfl ?_|skip
 all_goals rfl
theorem xE:aB Tryz.prog dN [boQ 1 0 1 1,boP 3] (hp [(0,⟨1,1,[true].map eH⟩)]) 1
 fun r H' k=>k=2∧H'=hp [(1,⟨1,3,(List.replicate 3 true).map eH⟩)]∧r=boQ 1 1 3 3:=by
 refine wL rfl fun Q l=> ?_
 unfold iE
 have bqH:IntKind.u64.wrap 1=1:=by decide
 have bk6:IntKind.u64.wrap 3=3:=by decide
 have f:min 1 3=1:=rfl
 have g:((1:Nat):Int)=1:=rfl
 generalize a:[true]=l0 at*
 have hlen:l0.length=1:=by subst a;rfl
 repeat' first| (first|apply bn1|apply JQ)<;>(simp only[go_sem,hlen,bqH,bk6,g,f];try simp (disch:=omega) only[Iw])|refine⟨by omega,?_⟩|fail
 obtain⟨R,c⟩: ∃R:Nat→List Bool,R=fun n=>List.replicate n true++List.replicate (3-n) false:=⟨_,rfl⟩
 refine aM.sG 1 (β:=Nat) (fun b n=>en [(8,boP n),(7,boQ 1 b 3 3)]) (fun b n=>hp [(b,⟨1,3,(R n).map eH⟩)]) (fun n=>n=1∨n=2∨n=3) (fun n=>3-n) 1
  (by(refine cR [23] (by omega) (by repeat' first|exact bo2|refine xqI rfl rfl ?_|refine xqO (by omega) rfl rfl (by rfl) ?_|fail) ⟨⟨by simp,by simp[sgL],_,rfl,bP (aG mK _) (by subst c;subst a;rfl) rfl⟩,trivial⟩ (by simp[sgL]))) (.inl rfl) ?_
 intro n j bpQ d
 have h:min 1 2=1:=rfl
 have i:min 2 1=1:=rfl
 have e: ∀n,n≤3→(R n).length=3:=fun n j=>by subst c;simp;omega
 have m:=e 1 (by decide)
 have o:=e 2 (by decide)
 rcases j with rfl|rfl|rfl
 ·repeat' first|apply bn1<;>(simp only[go_sem,m,h];try simp (disch:=omega) only[Iw])|apply bn2 (by omega)|refine⟨by omega,?_⟩|fail
  exact d _ _ _ 2 (by omega) (by(refine cR [29] (by omega) (by repeat' first|exact bo2|refine xqI rfl rfl ?_|refine xqO (by omega) rfl rfl (by rfl) ?_|fail) ⟨⟨by simp,by simp[sgL],_,rfl,bP (aG mK _) (by subst c;rfl) rfl⟩,trivial⟩ (by simp[sgL]))) (by omega) (by omega)
 ·repeat' first|apply bn1<;>(simp only[go_sem,o,i];try simp (disch:=omega) only[Iw])|apply bn2 (by omega)|refine⟨by omega,?_⟩|fail
  exact d _ _ _ 3 (by omega) (by(refine cR [29] (by omega) (by repeat' first|exact bo2|refine xqI rfl rfl ?_|refine xqO (by omega) rfl rfl (by rfl) ?_|fail) ⟨⟨by simp,by simp[sgL],_,rfl,bP (aG mK _) (by subst c;rfl) rfl⟩,trivial⟩ (by simp[sgL]))) (by omega) (by omega)
 ·repeat' first|apply bn1<;>(simp only[go_sem])|apply bn3 (by omega)|fail
  (refine l _ _ _ _ _ 2 (boQ 1 1 3 3) (hp [(1,⟨1,3,(List.replicate 3 true).map eH⟩)]) _ _ (.inr rfl) rfl (fU [29] (by omega) (by repeat' first|exact bo2| ((with_reducible apply bo0);exact bpB (by omega) rfl rfl (by rfl) rfl)| ((with_reducible apply bo1);apply bo7)|fail) ⟨⟨by simp,by simp[sgL],_,rfl,bP (aG mK _) (by subst c;rfl) rfl⟩,trivial⟩ (by simp[sgL])) ?_);exact⟨rfl,rfl,rfl⟩
theorem aiQ {τ:Nat→Nat} {m:Nat} {l:List Bool}:bA.rn τ ⟨1,m,l.map eH⟩=⟨1,m,l.map eH⟩:=by refine rF fun r hr x a=> ?_;obtain⟨y,_,rfl⟩:=CF.1 hr;simp only[eH,CJ] at a;subst a;rfl
theorem xD {i0:Nat} (f:i0<nx) (a:H i0=some ⟨1,1,[[cB true]]⟩) (h:K (boQ 1 nx 3 3) ((H.del i0).set nx ⟨1,3,(List.replicate 3 true).map eH⟩) (nx+1)):aB Tryz.prog dN [boQ 1 i0 1 1,boP 3] H nx K:=by
 refine xE.AF [i0] rfl ⟨qS (by simp) rfl rfl rfl rfl,aE rfl,trivial⟩ ⟨⟨by simp,id,_,a,bP (aG mK _) rfl rfl⟩,trivial⟩ (by simp) (by simp;omega) (by simp) fun r H' g _ ⟨b,c,d⟩=> ?_;subst b;subst c;subst d;generalize List.replicate 3 true=bk1 at*;have e:back (tau 1 nx (nth [i0])) (hp [(1,⟨1,3,bk1.map eH⟩)]) 2 H=(H.del i0).set nx ⟨1,3,bk1.map eH⟩:=by simp[back,hp,aA.set,aA.nil,tau,nth,aiQ,aA.eL,aA.yI]
 rw[←e] at h;exact h
theorem XE (h: ∀H' nx',nx≤nx'→(∀id,id<nx→H' id=H id)→K (boR (eIn pU)) H' nx'):aB Tryz.prog DB [] H nx K:=by
 apply aB.tW;refine TZ rfl fun Q b=> ?_;unfold AV;repeat' first| (first|apply bn1| (refine xD (by omega) (by simp only[aA.set,aA.del,msk,dT];simp;try rfl) ?_))<;>(simp only[go_sem,boC])|fail
 refine(fun(h: ∀G,G=_→Q _ _ G _)=>h _ rfl) fun G bqK=> ?_;have bfZ:G nx=some ⟨3,1,[[.osl 1 (nx+8) 0 3 3,.osl 1 (nx+3) 0 4 4,.osl 1 (nx+9) 0 3 3]]⟩:=by rw[bqK];simp[aA.set]
 have bpX:G (nx+8)=some ⟨1,3,[true,true,true].map eH⟩:=by rw[bqK];simp[aA.set]
 have bkR:G (nx+9)=some ⟨1,3,[true,true,true].map eH⟩:=by rw[bqK];simp[aA.set]
 have bpS:G (nx+3)=some ⟨1,4,[false,false,false,false].map eH⟩:=by rw[bqK];simp[aA.set,aA.del,msk,dT];rfl
 have c: ∀id,id<nx→G id=H id:=fun id a=>by rw[bqK];simp[aA.set,aA.del,msk,dT,show ¬id=nx by omega,show ¬id=nx+1 by omega,show ¬id=nx+3 by omega,show ¬id=nx+4 by omega,show ¬id=nx+8 by omega,show ¬id=nx+9 by omega]
 clear bqK;refine b _ _ _ _ _ (.inr rfl) (fZ (m:=1) rfl bfZ rfl) ⟨boR (eIn pU),without (fun j=>j=nx+3∨j=nx+8∨j=nx+9) G,fun j=>j=nx+3∨j=nx+8∨j=nx+9,?_,kS,h _ _ (by omega) fun id a=> ?_⟩;·exact lY (aH (bW mK bpX rfl (by decide) (.inr (.inl rfl))) (aH (bW mK bpS rfl (by decide) (.inl rfl)) (aH (bW mK bkR rfl (by decide) (.inr (.inr rfl))) eP)))
 ·rw[iI (by omega)];exact c id a
theorem ap8 {F:Nat→Prop} {σ:Nat→Nat} {nh n m d:Nat} {rows c:List (List D1)} (hi: ∀r∈c,∀y∈r,y.dQ=true∨y= .osl 0 0 0 0 0) (h:c=rows) (hm:d=m):CvO H F σ nh ⟨n,d,c⟩ ⟨n,m,rows⟩:=by
 subst h;subst hm;refine⟨rfl,rfl,m5 _,fun _ h=>h,fun i r hr=>⟨r,hr,rfl,fun j a b e f=> ?_⟩⟩;rw[e] at f;cases f;rcases hi r (s3 hr) a (s3 e) with h|h;·exact bB h
 ·subst h;exact afQ
theorem u1 (x:CIn) (N:Nat) (F:1≤N) (o:N≤300) (hmul: ∀{H:aA} {nx:Nat} {K:D→aA→Nat→Prop},K (.tup [.c (.v (.int .u64 0)),.c (.v (.int .u64 N))]) H nx→aB Tryz.prog cE [btN 1,btN N] H nx K):aB Tryz.prog eT [boQ 3 0 1 1,boP N] (hp [(0,⟨3,1,[x].map eIn⟩)]) 1
 fun r H' p=>p=2∧H'=hp [(1,⟨3,N,(List.replicate N x).map eIn⟩)]∧r=boQ 3 1 N N:=by
 refine uM rfl fun Q q=> ?_
 unfold gJ
 have bqH:IntKind.u64.wrap 1=1:=by decide
 have bk6:IntKind.u64.wrap N=N:=by rw[IntKind.wrap_u64];omega
 have g:min 1 N=1:=by omega
 have h:((1:Nat):Int)=1:=rfl
 generalize d:[x]=l0 at*
 have hlen:l0.length=1:=by subst d;rfl
 repeat' first| (first|apply bn1|apply hmul)<;>(simp only[go_sem,hlen,bqH,bk6,h,g];try simp (disch:=omega) only[Iw])|apply bn3 (by omega)|refine⟨by omega,?_⟩|fail
 obtain⟨Z,aAQ⟩: ∃Z:List D1,Z=[.osl 0 0 0 0 0,.osl 0 0 0 0 0,.osl 0 0 0 0 0]:=⟨_,rfl⟩
 obtain⟨R,a⟩: ∃R:Nat→List (List D1),R=fun n=>List.replicate n (eIn x)++List.replicate (N-n) Z:=⟨_,rfl⟩
 have e: ∀n,∀r∈R n,∀y∈r,y.dQ=true∨y= .osl 0 0 0 0 0:=fun n r hr y f=>by
  rw[a] at hr;rcases o3.1 hr with hr|hr;·rw[(bxZ.1 hr).2] at f;exact .inl (w2.1 (QX x).2 y f)
  ·rw[(bxZ.1 hr).2,aAQ] at f;simp at f;exact .inr f
 have i: ∀n,n≤N→(R n).length=N:=fun n G=>by rw[a];simp;omega
 refine aM.sG 1 (β:=Nat) (fun b n=>en [(8,boP n),(7,boQ 3 b N N)]) (fun b n=>hp [(b,⟨3,N,R n⟩)]) (fun n=>1≤n∧n≤N) (fun n=>N-n) 1
  (by(refine cR [23] (by omega) (by repeat' first|exact bo2|refine xqI rfl rfl ?_|refine xqO (by omega) rfl rfl (by rfl) ?_|fail) ⟨⟨by simp,by simp[sgL],_,rfl,ap8 (e 1) (by rw[a,←aAQ];subst d;unfold wr;simp) rfl⟩,trivial⟩ (by simp[sgL]))) ⟨by omega,by omega⟩ ?_
 rintro n ⟨s,j⟩ bpQ l
 have t:=i n j
 by_cases u:n<N
 ·have w:(min n (N-n)≤N)=True:=eq_true (by omega);have z:((0<N-n∧0<N∨min n (N-n)=0)∧n≤N∧n+min n (N-n)≤N)=True:=eq_true ⟨by omega,by omega,by omega⟩
  have aYL:R (n+min n (N-n))=wr (R n) n (List.take (min n (N-n)) (R n)):=by
   obtain⟨k,A⟩: ∃k,k=min n (N-n):=⟨_,rfl⟩
   rw[←A];have B:List.take k (R n)=List.replicate k (eIn x):=(by rw[a,List.take_append_of_le_length (by simp;omega),List.take_replicate,Nat.min_eq_left (by omega)]);have C:List.take n (R n)=List.replicate n (eIn x):=(by rw[a];simp);have E:List.drop (n+k) (R n)=List.replicate (N-(n+k)) Z:=(by rw[a];simp only[List.drop_append,bx0,List.drop_replicate];rw[show n-(n+k)=0 by omega,List.replicate_zero,List.nil_append];congr 1;omega);unfold wr;rw[B,C,bx0,E,a];dsimp only;rw[←List.replicate_append_replicate]
  repeat' first|apply bn1<;>(simp only[go_sem,t,w,z];try simp (disch:=omega) only[Iw])|apply bn2 (by omega)|refine⟨by omega,?_⟩|fail
  exact l _ _ _ (n+min n (N-n)) (by omega) (by(refine cR [29] (by omega) (by repeat' first|exact bo2|refine xqI rfl rfl ?_|refine xqO (by omega) rfl rfl (by rfl) ?_|fail) ⟨⟨by simp,by simp[sgL],_,rfl,ap8 (e _) aYL rfl⟩,trivial⟩ (by simp[sgL]))) ⟨by omega,by omega⟩ (by omega)
 ·repeat' first|apply bn1<;>(simp only[go_sem])|apply bn3 (by omega)|fail
  have m:n=N:=by omega
  (refine q _ _ _ _ _ 2 (boQ 3 1 N N) (hp [(1,⟨3,N,(List.replicate N x).map eIn⟩)]) _ _ (.inr rfl) rfl (fU [29] (by omega) (by repeat' first|exact bo2| ((with_reducible apply bo0);exact bpB (by omega) rfl rfl (by rfl) rfl)| ((with_reducible apply bo1);apply bo7)|fail) ⟨⟨by simp,by simp[sgL],_,rfl,bP (aG QX _) (by rw[a,m];simp) rfl⟩,trivial⟩ (by simp[sgL])) ?_);exact⟨rfl,rfl,rfl⟩
theorem anN {τ:Nat→Nat} {m:Nat} {l:List CIn}:bA.rn τ ⟨3,m,l.map eIn⟩=⟨3,m,l.map eIn⟩:=by refine rF fun r hr x a=> ?_;obtain⟨y,_,rfl⟩:=CF.1 hr;simp only[eIn,t3,bq7,or_false] at a;rcases a with rfl|rfl|rfl<;>rfl
theorem u2 {x:CIn} {N:Nat} (b:1≤N) (a:N≤300) (hmul: ∀{H:aA} {nx:Nat} {K:D→aA→Nat→Prop},K (.tup [.c (.v (.int .u64 0)),.c (.v (.int .u64 N))]) H nx→aB Tryz.prog cE [btN 1,btN N] H nx K)
 {i0:Nat} (j:i0<nx) (d:H i0=some ⟨3,1,[eIn x]⟩) (h:K (boQ 3 nx N N) ((H.del i0).set nx ⟨3,N,(List.replicate N x).map eIn⟩) (nx+1)):aB Tryz.prog eT [boQ 3 i0 1 1,boP N] H nx K:=by
 refine(u1 x N b a hmul).AF [i0] rfl ⟨qS (by simp) rfl rfl rfl rfl,aE rfl,trivial⟩ ⟨⟨by simp,id,_,d,bP (aG QX _) rfl rfl⟩,trivial⟩ (by simp) (by simp;omega) (by simp) fun r H' k _ ⟨e,f,g⟩=> ?_
 subst e;subst f;subst g
 generalize List.replicate N x=bk1 at*
 have i:back (tau 1 nx (nth [i0])) (hp [(1,⟨3,N,bk1.map eIn⟩)]) 2 H=(H.del i0).set nx ⟨3,N,bk1.map eIn⟩:=by simp[back,hp,aA.set,aA.nil,tau,nth,anN,aA.eL,aA.yI]
 rw[←i] at h
 exact h
theorem O5 {c:Cfg} {s:CSt} {N:Nat} (b:1≤N) (m:N≤300) (hmul: ∀{H:aA} {nx:Nat} {K:D→aA→Nat→Prop},K (.tup [.c (.v (.int .u64 0)),.c (.v (.int .u64 N))]) H nx→aB Tryz.prog cE [btN 1,btN N] H nx K)
 {R:List CIn→CSt} (n: ∀{H:aA} {nx:Nat} {K:D→aA→Nat→Prop} {l:List CIn},l.length≤300→(∀i∈l,vZ i)→(∀H' nx',nx≤nx'→(∀id,id<nx→H' id=H id)→K (boR (eI (R l))) H' nx')→aB Tryz.prog tV [boR (cU c),boR (eI s),dS (l.map eIn)] H nx K)
 (h: ∀H' nx',nx≤nx'→(∀id,id<nx→H' id=H id)→K (boR (eI (R (List.replicate N pU)))) H' nx'):aB Tryz.prog xN [boR (cU c),boR (eI s),boP N] H nx K:=by
 apply aB.tW
 refine OX rfl fun Q u=> ?_
 unfold u0
 have o:(0<(N:Int))=True:=eq_true (by omega)
 repeat' first| (first|apply bn1|refine XE (fun H1 g w a=> ?_))<;>(simp only[go_sem,boC,o])|apply bn3 (by omega)|fail
 have boU:H1 nx=some ⟨3,1,[cU c]⟩:=by rw[a _ (by omega)];simp[aA.set,msk]
 have p:H1 (nx+1)=some ⟨5,1,[eI s]⟩:=by rw[a _ (by omega)];simp[aA.set,msk]
 have r:H1 (nx+2)=some ⟨5,1,[[.osl 0 0 0 0 0,.osl 0 0 0 0 0,.osl 0 0 0 0 0,.osl 0 0 0 0 0,.osl 0 0 0 0 0]]⟩:=by rw[a _ (by omega)];simp[aA.set,msk]
 have t: ∀id,id<nx→H1 id=H id:=fun id e=>by rw[a _ (by omega)];simp[aA.set,msk,show ¬id=nx by omega,show ¬id=nx+1 by omega,show ¬id=nx+2 by omega]
 have m0: ∀G:aA,msk (nx+5) [3] G nx=G nx:=fun G=>by unfold msk;rw[if_neg (by simp;omega)]
 have m1: ∀G:aA,msk (nx+5) [3] G (nx+1)=G (nx+1):=fun G=>by unfold msk;rw[if_neg (by simp)]
 refine⟨⟨fun _=>by rw[m1,p];rfl,fun _=>by rw[m0,boU];rfl⟩,?_⟩
 apply u2 (i0:=nx+8) b m hmul (by omega) aA.bH
 obtain⟨l,hl⟩: ∃l,l=List.replicate N pU:=⟨_,rfl⟩
 have x:l.length=N:=by rw[hl];simp
 have q: ∀i∈l,vZ i:=fun i hi=>by rw[hl] at hi;rw[(bxZ.1 hi).2];exact⟨rfl,rfl,rfl⟩
 rw[←hl] at h ⊢
 clear hl a
 refine(fun(h: ∀G,G=_→DQ _ _ _ _ _ _ _ _ _ _ _ _ G _)=>h _ rfl) fun G bqK=> ?_
 have bqC:G nx=some ⟨3,1,[cU c]⟩:=by rw[bqK,aA.aC (by omega),aA.jG (by omega),aA.aC (by omega)];exact boU
 have y:G (nx+1)=some ⟨5,1,[eI s]⟩:=by rw[bqK,aA.aC (by omega),aA.jG (by omega),aA.aC (by omega)];exact p
 have z:G (nx+2)=some ⟨5,1,[[.osl 0 0 0 0 0,.osl 0 0 0 0 0,.osl 0 0 0 0 0,.osl 0 0 0 0 0,.osl 0 0 0 0 0]]⟩:=by rw[bqK,aA.aC (by omega),aA.jG (by omega),aA.aC (by omega)];exact r
 have A: ∀id,id<nx→G id=H id:=fun id e=>by rw[bqK,aA.aC (by omega),aA.jG (by omega),aA.aC (by omega)];exact t id e
 have B:G g=some ⟨3,N,l.map eIn⟩:=by rw[bqK];exact aA.bH
 clear bqK boU p r t
 simp only[go_sem]
 refine⟨⟨fun _=>by rw[m1,y];rfl,fun _=>by rw[m0,bqC];rfl⟩,?_⟩
 refine aB.ao4 (args':=[boR (cU c),boR (eI s),dS (l.map eIn)]) (without (fun j=>j=g) G) (fun j=>j=g) rfl (fun i I d b k=> ?_) kS ?_
 ·match i with
  |0=>simp only[List.getElem?_cons_zero,Option.some.injEq] at b k;subst b;subst k;exact aE rfl
  |1=>simp only[List.getElem?_cons_succ,List.getElem?_cons_zero,Option.some.injEq] at b k;subst b;subst k;exact aE rfl
  |2=>simp only[List.getElem?_cons_succ,List.getElem?_cons_zero,Option.some.injEq] at b k;subst b;subst k;exact yP QX B (by omega) (by omega) rfl
  |i+3=>simp at b
 refine n (by omega) q fun H2 C E f=> ?_
 have F:=(f (nx+2) (by omega)).trans ((iI (by omega)).trans z)
 simp only[go_sem,F]
 try apply bn0
 repeat' first|apply bn1<;>(simp only[go_sem])|fail
 refine u _ _ _ _ _ (.inr rfl) (fZ rfl aA.bH rfl) ⟨boR (eI (R l)),_,noF,aE rfl,aK,h _ _ (by omega) fun id e=> ?_⟩
 rw[aA.aC (by omega),f _ (by omega),iI (by omega)];exact A id e
end
end Go.Proofs.YtdkfhdmagdaceaaGreat
