/- Texts laid together by a program: rules, contracts and the walk that leads to the law. -/
import Derived.Test.YtdkfhdmagdaceaaGreatPH5
import Derived.Test.YtdkfhdmagdaceaaGreatPH14
import Derived.Test.YtdkfhdmagdaceaaGreatPH21
import Derived.Test.YtdkfhdmagdaceaaGreatPH9
import Derived.Test.YtdkfhdmagdaceaaGreatPH11
import Derived.Test.YtdkfhdmagdaceaaGreatPH8
import Derived.Test.YtdkfhdmagdaceaaGreatPH18
set_option linter.unusedVariables false
set_option linter.unusedSimpArgs false
set_option linter.unusedSectionVars false
set_option maxRecDepth 100000
set_option maxHeartbeats 8000000
namespace Go.Proofs.YtdkfhdmagdaceaaGreat.bkX
open Go Go.AM Go.Proofs.YtdkfhdmagdaceaaGreat
section
variable {H : aA} {nx : Nat} {K : D → aA → Nat → Prop}
theorem MM {q:Req} (h:dH q):dH ⟨q.id,3,q.addr,1,false,[],[]⟩:=by obtain⟨b,d,⟨e,c,f⟩,g⟩:=h;refine⟨b,by dsimp only;omega,⟨by dsimp only;omega,c,.inr (by dsimp only;omega)⟩,by simp[n5],by simp[n5],fun x a=>by simp at a,fun x a=>by simp at a,.inr (.inr rfl)⟩
theorem L4 {q:Req} (h:dH q):q.data.length<2^40∧q.g6.length<2^40:=by
 obtain⟨c,d,⟨e,f,g⟩,a,b,i⟩:=h;unfold n5 at a b;constructor;·split at a<;>omega
 ·split at b<;>omega
theorem yB (l:List Int):aB Tryz.prog kN [dS (l.map eU8)] (hp []) 0 fun r H' n'=>n'=1∧H'=hp [(0,rdO (l.take 2000) 0)]∧r=bkP 2 0:=by
 refine DY rfl fun Q a=> ?_;unfold oT;repeat' first|apply bn1<;>(simp only[go_sem])|refine bnE (fun h=> ?_) fun h=> ?_|refine⟨by omega,?_⟩|fail
 ·have e:l.take 2000=(l.take 2000).take 2000:=by rw[List.take_take];simp
  (refine a _ _ _ _ _ 1 (bkP 2 0) (hp [(0,rdO (l.take 2000) 0)]) _ _ (.inr rfl) rfl (fU [9] (by omega) (by repeat' first| ((with_reducible apply bo0);exact bpC (by omega) rfl)| ((with_reducible apply bo1);apply bo7)|fail) ⟨⟨by simp,by simp[sgL],_,rfl,bS (aV _ _)⟩,trivial⟩ (by simp[sgL])) ?_);exact⟨rfl,rfl,rfl⟩
 · (refine a _ _ _ _ _ 1 (bkP 2 0) (hp [(0,rdO l 0)]) _ _ (.inr rfl) rfl (fU [6] (by omega) (by repeat' first| ((with_reducible apply bo0);exact bpC (by omega) rfl)| ((with_reducible apply bo1);apply bo7)|fail) ⟨⟨by simp,by simp[sgL],_,rfl,bS (aV _ _)⟩,trivial⟩ (by simp[sgL])) ?_)
   exact⟨rfl,by rw[boL (by omega)],rfl⟩
theorem F2 {l:List Int} (h:K (bkP 2 nx) (H.set nx (rdO (l.take 2000) 0)) (nx+1)):aB Tryz.prog kN [dS (l.map eU8)] H nx K:=by
 refine(yB l).AF (l0:=[]) [] rfl ⟨aE rfl,trivial⟩ trivial (by simp) (by simp) (by simp) fun r H' n' _ ⟨a,b,c⟩=> ?_;subst a;subst b;subst c;have d:back (tau 0 nx (nth [])) (hp [(0,rdO (l.take 2000) 0)]) 1 H=H.set nx (rdO (l.take 2000) 0):=by simp only[back,hp,aA.set,tau,bq2,if_true,if_false,Nat.sub_zero,Nat.add_zero,Option.map_some,rF (aV _ _),aA.eL]
 rw[←d] at h;exact h
end
end Go.Proofs.YtdkfhdmagdaceaaGreat.bkX
namespace Go.Proofs.YtdkfhdmagdaceaaGreat
open Go Go.AM
attribute [local irreducible] aM wv aB vd wvH
theorem UA:cJ Tryz.prog CS Tryz.f118 zW IZ:=cJ.mk Tryz.func118 (by kernel_rfl) UW
theorem T4:cJ Tryz.prog B9 Tryz.f133 z9 I6:=cJ.mk Tryz.func133 (by kernel_rfl) U3
theorem RX:cJ Tryz.prog AE Tryz.f126 yD FE:=cJ.mk Tryz.func126 (by kernel_rfl) R1
section
variable {H : aA} {nx : Nat} {K : D → aA → Nat → Prop}
theorem YE (h: ∀H' nx',nx+4≤nx'→H' (nx+1)=some ⟨1,3,[true,true,true].map eH⟩→H' (nx+2)=some ⟨1,4,[false,false,false,false].map eH⟩→H' (nx+3)=some ⟨1,3,[true,true,true].map eH⟩→(∀id,id<nx→H' id=H id)→K (boR [.osl 1 (nx+1) 0 3 3,.osl 1 (nx+2) 0 4 4,.osl 1 (nx+3) 0 3 3]) H' nx'):aB Tryz.prog CS [] H nx K:=by
 refine UA rfl fun Q a=> ?_;unfold zW;repeat' first|apply bn1<;>(simp only[go_sem,boC])|fail
 refine a _ _ _ _ _ (.inr rfl) (fZ (m:=1) rfl (by simp only[aA.set,bqT,Nat.reduceEqDiff,if_false,if_true,brN,reduceIte]) rfl) (h _ _ (by omega) ?_ ?_ ?_ fun id b=> ?_);·simp only[aA.set,bqU,Nat.reduceEqDiff,if_false,if_true];rfl
 ·simp only[aA.set,bqU,Nat.reduceEqDiff,if_false,if_true];rfl
 ·simp only[aA.set,bqU,Nat.reduceEqDiff,if_false,if_true];rfl
 ·simp only[aA.set,show ¬id=nx by omega,show ¬id=nx+1 by omega,show ¬id=nx+2 by omega,show ¬id=nx+3 by omega,if_false]
theorem YJ {l:List Int} {p i:Nat} {slow:Int} (hl:kZ l) (O:p+20<2^50) (V:0<slow∧slow<1000) (hi:i<nx) (W:H i=some (rdO l p))
 (h: ∀H' nx' P x,nx≤nx'→P≤p+10→vZ x→H' i=some (rdO l P)→(∀id,id<nx→id≠i→H' id=H id)→K (boR (eIn x)) H' nx'):aB Tryz.prog B9 [bkP 2 i,boP slow] H nx K:=by
 apply aB.tW
 refine T4 rfl fun Q X=> ?_
 unfold z9
 repeat' first| (first|apply bn1|refine YE (fun H' nx' hx bpR R bpS e=> ?_))<;>(simp only[go_sem,boC])|fail
 refine aM.TF fun bqO b=> ?_
 have c0:bqO nx=some ⟨3,1,[[.osl 0 0 0 0 0,.osl 0 0 0 0 0,.osl 0 0 0 0 0]]⟩:=by rw[b,aA.aC (by omega),e _ (by omega)];exact aA.bH
 have c2:bqO (nx+2)=some ⟨3,1,[[.osl 1 (nx+5) 0 3 3,.osl 1 (nx+6) 0 4 4,.osl 1 (nx+7) 0 3 3]]⟩:=by rw[b];exact aA.bH
 have Y:bqO (nx+5)=some ⟨1,3,[true,true,true].map eH⟩:=by rw[b,aA.aC (by omega)];exact bpR
 have bkY:bqO (nx+6)=some ⟨1,4,[false,false,false,false].map eH⟩:=by rw[b,aA.aC (by omega)];exact R
 have bkZ:bqO (nx+7)=some ⟨1,3,[true,true,true].map eH⟩:=by rw[b,aA.aC (by omega)];exact bpS
 have ci:bqO i=some (rdO l p):=by rw[b,aA.aC (by omega),e _ (by omega),aA.aC (by omega)];exact W
 have w: ∀id,id<nx→bqO id=H id:=fun id Z=>by rw[b,aA.aC (by omega),e _ (by omega),aA.aC (by omega)]
 clear b bpR R bpS e
 refine aM.gP (β:=Nat×Nat×List Bool×List Bool) (fun u=>en [(6,boP u.1),(5,.one (.c (.ptr 3 (nx+2) 0 0))),(4,.one (.c (.ptr 3 nx 0 0))),(1,boP slow),(0,bkP 2 i)])
  (fun u H1 _=>u.1≤3∧u.2.1≤p+2*u.1∧u.2.2.1.length=3∧u.2.2.2.length=3∧H1 i=some (rdO l u.2.1)∧H1 (nx+5)=some ⟨1,3,u.2.2.1.map eH⟩∧H1 (nx+7)=some ⟨1,3,u.2.2.2.map eH⟩∧ ∀id,id<nx+8→id≠i→id≠nx+5→id≠nx+7→H1 id=bqO id)
  (fun u=>3-u.1) (0,p,[true,true,true],[true,true,true]) ⟨noF,_,by repeat' first|exact bo2|refine xqI rfl rfl ?_|refine xqP (by omega) rfl rfl ?_|fail,aK,by dsimp only;omega,by dsimp only;omega,rfl,rfl,ci,Y,bkZ,fun _ _ _ _ _=>rfl⟩ ?_
 rintro⟨k,q,z,rc⟩ H1 s aa ⟨A,hq,f,g,t,B,bkV,d⟩ bpQ C
 dsimp only at A hq f g t B bkV
 have S:=(d (nx+2) (by omega) (by omega) (by omega) (by omega)).trans c2
 have D:bQ s [i,nx,nx+2,nx+5,nx+6,nx+7]:=AM.apart (by simp;omega) (by simp;omega)
 simp only[bQ,eZ] at D
 by_cases E:k<3
 ·repeat' first| (first|apply bn1|refine aX (p:=q) hl (by omega) (by omega) (by omega) t (fun y ab ad=> ?_)|refine aX (p:=q+1) hl (by omega) (by omega) (by omega) (by simp only[aA.set,D,if_false,if_true,t]) (fun x h1 h2=> ?_))<;>(simp only[go_sem,boC,S,B,bkV,t,D];try simp (disch:=omega) only[Iw])|apply bn2 (by omega)|refine⟨by omega,?_⟩|fail
  have er: ∀(r:List Bool) (y:Int),(r.map eH).set k [D1.v (.bool (decide (0<y)))]=(r.set k (decide (0<y))).map eH:=fun r y=>by rw[brD];rfl
  rw[er,er];refine C _ _ _ (k+1,q+1+1,z.set k (decide (0<y)),rc.set k (decide (0<x))) noF _ (by omega) (by dsimp only;omega) (by repeat' first|exact bo2|refine xqI rfl rfl ?_|refine xqP (by omega) rfl rfl ?_|fail) aK ⟨by dsimp only;omega,by dsimp only;omega,by simpa using f,by simpa using g,?_,?_,?_,fun id d1 d2 d3 bkS=> ?_⟩;·dsimp only;rw[aA.aC (by omega),aA.aC (by omega)];exact aA.bH
  ·dsimp only;rw[aA.aC (by omega)];exact aA.bH
  ·exact aA.bH
  ·rw[aA.aC bkS,aA.aC d3,aA.aC d2];exact d id d1 d2 d3 bkS
 ·repeat' first|apply bn1<;>(simp only[go_sem])|apply bn3 (by omega)|fail
  have F:k=3:=by omega
  subst F;have bkU:=(d (nx+6) (by omega) (by omega) (by omega) (by omega)).trans bkY
  refine aM.gP (β:=Nat×Nat×List Bool) (fun u=>en [(7,boP u.1),(5,.one (.c (.ptr 3 (nx+2) 0 0))),(4,.one (.c (.ptr 3 nx 0 0))),(1,boP slow),(0,bkP 2 i)])
   (fun u H2 _=>u.1≤4∧u.2.1≤p+6+u.1∧u.2.2.length=4∧H2 i=some (rdO l u.2.1)∧H2 (nx+6)=some ⟨1,4,u.2.2.map eH⟩∧ ∀id,id<s→id≠i→id≠nx+6→H2 id=H1 id)
   (fun u=>4-u.1) (0,q,[false,false,false,false]) ⟨noF,_,by repeat' first|exact bo2|refine xqI rfl rfl ?_|refine xqP (by omega) rfl rfl ?_|fail,aK,by dsimp only;omega,by dsimp only;omega,rfl,t,bkU,fun _ _ _ _=>rfl⟩ ?_
  rintro⟨k,G,I⟩ H2 J T ⟨A,L,m,n,M,a⟩ bqG N;dsimp only at A L m n M;have U:=(a (nx+2) (by omega) (by omega) (by omega)).trans S;have boW:=(a nx (by omega) (by omega) (by omega)).trans ((d nx (by omega) (by omega) (by omega) (by omega)).trans c0);have o:bQ J [i,nx,nx+2,nx+5,nx+6,nx+7]:=AM.apart (by simp;omega) (by simp;omega);simp only[bQ,eZ] at o;by_cases E:k<4
  ·repeat' first| (first|apply bn1|refine aX (p:=G) hl (by omega) (by omega) (by omega) n (fun x h1 h2=> ?_))<;>(simp only[go_sem,boC,U,M,n,o];try simp (disch:=omega) only[Iw])|apply bn2 (by omega)|refine⟨by omega,?_⟩|fail
   have er: ∀(r:List Bool) (y:Int),(r.map eH).set k [D1.v (.bool (decide (y=0)))]=(r.set k (decide (y=0))).map eH:=fun r y=>by rw[brD];rfl
   rw[er];refine N _ _ _ (k+1,G+1,I.set k (decide (x=0))) noF _ (by omega) (by dsimp only;omega) (by repeat' first|exact bo2|refine xqI rfl rfl ?_|refine xqP (by omega) rfl rfl ?_|fail) aK ⟨by dsimp only;omega,by dsimp only;omega,by simpa using m,?_,?_,fun id d1 d2 d3=> ?_⟩;·dsimp only;rw[aA.aC (by omega)];exact aA.bH
   ·exact aA.bH
   ·rw[aA.aC d3,aA.aC d2];exact a id d1 d2 d3
  ·repeat' first|apply bn1<;>(simp only[go_sem,boC,U,boW,o])|apply bn3 (by omega)|fail
   have boZ:=(a (nx+5) (by omega) (by omega) (by omega)).trans B;have bk0:=(a (nx+7) (by omega) (by omega) (by omega)).trans bkV;refine X _ _ _ _ _ (.inr rfl) (fZ rfl aA.bH rfl) ⟨boR (eIn ⟨z,I,rc⟩),_,fun j=>nx+5≤j∧j<nx+5+3,lY (aH (bW mK ((aA.aC (by omega)).trans boZ) f.symm (by dsimp only;omega) (by omega)) (aH (bW mK ((aA.aC (by omega)).trans M) m.symm (by dsimp only;omega) (by omega)) (aH (bW mK ((aA.aC (by omega)).trans bk0) g.symm (by dsimp only;omega) (by omega)) eP))),ZW,h _ _ G ⟨z,I,rc⟩ (by omega) (by omega) ⟨f,m,g⟩ ?_ fun id d1 d2=> ?_⟩;·rw[acA (by omega),aA.aC (by omega)];exact n
   ·rw[acA (by omega),aA.aC (by omega),a id (by omega) d2 (by omega),d id (by omega) d2 (by omega) (by omega)];exact w id d1
end
end Go.Proofs.YtdkfhdmagdaceaaGreat
namespace Go.AM
theorem aS2 {H:aA} {nx t:Nat} {o o':bA} (b:H t=some o) (c:CvO H noF id nx o' o):CvX noF nx H (H.set t o'):=apO (t:=t) (o':=o') (fun j a=>a.elim) aA.bH b (fun h=>h) c fun j a _=>aA.aC a
def aTA (H:aA) (F:Nat→Prop) (σ:Nat→Nat) (nh:Nat) (R' R:List (List D1)):Prop:=R'.length=R.length∧ ∀(i:Nat) (r' r:List D1),R'[i]?=some r'→R[i]?=some r→CvL H F σ nh r' r
section
variable {H : aA} {F : Nat → Prop} {σ : Nat → Nat} {nh : Nat} {R R' S S' : List (List D1)} {r r' : List D1}
theorem aT0:aTA H F σ nh [] []:=⟨rfl,fun i r' r h=>by simp at h⟩
theorem aSR (h:CvL H F σ nh r' r) (e:aTA H F σ nh R' R):aTA H F σ nh (r'::R') (r::R):=by
 refine⟨by simp[e.1],fun i a b c d=> ?_⟩
 match i with
 |0=>simp at c d;subst c;subst d;exact h
 |i+1=>simp at c d;exact e.2 i a b c d
theorem aTZ (e: ∀r∈R,∀x∈r,x.dQ=true):aTA H F σ nh R R:=⟨rfl,fun i a b c d=>by
 rw[c] at d;cases d
 exact GW fun x f=>e a (s3 c) x f⟩
theorem aTS (h:aTA H F σ nh R' R) (e:aTA H F σ nh S' S):aTA H F σ nh (R'++S') (R++S):=by
 refine⟨by simp[h.1,e.1],fun i a b c d=> ?_⟩;rw[o5] at c d;rw[h.1] at c;by_cases hi:i<R.length;·rw[if_pos hi] at c d;exact h.2 i a b c d
 ·rw[if_neg hi] at c d;exact e.2 _ a b c d
theorem aUI {n m:Nat} (h:aTA H F σ nh R' R):CvO H F σ nh ⟨n,m,R'⟩ ⟨n,m,R⟩:=by
 refine⟨rfl,rfl,Nat.le_of_eq h.1,fun _ b=> ?_,fun i a c=> ?_⟩;·dsimp only at b ⊢;have:=h.1;rw[b] at this;exact H4.1 this.symm
 ·have hi:i<R.length:=by rw[←h.1];exact(m3.1 c).1
  exact⟨R[i],n1 hi,h.2 i a _ c (n1 hi)⟩
end
theorem aM.aUF {P:Program} {T:Nat} {e:Env} {H:aA} {nx:Nat} {Q:AQ} {x y:AC} {zs:List AC} {β:Type} (E:β→Env) (Φ:β→aA→Nat→Prop)
 (h: ∀K:Env→aA→Nat→Prop,(∀e' H' nx' b F H2,nx≤nx'→CvE H' F id nx' (E b) e'→CvX F nx' H' H2→Φ b H2 nx'→K e' H' nx')→aM P T [x] e H nx (AQ.then K Q))
 (i: ∀b H1 a,nx≤a→Φ b H1 a→aM P T (y::zs) (E b) H1 a Q):aM P T (.seq x y::zs) e H nx Q:=by
 refine aM.seq (aM.cut (fun e' H' nx'=>nx≤nx'∧ ∃b F H2,CvE H' F id nx' (E b) e'∧CvX F nx' H' H2∧Φ b H2 nx') (h _ fun e' H' nx' b F H2 c d f g=>⟨c,b,F,H2,d,f,g⟩) fun e' H' nx' _ ⟨c,b,F,H2,d,f,g⟩=> ?_)
 exact aM.tW (E b) H2 F (fun t=>.inr (d t)) f (i b H2 nx' c g)
end Go.AM
namespace Go.Proofs.YtdkfhdmagdaceaaGreat
open Go Go.AM
attribute [local irreducible] aM wv aB vd wvH
section
variable {H : aA} {nx : Nat} {K : D → aA → Nat → Prop}
theorem aRR:cJ Tryz.prog lJ Tryz.f217 qQ FY:=cJ.mk Tryz.func217 (by kernel_rfl) QV
theorem aQN {l:List Int} {p i:Nat} (hl:kZ l) (ah:p+1000<2^50) (hi:i<nx) (ho:H i=some (rdO l p))
 (h: ∀H' nx' p' (m:List Rng) (C:List Int) (aUU:Prog) (Ps:List Prog) bl D I cp mp boW c0,p≤p'→p'≤p+1000→DH m→C.length=4∧All C 0 3→Ps.length=2→(∀S∈aUU::Ps,S.length≤12∧ ∀q∈S,dH q)→H' i=some (rdO l p')→Own aJ 1 H' bl D C→Own eB 7 H' boW c0 aUU→H' I=some ⟨1,mp,[.osl 7 boW 0 aUU.length c0]::Ps.map jR⟩→3≤cp→cp≤mp→nx≤bl→nx≤I→nx≤boW→bl<nx'→I<nx'→boW<nx'→[bl,I,boW].Nodup→(∀id,id<nx→id≠i→H' id=H id)→
  K (boR [.isl (m.map eN),.osl 1 bl 0 4 D,.osl 1 I 0 3 cp]) H' nx'):aB Tryz.prog lJ [bkP 2 i,boP 6] H nx K:=by
 refine aRR rfl fun Q hQ=> ?_
 unfold qQ
 have J:bQ nx [i]:=AM.apart (by simp) (by simp;omega)
 simp only[bQ,eZ] at J
 repeat' first| (first|apply bn1| (refine IV (p:=p) hl (by omega) (by omega) (by rw[aA.aC (by omega)];exact ho) (fun pm m bh bj aa=> ?_)))<;>(simp only[go_sem,boC,J])|fail
 apply aM.EJ 1
 refine aM.aTJ fun bqO f=> ?_
 have bqB:bqO i=some (rdO l pm):=by rw[f];exact(by simp only[aA.set,aA.del,t1,Nat.reduceAdd,bqU,Nat.reduceEqDiff,bqT,bqV,if_true,if_false,J];done)
 have A:bqO nx=some ⟨3,1,[[.osl 0 0 0 0 0,.osl 0 0 0 0 0,.osl 0 0 0 0 0]]⟩:=by rw[f];exact(by simp only[aA.set,aA.del,t1,Nat.reduceAdd,bqU,Nat.reduceEqDiff,bqT,bqV,if_true,if_false,J];done)
 have B:bqO (nx+4)=some ⟨3,1,[[.isl (m.map eN),.osl 0 0 0 0 0,.osl 0 0 0 0 0]]⟩:=by rw[f];exact(by simp only[aA.set,aA.del,t1,Nat.reduceAdd,bqU,Nat.reduceEqDiff,bqT,bqV,if_true,if_false,J];done)
 have E:bqO (nx+7)=some ⟨1,0,[]⟩:=by rw[f];exact(by simp only[aA.set,aA.del,t1,Nat.reduceAdd,bqU,Nat.reduceEqDiff,bqT,bqV,if_true,if_false,J];done)
 have L: ∀id,id<nx→id≠i→bqO id=H id:=fun id s g=>by rw[f,aA.aC (by omega),aA.aC (by omega),aA.aC g,aA.aC (by omega)]
 clear f
 refine aM.gP (β:=Nat×Nat×List Int×Nat×Nat) (fun u=>en [(6,boP u.1),(5,bkP 3 (nx+4)),(4,bkP 3 nx),(1,boP 6),(0,bkP 2 i)])
  (fun u H1 d=>(u.1≤4∧p≤u.2.1∧u.2.1≤p+8+u.1∧u.2.2.1.length=u.1∧nx+7≤u.2.2.2.1∧u.2.2.2.1<d)∧H1 i=some (rdO l u.2.1)∧H1 nx=some ⟨3,1,[[.osl 0 0 0 0 0,.osl 0 0 0 0 0,.osl 0 0 0 0 0]]⟩∧H1 (nx+4)=some ⟨3,1,[[.isl (m.map eN),.osl 1 u.2.2.2.1 0 u.1 u.2.2.2.2,.osl 0 0 0 0 0]]⟩∧Own aJ 1 H1 u.2.2.2.1 u.2.2.2.2 u.2.2.1∧All u.2.2.1 0 3∧ ∀id,id<nx→id≠i→H1 id=H id)
  (fun u=>4-u.1) (0,pm,[],nx+7,0) ⟨noF,bqO.set (nx+4) ⟨3,1,[[.isl (m.map eN),.osl 1 (nx+7) 0 0 0,.osl 0 0 0 0 0]]⟩,by repeat' first|exact bo2|refine xqI rfl rfl ?_|refine xqP (by omega) rfl rfl ?_|fail,aS2 B (aP (aH (bB rfl) (aH (.VS _ _ _ _ _ _) (aH (.VS _ _ _ _ _ _) eP)))),by dsimp only;simp;omega,(by simp only[aA.set,aA.del,t1,Nat.reduceAdd,bqU,Nat.reduceEqDiff,bqT,bqV,if_true,if_false,J,bqB];done),(by simp only[aA.set,aA.del,t1,Nat.reduceAdd,bqU,Nat.reduceEqDiff,bqT,bqV,if_true,if_false,J,A];done),(by simp only[aA.set,aA.del,t1,Nat.reduceAdd,bqU,Nat.reduceEqDiff,bqT,bqV,if_true,if_false,J];done),⟨0,(by simp only[aA.set,aA.del,t1,Nat.reduceAdd,bqU,Nat.reduceEqDiff,bqT,bqV,if_true,if_false,J,E,q0];done),m5 _,m5 _⟩,fun x hx=>absurd hx (by simp),fun id s g=>by rw[aA.aC (by omega)];exact L id s g⟩ ?_
 clear bqB A B E L
 rintro⟨k,pl,C,bl,D⟩ H1 d T ⟨⟨bpR,f2,bpS,bpT,bpU,bpV⟩,bqB,A,B,⟨ml,E,e1,U⟩,W,L⟩ bpQ N
 dsimp only at bpR f2 bpS bpT bpU bpV bqB A B E e1 U W
 have ai:C.take k=C:=boL (by omega)
 have a:bQ d [i,nx,nx+4,bl]:=AM.apart (by simp;omega) (by simp;omega)
 simp only[bQ,eZ] at a
 by_cases aj:k<4
 ·have hM: ∀G:aA,msk (d+2) [4] G (nx+4)=G (nx+4):=fun G=>mk1 (by omega);repeat' first| (first|apply bn1|refine aX (p:=pl) hl (by omega) (by omega) (by omega) bqB (fun x s g=> ?_))<;>(simp only[go_sem,boC,bqB,A,B,E,a,ai,hM];try simp (disch:=omega) only[Iw])|apply bn2 (by omega)| (with_reducible first|refine fun(cap:Nat) (z:_≤cap)=> ?_|refine fun(X:_≤cap)=> ?_)|refine⟨by omega,?_⟩|fail
  exact N _ _ _ (k+1,pl+1,C++[x],d+7,cap) noF _ (by omega) (by dsimp only;omega) (by dsimp only;repeat' first|exact bo2|refine xqI rfl rfl ?_|refine xqP (by omega) rfl rfl ?_|fail) aK ⟨by simp;omega,(by simp only[aA.set,aA.del,t1,Nat.reduceAdd,bqU,Nat.reduceEqDiff,bqT,bqV,if_true,if_false,a];done),(by simp only[aA.set,aA.del,t1,Nat.reduceAdd,bqU,Nat.reduceEqDiff,bqT,bqV,if_true,if_false,a,A];done),(by simp only[aA.set,aA.del,t1,Nat.reduceAdd,bqU,Nat.reduceEqDiff,bqT,bqV,if_true,if_false,a];done),⟨cap,(by simp only[aA.set,aA.del,t1,Nat.reduceAdd,bqU,Nat.reduceEqDiff,bqT,bqV,if_true,if_false,a];done),by simp;omega,m5 _⟩,KC W (by omega) (by omega),fun id s g=>by rw[aA.aC (by omega),aA.aC (by omega),aA.aC (by omega),aA.aC g,aA.jG (by omega)];exact L id s g⟩
 have ak:k=4:=by omega
 subst ak
 have al:=bpT
 repeat' first|apply bn1<;>(simp only[go_sem,t1])|apply bn3 (by omega)|fail
 apply aM.EJ 1
 refine aM.aTJ fun bqO f=> ?_
 have r0:bqO i=some (rdO l pl):=by rw[f];exact(by simp only[aA.set,aA.del,t1,Nat.reduceAdd,bqU,Nat.reduceEqDiff,bqT,bqV,if_true,if_false,a,bqB];done)
 have r1:bqO nx=some ⟨3,1,[[.osl 0 0 0 0 0,.osl 0 0 0 0 0,.osl 0 0 0 0 0]]⟩:=by rw[f];exact(by simp only[aA.set,aA.del,t1,Nat.reduceAdd,bqU,Nat.reduceEqDiff,bqT,bqV,if_true,if_false,a,A];done)
 have r2:bqO (nx+4)=some ⟨3,1,[[.isl (m.map eN),.osl 1 bl 0 4 D,.osl 0 0 0 0 0]]⟩:=by rw[f];exact(by simp only[aA.set,aA.del,t1,Nat.reduceAdd,bqU,Nat.reduceEqDiff,bqT,bqV,if_true,if_false,a,B];done)
 have r3:Own aJ 1 bqO bl D C:=⟨ml,by rw[f];exact(by simp only[aA.set,aA.del,t1,Nat.reduceAdd,bqU,Nat.reduceEqDiff,bqT,bqV,if_true,if_false,a,E];done),e1,U⟩
 have r4:bqO (d+3)=some ⟨1,0,[]⟩:=by rw[f];exact(by simp only[aA.set,aA.del,t1,Nat.reduceAdd,bqU,Nat.reduceEqDiff,bqT,bqV,if_true,if_false,a];done)
 have rf: ∀id,id<nx→id≠i→bqO id=H id:=fun id s g=>by rw[f,aA.aC (by omega)];exact L id s g
 clear f bqB A B E L e1 U
 refine aM.gP (β:=Nat×Nat×(List (List D1)×Nat×Nat)×(Prog×Nat×Nat)×List Prog) (fun u=>en [(7,boP u.1),(5,bkP 3 (nx+4)),(4,bkP 3 nx),(1,boP 6),(0,bkP 2 i)])
  (fun u H1 d=>((u.1≤3∧p≤u.2.1∧u.2.1≤p+12+300*u.1)∧(nx+5≤u.2.2.1.2.1∧u.2.2.1.2.1<d∧bl≠u.2.2.1.2.1∧bl<d))∧H1 i=some (rdO l u.2.1)∧H1 nx=some ⟨3,1,[[.osl 0 0 0 0 0,.osl 0 0 0 0 0,.osl 0 0 0 0 0]]⟩∧H1 (nx+4)=some ⟨3,1,[[.isl (m.map eN),.osl 1 bl 0 4 D,.osl 1 u.2.2.1.2.1 0 u.1 u.2.2.1.2.2]]⟩∧Own aJ 1 H1 bl D C∧
   (∃mp,H1 u.2.2.1.2.1=some ⟨1,mp,u.2.2.1.1⟩∧u.1≤u.2.2.1.2.2∧u.2.2.1.2.2≤mp)∧
   (0<u.1→Own eB 7 H1 u.2.2.2.1.2.1 u.2.2.2.1.2.2 u.2.2.2.1.1∧u.2.2.1.1=[.osl 7 u.2.2.2.1.2.1 0 u.2.2.2.1.1.length u.2.2.2.1.2.2]::u.2.2.2.2.map jR∧u.2.2.2.2.length+1=u.1∧(∀S∈u.2.2.2.1.1::u.2.2.2.2,S.length≤12∧ ∀q∈S,dH q)∧nx+5≤u.2.2.2.1.2.1∧u.2.2.2.1.2.1<d∧[bl,u.2.2.1.2.1,u.2.2.2.1.2.1].Nodup)∧(u.1=0→u.2.2.1.1=[])∧ ∀id,id<nx→id≠i→H1 id=H id)
  (fun u=>3-u.1) (0,pl,([],d+3,0),([],0,0),[]) ⟨noF,bqO.set (nx+4) ⟨3,1,[[.isl (m.map eN),.osl 1 bl 0 4 D,.osl 1 (d+3) 0 0 0]]⟩,by repeat' first|exact bo2|refine xqI rfl rfl ?_|refine xqP (by omega) rfl rfl ?_|fail,aS2 r2 (aP (aH (bB rfl) (aH (.osl _ _ _ _ _ (by omega)) (aH (.VS _ _ _ _ _ _) eP)))),by dsimp only;omega,(by simp only[aA.set,aA.del,t1,Nat.reduceAdd,bqU,Nat.reduceEqDiff,bqT,bqV,if_true,if_false,a,r0];done),(by simp only[aA.set,aA.del,t1,Nat.reduceAdd,bqU,Nat.reduceEqDiff,bqT,bqV,if_true,if_false,a,r1];done),(by simp only[aA.set,aA.del,t1,Nat.reduceAdd,bqU,Nat.reduceEqDiff,bqT,bqV,if_true,if_false,a];done),r3.of (by rw[aA.aC (by omega)]),⟨0,(by simp only[aA.set,aA.del,t1,Nat.reduceAdd,bqU,Nat.reduceEqDiff,bqT,bqV,if_true,if_false,a,r4];done),m5 _,m5 _⟩,fun h=>by dsimp only at h;omega,fun _=>rfl,fun id s g=>by rw[aA.aC (by omega)];exact rf id s g⟩ ?_
 clear r0 r1 r2 r3 r4 rf
 have bm:nx+8≤d:=by omega
 clear T a
 rintro⟨k,pl,⟨rows,I,cp⟩,⟨aUU,boW,c0⟩,Ps⟩ H1 d T ⟨⟨⟨bpR,f2,bpS⟩,bpT,bpU,bpV,bpW⟩,bqB,A,B,E,⟨mp,q4,e1,U⟩,q5,q6,L⟩ bpQ N
 dsimp only at bpR f2 bpS bpT bpU bpV bpW bqB A B E q4 q5 q6 e1 U
 have a:bQ d [i,nx,nx+4,bl,I]:=AM.apart (by simp;omega) (by simp;omega)
 simp only[bQ,eZ] at a
 by_cases aj:k<3
 ·repeat' first| (first|apply bn1| (refine aX (p:=pl) hl (by omega) (by omega) (by omega) (by simp only[aA.set,aA.del,t1,Nat.reduceAdd,bqU,Nat.reduceEqDiff,bqT,bqV,if_true,if_false,a,bqB];done) (fun x bn bo=> ?_)))<;>(simp only[go_sem,boC,bqB,A,B,a];try simp (disch:=omega) only[Iw])|apply bn2 (by omega)|fail
  refine aM.aTJ fun bqO f=> ?_;have r0:bqO i=some (rdO l (pl+1)):=by rw[f];exact(by simp only[aA.set,aA.del,t1,Nat.reduceAdd,bqU,Nat.reduceEqDiff,bqT,bqV,if_true,if_false,a,bqB];done)
  have r1:bqO (d+2)=some ⟨7,0,[]⟩:=by rw[f];exact(by simp only[aA.set,aA.del,t1,Nat.reduceAdd,bqU,Nat.reduceEqDiff,bqT,bqV,if_true,if_false,a];done)
  have rf: ∀id,id<d→id≠i→bqO id=H1 id:=fun id s g=>by rw[f,aA.aC g,aA.aC (by omega)]
  clear f
  refine aM.gP (β:=Nat×Nat×Prog×Nat×Nat) (fun u=>en [(9,boP u.1),(8,.one (.c (.osl 7 u.2.2.2.1 0 u.2.2.1.length u.2.2.2.2))),(7,boP k),(5,bkP 3 (nx+4)),(4,bkP 3 nx),(1,boP 6),(0,bkP 2 i)])
   (fun u H2 n=>(u.1≤6∧p≤u.2.1∧u.2.1≤pl+1+41*(6-u.1)∧(∀q∈u.2.2.1,dH q)∧2*u.1+u.2.2.1.length≤12)∧(d≤u.2.2.2.1∧u.2.2.2.1<n)∧H2 i=some (rdO l u.2.1)∧Own eB 7 H2 u.2.2.2.1 u.2.2.2.2 u.2.2.1∧ ∀id,id<d→id≠i→H2 id=H1 id)
   (fun u=>u.1) (x.toNat,pl+1,[],d+2,0) ⟨noF,_,by repeat' first|exact bo2|refine xqI rfl rfl ?_|refine xqP (by omega) rfl rfl ?_|refine xqV rfl (by omega) ?_| (with_reducible apply bo3)| ((with_reducible apply bo0);exact bpA)| ((with_reducible apply bo1);apply bo7)|fail,aK,⟨by dsimp only;omega,by dsimp only;omega,by dsimp only;omega,fun q hq=>by simp at hq,by simp;omega⟩,by dsimp only;omega,r0,⟨0,r1,m5 _,m5 _⟩,rf⟩ ?_
  clear r0 r1 rf;rintro⟨j,pj,rs,b,cr⟩ H2 n an ⟨⟨g1,g2,g3,g4,g5⟩,⟨bkU,bkV⟩,V,⟨mr,s1,d1,d2⟩,M⟩ bqR ao;dsimp only at g1 g2 g3 g4 g5 bkU bkV V s1 d1 d2;have aq:rs.take rs.length=rs:=bq4;have w:bQ n [i,b]:=AM.apart (by simp;omega) (by simp;omega);simp only[bQ,eZ] at w;by_cases hj:0<j
  ·apply aM.seq;repeat' first|apply boB<;>(simp only[go_sem])|apply bn2 (by omega)|fail
   apply aM.seq;repeat' first| (first|apply boB|refine ID (p:=pj) hl (by omega) (by omega) V (fun pq q bq br ae=> ?_))<;>(simp only[go_sem,boC,V,s1,w])|fail
   refine aM.aUF (β:=Nat×Prog×Nat×Nat) (fun u=>en [(10,bkP 7 (n+4)),(9,boP j),(8,.one (.c (.osl 7 u.2.2.1 0 u.2.1.length u.2.2.2))),(7,boP k),(5,bkP 3 (nx+4)),(4,bkP 3 nx),(1,boP 6),(0,bkP 2 i)])
    (fun u H3 O=>(p≤u.1∧u.1≤pj+41∧(∀q∈u.2.1,dH q)∧u.2.1.length≤rs.length+1)∧(d≤u.2.2.1∧u.2.2.1<O∧u.2.2.1≠n+4)∧H3 i=some (rdO l u.1)∧H3 (n+4)=some ⟨7,1,[eB q]⟩∧Own eB 7 H3 u.2.2.1 u.2.2.2 u.2.1∧ ∀id,id<d→id≠i→H3 id=H1 id) (fun bkT Y=> ?_) ?_
   ·repeat' first| (first|apply bn1|refine bpL (fun h=> ?_) fun h=> ?_| (refine aX (p:=pq) hl (by omega) (by omega) (by omega) (by simp only[aA.set,aA.del,t1,Nat.reduceAdd,bqU,Nat.reduceEqDiff,bqT,bqV,if_true,if_false,w];done) (fun x s g=> ?_)))<;>(simp only[go_sem,boC,V,s1,w,aq])|refine bnE (fun h=> ?_) fun h=> ?_| (with_reducible first|refine fun(cap:Nat) (z:_≤cap)=> ?_|refine fun(X:_≤cap)=> ?_)|refine⟨by omega,?_⟩|fail
    ·refine Y _ _ _ (pq+1,rs++[⟨q.id,3,q.addr,1,false,[],[]⟩],n+26,cap) noF (aA.set _ (n+26) ⟨7,cap,(rs++[(⟨q.id,3,q.addr,1,false,[],[]⟩:Req)]).map eB⟩) (by omega) (by dsimp only;rw[t2,List.length_singleton];repeat' first|exact bo2|refine xqI rfl rfl ?_|refine xqP (by omega) rfl rfl ?_|refine xqO (by omega) rfl rfl (by rfl) ?_|fail)
      (aS2 aA.bH (uO (R:=rs.map eB) (r':=eB ⟨q.id,3,q.addr,1,false,[],[]⟩) (by simp) rfl (fun r hr=>(aG rL rs r hr).2) rfl (aH (bB rfl) (aH (bB rfl) (aH (bB rfl) (aH (bB rfl) (aH (bB rfl) (aH xG (aH xG eP)))))))))
      ⟨⟨by dsimp only;omega,by dsimp only;omega,fun q' v=> ?_,by simp⟩,⟨by dsimp only;omega,by dsimp only;omega,by dsimp only;omega⟩,(by simp only[aA.set,aA.del,t1,Nat.reduceAdd,bqU,Nat.reduceEqDiff,bqT,bqV,if_true,if_false,w];done),(by simp only[aA.set,aA.del,t1,Nat.reduceAdd,bqU,Nat.reduceEqDiff,bqT,bqV,if_true,if_false,w];done),⟨cap,aA.bH,by simpa using z,m5 _⟩,fun id s g=>by rw[aA.aC (by omega),aA.aC (by omega),aA.aC (by omega),aA.aC (by omega),aA.aC g,aA.jG (by omega)];exact M id s g⟩
     rcases o3.1 v with v|v
     ·exact g4 q' v
     ·simp at v;subst v;exact bkX.MM ae
    ·exact Y _ _ _ (pq+1,rs,b,cr) noF _ (by omega) (by dsimp only;repeat' first|exact bo2|refine xqI rfl rfl ?_|refine xqP (by omega) rfl rfl ?_|refine xqO (by omega) rfl rfl (by rfl) ?_|fail) aK ⟨⟨by dsimp only;omega,by dsimp only;omega,g4,by dsimp only;omega⟩,⟨by dsimp only;omega,by dsimp only;omega,by dsimp only;omega⟩,(by simp only[aA.set,aA.del,t1,Nat.reduceAdd,bqU,Nat.reduceEqDiff,bqT,bqV,if_true,if_false,w];done),(by simp only[aA.set,aA.del,t1,Nat.reduceAdd,bqU,Nat.reduceEqDiff,bqT,bqV,if_true,if_false,w];done),⟨mr,(by simp only[aA.set,aA.del,t1,Nat.reduceAdd,bqU,Nat.reduceEqDiff,bqT,bqV,if_true,if_false,w,s1];done),d1,d2⟩,fun id s g=>by rw[aA.aC (by omega),aA.aC g];exact M id s g⟩
    all_goals exact Y _ _ _ (pq,rs,b,cr) noF _ (by omega) (by dsimp only;repeat' first|exact bo2|refine xqI rfl rfl ?_|refine xqP (by omega) rfl rfl ?_|refine xqO (by omega) rfl rfl (by rfl) ?_|fail) aK ⟨⟨by dsimp only;omega,by dsimp only;omega,g4,by dsimp only;omega⟩,⟨by dsimp only;omega,by dsimp only;omega,by dsimp only;omega⟩,(by simp only[aA.set,aA.del,t1,Nat.reduceAdd,bqU,Nat.reduceEqDiff,bqT,bqV,if_true,if_false,w];done),(by simp only[aA.set,aA.del,t1,Nat.reduceAdd,bqU,Nat.reduceEqDiff,bqT,bqV,if_true,if_false,w];done),⟨mr,(by simp only[aA.set,aA.del,t1,Nat.reduceAdd,bqU,Nat.reduceEqDiff,bqT,bqV,if_true,if_false,w,s1];done),d1,d2⟩,fun id s g=>by rw[aA.aC (by omega),aA.aC g];exact M id s g⟩
   ·rintro⟨pk,rk,bk,ck⟩ H3 O ar ⟨⟨aUV,aUW,aIG,aII⟩,⟨aUX,aIH,aUY⟩,v0,v1,⟨mk,v2,bqH,bqI⟩,vf⟩;dsimp only at aUV aUW aIG aII aUX aIH aUY v0 v2 bqH bqI;have au:rk.take rk.length=rk:=bq4;have o:bQ O [i,bk,n+4]:=AM.apart (by simp;omega) (by simp;omega);simp only[bQ,eZ] at o;repeat' first|apply bn1<;>(simp only[go_sem,boC,v0,v1,v2,o,au];try simp (disch:=omega) only[Iw])| (with_reducible first|refine fun(cap:Nat) (z:_≤cap)=> ?_|refine fun(X:_≤cap)=> ?_)|refine⟨by omega,?_⟩|fail
    refine ao _ _ _ (j-1,pk,rk++[q],O+3,cap) noF _ (by omega) (by dsimp only;omega) (by dsimp only;rw[t2,List.length_singleton];repeat' first|exact bo2|refine xqI rfl rfl ?_|refine xqP (by omega) rfl rfl ?_|refine xqO (by omega) rfl rfl (by rfl) ?_|refine xqV rfl (by omega) ?_|fail) aK ⟨⟨by dsimp only;omega,by dsimp only;omega,by dsimp only;omega,fun q' v=> ?_,by simp;omega⟩,⟨by dsimp only;omega,by dsimp only;omega⟩,(by simp only[aA.set,aA.del,t1,Nat.reduceAdd,bqU,Nat.reduceEqDiff,bqT,bqV,if_true,if_false,o,v0];done),⟨cap,(by simp only[aA.set,aA.del,t1,Nat.reduceAdd,bqU,Nat.reduceEqDiff,bqT,bqV,if_true,if_false,o];done),by simpa using z,m5 _⟩,fun id s g=>by rw[aA.aC (by omega),aA.aC (by omega),aA.jG (by omega)];exact vf id s g⟩;rcases o3.1 v with v|v;·exact aIG q' v
    ·simp at v;subst v;exact ae
  ·have aw:(rs.length:Int)≤12:=(by omega);have s2:=(M (nx+4) (by omega) (by omega)).trans B;have bp7:=(M I (by omega) (by omega)).trans q4;have o:bQ n [i,b,nx+4,I]:=AM.apart (by simp;omega) (by simp;omega);simp only[bQ,eZ] at o;have hM: ∀G:aA,msk (n+2) [7] G (nx+4)=G (nx+4):=fun G=>mk1 (by omega)
   have bs:rows.length=k:=by
    by_cases h0:k=0;·rw[q6 h0,h0];rfl
    ·obtain⟨_,e,U,_⟩:=q5 (by omega);rw[e,List.length_cons,bqW];exact U
   have ax:rows.take k=rows:=boL (by omega);have ay:(if (12:Int)<(rs.length:Int) then (12:Int) else (rs.length:Int)).toNat=rs.length:=(by rw[if_neg (by omega)];simp);repeat' first|apply bn1<;>(simp only[go_sem,boC,V,s1,s2,bp7,o,hM,ax,ay];try simp (disch:=omega) only[Iw])|apply bn3 (by omega)| (with_reducible first|refine fun(cap:Nat) (z:_≤cap)=> ?_|refine fun(X:_≤cap)=> ?_)|refine⟨by omega,?_⟩|fail
   have af:rs.length≤12∧ ∀q∈rs,dH q:=⟨by omega,g4⟩
   have Z: ∀(G:aA),(∀id,id<nx→id≠i→G id=H2 id)→∀id,id<nx→id≠i→G id=H id:=fun G bqK id s g=>by rw[bqK id s g,M id (by omega) g];exact L id s g
   have ab:Own aJ 1 H2 bl D C:=E.of (M bl (by omega) (by omega));have bp8:=(M nx (by omega) (by omega)).trans A;by_cases h0:k=0
   ·subst h0;rw[q6 rfl]
    exact N _ _ _ (1,pj,([[.osl 7 b 0 rs.length cr]],n+10,cap),(rs,b,cr),[]) noF _ (by omega) (by dsimp only;omega) (by dsimp only;repeat' first|exact bo2|refine xqI rfl rfl ?_|refine xqP (by omega) rfl rfl ?_|fail) aK ⟨by dsimp only;omega,(by simp only[aA.set,aA.del,t1,Nat.reduceAdd,bqU,Nat.reduceEqDiff,bqT,bqV,if_true,if_false,o,V];done),by rw[aA.aC (by omega),aA.aC (by omega),aA.aC (by omega),aA.jG (by omega)];exact bp8,(by simp only[aA.set,aA.del,t1,Nat.reduceAdd,bqU,Nat.reduceEqDiff,bqT,bqV,if_true,if_false,o];done),ab.of (by rw[aA.aC (by omega),aA.aC (by omega),aA.aC (by omega),aA.jG (by omega)]),⟨cap,(by simp only[aA.set,aA.del,t1,Nat.reduceAdd,bqU,Nat.reduceEqDiff,bqT,bqV,if_true,if_false,o,List.nil_append];done),by dsimp only;omega,by dsimp only;omega⟩,
     fun _=>⟨⟨mr,(by simp only[aA.set,aA.del,t1,Nat.reduceAdd,bqU,Nat.reduceEqDiff,bqT,bqV,if_true,if_false,o,s1];done),d1,d2⟩,rfl,rfl,fun S y=>by(simp at y;subst y;exact af),by dsimp only;omega,by dsimp only;omega,by simp;omega⟩,fun h=>by dsimp only at h;omega,Z _ fun id s g=>by rw[aA.aC (by omega),aA.aC (by omega),aA.aC (by omega),aA.jG (by omega)]⟩
   ·obtain⟨o0,ag,az,ad,ba,bb,P⟩:=q5 (by omega);generalize bqK:aA.set _ (nx+4) _=aUZ;have bqK:=bqK.symm;have aU0:aUZ i=some (rdO l pj):=(by rw[bqK];exact(by simp only[aA.set,aA.del,t1,Nat.reduceAdd,bqU,Nat.reduceEqDiff,bqT,bqV,if_true,if_false,o,V];done));have bpN:aUZ nx=some ⟨3,1,[[.osl 0 0 0 0 0,.osl 0 0 0 0 0,.osl 0 0 0 0 0]]⟩:=(by rw[bqK,aA.aC (by omega),aA.aC (by omega),aA.aC (by omega),aA.jG (by omega)];exact bp8);have bpO:aUZ (nx+4)=some ⟨3,1,[[.isl (m.map eN),.osl 1 bl 0 4 D,.osl 1 (n+10) 0 (k+1) cap]]⟩:=(by rw[bqK];exact(by simp only[aA.set,aA.del,t1,Nat.reduceAdd,bqU,Nat.reduceEqDiff,bqT,bqV,if_true,if_false,o];done));have bpP:Own aJ 1 aUZ bl D C:=ab.of (by rw[bqK,aA.aC (by omega),aA.aC (by omega),aA.aC (by omega),aA.jG (by omega)]);have bpY:aUZ (n+10)=some ⟨1,cap,rows++[[.osl 7 b 0 rs.length cr]]⟩:=(by rw[bqK];exact(by simp only[aA.set,aA.del,t1,Nat.reduceAdd,bqU,Nat.reduceEqDiff,bqT,bqV,if_true,if_false,o];done));have aU1:aUZ b=some ⟨7,mr,rs.map eB⟩:=(by rw[bqK];exact(by simp only[aA.set,aA.del,t1,Nat.reduceAdd,bqU,Nat.reduceEqDiff,bqT,bqV,if_true,if_false,o,s1];done));have bc:boW≠I:=(by simp at P;omega);have bt:boW≠bl:=(by simp at P;omega);have aU2:Own eB 7 aUZ boW c0 aUU:=o0.of (by rw[bqK,aA.aC (by omega),aA.aC (by omega),aA.aC (by omega),aA.jG bc];exact M boW (by omega) (by omega));have tf: ∀id,id<nx→id≠i→aUZ id=H id:=Z _ fun id s g=>by rw[bqK,aA.aC (by omega),aA.aC (by omega),aA.aC (by omega),aA.jG (by omega)]
    clear bqK V s1 s2 bp7 bp8 bqB A B E q4 ab L M Z
    refine N _ _ _ (k+1,pj,(rows++[jR rs],n+10,cap),(aUU,boW,c0),Ps++[rs]) (fun t=>t=b) ((without (fun t=>t=b) aUZ).set (n+10) ⟨1,cap,rows++[jR rs]⟩) (by omega) (by dsimp only;omega) (by dsimp only;repeat' first|exact bo2|refine xqI rfl rfl ?_|refine xqP (by omega) rfl rfl ?_|fail)
     (apO (t:=n+10) (o':=⟨1,cap,rows++[jR rs]⟩) (fun j hj=>by have bu:j=b:=hj;rw[aA.aC (by omega)];exact if_pos hj) aA.bH bpY (by omega) (aUI (aTS (by rw[ag];exact aSR (aH (.osl _ _ _ _ _ (by omega)) eP) (aTZ fun r hr=>(aG iR _ r hr).2)) (aSR (aH (bW rL aU1 rfl d1 rfl) eP) aT0))) fun j bd bf=>by rw[aA.aC bd,iI (F:=fun t=>t=b) bf])
     ⟨by dsimp only;omega,by rw[aA.aC (by omega),iI (by omega)];exact aU0,by rw[aA.aC (by omega),iI (by omega)];exact bpN,by rw[aA.aC (by omega),iI (by omega)];exact bpO,bpP.of (by rw[aA.aC (by omega),iI (by omega)]),⟨cap,aA.bH,by dsimp only;omega,m5 _⟩,
      fun _=>⟨aU2.of (by(try dsimp only);rw[aA.aC (by omega),iI (by omega)]),by dsimp only;rw[ag,bqX];rfl,by dsimp only;rw[t2,List.length_singleton];omega,fun S y=> ?_,by dsimp only;omega,by dsimp only;omega,by simp;omega⟩,fun h=>by dsimp only at h;omega,fun id s g=>by rw[aA.aC (by omega),iI (by omega)];exact tf id s g⟩
    rw[←List.cons_append,o3] at y;rcases y with y|y;·exact ad S y
    ·simp at y;subst y;exact af
 have bg:k=3:=by omega
 subst bg
 obtain⟨o0,rfl,az,ad,ba,bb,P⟩:=q5 (by omega)
 repeat' first|apply bn1<;>(simp only[go_sem,boC,bqB,A,B,a])|apply bn3 (by omega)|fail
 have hh:=fun H'=>h H' (d+4) pl m C aUU Ps bl D I cp mp boW c0 f2 (by omega) aa ⟨al,W⟩ (by omega) ad
 exact hQ _ _ _ _ _ (.inr rfl) (fZ (m:=1) rfl aA.bH rfl) (hh _ (by simp only[aA.set,aA.del,t1,Nat.reduceAdd,bqU,Nat.reduceEqDiff,bqT,bqV,if_true,if_false,a,bqB];done) (E.of (by rw[aA.aC (by omega)])) (o0.of (by rw[aA.aC (by omega)])) (by simp only[aA.set,aA.del,t1,Nat.reduceAdd,bqU,Nat.reduceEqDiff,bqT,bqV,if_true,if_false,a,q4];done) (by omega) U (by omega) (by omega) (by omega) (by omega) (by omega) (by omega) P fun id s g=>by rw[aA.aC (by omega)];exact L id s g)
theorem aP3:cJ Tryz.prog aNJ Tryz.f143 at4 aOA:=cJ.mk Tryz.func143 (by kernel_rfl) aPQ
theorem aS9 {F:Nat→Prop} {a mp boW c0 b len0:Nat} {aUU:Prog} {Ps:List Prog} (h:H a=some ⟨1,mp,[.osl 7 boW 0 len0 c0]::Ps.map jR⟩) (c:len0=aUU.length) (o:Own eB 7 H boW c0 aUU) (d:F a) (e:F boW) (hc:Ps.length+1≤b):Frz H F (.isl ((aUU::Ps).map jR)) (.osl 1 a 0 (Ps.length+1) b):=by
 subst c;obtain⟨m,f,g,bqD⟩:=o;refine QM d h rfl (by simp) (by simp) hc fun i r' hr=> ?_;rw[Y4]
 match i with
 |0=>simp only[n3,List.getElem?_cons_zero,Option.some.injEq] at hr;subst hr;exact⟨rfl,_,rfl,fO (ay5 (σ:=id) (nh:=0) rfl (bW rL f rfl g e)) LH⟩
 |i+1=>rw[n3,List.getElem?_cons_succ] at hr;have:=aG iR _ _ (s3 hr);exact⟨this.1,r',hr,amO this.2⟩
theorem aT7 {F:Nat→Prop} {a mp b:Nat} {r:List D1} {Ps:List Prog} (h:H a=some ⟨1,mp,r::Ps.map jR⟩) (c:F a) {len:Nat} (hl:len=Ps.length) (hc:len≤b):Frz H F (.isl (Ps.map jR)) (.osl 1 a 1 len b):=by subst hl;refine QM c h rfl (by simp) (by simp;omega) hc fun i r' hr=> ?_;have:=aG iR _ _ (s3 hr);exact⟨this.1,r',by rw[Y3];exact hr,amO this.2⟩
theorem aT9 {m:List Rng} {c:List Int} {P:List Prog} (f:m.length≤8) (g:c.length≤4) (h:P.length≤3) (d: ∀b∈P,b.length≤13∧ ∀q∈b,q.data.length≤8∧q.g6.length≤8):jO ⟨m,c,P⟩:=⟨by dsimp only;omega,by dsimp only;omega,by dsimp only;omega,fun b a=>by have:=(d b a).1;omega,fun b a q e=>by have:=(d b a).2 q e;omega⟩
theorem aTR {q:Req} (h:dH q):q.data.length≤8∧q.g6.length≤8:=by obtain⟨_,_,⟨c,_⟩,a,b,_⟩:=h;unfold n5 at a b;split at a<;>omega
theorem aQA {l:List Int} {p i:Nat} {n:Int} (hn:0<n∧n<9000) (hl:kZ l) (ah:p+1200<2^50) (hi:i<nx) (ho:H i=some (rdO l p))
 (h: ∀H' nx' p' (c:Cfg),nx≤nx'→jO c→p≤p'→p'≤p+1200→H' i=some (rdO l p')→(∀id,id<nx→id≠i→H' id=H id)→K (boR (cU c)) H' nx'):aB Tryz.prog aNJ [bkP 2 i,boP n] H nx K:=by
 apply aB.tW
 refine aP3 rfl fun Q hQ=> ?_
 unfold at4
 have hA:bQ nx [i]:=AM.apart (by simp) (by simp;omega)
 simp only[bQ,eZ] at hA
 repeat' first| (first|apply bn1| (refine aQN (p:=p) hl (by omega) (by omega) (by rw[aA.aC (by omega)];exact ho) (fun H1 f pb m I aUU Ps bl T o W mp boW c0 g e h3 X h5 N bqB u A w e1 e2 aUV aUW aIG aII aUX aIH ai D=> ?_)))<;>(simp only[go_sem,boC,hA])|fail
 have h3:=h3.1
 have X:=X.1
 have N: ∀s∈aUU::Ps,s.length≤12∧ ∀q∈s,q.data.length≤8∧q.g6.length≤8:=fun s b=>⟨(N s b).1,fun q hq=>aTR ((N s b).2 q hq)⟩
 have B:H1 nx=some ⟨3,1,[[.osl 0 0 0 0 0,.osl 0 0 0 0 0,.osl 0 0 0 0 0]]⟩:=by rw[D _ (by omega) (by omega)];exact aA.bH
 have D: ∀id,id<nx→id≠i→H1 id=H id:=fun id g e=>by rw[D id (by omega) e,aA.aC (by omega)]
 have ar: ¬bl=o∧ ¬bl=boW∧ ¬o=boW:=by simp at ai;omega
 generalize bqK:H1.set (nx+3) _=G
 have bqK:=bqK.symm
 have r0:G i=some (rdO l pb):=by rw[bqK,aA.aC (by omega)];exact bqB
 have r1:G nx=some ⟨3,1,[[.osl 0 0 0 0 0,.osl 0 0 0 0 0,.osl 0 0 0 0 0]]⟩:=by rw[bqK,aA.aC (by omega)];exact B
 have r2:G (nx+3)=some ⟨3,1,[[.isl (m.map eN),.osl 1 bl 0 4 T,.osl 1 o 0 3 W]]⟩:=by rw[bqK];exact aA.bH
 obtain⟨Y,Z,d1,d2⟩:Own aJ 1 G bl T I:=u.of (by rw[bqK,aA.aC (by omega)])
 have r4:G o=some ⟨1,mp,[.osl 7 boW 0 aUU.length c0]::Ps.map jR⟩:=by rw[bqK,aA.aC (by omega)];exact w
 obtain⟨mr,r5,d3,bkS⟩:Own eB 7 G boW c0 aUU:=A.of (by rw[bqK,aA.aC (by omega)])
 have rf: ∀id,id<nx→id≠i→G id=H id:=fun id g e=>by rw[bqK,aA.aC (by omega)];exact D id g e
 clear bqK bqB B u w A D
 have a:bQ f [i,nx,nx+3,bl,o,boW]:=AM.apart (by simp;omega) (by simp;omega)
 simp only[bQ,eZ] at a
 have t: ∀(aID:aA) (P:Nat) (m':List Rng) (R:List Int) (P':List Prog) (d1 d2 d3:D1) (J:Nat) (F:Nat→Prop),f≤P→aID nx=some ⟨3,1,[[d1,d2,d3]]⟩→m'.length≤8→R.length≤4→P'.length≤3→(∀s∈P',s.length≤13∧ ∀q∈s,q.data.length≤8∧q.g6.length≤8)→p≤J→J≤p+1200→aID i=some (rdO l J)→(∀id,id<nx→id≠i→aID id=H id)→(∀j,F j→nx+5≤j)→Frz aID F (.isl (m'.map eN)) d1→Frz aID F (.isl (R.map aJ)) d2→Frz aID F (.isl (P'.map jR)) d3→
  ∀{e2:Env},e2 4= .one (.c (.ptr 3 nx 0 0))→Q .ret e2 aID P:=fun aID P m' R P' d1 d2 d3 J F g1 g2 g3 g4 g5 bkU bkV bp4 bp5 aj ab ak al an e2 he=>by
  refine hQ _ _ _ _ _ (.inr rfl) (fZ (m:=1) he g2 rfl) ⟨boR (cU ⟨m',R,P'⟩),without F aID,F,A8 (fO ak (fO al (fO an LH))),kS,h _ P J _ (by omega) (aT9 g3 g4 g5 bkU) bkV bp4 (by rw[iI fun S=>by have:=ab _ S;omega];exact bp5) fun id g e=>by rw[iI fun S=>by have:=ab _ S;omega];exact aj id g e⟩
 have fl: ∀(aID:aA) (F:Nat→Prop) (L:List Int),L.length=4→aID bl=some ⟨1,Y,L.map aJ⟩→F bl→Frz aID F (.isl (L.map aJ)) (.osl 1 bl 0 4 T):=fun aID F L h0 g e=>ay5 (σ:=id) (nh:=0) rfl (bW bF g h0.symm (by omega) e)
 have fp: ∀(aID:aA) (F:Nat→Prop),aID o=some ⟨1,mp,[.osl 7 boW 0 aUU.length c0]::Ps.map jR⟩→aID boW=some ⟨7,mr,aUU.map eB⟩→F o→F boW→Frz aID F (.isl ((aUU::Ps).map jR)) (.osl 1 o 0 3 W):=fun aID F g e h7 h8=>by have:=aS9 (F:=F) g rfl ⟨mr,e,d3,bkS⟩ h7 h8 (show Ps.length+1≤W by omega);rwa [show Ps.length+1=3 by omega] at this
 (try simp only[go_sem,boC,r0,r1,r2,Z,r4,r5,a]);repeat' first| (first|apply bn1|refine d6 (p:=pb) hn hl (by omega) (by omega) r0 (fun O bb ad ae _=> ?_))<;>(simp only[go_sem,boC,r0,r1,r2,Z,r4,r5,a])| ((refine bnF (fun h=> ?_) (fun h=> ?_))<;>try subst h)|fail
 case refine_2=>exact t _ _ m I (aUU::Ps) _ _ _ O (fun j=>j=bl∨j=o∨j=boW) (by omega) aA.bH (by omega) (by omega) (by simp;omega) (fun s b=>by have:=N s b;exact⟨by omega,this.2⟩) (by omega) (by omega) (by simp only[aA.set,aA.del,t1,Nat.reduceAdd,bqU,Nat.reduceEqDiff,bqT,bqV,if_true,if_false,a];done) (fun id g e=>by rw[aA.aC (by omega),aA.aC e];exact rf id g e) (fun j S=>by omega) (.same _ rfl) (fl _ _ _ X (by simp only[aA.set,aA.del,t1,Nat.reduceAdd,bqU,Nat.reduceEqDiff,bqT,bqV,if_true,if_false,a,Z];done) (.inl rfl)) (fp _ _ (by simp only[aA.set,aA.del,t1,Nat.reduceAdd,bqU,Nat.reduceEqDiff,bqT,bqV,if_true,if_false,a,r4];done) (by simp only[aA.set,aA.del,t1,Nat.reduceAdd,bqU,Nat.reduceEqDiff,bqT,bqV,if_true,if_false,a,r5];done) (.inr (.inl rfl)) (.inr (.inr rfl))) rfl
 generalize bqK:aA.set G i _=aID
 have bqK:=bqK.symm
 have bqB:aID i=some (rdO l O):=by rw[bqK];exact aA.bH
 have B:aID nx=some ⟨3,1,[[.osl 0 0 0 0 0,.osl 0 0 0 0 0,.osl 0 0 0 0 0]]⟩:=by rw[bqK,aA.aC (by omega)];exact r1
 have M:aID (nx+3)=some ⟨3,1,[[.isl (m.map eN),.osl 1 bl 0 4 T,.osl 1 o 0 3 W]]⟩:=by rw[bqK,aA.aC (by omega)];exact r2
 have u:aID bl=some ⟨1,Y,I.map aJ⟩:=by rw[bqK,aA.aC (by omega)];exact Z
 have w:aID o=some ⟨1,mp,[.osl 7 boW 0 aUU.length c0]::Ps.map jR⟩:=by rw[bqK,aA.aC (by omega)];exact r4
 have A:aID boW=some ⟨7,mr,aUU.map eB⟩:=by rw[bqK,aA.aC (by omega)];exact r5
 have D: ∀id,id<nx→id≠i→aID id=H id:=fun id g e=>by rw[bqK,aA.aC e];exact rf id g e
 clear bqK r0 r1 r2 Z r4 r5 rf
 have E: ∀(d k:Nat) (G:aA),msk (f+d) [k] G (nx+3)=G (nx+3):=fun d k G=>mk1 (by omega)
 refine aX (p:=O) hl (by omega) (by omega) (by omega) bqB fun x g e=> ?_
 (try simp only[go_sem,boC,bqB,B,M,u,w,A,a,E]);repeat' first| (first|apply bn1|refine aQQ (p:=O+1) hl (by omega) (by omega) aA.bH (fun p2 bp3 ad ae af=> ?_))<;>(simp only[go_sem,boC,bqB,B,M,u,w,A,a,E])|refine bnE (fun h=> ?_) fun h=> ?_|refine⟨by omega,?_⟩|fail
 ·exact t _ _ bp3 I (aUU::Ps) _ _ _ p2 (fun j=>j=bl∨j=o∨j=boW) (by omega) aA.bH (by omega) (by omega) (by simp;omega) (fun s b=>by have:=N s b;exact⟨by omega,this.2⟩) (by omega) (by omega) (by simp only[aA.set,aA.del,t1,Nat.reduceAdd,bqU,Nat.reduceEqDiff,bqT,bqV,if_true,if_false,a];done) (fun id g e=>by rw[aA.aC (by omega),aA.aC (by omega),aA.aC e];exact D id g e) (fun j S=>by omega) (.same _ rfl) (fl _ _ _ X (by simp only[aA.set,aA.del,t1,Nat.reduceAdd,bqU,Nat.reduceEqDiff,bqT,bqV,if_true,if_false,a,u];done) (.inl rfl)) (fp _ _ (by simp only[aA.set,aA.del,t1,Nat.reduceAdd,bqU,Nat.reduceEqDiff,bqT,bqV,if_true,if_false,a,w];done) (by simp only[aA.set,aA.del,t1,Nat.reduceAdd,bqU,Nat.reduceEqDiff,bqT,bqV,if_true,if_false,a,A];done) (.inr (.inl rfl)) (.inr (.inr rfl))) rfl
 ·refine aX (p:=O+1) hl (by omega) (by omega) (by omega) aA.bH fun y au aw=> ?_;(try simp only[go_sem,boC,bqB,B,M,u,w,A,a,E]);repeat' first|apply bn1<;>(simp only[go_sem,boC,bqB,B,M,u,w,A,a,E])|fail
  generalize aU3:dT (f+9) [4] _ (msk (f+9) [4] aID)=U;have k1:U nx=some ⟨3,1,[[.osl 0 0 0 0 0,.osl 0 0 0 0 0,.osl 0 0 0 0 0]]⟩:=by rw[←aU3,um1 (by omega),mk1 (by omega)];exact B
  have k2:U (nx+3)=some ⟨3,1,[[.isl (m.map eN),.osl 1 bl 0 4 T,.osl 1 o 0 3 W]]⟩:=by rw[←aU3,um1 (by omega),mk1 (by omega)];exact M
  have k3:U bl=some ⟨1,Y,I.map aJ⟩:=by rw[←aU3,um1 (by omega),mk1 (by omega)];exact u
  have k4:U o=some ⟨1,mp,[.osl 7 boW 0 aUU.length c0]::Ps.map jR⟩:=by rw[←aU3,um1 (by omega),mk1 (by omega)];exact w
  have k5:U boW=some ⟨7,mr,aUU.map eB⟩:=by rw[←aU3,um1 (by omega),mk1 (by omega)];exact A
  have kf: ∀id,id<nx→id≠i→U id=H id:=fun id g e=>by rw[←aU3,um1 (by omega),mk1 (by omega)];exact D id g e
  have k6:U (f+9+4)=some ⟨1,2,[[.v (.int .i64 (-1))],[.v (.int .i64 4)]]⟩:=by rw[←aU3,aH6];exact aA.bH
  clear aU3 bqB B M u w A D;refine⟨fun _=>by rw[k2];rfl,?_⟩;refine aX (p:=O+2) hl (by omega) (by omega) (by omega) aA.bH fun z ao ax=> ?_;(try simp only[go_sem,boC,k2,a,E]);repeat' first|apply bn1<;>(simp only[go_sem,boC,k2,a,E])|fail
  generalize aU3:dT (f+9) [4] _ (msk (f+9) [4] U)=V;have bpN:V nx=some ⟨3,1,[[.osl 0 0 0 0 0,.osl 0 0 0 0 0,.osl 0 0 0 0 0]]⟩:=by rw[←aU3,um1 (by omega),mk1 (by omega)];exact k1
  have bpO:V (nx+3)=some ⟨3,1,[[.isl (m.map eN),.osl 1 bl 0 4 T,.osl 1 o 0 3 W]]⟩:=by rw[←aU3,um1 (by omega),mk1 (by omega)];exact k2
  have bpP:V bl=some ⟨1,Y,I.map aJ⟩:=by rw[←aU3,um1 (by omega),mk1 (by omega)];exact k3
  have bpY:V o=some ⟨1,mp,[.osl 7 boW 0 aUU.length c0]::Ps.map jR⟩:=by rw[←aU3,um1 (by omega),mk1 (by omega)];exact k4
  have aU1:V boW=some ⟨7,mr,aUU.map eB⟩:=by rw[←aU3,um1 (by omega),mk1 (by omega)];exact k5
  have tf: ∀id,id<nx→id≠i→V id=H id:=fun id g e=>by rw[←aU3,um1 (by omega),mk1 (by omega)];exact kf id g e
  have aU2:V (f+13)=some ⟨1,2,[[.v (.int .i64 (-1))],[.v (.int .i64 4)]]⟩:=by rw[show f+13=f+9+4 from rfl,←aU3,aH6,aA.aC (by omega)];exact k6
  clear aU3 k1 k2 k3 k4 k5 k6 kf;refine⟨fun _=>by rw[bpO];rfl,by omega,?_⟩;obtain⟨v,hv⟩:=aN1 (L:=[[.v (.int .i64 (-1))],[.v (.int .i64 4)]]) (by simp) ao (by simp;omega);(try simp only[go_sem,boC,bpN,bpO,bpP,bpY,aU1,aU2,hv,a,E]);repeat' first|apply bn1<;>(simp only[go_sem,boC,bpN,bpO,bpP,bpY,aU1,aU2,hv,a,E])|refine⟨by omega,?_⟩|fail
  exact t _ _ m (I.set y.toNat v) (aUU::Ps) _ _ _ (O+3) (fun j=>j=bl∨j=o∨j=boW) (by omega) aA.bH (by omega) (by simp;omega) (by simp;omega) (fun s b=>by have:=N s b;exact⟨by omega,this.2⟩) (by omega) (by omega) (by simp only[aA.set,aA.del,t1,Nat.reduceAdd,bqU,Nat.reduceEqDiff,bqT,bqV,if_true,if_false,a];done) (fun id g e=>by rw[aA.aC (by omega),aA.aC (by omega),aA.aC e];exact tf id g e) (fun j S=>by omega) (.same _ rfl) (fl _ _ _ (by simp;omega) (by simp only[aA.set,aA.del,t1,Nat.reduceAdd,bqU,Nat.reduceEqDiff,bqT,bqV,if_true,if_false,a];done) (.inl rfl)) (fp _ _ (by simp only[aA.set,aA.del,t1,Nat.reduceAdd,bqU,Nat.reduceEqDiff,bqT,bqV,if_true,if_false,a,bpY];done) (by simp only[aA.set,aA.del,t1,Nat.reduceAdd,bqU,Nat.reduceEqDiff,bqT,bqV,if_true,if_false,a,aU1];done) (.inr (.inl rfl)) (.inr (.inr rfl))) rfl
 ·exact t _ _ m (I.drop 1) (aUU::Ps) _ _ _ (O+1) (fun j=>j=bl∨j=o∨j=boW) (by omega) aA.bH (by omega) (by simp;omega) (by simp;omega) (fun s b=>by have:=N s b;exact⟨by omega,this.2⟩) (by omega) (by omega) (by simp only[aA.set,aA.del,t1,Nat.reduceAdd,bqU,Nat.reduceEqDiff,bqT,bqV,if_true,if_false,a,bqB];done) (fun id g e=>by rw[aA.aC (by omega),aA.aC (by omega),aA.aC e];exact D id g e) (fun j S=>by omega) (.same _ rfl) (ay5 (σ:=id) (nh:=0) rfl (aTY (aG bF _) (by simp;omega) (.inl rfl) (show aA.set _ nx _ bl=some ⟨1,Y,I.map aJ⟩ from (by simp only[aA.set,aA.del,t1,Nat.reduceAdd,bqU,Nat.reduceEqDiff,bqT,bqV,if_true,if_false,a,u];done)) rfl (by simp;omega) (by rw[boL (by simp),brE]) (by simp;omega))) (fp _ _ (by simp only[aA.set,aA.del,t1,Nat.reduceAdd,bqU,Nat.reduceEqDiff,bqT,bqV,if_true,if_false,a,w];done) (by simp only[aA.set,aA.del,t1,Nat.reduceAdd,bqU,Nat.reduceEqDiff,bqT,bqV,if_true,if_false,a,A];done) (.inr (.inl rfl)) (.inr (.inr rfl))) rfl
 ·exact t _ _ m I Ps _ _ _ (O+1) (fun j=>j=bl∨j=o∨j=boW) (by omega) aA.bH (by omega) (by omega) (by omega) (fun s b=>by have:=N s (bq9 _ b);exact⟨by omega,this.2⟩) (by omega) (by omega) (by simp only[aA.set,aA.del,t1,Nat.reduceAdd,bqU,Nat.reduceEqDiff,bqT,bqV,if_true,if_false,a,bqB];done) (fun id g e=>by rw[aA.aC (by omega),aA.aC (by omega),aA.aC e];exact D id g e) (fun j S=>by omega) (.same _ rfl) (fl _ _ _ X (by simp only[aA.set,aA.del,t1,Nat.reduceAdd,bqU,Nat.reduceEqDiff,bqT,bqV,if_true,if_false,a,u];done) (.inl rfl)) (aT7 (Ps:=Ps) (mp:=mp) (r:=[.osl 7 boW 0 aUU.length c0]) (by simp only[aA.set,aA.del,t1,Nat.reduceAdd,bqU,Nat.reduceEqDiff,bqT,bqV,if_true,if_false,a,w];done) (.inr (.inl rfl)) h5.symm (by omega)) rfl
 ·have hN: ∀(d k:Nat) (G:aA),msk (f+d) [k] G o=G o:=fun d k G=>mk1 (by omega);have ag:aUU.take aUU.length=aUU:=bq4;(try simp only[go_sem,boC,bqB,B,M,u,w,A,a,E,hN]);repeat' first|apply bn1<;>(simp only[go_sem,boC,bqB,B,M,u,w,A,a,E,hN])|fail
  refine aRK (p:=O+1) hl (by omega) (by omega) aA.bH fun p2 q ad ae af=> ?_;(try simp only[go_sem,boC,bqB,B,M,u,w,A,a,E,hN,ag]);repeat' first|apply bn1<;>(simp only[go_sem,boC,bqB,B,M,u,w,A,a,E,hN,ag])|refine⟨by omega,?_⟩|fail
  have aq:=N aUU (by simp);refine⟨by omega,fun cap aa _=>⟨by omega,?_⟩⟩;try apply bn0
  repeat' first|apply bn1<;>(simp only[go_sem,bqB,B,M,u,w,A,a])|fail
  refine t _ _ m I ((aUU++[q])::Ps) _ _ _ p2 (fun j=>j=bl∨j=o∨j=f+22) (by omega) aA.bH (by omega) (by omega) (by simp;omega) (fun s b=> ?_) (by omega) (by omega) (by simp only[aA.set,aA.del,t1,Nat.reduceAdd,bqU,Nat.reduceEqDiff,bqT,bqV,if_true,if_false,a];done) (fun id g e=>by rw[aA.aC (by omega),aA.aC (by omega),aA.aC (by omega),aA.aC (by omega),aA.aC e,aA.jG (by omega)];exact D id g e) (fun j S=>by omega) (.same _ rfl) (fl _ _ _ X (by simp only[aA.set,aA.del,t1,Nat.reduceAdd,bqU,Nat.reduceEqDiff,bqT,bqV,if_true,if_false,a,u];done) (.inl rfl)) ?_ rfl
  ·rcases t3.1 b with b|b
   ·subst b;refine⟨by rw[t2,List.length_singleton];omega,fun q' C=> ?_⟩;rcases o3.1 C with C|C;·exact aq.2 q' C
    ·simp at C;subst C;exact af
   ·have:=N s (bq9 _ b);exact⟨by omega,this.2⟩
  ·have e3:(3:Nat)=Ps.length+1:=(by omega);rw[e3];exact aS9 (mp:=mp) (boW:=f+22) (c0:=cap) (len0:=aUU.length+1) (by simp only[aA.set,aA.del,t1,Nat.reduceAdd,bqU,Nat.reduceEqDiff,bqT,bqV,if_true,if_false,a];done) (by simp) ⟨cap,(by simp only[aA.set,aA.del,t1,Nat.reduceAdd,bqU,Nat.reduceEqDiff,bqT,bqV,if_true,if_false,a];done),by simpa using aa,m5 _⟩ (.inr (.inl rfl)) (.inr (.inr rfl)) (by omega)
end
end Go.Proofs.YtdkfhdmagdaceaaGreat
namespace Go.AM
def bwT (k:Int):Int:=([0,2,1,0]:List Int).getD k.toNat default
structure ShR (c:Cfg) (a b:Ev):Prop where
 bw0:bwT a.kind≤bwT b.kind
 who:a.kind=b.kind→a.kind≠2→a.who<b.who
 st:a.kind=2→b.kind=2→gZ c.map (bT c a.who a.n)<gZ c.map (bT c b.who b.n)
def EvT (k:Nat) (e:Ev):Prop:=e.kind=3∧e.who=k
def EvW (c:Cfg) (k:Nat) (e:Ev):Prop:=e.kind=2∧(0≤e.who∧e.who≤2)∧(0≤e.n∧e.n<((c.cP.getD e.who.toNat default).length:Int))∧gZ c.map (bT c e.who e.n)=k
def EvA (k:Nat) (e:Ev):Prop:=e.kind=1∧e.who=k
theorem bwQ {c:Cfg} (d:aQ c) {f:CSt→Nat→Option Mic} {g:Nat→Ev→Prop} {R:Ev→Ev→Prop} (p: ∀j k a b,j<k→g j a→g k b→R a b):
 ∀{l:List Nat} {s:CSt},COk c s→l.Pairwise (· < ·)→(∀s k m,COk c s→k∈l→f s k=some m→EH c s m∧ ∀e∈y0 s m,g k e)→
  (iP c s (vE c f s l)).Pairwise R∧ ∀e∈iP c s (vE c f s l),∃k∈l,g k e
 | [],s,_,_,_=>⟨.nil,by simp[vE,iP]⟩
 |k::l,s,hs,hl,q=>by
  rw[G0] at hl
  cases h:f s k with
  |none=>rw[GZ h];obtain⟨r,o⟩:=bwQ d p (l:=l) hs hl.2 fun s k m a b=>q s k m a (bq9 _ b);exact⟨r,fun e he=>by obtain⟨j,i,n⟩:=o e he;exact⟨j,bq9 _ i,n⟩⟩
  |some m=>
   rw[NH h];obtain⟨u,t⟩:=q s k m hs (by simp) h;obtain⟨r,o⟩:=bwQ d p (l:=l) (o9 d hs u) hl.2 fun s k m a b=>q s k m a (bq9 _ b);show (y0 s m++iP c (aR c s m) (vE c f (aR c s m) l)).Pairwise R∧ ∀e∈y0 s m++iP c (aR c s m) (vE c f (aR c s m) l),_;refine⟨brM.2 ⟨?_,r,fun a v b d=> ?_⟩,fun e he=> ?_⟩;·cases m<;>simp[y0]
   ·obtain⟨j,i,n⟩:=o b d;exact p k j a b (hl.1 j i) (t a v) n
   ·rcases o3.1 he with he|he;·exact⟨k,by simp,t e he⟩
    ·obtain⟨j,i,n⟩:=o e he;exact⟨j,bq9 _ i,n⟩
theorem bwW {i:CIn} {s:CSt} {k:Nat} {m:Mic} (h:vT i s k=some m): ∀e∈y0 s m,EvT k e:=by
 unfold vT at h;split at h;·obtain⟨st,_,rfl⟩:=m4.1 h;intro e he;simp only[y0,CJ] at he;subst he;exact⟨rfl,rfl⟩
 ·cases h
theorem bwZ {c:Cfg} {i:CIn} {s:CSt} {k:Nat} {m:Mic} (h:PA c i s k=some m): ∀e∈y0 s m,EvA k e:=by
 unfold PA at h;split at h;·cases h;intro e he;simp only[y0,CJ] at he;subst he;exact⟨rfl,rfl⟩
 ·cases h
theorem bwX {c:Cfg} {i:CIn} {s:CSt} {k:Nat} {m:Mic} (hs:COk c s) (b:k<4) (h:qW i s k=some m): ∀e∈y0 s m,EvW c k e:=by
 have g:=LM hs b h;unfold qW at h;split at h;·cases h
 ·split at h;·cases h;intro e he;simp[y0] at he
  ·split at h;·cases h;intro e he;simp only[y0,CJ] at he;subst he;obtain⟨_,hp,_,_⟩:=g;have hm:bI s k∈(aL s k).pipe:=cC hp;obtain⟨hw,j,d,f,hl⟩:=(hs.slv k b).out ((bI s k).who,(bI s k).n) (brH _ (CF.2 ⟨_,hm,rfl⟩));dsimp only at hw d f;have a:=hs.port (bI s k).who.toNat (by omega);obtain⟨p,q,l⟩:=a.out j d;have o:=a.next;refine⟨rfl,hw,⟨by dsimp only;omega,by dsimp only;omega⟩,?_⟩;dsimp only;rw[←f,←hl,l,show (((bI s k).who.toNat:Nat):Int)=(bI s k).who by omega]
   ·cases h
theorem bwR {c:Cfg} {i:CIn} {s:CSt} (l:aQ c) (hs:COk c s):(TK c i s).Pairwise (ShR c)∧ ∀e∈TK c i s,(∃k,k<3∧EvT k e)∨(∃k,k<4∧EvW c k e)∨ ∃k,k<3∧EvA k e:=by
 have t:([0,1,2]:List Nat).Pairwise (· < ·):=by decide
 have aIB:([0,1,2,3]:List Nat).Pairwise (· < ·):=by decide
 obtain⟨bpN,bpO⟩:=bwQ l (f:=vT i) (g:=EvT) (R:=ShR c) (fun j k a b q d l=>⟨by rw[d.1,l.1];exact Int.le_refl _,fun _ _=>by rw[d.2,l.2];omega,fun h=>by rw[d.1] at h;exact absurd h (by decide)⟩) hs t fun s k m hs o h=>⟨TB hs (tC o) h,bwW h⟩
 obtain⟨bqH,bqI⟩:=bwQ l (f:=qW i) (g:=EvW c) (R:=ShR c) (fun j k a b q d l=>⟨by rw[d.1,l.1];exact Int.le_refl _,fun _ h=>absurd d.1 h,fun _ _=>by rw[d.2.2.2,l.2.2.2];omega⟩) (PH l (i:=i) hs) aIB fun s k m hs o h=>⟨LM hs (w8 o) h,bwX hs (w8 o) h⟩
 obtain⟨az9,az2⟩:=bwQ l (f:=PA c i) (g:=EvA) (R:=ShR c) (fun j k a b q d l=>⟨by rw[d.1,l.1];exact Int.le_refl _,fun _ _=>by rw[d.2,l.2];omega,fun h=>by rw[d.1] at h;exact absurd h (by decide)⟩) (afG l (i:=i) hs) t fun s k m hs o h=>⟨YH hs (tC o) h,bwZ h⟩
 have r: ∀{a b:Ev},a.kind≠b.kind→bwT a.kind≤bwT b.kind→ShR c a b:=fun n p=>⟨p,fun h=>absurd h n,fun u v=>absurd (u.trans v.symm) n⟩
 rw[Go.Proofs.YtdkfhdmagdaceaaGreat.aoN];refine⟨?_,fun e he=> ?_⟩
 ·refine brM.2 ⟨brM.2 ⟨by rw[List.nil_append];exact bpN,bqH,fun a d b l=> ?_⟩,az9,fun a d b l=> ?_⟩;·obtain⟨_,_,n⟩:=bpO a d;obtain⟨_,_,p⟩:=bqI b l;exact r (by rw[n.1,p.1];decide) (by rw[n.1,p.1];decide)
  ·obtain⟨_,_,p⟩:=az2 b l;rcases o3.1 d with d|d;·obtain⟨_,_,n⟩:=bpO a d;exact r (by rw[n.1,p.1];decide) (by rw[n.1,p.1];decide)
   ·obtain⟨_,_,n⟩:=bqI a d;exact r (by rw[n.1,p.1];decide) (by rw[n.1,p.1];decide)
 ·rcases o3.1 he with he|he
  ·rcases o3.1 he with he|he;·obtain⟨k,o,n⟩:=bpO e he;exact .inl ⟨k,tC o,n⟩
   ·obtain⟨k,o,n⟩:=bqI e he;exact .inr (.inl ⟨k,w8 o,n⟩)
  ·obtain⟨k,o,n⟩:=az2 e he;exact .inr (.inr ⟨k,tC o,n⟩)
end Go.AM
