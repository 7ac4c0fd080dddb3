/- Texts laid together by a program: rules, contracts and the walk that leads to the law. -/
import Derived.Test.YtegiblhkjfiooaaGreatPu20
import Derived.Test.YtegiblhkjfiooaaGreatPu18
import Derived.Test.YtegiblhkjfiooaaGreatPu21
import Derived.Test.YtegiblhkjfiooaaGreatPu15
set_option linter.unusedVariables false
set_option linter.unusedSimpArgs false
set_option linter.unusedSectionVars false
section
namespace Go.AM
theorem aS2 {H:aA} {nx t:Nat} {o o':bA} (h3:H t=some o) (h5:CvO H noF id nx o' o):CvX noF nx H (H.set t o'):=
 apO (t:=t) (o':=o') (fun j hj=>hj.elim) aA.bH h3 (fun h=>h) h5 fun j hj _=>aA.aC hj
def aTA (H:aA) (F:Nat→Prop) (σ:Nat→Nat) (nh:Nat) (R' R:List (List D1)):Prop:=R'.length=R.length∧ ∀(i:Nat) (r' r:List D1),R'[i]?=some r'→R[i]?=some r→CvL H F σ nh r' r
section
variable {H : aA} {F : Nat → Prop} {σ : Nat → Nat} {nh : Nat} {R R' S S' : List (List D1)} {r r' : List D1}
theorem aT0:aTA H F σ nh [] []:=⟨rfl,fun i r' r h=>by simp at h⟩
theorem aSR (h:CvL H F σ nh r' r) (hR:aTA H F σ nh R' R):aTA H F σ nh (r'::R') (r::R):=by
 refine⟨by simp[hR.1],fun i a b ha hb=> ?_⟩
 match i with
 |0=>simp at ha hb;subst ha;subst hb;exact h
 |i+1=>simp at ha hb;exact hR.2 i a b ha hb
theorem aTZ (hR: ∀r∈R,∀x∈r,x.dQ=true):aTA H F σ nh R R:=⟨rfl,fun i a b ha hb=>by
 rw[ha] at hb;cases hb
 exact GW fun x hx=>hR a (List.mem_of_getElem? ha) x hx⟩
theorem aTS (h:aTA H F σ nh R' R) (h2:aTA H F σ nh S' S):aTA H F σ nh (R'++S') (R++S):=by
 refine⟨by simp[h.1,h2.1],fun i a b ha hb=> ?_⟩
 rw[List.getElem?_append] at ha hb
 rw[h.1] at ha
 by_cases hi:i<R.length
 ·rw[if_pos hi] at ha hb;exact h.2 i a b ha hb
 ·rw[if_neg hi] at ha hb;exact h2.2 _ a b ha hb
theorem aUI {n m:Nat} (h:aTA H F σ nh R' R):CvO H F σ nh ⟨n,m,R'⟩ ⟨n,m,R⟩:=by
 refine⟨rfl,rfl,Nat.le_of_eq h.1,fun _ h0=> ?_,fun i a ha=> ?_⟩
 ·dsimp only at h0 ⊢
  have:=h.1;rw[h0] at this;exact List.length_eq_zero_iff.1 this.symm
 ·have hi:i<R.length:=by rw[←h.1];exact(List.getElem?_eq_some_iff.1 ha).1
  exact⟨R[i],List.getElem?_eq_getElem hi,h.2 i a _ ha (List.getElem?_eq_getElem hi)⟩
end
theorem aM.aUF {P:Program} {T:Nat} {e:Env} {H:aA} {nx:Nat} {Q:AQ} {x y:AC} {zs:List AC} {β:Type} (E:β→Env) (Φ:β→aA→Nat→Prop)
 (h1: ∀K:Env→aA→Nat→Prop,(∀e' H' nx' b F H2,nx≤nx'→CvE H' F id nx' (E b) e'→CvX F nx' H' H2→Φ b H2 nx'→K e' H' nx')→aM P T [x] e H nx (AQ.then K Q))
 (h2: ∀b H1 nx1,nx≤nx1→Φ b H1 nx1→aM P T (y::zs) (E b) H1 nx1 Q):aM P T (.seq x y::zs) e H nx Q:=by
 refine aM.seq (aM.cut (fun e' H' nx'=>nx≤nx'∧ ∃b F H2,CvE H' F id nx' (E b) e'∧CvX F nx' H' H2∧Φ b H2 nx') (h1 _ fun e' H' nx' b F H2 q1 q2 q3 q4=>⟨q1,b,F,H2,q2,q3,q4⟩) fun e' H' nx' _ ⟨q1,b,F,H2,q2,q3,q4⟩=> ?_)
 exact aM.tW (E b) H2 F (fun t=>.inr (q2 t)) q3 (h2 b H2 nx' q1 q4)
end Go.AM
namespace Go.Proofs.YtegiblhkjfiooaaGreat
open Go Go.AM
set_option maxRecDepth 100000
set_option maxHeartbeats 8000000
section
variable {H : aA} {nx : Nat} {K : D → aA → Nat → Prop}
theorem aRR:cJ Tryz.prog lJ Tryz.f56 qQ FY:=cJ.mk Tryz.func56 (by kernel_rfl) QV
theorem aQN {l:List Int} {p i:Nat} (hl:kZ l) (hp50:p+1000<2^50) (hi:i<nx) (ho:H i=some (rdO l p))
 (h: ∀H' nx' p' (m:List Rng) (la:List Int) (aUU:Prog) (Ps:List Prog) bl cl bp cp mp b0 c0,p≤p'→p'≤p+1000→DH m→la.length=4→Ps.length=2→(∀pr∈aUU::Ps,pr.length≤12∧ ∀q∈pr,dH q)→H' i=some (rdO l p')→Own aJ 1 H' bl cl la→Own eB 7 H' b0 c0 aUU→H' bp=some ⟨1,mp,[.osl 7 b0 0 aUU.length c0]::Ps.map jR⟩→3≤cp→cp≤mp→nx≤bl→nx≤bp→nx≤b0→bl<nx'→bp<nx'→b0<nx'→[bl,bp,b0].Nodup→(∀id,id<nx→id≠i→H' id=H id)→
  K (dA [.isl (m.map eN),.osl 1 bl 0 4 cl,.osl 1 bp 0 3 cp]) H' nx'):aB Tryz.prog lJ [dP 2 i,dI 6] H nx K:=by
 refine aRR rfl fun Q hQ=> ?_
 unfold qQ
 have hA:bQ nx [i]:=AM.apart (by simp) (by simp;omega)
 simp only[bQ,eZ] at hA
 repeat' (first| (with_reducible first| (refine hK _ _ _ ?_;clear hK K)|refine Z1 ?_|refine Z3 fun KB hKB=> ?_)| (first| (with_reducible refine Y2 fun K hK=> ?_)| (refine IV (p:=p) hl (by omega) (by omega) (by rw[aA.aC (by omega)];exact ho) (fun pm m hm1 hm2 hmok=> ?_)))<;>(simp only[go_sem,Nat.add_assoc,Nat.left_eq_add,Nat.add_eq_left,hA])|fail)
 (have hKX:=hKB;clear hKB)
 refine aM.EJ 1 ?_
 refine aM.aTJ fun G0 hG0=> ?_
 have q0:G0 i=some (rdO l pm):=by rw[hG0];exact(by simp only[aA.set,aA.del,Nat.add_assoc,Nat.reduceAdd,Nat.add_left_cancel_iff,Nat.reduceEqDiff,Nat.left_eq_add,Nat.add_eq_left,if_true,if_false,hA];done)
 have q1:G0 nx=some ⟨3,1,[[.osl 0 0 0 0 0,.osl 0 0 0 0 0,.osl 0 0 0 0 0]]⟩:=by rw[hG0];exact(by simp only[aA.set,aA.del,Nat.add_assoc,Nat.reduceAdd,Nat.add_left_cancel_iff,Nat.reduceEqDiff,Nat.left_eq_add,Nat.add_eq_left,if_true,if_false,hA];done)
 have q2:G0 (nx+4)=some ⟨3,1,[[.isl (m.map eN),.osl 0 0 0 0 0,.osl 0 0 0 0 0]]⟩:=by rw[hG0];exact(by simp only[aA.set,aA.del,Nat.add_assoc,Nat.reduceAdd,Nat.add_left_cancel_iff,Nat.reduceEqDiff,Nat.left_eq_add,Nat.add_eq_left,if_true,if_false,hA];done)
 have q3:G0 (nx+7)=some ⟨1,0,[]⟩:=by rw[hG0];exact(by simp only[aA.set,aA.del,Nat.add_assoc,Nat.reduceAdd,Nat.add_left_cancel_iff,Nat.reduceEqDiff,Nat.left_eq_add,Nat.add_eq_left,if_true,if_false,hA];done)
 have qf: ∀id,id<nx→id≠i→G0 id=H id:=fun id h1 h2=>by rw[hG0,aA.aC (by omega),aA.aC (by omega),aA.aC h2,aA.aC (by omega)]
 clear hG0
 refine aM.gP (β:=Nat×Nat×List Int×Nat×Nat) (fun u=>en [(6,dI u.1),(5,dP 3 (nx+4)),(4,dP 3 nx),(1,dI 6),(0,dP 2 i)])
  (fun u H1 nx1=>(u.1≤4∧p≤u.2.1∧u.2.1≤p+8+u.1∧u.2.2.1.length=u.1∧nx+7≤u.2.2.2.1∧u.2.2.2.1<nx1)∧H1 i=some (rdO l u.2.1)∧H1 nx=some ⟨3,1,[[.osl 0 0 0 0 0,.osl 0 0 0 0 0,.osl 0 0 0 0 0]]⟩∧H1 (nx+4)=some ⟨3,1,[[.isl (m.map eN),.osl 1 u.2.2.2.1 0 u.1 u.2.2.2.2,.osl 0 0 0 0 0]]⟩∧Own aJ 1 H1 u.2.2.2.1 u.2.2.2.2 u.2.2.1∧ ∀id,id<nx→id≠i→H1 id=H id)
  (fun u=>4-u.1) (0,pm,[],nx+7,0) ⟨noF,G0.set (nx+4) ⟨3,1,[[.isl (m.map eN),.osl 1 (nx+7) 0 0 0,.osl 0 0 0 0 0]]⟩,by repeat' (first| (with_reducible first|exact C1|refine C2 ?_ ?_)| ((with_reducible refine C0 ?_);exact CE (by omega) rfl)| ((with_reducible refine D0 ?_);first|exact CA rfl|refine CJ ?_)|fail),aS2 q2 (aP (aH (bB rfl) (aH (.VS _ _ _ _ _ _) (aH (.VS _ _ _ _ _ _) eP)))),by dsimp only;simp;omega,(by simp only[aA.set,aA.del,Nat.add_assoc,Nat.reduceAdd,Nat.add_left_cancel_iff,Nat.reduceEqDiff,Nat.left_eq_add,Nat.add_eq_left,if_true,if_false,hA,q0];done),(by simp only[aA.set,aA.del,Nat.add_assoc,Nat.reduceAdd,Nat.add_left_cancel_iff,Nat.reduceEqDiff,Nat.left_eq_add,Nat.add_eq_left,if_true,if_false,hA,q1];done),(by simp only[aA.set,aA.del,Nat.add_assoc,Nat.reduceAdd,Nat.add_left_cancel_iff,Nat.reduceEqDiff,Nat.left_eq_add,Nat.add_eq_left,if_true,if_false,hA];done),⟨0,(by simp only[aA.set,aA.del,Nat.add_assoc,Nat.reduceAdd,Nat.add_left_cancel_iff,Nat.reduceEqDiff,Nat.left_eq_add,Nat.add_eq_left,if_true,if_false,hA,q3,List.map_nil];done),Nat.le_refl _,Nat.le_refl _⟩,fun id h1 h2=>by rw[aA.aC (by omega)];exact qf id h1 h2⟩ ?_
 clear q0 q1 q2 q3 qf
 rintro⟨k,pl,la,bl,cl⟩ H1 nx1 hnx1 ⟨⟨f1,f2,f3,f4,f5,f6⟩,q0,q1,q2,⟨ml,q3,e1,e2⟩,qf⟩ KL hKL
 dsimp only at f1 f2 f3 f4 f5 f6 q0 q1 q2 q3 e1 e2
 have hta:la.take k=la:=List.take_of_length_le (by omega)
 have hA1:bQ nx1 [i,nx,nx+4,bl]:=AM.apart (by simp;omega) (by simp;omega)
 simp only[bQ,eZ] at hA1
 by_cases hlt:k<4
 ·have hM: ∀G:aA,msk (nx1+2) [4] G (nx+4)=G (nx+4):=fun G=>mk1 (by omega)
  repeat' (first| (with_reducible first| (refine hK _ _ _ ?_;clear hK K)| (refine hA ?_;clear hA hB A B)|refine Z1 ?_|refine Z2 ?_|refine Z3 fun KB hKB=> ?_|refine Z4 (by omega) ?_|refine fun(cap:Nat) (hcap:_≤cap)=> ?_|refine fun(hcp:_≤cap)=> ?_)| (first| (with_reducible first|refine Y2 fun K hK=> ?_|refine Y3 fun A B hA hB=> ?_)| (refine aX (p:=pl) hl (by omega) (by omega) (by omega) q0 (fun x h1 h2=> ?_)))<;>(simp only[go_sem,Nat.add_assoc,Nat.left_eq_add,Nat.add_eq_left,q0,q1,q2,q3,hA1,hta,hM];try simp (disch:=omega) only[Iw])| ((with_reducible refine Y0 ?_);simp only[AQ.then,AQ.blk])|refine⟨by omega,?_⟩| (with_reducible refine hKB _ _ _ ?_)|fail)
  exact hKL _ _ _ (k+1,pl+1,la++[x],nx1+7,cap) noF _ (by omega) (by dsimp only;omega) (by dsimp only;repeat' (first| (with_reducible first|exact C1|refine C2 ?_ ?_)| ((with_reducible refine C0 ?_);exact CE (by omega) rfl)| ((with_reducible refine D0 ?_);first|exact CA rfl|refine CJ ?_)|fail)) aK ⟨by simp;omega,(by simp only[aA.set,aA.del,Nat.add_assoc,Nat.reduceAdd,Nat.add_left_cancel_iff,Nat.reduceEqDiff,Nat.left_eq_add,Nat.add_eq_left,if_true,if_false,hA1];done),(by simp only[aA.set,aA.del,Nat.add_assoc,Nat.reduceAdd,Nat.add_left_cancel_iff,Nat.reduceEqDiff,Nat.left_eq_add,Nat.add_eq_left,if_true,if_false,hA1,q1];done),(by simp only[aA.set,aA.del,Nat.add_assoc,Nat.reduceAdd,Nat.add_left_cancel_iff,Nat.reduceEqDiff,Nat.left_eq_add,Nat.add_eq_left,if_true,if_false,hA1];done),⟨cap,(by simp only[aA.set,aA.del,Nat.add_assoc,Nat.reduceAdd,Nat.add_left_cancel_iff,Nat.reduceEqDiff,Nat.left_eq_add,Nat.add_eq_left,if_true,if_false,hA1];done),by simp;omega,Nat.le_refl _⟩,fun id h1 h2=>by rw[aA.aC (by omega),aA.aC (by omega),aA.aC (by omega),aA.aC h2,aA.jG (by omega)];exact qf id h1 h2⟩
 have hk4:k=4:=by omega
 subst hk4
 have hl4:=f4
 repeat' (first| (with_reducible first| (refine hK _ _ _ ?_;clear hK K)| (refine hB ?_;clear hA hB A B)|refine Z1 ?_|refine Z3 fun KB hKB=> ?_|refine Z5 (by omega) ?_|refine hKX _ _ _ ?_)| (with_reducible first|refine Y2 fun K hK=> ?_|refine Y3 fun A B hA hB=> ?_)<;>(simp only[go_sem,Nat.add_assoc])| ((with_reducible refine Y9 ?_);try simp only[AQ.then,AQ.blk,reduceIte,Nat.reduceEqDiff])|fail)
 (have hKY:=hKB;clear hKB)
 refine aM.EJ 1 ?_
 refine aM.aTJ fun G0 hG0=> ?_
 have r0:G0 i=some (rdO l pl):=by rw[hG0];exact(by simp only[aA.set,aA.del,Nat.add_assoc,Nat.reduceAdd,Nat.add_left_cancel_iff,Nat.reduceEqDiff,Nat.left_eq_add,Nat.add_eq_left,if_true,if_false,hA1,q0];done)
 have r1:G0 nx=some ⟨3,1,[[.osl 0 0 0 0 0,.osl 0 0 0 0 0,.osl 0 0 0 0 0]]⟩:=by rw[hG0];exact(by simp only[aA.set,aA.del,Nat.add_assoc,Nat.reduceAdd,Nat.add_left_cancel_iff,Nat.reduceEqDiff,Nat.left_eq_add,Nat.add_eq_left,if_true,if_false,hA1,q1];done)
 have r2:G0 (nx+4)=some ⟨3,1,[[.isl (m.map eN),.osl 1 bl 0 4 cl,.osl 0 0 0 0 0]]⟩:=by rw[hG0];exact(by simp only[aA.set,aA.del,Nat.add_assoc,Nat.reduceAdd,Nat.add_left_cancel_iff,Nat.reduceEqDiff,Nat.left_eq_add,Nat.add_eq_left,if_true,if_false,hA1,q2];done)
 have r3:Own aJ 1 G0 bl cl la:=⟨ml,by rw[hG0];exact(by simp only[aA.set,aA.del,Nat.add_assoc,Nat.reduceAdd,Nat.add_left_cancel_iff,Nat.reduceEqDiff,Nat.left_eq_add,Nat.add_eq_left,if_true,if_false,hA1,q3];done),e1,e2⟩
 have r4:G0 (nx1+3)=some ⟨1,0,[]⟩:=by rw[hG0];exact(by simp only[aA.set,aA.del,Nat.add_assoc,Nat.reduceAdd,Nat.add_left_cancel_iff,Nat.reduceEqDiff,Nat.left_eq_add,Nat.add_eq_left,if_true,if_false,hA1];done)
 have rf: ∀id,id<nx→id≠i→G0 id=H id:=fun id h1 h2=>by rw[hG0,aA.aC (by omega)];exact qf id h1 h2
 clear hG0 q0 q1 q2 q3 qf e1 e2
 refine aM.gP (β:=Nat×Nat×(List (List D1)×Nat×Nat)×(Prog×Nat×Nat)×List Prog) (fun u=>en [(7,dI u.1),(5,dP 3 (nx+4)),(4,dP 3 nx),(1,dI 6),(0,dP 2 i)])
  (fun u H1 nx1=>((u.1≤3∧p≤u.2.1∧u.2.1≤p+12+300*u.1)∧(nx+5≤u.2.2.1.2.1∧u.2.2.1.2.1<nx1∧bl≠u.2.2.1.2.1∧bl<nx1))∧H1 i=some (rdO l u.2.1)∧H1 nx=some ⟨3,1,[[.osl 0 0 0 0 0,.osl 0 0 0 0 0,.osl 0 0 0 0 0]]⟩∧H1 (nx+4)=some ⟨3,1,[[.isl (m.map eN),.osl 1 bl 0 4 cl,.osl 1 u.2.2.1.2.1 0 u.1 u.2.2.1.2.2]]⟩∧Own aJ 1 H1 bl cl la∧
   (∃mp,H1 u.2.2.1.2.1=some ⟨1,mp,u.2.2.1.1⟩∧u.1≤u.2.2.1.2.2∧u.2.2.1.2.2≤mp)∧
   (0<u.1→Own eB 7 H1 u.2.2.2.1.2.1 u.2.2.2.1.2.2 u.2.2.2.1.1∧u.2.2.1.1=[.osl 7 u.2.2.2.1.2.1 0 u.2.2.2.1.1.length u.2.2.2.1.2.2]::u.2.2.2.2.map jR∧u.2.2.2.2.length+1=u.1∧(∀pr∈u.2.2.2.1.1::u.2.2.2.2,pr.length≤12∧ ∀q∈pr,dH q)∧nx+5≤u.2.2.2.1.2.1∧u.2.2.2.1.2.1<nx1∧[bl,u.2.2.1.2.1,u.2.2.2.1.2.1].Nodup)∧(u.1=0→u.2.2.1.1=[])∧ ∀id,id<nx→id≠i→H1 id=H id)
  (fun u=>3-u.1) (0,pl,([],nx1+3,0),([],0,0),[]) ⟨noF,G0.set (nx+4) ⟨3,1,[[.isl (m.map eN),.osl 1 bl 0 4 cl,.osl 1 (nx1+3) 0 0 0]]⟩,by repeat' (first| (with_reducible first|exact C1|refine C2 ?_ ?_)| ((with_reducible refine C0 ?_);exact CE (by omega) rfl)| ((with_reducible refine D0 ?_);first|exact CA rfl|refine CJ ?_)|fail),aS2 r2 (aP (aH (bB rfl) (aH (.osl _ _ _ _ _ (by omega)) (aH (.VS _ _ _ _ _ _) eP)))),by dsimp only;omega,(by simp only[aA.set,aA.del,Nat.add_assoc,Nat.reduceAdd,Nat.add_left_cancel_iff,Nat.reduceEqDiff,Nat.left_eq_add,Nat.add_eq_left,if_true,if_false,hA1,r0];done),(by simp only[aA.set,aA.del,Nat.add_assoc,Nat.reduceAdd,Nat.add_left_cancel_iff,Nat.reduceEqDiff,Nat.left_eq_add,Nat.add_eq_left,if_true,if_false,hA1,r1];done),(by simp only[aA.set,aA.del,Nat.add_assoc,Nat.reduceAdd,Nat.add_left_cancel_iff,Nat.reduceEqDiff,Nat.left_eq_add,Nat.add_eq_left,if_true,if_false,hA1];done),r3.of (by rw[aA.aC (by omega)]),⟨0,(by simp only[aA.set,aA.del,Nat.add_assoc,Nat.reduceAdd,Nat.add_left_cancel_iff,Nat.reduceEqDiff,Nat.left_eq_add,Nat.add_eq_left,if_true,if_false,hA1,r4];done),Nat.le_refl _,Nat.le_refl _⟩,fun h=>by dsimp only at h;omega,fun _=>rfl,fun id h1 h2=>by rw[aA.aC (by omega)];exact rf id h1 h2⟩ ?_
 clear r0 r1 r2 r3 r4 rf
 have hnn:nx+8≤nx1:=by omega
 clear hnx1 hA1
 rintro⟨k,pl,⟨rows,bp,cp⟩,⟨aUU,b0,c0⟩,Ps⟩ H1 nx1 hnx1 ⟨⟨⟨f1,f2,f3⟩,f4,f5,f6,f7⟩,q0,q1,q2,q3,⟨mp,q4,e1,e2⟩,q5,q6,qf⟩ KL hKL
 dsimp only at f1 f2 f3 f4 f5 f6 f7 q0 q1 q2 q3 q4 q5 q6 e1 e2
 have hA1:bQ nx1 [i,nx,nx+4,bl,bp]:=AM.apart (by simp;omega) (by simp;omega)
 simp only[bQ,eZ] at hA1
 by_cases hlt:k<3
 ·repeat' (first| (with_reducible first| (refine hK _ _ _ ?_;clear hK K)| (refine hA ?_;clear hA hB A B)|refine Z1 ?_|refine Z2 ?_|refine Z3 fun KB hKB=> ?_|refine Z4 (by omega) ?_)| (first| (with_reducible first|refine Y2 fun K hK=> ?_|refine Y3 fun A B hA hB=> ?_)| (refine aX (p:=pl) hl (by omega) (by omega) (by omega) (by simp only[aA.set,aA.del,Nat.add_assoc,Nat.reduceAdd,Nat.add_left_cancel_iff,Nat.reduceEqDiff,Nat.left_eq_add,Nat.add_eq_left,if_true,if_false,hA1,q0];done) (fun x h1 h2=> ?_)))<;>(simp only[go_sem,Nat.add_assoc,Nat.left_eq_add,Nat.add_eq_left,q0,q1,q2,hA1];try simp (disch:=omega) only[Iw])|fail)
  (have hKZ:=hKB;clear hKB)
  refine aM.aTJ fun G0 hG0=> ?_
  have r0:G0 i=some (rdO l (pl+1)):=by rw[hG0];exact(by simp only[aA.set,aA.del,Nat.add_assoc,Nat.reduceAdd,Nat.add_left_cancel_iff,Nat.reduceEqDiff,Nat.left_eq_add,Nat.add_eq_left,if_true,if_false,hA1,q0];done)
  have r1:G0 (nx1+2)=some ⟨7,0,[]⟩:=by rw[hG0];exact(by simp only[aA.set,aA.del,Nat.add_assoc,Nat.reduceAdd,Nat.add_left_cancel_iff,Nat.reduceEqDiff,Nat.left_eq_add,Nat.add_eq_left,if_true,if_false,hA1];done)
  have rf: ∀id,id<nx1→id≠i→G0 id=H1 id:=fun id h1 h2=>by rw[hG0,aA.aC h2,aA.aC (by omega)]
  clear hG0
  rename_i hx1 hx2
  refine aM.gP (β:=Nat×Nat×Prog×Nat×Nat) (fun u=>en [(9,dI u.1),(8,.one (.c (.osl 7 u.2.2.2.1 0 u.2.2.1.length u.2.2.2.2))),(7,dI k),(5,dP 3 (nx+4)),(4,dP 3 nx),(1,dI 6),(0,dP 2 i)])
   (fun u H2 nx2=>(u.1≤6∧p≤u.2.1∧u.2.1≤pl+1+41*(6-u.1)∧(∀q∈u.2.2.1,dH q)∧2*u.1+u.2.2.1.length≤12)∧(nx1≤u.2.2.2.1∧u.2.2.2.1<nx2)∧H2 i=some (rdO l u.2.1)∧Own eB 7 H2 u.2.2.2.1 u.2.2.2.2 u.2.2.1∧ ∀id,id<nx1→id≠i→H2 id=H1 id)
   (fun u=>u.1) (x.toNat,pl+1,[],nx1+2,0) ⟨noF,_,by repeat' (first| (with_reducible first|exact C1|refine C2 ?_ ?_)| ((with_reducible refine C0 ?_);first|exact CC|exact CE (by omega) rfl| (exact CG (by(congr 2;omega)) rfl))| ((with_reducible refine D0 ?_);first|exact CA rfl|refine CJ ?_)|fail),aK,⟨by dsimp only;omega,by dsimp only;omega,by dsimp only;omega,fun q hq=>by simp at hq,by simp;omega⟩,by dsimp only;omega,r0,⟨0,r1,Nat.le_refl _,Nat.le_refl _⟩,rf⟩ ?_
  clear r0 r1 rf
  rintro⟨j,pj,rs,b,cr⟩ H2 nx2 hnx2 ⟨⟨g1,g2,g3,g4,g5⟩,⟨g6,g7⟩,s0,⟨mr,s1,d1,d2⟩,sf⟩ KN hKN
  dsimp only at g1 g2 g3 g4 g5 g6 g7 s0 s1 d1 d2
  have htr:rs.take rs.length=rs:=List.take_length
  have hA2:bQ nx2 [i,b]:=AM.apart (by simp;omega) (by simp;omega)
  simp only[bQ,eZ] at hA2
  by_cases hj:0<j
  ·refine aM.seq ?_
   repeat' (first| (with_reducible first| (refine hK _ _ _ ?_;clear hK K)| (refine hA ?_;clear hA hB A B)|refine Z2 ?_|refine Z4 (by omega) ?_)| (with_reducible first|refine Y1 fun K hK=> ?_|refine Y3 fun A B hA hB=> ?_)<;>(simp only[go_sem])|fail)
   refine aM.seq ?_
   repeat' (first| (with_reducible first| (refine hK _ _ _ ?_;clear hK K)|refine Z3 fun KB hKB=> ?_)| (first| (with_reducible refine Y1 fun K hK=> ?_)| (refine ID (p:=pj) hl (by omega) (by omega) s0 (fun pq q hq1 hq2 hq3=> ?_)))<;>(simp only[go_sem,Nat.add_assoc,Nat.left_eq_add,Nat.add_eq_left,s0,s1,hA2])|fail)
   refine aM.aUF (β:=Nat×Prog×Nat×Nat) (fun u=>en [(10,dP 7 (nx2+4)),(9,dI j),(8,.one (.c (.osl 7 u.2.2.1 0 u.2.1.length u.2.2.2))),(7,dI k),(5,dP 3 (nx+4)),(4,dP 3 nx),(1,dI 6),(0,dP 2 i)])
    (fun u H3 nx3=>(p≤u.1∧u.1≤pj+41∧(∀q∈u.2.1,dH q)∧u.2.1.length≤rs.length+1)∧(nx1≤u.2.2.1∧u.2.2.1<nx3∧u.2.2.1≠nx2+4)∧H3 i=some (rdO l u.1)∧H3 (nx2+4)=some ⟨7,1,[eB q]⟩∧Own eB 7 H3 u.2.2.1 u.2.2.2 u.2.1∧ ∀id,id<nx1→id≠i→H3 id=H1 id) (fun KJ hKJ=> ?_) ?_
   ·repeat' (first| (with_reducible first| (refine hK _ _ _ ?_;clear hK K)| (refine hA ?_;clear hA hB A B)| (refine hB ?_;clear hA hB A B)|refine Z1 ?_|refine Z2 ?_|refine Z6 (fun h=> ?_) fun h=> ?_|refine fun(cap:Nat) (hcap:_≤cap)=> ?_|refine fun(hcp:_≤cap)=> ?_)| (first| (with_reducible first|refine Y2 fun K hK=> ?_|refine Y3 fun A B hA hB=> ?_|refine Y6 (fun h=> ?_) fun h=> ?_)| (refine aX (p:=pq) hl (by omega) (by omega) (by omega) (by simp only[aA.set,aA.del,Nat.add_assoc,Nat.reduceAdd,Nat.add_left_cancel_iff,Nat.reduceEqDiff,Nat.left_eq_add,Nat.add_eq_left,if_true,if_false,hA2];done) (fun x h1 h2=> ?_)))<;>(simp only[go_sem,Nat.add_assoc,Nat.left_eq_add,Nat.add_eq_left,s0,s1,hA2,htr])| ((with_reducible refine Y0 ?_);simp only[AQ.then,AQ.blk])|refine⟨by omega,?_⟩|fail)
    ·refine hKJ _ _ _ (pq+1,rs++[⟨q.id,3,q.addr,1,false,[],[]⟩],nx2+26,cap) noF (aA.set _ (nx2+26) ⟨7,cap,(rs++[(⟨q.id,3,q.addr,1,false,[],[]⟩:Req)]).map eB⟩) (by omega) (by dsimp only;rw[List.length_append,List.length_singleton];repeat' (first| (with_reducible first|exact C1|refine C2 ?_ ?_)| ((with_reducible refine C0 ?_);first|exact CQ (by omega) rfl rfl (by rfl) rfl|exact CE (by omega) rfl)| ((with_reducible refine D0 ?_);first|exact CA rfl|refine CJ ?_)|fail))
      (aS2 aA.bH (uO (R:=rs.map eB) (r':=eB ⟨q.id,3,q.addr,1,false,[],[]⟩) (by simp) rfl (fun r hr=>(aG rL rs r hr).2) rfl (aH (bB rfl) (aH (bB rfl) (aH (bB rfl) (aH (bB rfl) (aH (bB rfl) (aH xG (aH xG eP)))))))))
      ⟨⟨by dsimp only;omega,by dsimp only;omega,fun q' hq'=> ?_,by simp⟩,⟨by dsimp only;omega,by dsimp only;omega,by dsimp only;omega⟩,(by simp only[aA.set,aA.del,Nat.add_assoc,Nat.reduceAdd,Nat.add_left_cancel_iff,Nat.reduceEqDiff,Nat.left_eq_add,Nat.add_eq_left,if_true,if_false,hA2];done),(by simp only[aA.set,aA.del,Nat.add_assoc,Nat.reduceAdd,Nat.add_left_cancel_iff,Nat.reduceEqDiff,Nat.left_eq_add,Nat.add_eq_left,if_true,if_false,hA2];done),⟨cap,aA.bH,by simpa using hcap,Nat.le_refl _⟩,fun id h1 h2=>by rw[aA.aC (by omega),aA.aC (by omega),aA.aC (by omega),aA.aC (by omega),aA.aC h2,aA.jG (by omega)];exact sf id h1 h2⟩
     rcases List.mem_append.1 hq' with hq'|hq'
     ·exact g4 q' hq'
     ·simp at hq';subst hq';exact B7.MM hq3
    ·exact hKJ _ _ _ (pq+1,rs,b,cr) noF _ (by omega) (by dsimp only;repeat' (first| (with_reducible first|exact C1|refine C2 ?_ ?_)| ((with_reducible refine C0 ?_);first|exact CQ (by omega) rfl rfl (by rfl) rfl|exact CE (by omega) rfl)| ((with_reducible refine D0 ?_);first|exact CA rfl|refine CJ ?_)|fail)) aK ⟨⟨by dsimp only;omega,by dsimp only;omega,g4,by dsimp only;omega⟩,⟨by dsimp only;omega,by dsimp only;omega,by dsimp only;omega⟩,(by simp only[aA.set,aA.del,Nat.add_assoc,Nat.reduceAdd,Nat.add_left_cancel_iff,Nat.reduceEqDiff,Nat.left_eq_add,Nat.add_eq_left,if_true,if_false,hA2];done),(by simp only[aA.set,aA.del,Nat.add_assoc,Nat.reduceAdd,Nat.add_left_cancel_iff,Nat.reduceEqDiff,Nat.left_eq_add,Nat.add_eq_left,if_true,if_false,hA2];done),⟨mr,(by simp only[aA.set,aA.del,Nat.add_assoc,Nat.reduceAdd,Nat.add_left_cancel_iff,Nat.reduceEqDiff,Nat.left_eq_add,Nat.add_eq_left,if_true,if_false,hA2,s1];done),d1,d2⟩,fun id h1 h2=>by rw[aA.aC (by omega),aA.aC h2];exact sf id h1 h2⟩
    all_goals exact hKJ _ _ _ (pq,rs,b,cr) noF _ (by omega) (by dsimp only;repeat' (first| (with_reducible first|exact C1|refine C2 ?_ ?_)| ((with_reducible refine C0 ?_);first|exact CQ (by omega) rfl rfl (by rfl) rfl|exact CE (by omega) rfl)| ((with_reducible refine D0 ?_);first|exact CA rfl|refine CJ ?_)|fail)) aK ⟨⟨by dsimp only;omega,by dsimp only;omega,g4,by dsimp only;omega⟩,⟨by dsimp only;omega,by dsimp only;omega,by dsimp only;omega⟩,(by simp only[aA.set,aA.del,Nat.add_assoc,Nat.reduceAdd,Nat.add_left_cancel_iff,Nat.reduceEqDiff,Nat.left_eq_add,Nat.add_eq_left,if_true,if_false,hA2];done),(by simp only[aA.set,aA.del,Nat.add_assoc,Nat.reduceAdd,Nat.add_left_cancel_iff,Nat.reduceEqDiff,Nat.left_eq_add,Nat.add_eq_left,if_true,if_false,hA2];done),⟨mr,(by simp only[aA.set,aA.del,Nat.add_assoc,Nat.reduceAdd,Nat.add_left_cancel_iff,Nat.reduceEqDiff,Nat.left_eq_add,Nat.add_eq_left,if_true,if_false,hA2,s1];done),d1,d2⟩,fun id h1 h2=>by rw[aA.aC (by omega),aA.aC h2];exact sf id h1 h2⟩
   ·rintro⟨pk,rk,bk,ck⟩ H3 nx3 hnx3 ⟨⟨aUV,aUW,aIG,aII⟩,⟨aUX,aIH,aUY⟩,v0,v1,⟨mk,v2,w1,w2⟩,vf⟩
    dsimp only at aUV aUW aIG aII aUX aIH aUY v0 v2 w1 w2
    have htk:rk.take rk.length=rk:=List.take_length
    have hA3:bQ nx3 [i,bk,nx2+4]:=AM.apart (by simp;omega) (by simp;omega)
    simp only[bQ,eZ] at hA3
    repeat' (first| (with_reducible first| (refine hK _ _ _ ?_;clear hK K)|refine fun(cap:Nat) (hcap:_≤cap)=> ?_|refine fun(hcp:_≤cap)=> ?_)| (with_reducible refine Y2 fun K hK=> ?_)<;>(simp only[go_sem,Nat.add_assoc,Nat.left_eq_add,Nat.add_eq_left,v0,v1,v2,hA3,htk];try simp (disch:=omega) only[Iw])| ((with_reducible refine Y0 ?_);simp only[AQ.then,AQ.blk])|refine⟨by omega,?_⟩| (with_reducible refine hKB _ _ _ ?_)|fail)
    refine hKN _ _ _ (j-1,pk,rk++[q],nx3+3,cap) noF _ (by omega) (by dsimp only;omega) (by dsimp only;rw[List.length_append,List.length_singleton];repeat' (first| (with_reducible first|exact C1|refine C2 ?_ ?_)| ((with_reducible refine C0 ?_);first|exact CQ (by omega) rfl rfl (by rfl) rfl|exact CE (by omega) rfl| (exact CG (by(congr 2;omega)) rfl))| ((with_reducible refine D0 ?_);first|exact CA rfl|refine CJ ?_)|fail)) aK ⟨⟨by dsimp only;omega,by dsimp only;omega,by dsimp only;omega,fun q' hq'=> ?_,by simp;omega⟩,⟨by dsimp only;omega,by dsimp only;omega⟩,(by simp only[aA.set,aA.del,Nat.add_assoc,Nat.reduceAdd,Nat.add_left_cancel_iff,Nat.reduceEqDiff,Nat.left_eq_add,Nat.add_eq_left,if_true,if_false,hA3,v0];done),⟨cap,(by simp only[aA.set,aA.del,Nat.add_assoc,Nat.reduceAdd,Nat.add_left_cancel_iff,Nat.reduceEqDiff,Nat.left_eq_add,Nat.add_eq_left,if_true,if_false,hA3];done),by simpa using hcap,Nat.le_refl _⟩,fun id h1 h2=>by rw[aA.aC (by omega),aA.aC (by omega),aA.jG (by omega)];exact vf id h1 h2⟩
    rcases List.mem_append.1 hq' with hq'|hq'
    ·exact aIG q' hq'
    ·simp at hq';subst hq';exact hq3
  ·have hmin:(rs.length:Int)≤12:=by omega
   have s2:=(sf (nx+4) (by omega) (by omega)).trans q2
   have s3:=(sf bp (by omega) (by omega)).trans q4
   have hA3:bQ nx2 [i,b,nx+4,bp]:=AM.apart (by simp;omega) (by simp;omega)
   simp only[bQ,eZ] at hA3
   have hM: ∀G:aA,msk (nx2+2) [7] G (nx+4)=G (nx+4):=fun G=>mk1 (by omega)
   have hrl:rows.length=k:=by
    by_cases h0:k=0
    ·rw[q6 h0,h0];rfl
    ·obtain⟨_,e,e2,_⟩:=q5 (by omega)
     rw[e,List.length_cons,List.length_map];exact e2
   have hrt:rows.take k=rows:=List.take_of_length_le (by omega)
   have hmn:(if (12:Int)<(rs.length:Int) then (12:Int) else (rs.length:Int)).toNat=rs.length:=by rw[if_neg (by omega)];simp
   repeat' (first| (with_reducible first| (refine hK _ _ _ ?_;clear hK K)| (refine hB ?_;clear hA hB A B)|refine Z1 ?_|refine Z5 (by omega) ?_|refine fun(cap:Nat) (hcap:_≤cap)=> ?_|refine fun(hcp:_≤cap)=> ?_|refine hKZ _ _ _ ?_)| (with_reducible first|refine Y2 fun K hK=> ?_|refine Y3 fun A B hA hB=> ?_)<;>(simp only[go_sem,Nat.add_assoc,Nat.left_eq_add,Nat.add_eq_left,s0,s1,s2,s3,hA3,hM,hrt,hmn];try simp (disch:=omega) only[Iw])| ((with_reducible refine Y9 ?_);try simp only[AQ.then,AQ.blk,reduceIte,Nat.reduceEqDiff])| ((with_reducible refine Y0 ?_);simp only[AQ.then,AQ.blk])|refine⟨by omega,?_⟩| (with_reducible refine hKB _ _ _ ?_)|fail)
   have hrs:rs.length≤12∧ ∀q∈rs,dH q:=⟨by omega,g4⟩
   have hfr: ∀(G:aA),(∀id,id<nx→id≠i→G id=H2 id)→∀id,id<nx→id≠i→G id=H id:=fun G hG id h1 h2=>by rw[hG id h1 h2,sf id (by omega) h2];exact qf id h1 h2
   have q3':Own aJ 1 H2 bl cl la:=q3.of (sf bl (by omega) (by omega))
   have s4:=(sf nx (by omega) (by omega)).trans q1
   by_cases h0:k=0
   ·subst h0
    rw[q6 rfl]
    exact hKL _ _ _ (1,pj,([[.osl 7 b 0 rs.length cr]],nx2+10,cap),(rs,b,cr),[]) noF _ (by omega) (by dsimp only;omega) (by dsimp only;repeat' (first| (with_reducible first|exact C1|refine C2 ?_ ?_)| ((with_reducible refine C0 ?_);exact CE (by omega) rfl)| ((with_reducible refine D0 ?_);first|exact CA rfl|refine CJ ?_)|fail)) aK ⟨by dsimp only;omega,(by simp only[aA.set,aA.del,Nat.add_assoc,Nat.reduceAdd,Nat.add_left_cancel_iff,Nat.reduceEqDiff,Nat.left_eq_add,Nat.add_eq_left,if_true,if_false,hA3,s0];done),by rw[aA.aC (by omega),aA.aC (by omega),aA.aC (by omega),aA.jG (by omega)];exact s4,(by simp only[aA.set,aA.del,Nat.add_assoc,Nat.reduceAdd,Nat.add_left_cancel_iff,Nat.reduceEqDiff,Nat.left_eq_add,Nat.add_eq_left,if_true,if_false,hA3];done),q3'.of (by rw[aA.aC (by omega),aA.aC (by omega),aA.aC (by omega),aA.jG (by omega)]),⟨cap,(by simp only[aA.set,aA.del,Nat.add_assoc,Nat.reduceAdd,Nat.add_left_cancel_iff,Nat.reduceEqDiff,Nat.left_eq_add,Nat.add_eq_left,if_true,if_false,hA3,List.nil_append];done),by dsimp only;omega,by dsimp only;omega⟩,
     fun _=>⟨⟨mr,(by simp only[aA.set,aA.del,Nat.add_assoc,Nat.reduceAdd,Nat.add_left_cancel_iff,Nat.reduceEqDiff,Nat.left_eq_add,Nat.add_eq_left,if_true,if_false,hA3,s1];done),d1,d2⟩,rfl,rfl,fun pr hpr=>by(simp at hpr;subst hpr;exact hrs),by dsimp only;omega,by dsimp only;omega,by simp;omega⟩,fun h=>by dsimp only at h;omega,hfr _ fun id h1 h2=>by rw[aA.aC (by omega),aA.aC (by omega),aA.aC (by omega),aA.jG (by omega)]⟩
   ·obtain⟨o0,hro,hP1,hP2,hb1,hb2,hnd⟩:=q5 (by omega)
    generalize hG:aA.set _ (nx+4) _=aUZ
    have hG:=hG.symm
    have aU0:aUZ i=some (rdO l pj):=by rw[hG];exact(by simp only[aA.set,aA.del,Nat.add_assoc,Nat.reduceAdd,Nat.add_left_cancel_iff,Nat.reduceEqDiff,Nat.left_eq_add,Nat.add_eq_left,if_true,if_false,hA3,s0];done)
    have t1:aUZ nx=some ⟨3,1,[[.osl 0 0 0 0 0,.osl 0 0 0 0 0,.osl 0 0 0 0 0]]⟩:=by rw[hG,aA.aC (by omega),aA.aC (by omega),aA.aC (by omega),aA.jG (by omega)];exact s4
    have t2:aUZ (nx+4)=some ⟨3,1,[[.isl (m.map eN),.osl 1 bl 0 4 cl,.osl 1 (nx2+10) 0 (k+1) cap]]⟩:=by rw[hG];exact(by simp only[aA.set,aA.del,Nat.add_assoc,Nat.reduceAdd,Nat.add_left_cancel_iff,Nat.reduceEqDiff,Nat.left_eq_add,Nat.add_eq_left,if_true,if_false,hA3];done)
    have t3:Own aJ 1 aUZ bl cl la:=q3'.of (by rw[hG,aA.aC (by omega),aA.aC (by omega),aA.aC (by omega),aA.jG (by omega)])
    have t4:aUZ (nx2+10)=some ⟨1,cap,rows++[[.osl 7 b 0 rs.length cr]]⟩:=by rw[hG];exact(by simp only[aA.set,aA.del,Nat.add_assoc,Nat.reduceAdd,Nat.add_left_cancel_iff,Nat.reduceEqDiff,Nat.left_eq_add,Nat.add_eq_left,if_true,if_false,hA3];done)
    have aU1:aUZ b=some ⟨7,mr,rs.map eB⟩:=by rw[hG];exact(by simp only[aA.set,aA.del,Nat.add_assoc,Nat.reduceAdd,Nat.add_left_cancel_iff,Nat.reduceEqDiff,Nat.left_eq_add,Nat.add_eq_left,if_true,if_false,hA3,s1];done)
    have hne:b0≠bp:=by simp at hnd;omega
    have hnl:b0≠bl:=by simp at hnd;omega
    have aU2:Own eB 7 aUZ b0 c0 aUU:=o0.of (by rw[hG,aA.aC (by omega),aA.aC (by omega),aA.aC (by omega),aA.jG hne];exact sf b0 (by omega) (by omega))
    have tf: ∀id,id<nx→id≠i→aUZ id=H id:=hfr _ fun id h1 h2=>by rw[hG,aA.aC (by omega),aA.aC (by omega),aA.aC (by omega),aA.jG (by omega)]
    clear hG s0 s1 s2 s3 s4 q0 q1 q2 q3 q4 q3' qf sf hfr
    refine hKL _ _ _ (k+1,pj,(rows++[jR rs],nx2+10,cap),(aUU,b0,c0),Ps++[rs]) (fun t=>t=b) ((without (fun t=>t=b) aUZ).set (nx2+10) ⟨1,cap,rows++[jR rs]⟩) (by omega) (by dsimp only;omega) (by dsimp only;repeat' (first| (with_reducible first|exact C1|refine C2 ?_ ?_)| ((with_reducible refine C0 ?_);exact CE (by omega) rfl)| ((with_reducible refine D0 ?_);first|exact CA rfl|refine CJ ?_)|fail))
     (apO (t:=nx2+10) (o':=⟨1,cap,rows++[jR rs]⟩) (fun j hj=>by have hj':j=b:=hj;rw[aA.aC (by omega)];exact if_pos hj) aA.bH t4 (by omega) (aUI (aTS (by rw[hro];exact aSR (aH (.osl _ _ _ _ _ (by omega)) eP) (aTZ fun r hr=>(aG iR _ r hr).2)) (aSR (aH (bW rL aU1 rfl d1 rfl) eP) aT0))) fun j hj1 hj2=>by rw[aA.aC hj1,iI (F:=fun t=>t=b) hj2])
     ⟨by dsimp only;omega,by rw[aA.aC (by omega),iI (by omega)];exact aU0,by rw[aA.aC (by omega),iI (by omega)];exact t1,by rw[aA.aC (by omega),iI (by omega)];exact t2,t3.of (by rw[aA.aC (by omega),iI (by omega)]),⟨cap,aA.bH,by dsimp only;omega,Nat.le_refl _⟩,
      fun _=>⟨aU2.of (by(try dsimp only);rw[aA.aC (by omega),iI (by omega)]),by dsimp only;rw[hro,List.map_append];rfl,by dsimp only;rw[List.length_append,List.length_singleton];omega,fun pr hpr=> ?_,by dsimp only;omega,by dsimp only;omega,by simp;omega⟩,fun h=>by dsimp only at h;omega,fun id h1 h2=>by rw[aA.aC (by omega),iI (by omega)];exact tf id h1 h2⟩
    rw[←List.cons_append,List.mem_append] at hpr
    rcases hpr with hpr|hpr
    ·exact hP2 pr hpr
    ·simp at hpr;subst hpr;exact hrs
 have hk3:k=3:=by omega
 subst hk3
 obtain⟨o0,rfl,hP1,hP2,hb1,hb2,hnd⟩:=q5 (by omega)
 repeat' (first| (with_reducible first| (refine hK _ _ _ ?_;clear hK K)| (refine hB ?_;clear hA hB A B)|refine Z1 ?_|refine Z5 (by omega) ?_|refine hKY _ _ _ ?_)| (with_reducible first|refine Y2 fun K hK=> ?_|refine Y3 fun A B hA hB=> ?_)<;>(simp only[go_sem,Nat.add_assoc,Nat.left_eq_add,Nat.add_eq_left,q0,q1,q2,hA1])| ((with_reducible first|refine Y8 ?_|refine Y9 ?_);try simp only[AQ.then,AQ.blk,reduceIte,Nat.reduceEqDiff])|fail)
 have hh:=fun H'=>h H' (nx1+4) pl m la aUU Ps bl cl bp cp mp b0 c0 f2 (by omega) hmok hl4 (by omega) hP2
 exact hQ _ _ _ _ _ (.inr rfl) (fZ (m:=1) rfl aA.bH rfl) (hh _ (by simp only[aA.set,aA.del,Nat.add_assoc,Nat.reduceAdd,Nat.add_left_cancel_iff,Nat.reduceEqDiff,Nat.left_eq_add,Nat.add_eq_left,if_true,if_false,hA1,q0];done) (q3.of (by rw[aA.aC (by omega)])) (o0.of (by rw[aA.aC (by omega)])) (by simp only[aA.set,aA.del,Nat.add_assoc,Nat.reduceAdd,Nat.add_left_cancel_iff,Nat.reduceEqDiff,Nat.left_eq_add,Nat.add_eq_left,if_true,if_false,hA1,q4];done) (by omega) e2 (by omega) (by omega) (by omega) (by omega) (by omega) (by omega) hnd fun id h1 h2=>by rw[aA.aC (by omega)];exact qf id h1 h2)
end
end Go.Proofs.YtegiblhkjfiooaaGreat
end
section
namespace Go.Proofs.YtegiblhkjfiooaaGreat
open Go Go.AM
set_option maxRecDepth 100000
set_option maxHeartbeats 8000000
section
variable {H : aA} {nx : Nat} {K : D → aA → Nat → Prop}
theorem aP3:cJ Tryz.prog aNJ Tryz.f105 at4 aOA:=cJ.mk Tryz.func105 (by kernel_rfl) aPQ
theorem aS9 {F:Nat→Prop} {bp mp b0 c0 cp len0:Nat} {aUU:Prog} {Ps:List Prog} (h:H bp=some ⟨1,mp,[.osl 7 b0 0 len0 c0]::Ps.map jR⟩) (h0:len0=aUU.length) (o:Own eB 7 H b0 c0 aUU) (h1:F bp) (h2:F b0) (hc:Ps.length+1≤cp):Frz H F (.isl ((aUU::Ps).map jR)) (.osl 1 bp 0 (Ps.length+1) cp):=by
 subst h0
 obtain⟨m,o1,o2,o3⟩:=o
 refine QM h1 h rfl (by simp) (by simp) hc fun i r' hr=> ?_
 rw[Nat.zero_add]
 match i with
 |0=>
  simp only[List.map_cons,List.getElem?_cons_zero,Option.some.injEq] at hr
  subst hr
  exact⟨rfl,_,rfl,fO (ay5 (σ:=id) (nh:=0) rfl (bW rL o1 rfl o2 h2)) LH⟩
 |i+1=>
  rw[List.map_cons,List.getElem?_cons_succ] at hr
  have:=aG iR _ _ (List.mem_of_getElem? hr)
  exact⟨this.1,r',hr,amO this.2⟩
theorem aT7 {F:Nat→Prop} {bp mp cp:Nat} {r:List D1} {Ps:List Prog} (h:H bp=some ⟨1,mp,r::Ps.map jR⟩) (h1:F bp) {len:Nat} (hl:len=Ps.length) (hc:len≤cp):Frz H F (.isl (Ps.map jR)) (.osl 1 bp 1 len cp):=by
 subst hl
 refine QM h1 h rfl (by simp) (by simp;omega) hc fun i r' hr=> ?_
 have:=aG iR _ _ (List.mem_of_getElem? hr)
 exact⟨this.1,r',by rw[Nat.add_comm];exact hr,amO this.2⟩
theorem aT9 {m:List Rng} {la:List Int} {P:List Prog} (h1:m.length≤8) (h2:la.length≤4) (h3:P.length≤3) (h4: ∀pr∈P,pr.length≤13∧ ∀q∈pr,q.data.length≤8∧q.lanes.length≤8):jO ⟨m,la,P⟩:=
 ⟨by dsimp only;omega,by dsimp only;omega,by dsimp only;omega,fun pr hpr=>by have:=(h4 pr hpr).1;omega,fun pr hpr q hq=>by have:=(h4 pr hpr).2 q hq;omega⟩
theorem aTR {q:Req} (h:dH q):q.data.length≤8∧q.lanes.length≤8:=by
 obtain⟨_,_,⟨h1,_⟩,h2,h3,_⟩:=h
 unfold n5 at h2 h3
 split at h2<;>omega
theorem aQA {l:List Int} {p i:Nat} {n:Int} (hn:0<n∧n<9000) (hl:kZ l) (hp50:p+1200<2^50) (hi:i<nx) (ho:H i=some (rdO l p))
 (h: ∀H' nx' p' (c:Cfg),nx≤nx'→jO c→p≤p'→p'≤p+1200→H' i=some (rdO l p')→(∀id,id<nx→id≠i→H' id=H id)→K (dA (cU c)) H' nx'):aB Tryz.prog aNJ [dP 2 i,dI n] H nx K:=by
 refine aB.tW ?_
 refine aP3 rfl fun Q hQ=> ?_
 unfold at4
 have hA:bQ nx [i]:=AM.apart (by simp) (by simp;omega)
 simp only[bQ,eZ] at hA
 repeat' (first| (with_reducible first| (refine hK _ _ _ ?_;clear hK K)|refine Z1 ?_)| (first| (with_reducible refine Y2 fun K hK=> ?_)| (refine aQN (p:=p) hl (by omega) (by omega) (by rw[aA.aC (by omega)];exact ho) (fun H1 nx1 pb m la aUU Ps bl cl bp cp mp b0 c0 h1 h2 h3 h4 h5 h6 q0 q3 q5 q4 e1 e2 aUV aUW aIG aII aUX aIH hnd qf=> ?_)))<;>(simp only[go_sem,Nat.add_assoc,Nat.left_eq_add,Nat.add_eq_left,hA])|fail)
 have h3:=h3.1
 have h6: ∀pr∈aUU::Ps,pr.length≤12∧ ∀q∈pr,q.data.length≤8∧q.lanes.length≤8:=fun pr hpr=>⟨(h6 pr hpr).1,fun q hq=>aTR ((h6 pr hpr).2 q hq)⟩
 have q1:H1 nx=some ⟨3,1,[[.osl 0 0 0 0 0,.osl 0 0 0 0 0,.osl 0 0 0 0 0]]⟩:=by rw[qf _ (by omega) (by omega)];exact aA.bH
 have qf: ∀id,id<nx→id≠i→H1 id=H id:=fun id h1 h2=>by rw[qf id (by omega) h2,aA.aC (by omega)]
 have hbl: ¬bl=bp∧ ¬bl=b0∧ ¬bp=b0:=by simp at hnd;omega
 generalize hG:H1.set (nx+3) _=G
 have hG:=hG.symm
 have r0:G i=some (rdO l pb):=by rw[hG,aA.aC (by omega)];exact q0
 have r1:G nx=some ⟨3,1,[[.osl 0 0 0 0 0,.osl 0 0 0 0 0,.osl 0 0 0 0 0]]⟩:=by rw[hG,aA.aC (by omega)];exact q1
 have r2:G (nx+3)=some ⟨3,1,[[.isl (m.map eN),.osl 1 bl 0 4 cl,.osl 1 bp 0 3 cp]]⟩:=by rw[hG];exact aA.bH
 obtain⟨ml,r3,d1,d2⟩:Own aJ 1 G bl cl la:=q3.of (by rw[hG,aA.aC (by omega)])
 have r4:G bp=some ⟨1,mp,[.osl 7 b0 0 aUU.length c0]::Ps.map jR⟩:=by rw[hG,aA.aC (by omega)];exact q4
 obtain⟨mr,r5,d3,d4⟩:Own eB 7 G b0 c0 aUU:=q5.of (by rw[hG,aA.aC (by omega)])
 have rf: ∀id,id<nx→id≠i→G id=H id:=fun id h1 h2=>by rw[hG,aA.aC (by omega)];exact qf id h1 h2
 clear hG q0 q1 q3 q4 q5 qf
 have hA1:bQ nx1 [i,nx,nx+3,bl,bp,b0]:=AM.apart (by simp;omega) (by simp;omega)
 simp only[bQ,eZ] at hA1
 have endA: ∀(aID:aA) (nx2:Nat) (m':List Rng) (la':List Int) (P':List Prog) (d1 d2 d3:D1) (pb2:Nat) (F:Nat→Prop),nx1≤nx2→aID nx=some ⟨3,1,[[d1,d2,d3]]⟩→m'.length≤8→la'.length≤4→P'.length≤3→(∀pr∈P',pr.length≤13∧ ∀q∈pr,q.data.length≤8∧q.lanes.length≤8)→p≤pb2→pb2≤p+1200→aID i=some (rdO l pb2)→(∀id,id<nx→id≠i→aID id=H id)→(∀j,F j→nx+5≤j)→Frz aID F (.isl (m'.map eN)) d1→Frz aID F (.isl (la'.map aJ)) d2→Frz aID F (.isl (P'.map jR)) d3→
  ∀{e2:Env},e2 4= .one (.c (.ptr 3 nx 0 0))→Q .ret e2 aID nx2:=fun aID nx2 m' la' P' d1 d2 d3 pb2 F g1 g2 g3 g4 g5 g6 g7 g8 g9 g10 g11 g12 g13 g14 e2 he=>by
  refine hQ _ _ _ _ _ (.inr rfl) (fZ (m:=1) he g2 rfl) ⟨dA (cU ⟨m',la',P'⟩),without F aID,F,A8 (fO g12 (fO g13 (fO g14 LH))),kS,h _ nx2 pb2 _ (by omega) (aT9 g3 g4 g5 g6) g7 g8 (by rw[iI fun hj=>by have:=g11 _ hj;omega];exact g9) fun id h1 h2=>by rw[iI fun hj=>by have:=g11 _ hj;omega];exact g10 id h1 h2⟩
 have fl: ∀(aID:aA) (F:Nat→Prop) (L:List Int),L.length=4→aID bl=some ⟨1,ml,L.map aJ⟩→F bl→Frz aID F (.isl (L.map aJ)) (.osl 1 bl 0 4 cl):=fun aID F L h0 h1 h2=>ay5 (σ:=id) (nh:=0) rfl (bW bF h1 h0.symm (by omega) h2)
 have fp: ∀(aID:aA) (F:Nat→Prop),aID bp=some ⟨1,mp,[.osl 7 b0 0 aUU.length c0]::Ps.map jR⟩→aID b0=some ⟨7,mr,aUU.map eB⟩→F bp→F b0→Frz aID F (.isl ((aUU::Ps).map jR)) (.osl 1 bp 0 3 cp):=fun aID F h1 h2 h7 h8=>by
  have:=aS9 (F:=F) h1 rfl ⟨mr,h2,d3,d4⟩ h7 h8 (show Ps.length+1≤cp by omega)
  rwa [show Ps.length+1=3 by omega] at this
 (try simp only[go_sem,Nat.add_assoc,Nat.left_eq_add,Nat.add_eq_left,r0,r1,r2,r3,r4,r5,hA1]);repeat' (first| (with_reducible first| (refine hK _ _ _ ?_;clear hK K)| (refine hA ?_;clear hA hB A B)| (refine hB ?_;clear hA hB A B)|refine Z1 ?_|refine Z2 ?_)| (first| (with_reducible first|refine Y2 fun K hK=> ?_|refine Y3 fun A B hA hB=> ?_)| (refine d6 (p:=pb) hn hl (by omega) (by omega) r0 (fun p1 bb hp1 hp2 _=> ?_)))<;>(simp only[go_sem,Nat.add_assoc,Nat.left_eq_add,Nat.add_eq_left,r0,r1,r2,r3,r4,r5,hA1])| ((with_reducible refine Y8 ?_);try simp only[AQ.then,AQ.blk,reduceIte,Nat.reduceEqDiff])| ((with_reducible refine Z8 (fun h=> ?_) (fun h=> ?_))<;>try subst h)|fail)
 case refine_2=>
  exact endA _ _ m la (aUU::Ps) _ _ _ p1 (fun j=>j=bl∨j=bp∨j=b0) (by omega) aA.bH (by omega) (by omega) (by simp;omega) (fun pr hpr=>by have:=h6 pr hpr;exact⟨by omega,this.2⟩) (by omega) (by omega) (by simp only[aA.set,aA.del,Nat.add_assoc,Nat.reduceAdd,Nat.add_left_cancel_iff,Nat.reduceEqDiff,Nat.left_eq_add,Nat.add_eq_left,if_true,if_false,hA1];done) (fun id h1 h2=>by rw[aA.aC (by omega),aA.aC h2];exact rf id h1 h2) (fun j hj=>by omega) (.same _ rfl) (fl _ _ _ h4 (by simp only[aA.set,aA.del,Nat.add_assoc,Nat.reduceAdd,Nat.add_left_cancel_iff,Nat.reduceEqDiff,Nat.left_eq_add,Nat.add_eq_left,if_true,if_false,hA1,r3];done) (.inl rfl)) (fp _ _ (by simp only[aA.set,aA.del,Nat.add_assoc,Nat.reduceAdd,Nat.add_left_cancel_iff,Nat.reduceEqDiff,Nat.left_eq_add,Nat.add_eq_left,if_true,if_false,hA1,r4];done) (by simp only[aA.set,aA.del,Nat.add_assoc,Nat.reduceAdd,Nat.add_left_cancel_iff,Nat.reduceEqDiff,Nat.left_eq_add,Nat.add_eq_left,if_true,if_false,hA1,r5];done) (.inr (.inl rfl)) (.inr (.inr rfl))) rfl
 generalize hG:aA.set G i _=aID
 have hG:=hG.symm
 have q0:aID i=some (rdO l p1):=by rw[hG];exact aA.bH
 have q1:aID nx=some ⟨3,1,[[.osl 0 0 0 0 0,.osl 0 0 0 0 0,.osl 0 0 0 0 0]]⟩:=by rw[hG,aA.aC (by omega)];exact r1
 have q2:aID (nx+3)=some ⟨3,1,[[.isl (m.map eN),.osl 1 bl 0 4 cl,.osl 1 bp 0 3 cp]]⟩:=by rw[hG,aA.aC (by omega)];exact r2
 have q3:aID bl=some ⟨1,ml,la.map aJ⟩:=by rw[hG,aA.aC (by omega)];exact r3
 have q4:aID bp=some ⟨1,mp,[.osl 7 b0 0 aUU.length c0]::Ps.map jR⟩:=by rw[hG,aA.aC (by omega)];exact r4
 have q5:aID b0=some ⟨7,mr,aUU.map eB⟩:=by rw[hG,aA.aC (by omega)];exact r5
 have qf: ∀id,id<nx→id≠i→aID id=H id:=fun id h1 h2=>by rw[hG,aA.aC h2];exact rf id h1 h2
 clear hG r0 r1 r2 r3 r4 r5 rf
 have hM: ∀(d k:Nat) (G:aA),msk (nx1+d) [k] G (nx+3)=G (nx+3):=fun d k G=>mk1 (by omega)
 refine aX (p:=p1) hl (by omega) (by omega) (by omega) q0 fun x h1 h2=> ?_
 (try simp only[go_sem,Nat.add_assoc,Nat.left_eq_add,Nat.add_eq_left,q0,q1,q2,q3,q4,q5,hA1,hM]);repeat' (first| (with_reducible first| (refine hK _ _ _ ?_;clear hK K)| (refine hA ?_;clear hA hB A B)| (refine hB ?_;clear hA hB A B)|refine Z1 ?_|refine Z3 fun KB hKB=> ?_|refine Z6 (fun h=> ?_) fun h=> ?_)| (first| (with_reducible first|refine Y2 fun K hK=> ?_|refine Y3 fun A B hA hB=> ?_)| (refine aQQ (p:=p1+1) hl (by omega) (by omega) aA.bH (fun p2 m2 hp1 hp2 hm2=> ?_)))<;>(simp only[go_sem,Nat.add_assoc,Nat.left_eq_add,Nat.add_eq_left,q0,q1,q2,q3,q4,q5,hA1,hM])| ((with_reducible refine Y8 ?_);try simp only[AQ.then,AQ.blk,reduceIte,Nat.reduceEqDiff])| ((with_reducible refine Y0 ?_);simp only[AQ.then,AQ.blk])|refine⟨by omega,?_⟩| (with_reducible refine hKB _ _ _ ?_)|fail)
 ·exact endA _ _ m2 la (aUU::Ps) _ _ _ p2 (fun j=>j=bl∨j=bp∨j=b0) (by omega) aA.bH (by omega) (by omega) (by simp;omega) (fun pr hpr=>by have:=h6 pr hpr;exact⟨by omega,this.2⟩) (by omega) (by omega) (by simp only[aA.set,aA.del,Nat.add_assoc,Nat.reduceAdd,Nat.add_left_cancel_iff,Nat.reduceEqDiff,Nat.left_eq_add,Nat.add_eq_left,if_true,if_false,hA1];done) (fun id h1 h2=>by rw[aA.aC (by omega),aA.aC (by omega),aA.aC h2];exact qf id h1 h2) (fun j hj=>by omega) (.same _ rfl) (fl _ _ _ h4 (by simp only[aA.set,aA.del,Nat.add_assoc,Nat.reduceAdd,Nat.add_left_cancel_iff,Nat.reduceEqDiff,Nat.left_eq_add,Nat.add_eq_left,if_true,if_false,hA1,q3];done) (.inl rfl)) (fp _ _ (by simp only[aA.set,aA.del,Nat.add_assoc,Nat.reduceAdd,Nat.add_left_cancel_iff,Nat.reduceEqDiff,Nat.left_eq_add,Nat.add_eq_left,if_true,if_false,hA1,q4];done) (by simp only[aA.set,aA.del,Nat.add_assoc,Nat.reduceAdd,Nat.add_left_cancel_iff,Nat.reduceEqDiff,Nat.left_eq_add,Nat.add_eq_left,if_true,if_false,hA1,q5];done) (.inr (.inl rfl)) (.inr (.inr rfl))) rfl
 ·refine aX (p:=p1+1) hl (by omega) (by omega) (by omega) aA.bH fun y hy1 hy2=> ?_
  (try simp only[go_sem,Nat.add_assoc,Nat.left_eq_add,Nat.add_eq_left,q0,q1,q2,q3,q4,q5,hA1,hM]);skip
  generalize aU3:dT (nx1+9) [4] _ (msk (nx1+9) [4] aID)=U
  have k1:U nx=some ⟨3,1,[[.osl 0 0 0 0 0,.osl 0 0 0 0 0,.osl 0 0 0 0 0]]⟩:=by rw[←aU3,um1 (by omega),mk1 (by omega)];exact q1
  have k2:U (nx+3)=some ⟨3,1,[[.isl (m.map eN),.osl 1 bl 0 4 cl,.osl 1 bp 0 3 cp]]⟩:=by rw[←aU3,um1 (by omega),mk1 (by omega)];exact q2
  have k3:U bl=some ⟨1,ml,la.map aJ⟩:=by rw[←aU3,um1 (by omega),mk1 (by omega)];exact q3
  have k4:U bp=some ⟨1,mp,[.osl 7 b0 0 aUU.length c0]::Ps.map jR⟩:=by rw[←aU3,um1 (by omega),mk1 (by omega)];exact q4
  have k5:U b0=some ⟨7,mr,aUU.map eB⟩:=by rw[←aU3,um1 (by omega),mk1 (by omega)];exact q5
  have kf: ∀id,id<nx→id≠i→U id=H id:=fun id h1 h2=>by rw[←aU3,um1 (by omega),mk1 (by omega)];exact qf id h1 h2
  have k6:U (nx1+9+4)=some ⟨1,2,[[.v (.int .i64 (-1))],[.v (.int .i64 4)]]⟩:=by rw[←aU3,aH6];exact aA.bH
  clear aU3 q0 q1 q2 q3 q4 q5 qf
  refine⟨fun _=>by rw[k2];rfl,?_⟩
  refine aX (p:=p1+2) hl (by omega) (by omega) (by omega) aA.bH fun z hz1 hz2=> ?_
  (try simp only[go_sem,Nat.add_assoc,Nat.left_eq_add,Nat.add_eq_left,k2,hA1,hM]);skip
  generalize aU3:dT (nx1+9) [4] _ (msk (nx1+9) [4] U)=V
  have t1:V nx=some ⟨3,1,[[.osl 0 0 0 0 0,.osl 0 0 0 0 0,.osl 0 0 0 0 0]]⟩:=by rw[←aU3,um1 (by omega),mk1 (by omega)];exact k1
  have t2:V (nx+3)=some ⟨3,1,[[.isl (m.map eN),.osl 1 bl 0 4 cl,.osl 1 bp 0 3 cp]]⟩:=by rw[←aU3,um1 (by omega),mk1 (by omega)];exact k2
  have t3:V bl=some ⟨1,ml,la.map aJ⟩:=by rw[←aU3,um1 (by omega),mk1 (by omega)];exact k3
  have t4:V bp=some ⟨1,mp,[.osl 7 b0 0 aUU.length c0]::Ps.map jR⟩:=by rw[←aU3,um1 (by omega),mk1 (by omega)];exact k4
  have aU1:V b0=some ⟨7,mr,aUU.map eB⟩:=by rw[←aU3,um1 (by omega),mk1 (by omega)];exact k5
  have tf: ∀id,id<nx→id≠i→V id=H id:=fun id h1 h2=>by rw[←aU3,um1 (by omega),mk1 (by omega)];exact kf id h1 h2
  have aU2:V (nx1+13)=some ⟨1,2,[[.v (.int .i64 (-1))],[.v (.int .i64 4)]]⟩:=by
   rw[show nx1+13=nx1+9+4 from rfl,←aU3,aH6,aA.aC (by omega)];exact k6
  clear aU3 k1 k2 k3 k4 k5 k6 kf
  refine⟨fun _=>by rw[t2];rfl,by omega,?_⟩
  obtain⟨v,hv⟩:=aN1 (L:=[[.v (.int .i64 (-1))],[.v (.int .i64 4)]]) (by simp) hz1 (by simp;omega)
  (try simp only[go_sem,Nat.add_assoc,Nat.left_eq_add,Nat.add_eq_left,t1,t2,t3,t4,aU1,aU2,hv,hA1,hM]);repeat' (first| (with_reducible first| (refine hK _ _ _ ?_;clear hK K)|refine Z1 ?_)| (with_reducible refine Y2 fun K hK=> ?_)<;>(simp only[go_sem,Nat.add_assoc,Nat.left_eq_add,Nat.add_eq_left,t1,t2,t3,t4,aU1,aU2,hv,hA1,hM])| ((with_reducible refine Y8 ?_);try simp only[AQ.then,AQ.blk,reduceIte,Nat.reduceEqDiff])| ((with_reducible refine Y0 ?_);simp only[AQ.then,AQ.blk])|refine⟨by omega,?_⟩| (with_reducible refine hKB _ _ _ ?_)|fail)
  exact endA _ _ m (la.set y.toNat v) (aUU::Ps) _ _ _ (p1+3) (fun j=>j=bl∨j=bp∨j=b0) (by omega) aA.bH (by omega) (by simp;omega) (by simp;omega) (fun pr hpr=>by have:=h6 pr hpr;exact⟨by omega,this.2⟩) (by omega) (by omega) (by simp only[aA.set,aA.del,Nat.add_assoc,Nat.reduceAdd,Nat.add_left_cancel_iff,Nat.reduceEqDiff,Nat.left_eq_add,Nat.add_eq_left,if_true,if_false,hA1];done) (fun id h1 h2=>by rw[aA.aC (by omega),aA.aC (by omega),aA.aC h2];exact tf id h1 h2) (fun j hj=>by omega) (.same _ rfl) (fl _ _ _ (by simp;omega) (by simp only[aA.set,aA.del,Nat.add_assoc,Nat.reduceAdd,Nat.add_left_cancel_iff,Nat.reduceEqDiff,Nat.left_eq_add,Nat.add_eq_left,if_true,if_false,hA1];done) (.inl rfl)) (fp _ _ (by simp only[aA.set,aA.del,Nat.add_assoc,Nat.reduceAdd,Nat.add_left_cancel_iff,Nat.reduceEqDiff,Nat.left_eq_add,Nat.add_eq_left,if_true,if_false,hA1,t4];done) (by simp only[aA.set,aA.del,Nat.add_assoc,Nat.reduceAdd,Nat.add_left_cancel_iff,Nat.reduceEqDiff,Nat.left_eq_add,Nat.add_eq_left,if_true,if_false,hA1,aU1];done) (.inr (.inl rfl)) (.inr (.inr rfl))) rfl
 ·exact endA _ _ m (la.drop 1) (aUU::Ps) _ _ _ (p1+1) (fun j=>j=bl∨j=bp∨j=b0) (by omega) aA.bH (by omega) (by simp;omega) (by simp;omega) (fun pr hpr=>by have:=h6 pr hpr;exact⟨by omega,this.2⟩) (by omega) (by omega) (by simp only[aA.set,aA.del,Nat.add_assoc,Nat.reduceAdd,Nat.add_left_cancel_iff,Nat.reduceEqDiff,Nat.left_eq_add,Nat.add_eq_left,if_true,if_false,hA1,q0];done) (fun id h1 h2=>by rw[aA.aC (by omega),aA.aC (by omega),aA.aC h2];exact qf id h1 h2) (fun j hj=>by omega) (.same _ rfl) (ay5 (σ:=id) (nh:=0) rfl (aTY (aG bF _) (by simp;omega) (.inl rfl) (show aA.set _ nx _ bl=some ⟨1,ml,la.map aJ⟩ from (by simp only[aA.set,aA.del,Nat.add_assoc,Nat.reduceAdd,Nat.add_left_cancel_iff,Nat.reduceEqDiff,Nat.left_eq_add,Nat.add_eq_left,if_true,if_false,hA1,q3];done)) rfl (by simp;omega) (by rw[List.take_of_length_le (by simp),List.map_drop]) (by simp;omega))) (fp _ _ (by simp only[aA.set,aA.del,Nat.add_assoc,Nat.reduceAdd,Nat.add_left_cancel_iff,Nat.reduceEqDiff,Nat.left_eq_add,Nat.add_eq_left,if_true,if_false,hA1,q4];done) (by simp only[aA.set,aA.del,Nat.add_assoc,Nat.reduceAdd,Nat.add_left_cancel_iff,Nat.reduceEqDiff,Nat.left_eq_add,Nat.add_eq_left,if_true,if_false,hA1,q5];done) (.inr (.inl rfl)) (.inr (.inr rfl))) rfl
 ·exact endA _ _ m la Ps _ _ _ (p1+1) (fun j=>j=bl∨j=bp∨j=b0) (by omega) aA.bH (by omega) (by omega) (by omega) (fun pr hpr=>by have:=h6 pr (List.mem_cons_of_mem _ hpr);exact⟨by omega,this.2⟩) (by omega) (by omega) (by simp only[aA.set,aA.del,Nat.add_assoc,Nat.reduceAdd,Nat.add_left_cancel_iff,Nat.reduceEqDiff,Nat.left_eq_add,Nat.add_eq_left,if_true,if_false,hA1,q0];done) (fun id h1 h2=>by rw[aA.aC (by omega),aA.aC (by omega),aA.aC h2];exact qf id h1 h2) (fun j hj=>by omega) (.same _ rfl) (fl _ _ _ h4 (by simp only[aA.set,aA.del,Nat.add_assoc,Nat.reduceAdd,Nat.add_left_cancel_iff,Nat.reduceEqDiff,Nat.left_eq_add,Nat.add_eq_left,if_true,if_false,hA1,q3];done) (.inl rfl)) (aT7 (Ps:=Ps) (mp:=mp) (r:=[.osl 7 b0 0 aUU.length c0]) (by simp only[aA.set,aA.del,Nat.add_assoc,Nat.reduceAdd,Nat.add_left_cancel_iff,Nat.reduceEqDiff,Nat.left_eq_add,Nat.add_eq_left,if_true,if_false,hA1,q4];done) (.inr (.inl rfl)) h5.symm (by omega)) rfl
 ·have hN: ∀(d k:Nat) (G:aA),msk (nx1+d) [k] G bp=G bp:=fun d k G=>mk1 (by omega)
  have htk:aUU.take aUU.length=aUU:=List.take_length
  (try simp only[go_sem,Nat.add_assoc,Nat.left_eq_add,Nat.add_eq_left,q0,q1,q2,q3,q4,q5,hA1,hM,hN]);skip
  refine aRK (p:=p1+1) hl (by omega) (by omega) aA.bH fun p2 q hp1 hp2 hm2=> ?_
  (try simp only[go_sem,Nat.add_assoc,Nat.left_eq_add,Nat.add_eq_left,q0,q1,q2,q3,q4,q5,hA1,hM,hN,htk]);repeat' (first|refine⟨by omega,?_⟩|fail)
  have h60:=h6 aUU (by simp)
  refine⟨by omega,fun cap hcap _=>⟨by omega,?_⟩⟩
  refine hK _ _ _ ?_
  clear hK K
  repeat' (first| (with_reducible first| (refine hK _ _ _ ?_;clear hK K)|refine Z1 ?_)| (with_reducible refine Y2 fun K hK=> ?_)<;>(simp only[go_sem,q0,q1,q2,q3,q4,q5,hA1])| ((with_reducible refine Y8 ?_);try simp only[AQ.then,AQ.blk,reduceIte,Nat.reduceEqDiff])| ((with_reducible refine Y0 ?_);simp only[AQ.then,AQ.blk])| (with_reducible refine hKB _ _ _ ?_)|fail)
  refine endA _ _ m la ((aUU++[q])::Ps) _ _ _ p2 (fun j=>j=bl∨j=bp∨j=nx1+22) (by omega) aA.bH (by omega) (by omega) (by simp;omega) (fun pr hpr=> ?_) (by omega) (by omega) (by simp only[aA.set,aA.del,Nat.add_assoc,Nat.reduceAdd,Nat.add_left_cancel_iff,Nat.reduceEqDiff,Nat.left_eq_add,Nat.add_eq_left,if_true,if_false,hA1];done) (fun id h1 h2=>by rw[aA.aC (by omega),aA.aC (by omega),aA.aC (by omega),aA.aC (by omega),aA.aC h2,aA.jG (by omega)];exact qf id h1 h2) (fun j hj=>by omega) (.same _ rfl) (fl _ _ _ h4 (by simp only[aA.set,aA.del,Nat.add_assoc,Nat.reduceAdd,Nat.add_left_cancel_iff,Nat.reduceEqDiff,Nat.left_eq_add,Nat.add_eq_left,if_true,if_false,hA1,q3];done) (.inl rfl)) ?_ rfl
  ·rcases List.mem_cons.1 hpr with hpr|hpr
   ·subst hpr
    refine⟨by rw[List.length_append,List.length_singleton];omega,fun q' hq'=> ?_⟩
    rcases List.mem_append.1 hq' with hq'|hq'
    ·exact h60.2 q' hq'
    ·simp at hq';subst hq';exact hm2
   ·have:=h6 pr (List.mem_cons_of_mem _ hpr);exact⟨by omega,this.2⟩
  ·have e3:(3:Nat)=Ps.length+1:=by omega
   rw[e3]
   exact aS9 (mp:=mp) (b0:=nx1+22) (c0:=cap) (len0:=aUU.length+1) (by simp only[aA.set,aA.del,Nat.add_assoc,Nat.reduceAdd,Nat.add_left_cancel_iff,Nat.reduceEqDiff,Nat.left_eq_add,Nat.add_eq_left,if_true,if_false,hA1];done) (by simp) ⟨cap,(by simp only[aA.set,aA.del,Nat.add_assoc,Nat.reduceAdd,Nat.add_left_cancel_iff,Nat.reduceEqDiff,Nat.left_eq_add,Nat.add_eq_left,if_true,if_false,hA1];done),by simpa using hcap,Nat.le_refl _⟩ (.inr (.inl rfl)) (.inr (.inr rfl)) (by omega)
end
end Go.Proofs.YtegiblhkjfiooaaGreat
end
