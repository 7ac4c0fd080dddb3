/- Texts laid together by a program: rules, contracts and the walk that leads to the law. -/
import Derived.Test.YtmccpdapaccnoaaGreatPD5
import Derived.Test.YtmccpdapaccnoaaGreatPD11
import Derived.Test.YtmccpdapaccnoaaGreatPD19
import Derived.Test.YtmccpdapaccnoaaGreatPD9
import Derived.Test.YtmccpdapaccnoaaGreatPD10
import Derived.Test.YtmccpdapaccnoaaGreatPD7
import Derived.Test.YtmccpdapaccnoaaGreatPD17
set_option linter.unusedVariables false
set_option linter.unusedSimpArgs false
set_option linter.unusedSectionVars false
set_option maxRecDepth 100000
set_option maxHeartbeats 8000000
namespace Go.Proofs.YtmccpdapaccnoaaGreat.bkX
open Go Go.AM Go.Proofs.YtmccpdapaccnoaaGreat
section
variable {H : aA} {nx : Nat} {K : D → aA → Nat → Prop}
theorem MM {q:Req} (h:dH q):dH ⟨q.id,3,q.addr,1,false,[],[]⟩:=by obtain⟨h1,h2,⟨h3,h4,h5⟩,h6⟩:=h;refine⟨h1,by dsimp only;omega,⟨by dsimp only;omega,h4,.inr (by dsimp only;omega)⟩,by simp[n5],by simp[n5],fun x hx=>by simp at hx,fun x hx=>by simp at hx,.inr (.inr rfl)⟩
theorem L4 {q:Req} (h:dH q):q.data.length<2^40∧q.g6.length<2^40:=by
 obtain⟨h1,h2,⟨h3,h4,h5⟩,h6,h7,h8⟩:=h;unfold n5 at h6 h7;constructor;·split at h6<;>omega
 ·split at h7<;>omega
theorem yB (l:List Int):aB Tryz.prog kN [dS (l.map eU8)] (hp []) 0 fun r H' n'=>n'=1∧H'=hp [(0,rdO (l.take 2000) 0)]∧r=bkP 2 0:=by
 refine DY rfl fun Q hQ=> ?_;unfold oT;repeat' first|apply bn1<;>(simp only[go_sem])|refine bnE (fun h=> ?_) fun h=> ?_|refine⟨by omega,?_⟩|fail
 ·have e:l.take 2000=(l.take 2000).take 2000:=by rw[List.take_take];simp
  (refine hQ _ _ _ _ _ 1 (bkP 2 0) (hp [(0,rdO (l.take 2000) 0)]) _ _ (.inr rfl) rfl (fU [9] (by omega) (by repeat' first| ((with_reducible apply bo0);exact bpC (by omega) rfl)| ((with_reducible apply bo1);apply bo7)|fail) ⟨⟨by simp,by simp[sgL],_,rfl,bS (aV _ _)⟩,trivial⟩ (by simp[sgL])) ?_);exact⟨rfl,rfl,rfl⟩
 · (refine hQ _ _ _ _ _ 1 (bkP 2 0) (hp [(0,rdO l 0)]) _ _ (.inr rfl) rfl (fU [6] (by omega) (by repeat' first| ((with_reducible apply bo0);exact bpC (by omega) rfl)| ((with_reducible apply bo1);apply bo7)|fail) ⟨⟨by simp,by simp[sgL],_,rfl,bS (aV _ _)⟩,trivial⟩ (by simp[sgL])) ?_)
   exact⟨rfl,by rw[boL (by omega)],rfl⟩
theorem F2 {l:List Int} (h:K (bkP 2 nx) (H.set nx (rdO (l.take 2000) 0)) (nx+1)):aB Tryz.prog kN [dS (l.map eU8)] H nx K:=by
 refine(yB l).AF (l0:=[]) [] rfl ⟨aE rfl,trivial⟩ trivial (by simp) (by simp) (by simp) fun r H' n' _ ⟨q1,q2,q3⟩=> ?_;subst q1;subst q2;subst q3;have e1:back (tau 0 nx (nth [])) (hp [(0,rdO (l.take 2000) 0)]) 1 H=H.set nx (rdO (l.take 2000) 0):=by simp only[back,hp,aA.set,tau,bq2,if_true,if_false,Nat.sub_zero,Nat.add_zero,Option.map_some,rF (aV _ _),aA.eL]
 rw[←e1] at h;exact h
end
end Go.Proofs.YtmccpdapaccnoaaGreat.bkX
namespace Go.Proofs.YtmccpdapaccnoaaGreat
open Go Go.AM
attribute [local irreducible] aM wv aB vd wvH
theorem UA:cJ Tryz.prog CS Tryz.f140 zW IZ:=cJ.mk Tryz.func140 (by kernel_rfl) UW
theorem T4:cJ Tryz.prog B9 Tryz.f115 z9 I6:=cJ.mk Tryz.func115 (by kernel_rfl) U3
theorem RX:cJ Tryz.prog AE Tryz.f143 yD FE:=cJ.mk Tryz.func143 (by kernel_rfl) R1
section
variable {H : aA} {nx : Nat} {K : D → aA → Nat → Prop}
theorem YE (h: ∀H' nx',nx+4≤nx'→H' (nx+1)=some ⟨1,3,[true,true,true].map eH⟩→H' (nx+2)=some ⟨1,4,[false,false,false,false].map eH⟩→H' (nx+3)=some ⟨1,3,[true,true,true].map eH⟩→(∀id,id<nx→H' id=H id)→K (boR [.osl 1 (nx+1) 0 3 3,.osl 1 (nx+2) 0 4 4,.osl 1 (nx+3) 0 3 3]) H' nx'):aB Tryz.prog CS [] H nx K:=by
 refine UA rfl fun Q hQ=> ?_;unfold zW;repeat' first|apply bn1<;>(simp only[go_sem,boC])|fail
 refine hQ _ _ _ _ _ (.inr rfl) (fZ (m:=1) rfl (by simp only[aA.set,bqT,Nat.reduceEqDiff,if_false,if_true,brN,reduceIte]) rfl) (h _ _ (by omega) ?_ ?_ ?_ fun id hid=> ?_);·simp only[aA.set,bqU,Nat.reduceEqDiff,if_false,if_true];rfl
 ·simp only[aA.set,bqU,Nat.reduceEqDiff,if_false,if_true];rfl
 ·simp only[aA.set,bqU,Nat.reduceEqDiff,if_false,if_true];rfl
 ·simp only[aA.set,show ¬id=nx by omega,show ¬id=nx+1 by omega,show ¬id=nx+2 by omega,show ¬id=nx+3 by omega,if_false]
theorem YJ {l:List Int} {p i:Nat} {slow:Int} (hl:kZ l) (hp50:p+20<2^50) (hsl:0<slow∧slow<1000) (hi:i<nx) (ho:H i=some (rdO l p))
 (h: ∀H' nx' p' x,nx≤nx'→p'≤p+10→vZ x→H' i=some (rdO l p')→(∀id,id<nx→id≠i→H' id=H id)→K (boR (eIn x)) H' nx'):aB Tryz.prog B9 [bkP 2 i,boP slow] H nx K:=by
 apply aB.tW
 refine T4 rfl fun Q hQ=> ?_
 unfold z9
 repeat' first| (first|apply bn1|refine YE (fun H' nx' hx bpR f2 bpS ffr=> ?_))<;>(simp only[go_sem,boC])|fail
 refine aM.TF fun bqO hG0=> ?_
 have c0:bqO nx=some ⟨3,1,[[.osl 0 0 0 0 0,.osl 0 0 0 0 0,.osl 0 0 0 0 0]]⟩:=by rw[hG0,aA.aC (by omega),ffr _ (by omega)];exact aA.bH
 have c2:bqO (nx+2)=some ⟨3,1,[[.osl 1 (nx+5) 0 3 3,.osl 1 (nx+6) 0 4 4,.osl 1 (nx+7) 0 3 3]]⟩:=by rw[hG0];exact aA.bH
 have c5:bqO (nx+5)=some ⟨1,3,[true,true,true].map eH⟩:=by rw[hG0,aA.aC (by omega)];exact bpR
 have bkY:bqO (nx+6)=some ⟨1,4,[false,false,false,false].map eH⟩:=by rw[hG0,aA.aC (by omega)];exact f2
 have bkZ:bqO (nx+7)=some ⟨1,3,[true,true,true].map eH⟩:=by rw[hG0,aA.aC (by omega)];exact bpS
 have ci:bqO i=some (rdO l p):=by rw[hG0,aA.aC (by omega),ffr _ (by omega),aA.aC (by omega)];exact ho
 have cfr: ∀id,id<nx→bqO id=H id:=fun id hid=>by rw[hG0,aA.aC (by omega),ffr _ (by omega),aA.aC (by omega)]
 clear hG0 bpR f2 bpS ffr
 refine aM.gP (β:=Nat×Nat×List Bool×List Bool) (fun u=>en [(6,boP u.1),(5,.one (.c (.ptr 3 (nx+2) 0 0))),(4,.one (.c (.ptr 3 nx 0 0))),(1,boP slow),(0,bkP 2 i)])
  (fun u H1 _=>u.1≤3∧u.2.1≤p+2*u.1∧u.2.2.1.length=3∧u.2.2.2.length=3∧H1 i=some (rdO l u.2.1)∧H1 (nx+5)=some ⟨1,3,u.2.2.1.map eH⟩∧H1 (nx+7)=some ⟨1,3,u.2.2.2.map eH⟩∧ ∀id,id<nx+8→id≠i→id≠nx+5→id≠nx+7→H1 id=bqO id)
  (fun u=>3-u.1) (0,p,[true,true,true],[true,true,true]) ⟨noF,_,by repeat' first|exact bo2|refine xqI rfl rfl ?_|refine xqP (by omega) rfl rfl ?_|fail,aK,by dsimp only;omega,by dsimp only;omega,rfl,rfl,ci,c5,bkZ,fun _ _ _ _ _=>rfl⟩ ?_
 rintro⟨k,q,ra,rc⟩ H1 nx1 hnx ⟨hk,hq,hra,hrc,gi,g5,bkV,hfr⟩ bpQ hKL
 dsimp only at hk hq hra hrc gi g5 bkV
 have g2:=(hfr (nx+2) (by omega) (by omega) (by omega) (by omega)).trans c2
 have hA:bQ nx1 [i,nx,nx+2,nx+5,nx+6,nx+7]:=AM.apart (by simp;omega) (by simp;omega)
 simp only[bQ,eZ] at hA
 by_cases hlt:k<3
 ·repeat' first| (first|apply bn1|refine aX (p:=q) hl (by omega) (by omega) (by omega) gi (fun y hy1 hy2=> ?_)|refine aX (p:=q+1) hl (by omega) (by omega) (by omega) (by simp only[aA.set,hA,if_false,if_true,gi]) (fun x h1 h2=> ?_))<;>(simp only[go_sem,boC,g2,g5,bkV,gi,hA];try simp (disch:=omega) only[Iw])|apply bn2 (by omega)|refine⟨by omega,?_⟩|fail
  have er: ∀(r:List Bool) (y:Int),(r.map eH).set k [D1.v (.bool (decide (0<y)))]=(r.set k (decide (0<y))).map eH:=fun r y=>by rw[brD];rfl
  rw[er,er];refine hKL _ _ _ (k+1,q+1+1,ra.set k (decide (0<y)),rc.set k (decide (0<x))) noF _ (by omega) (by dsimp only;omega) (by repeat' first|exact bo2|refine xqI rfl rfl ?_|refine xqP (by omega) rfl rfl ?_|fail) aK ⟨by dsimp only;omega,by dsimp only;omega,by simpa using hra,by simpa using hrc,?_,?_,?_,fun id d1 d2 d3 bkS=> ?_⟩;·dsimp only;rw[aA.aC (by omega),aA.aC (by omega)];exact aA.bH
  ·dsimp only;rw[aA.aC (by omega)];exact aA.bH
  ·exact aA.bH
  ·rw[aA.aC bkS,aA.aC d3,aA.aC d2];exact hfr id d1 d2 d3 bkS
 ·repeat' first|apply bn1<;>(simp only[go_sem])|apply bn3 (by omega)|fail
  have hk3:k=3:=by omega
  subst hk3;have bkU:=(hfr (nx+6) (by omega) (by omega) (by omega) (by omega)).trans bkY
  refine aM.gP (β:=Nat×Nat×List Bool) (fun u=>en [(7,boP u.1),(5,.one (.c (.ptr 3 (nx+2) 0 0))),(4,.one (.c (.ptr 3 nx 0 0))),(1,boP slow),(0,bkP 2 i)])
   (fun u H2 _=>u.1≤4∧u.2.1≤p+6+u.1∧u.2.2.length=4∧H2 i=some (rdO l u.2.1)∧H2 (nx+6)=some ⟨1,4,u.2.2.map eH⟩∧ ∀id,id<nx1→id≠i→id≠nx+6→H2 id=H1 id)
   (fun u=>4-u.1) (0,q,[false,false,false,false]) ⟨noF,_,by repeat' first|exact bo2|refine xqI rfl rfl ?_|refine xqP (by omega) rfl rfl ?_|fail,aK,by dsimp only;omega,by dsimp only;omega,rfl,gi,bkU,fun _ _ _ _=>rfl⟩ ?_
  rintro⟨k,q2,rb⟩ H2 nx2 hnx2 ⟨hk,hq2,hrb,hi2,h6,hfr2⟩ bqG hKM;dsimp only at hk hq2 hrb hi2 h6;have b2:=(hfr2 (nx+2) (by omega) (by omega) (by omega)).trans g2;have boW:=(hfr2 nx (by omega) (by omega) (by omega)).trans ((hfr nx (by omega) (by omega) (by omega) (by omega)).trans c0);have hA2:bQ nx2 [i,nx,nx+2,nx+5,nx+6,nx+7]:=AM.apart (by simp;omega) (by simp;omega);simp only[bQ,eZ] at hA2;by_cases hlt:k<4
  ·repeat' first| (first|apply bn1|refine aX (p:=q2) hl (by omega) (by omega) (by omega) hi2 (fun x h1 h2=> ?_))<;>(simp only[go_sem,boC,b2,h6,hi2,hA2];try simp (disch:=omega) only[Iw])|apply bn2 (by omega)|refine⟨by omega,?_⟩|fail
   have er: ∀(r:List Bool) (y:Int),(r.map eH).set k [D1.v (.bool (decide (y=0)))]=(r.set k (decide (y=0))).map eH:=fun r y=>by rw[brD];rfl
   rw[er];refine hKM _ _ _ (k+1,q2+1,rb.set k (decide (x=0))) noF _ (by omega) (by dsimp only;omega) (by repeat' first|exact bo2|refine xqI rfl rfl ?_|refine xqP (by omega) rfl rfl ?_|fail) aK ⟨by dsimp only;omega,by dsimp only;omega,by simpa using hrb,?_,?_,fun id d1 d2 d3=> ?_⟩;·dsimp only;rw[aA.aC (by omega)];exact aA.bH
   ·exact aA.bH
   ·rw[aA.aC d3,aA.aC d2];exact hfr2 id d1 d2 d3
  ·repeat' first|apply bn1<;>(simp only[go_sem,boC,b2,boW,hA2])|apply bn3 (by omega)|fail
   have boZ:=(hfr2 (nx+5) (by omega) (by omega) (by omega)).trans g5;have bk0:=(hfr2 (nx+7) (by omega) (by omega) (by omega)).trans bkV;refine hQ _ _ _ _ _ (.inr rfl) (fZ rfl aA.bH rfl) ⟨boR (eIn ⟨ra,rb,rc⟩),_,fun j=>nx+5≤j∧j<nx+5+3,lY (aH (bW mK ((aA.aC (by omega)).trans boZ) hra.symm (by dsimp only;omega) (by omega)) (aH (bW mK ((aA.aC (by omega)).trans h6) hrb.symm (by dsimp only;omega) (by omega)) (aH (bW mK ((aA.aC (by omega)).trans bk0) hrc.symm (by dsimp only;omega) (by omega)) eP))),ZW,h _ _ q2 ⟨ra,rb,rc⟩ (by omega) (by omega) ⟨hra,hrb,hrc⟩ ?_ fun id d1 d2=> ?_⟩;·rw[acA (by omega),aA.aC (by omega)];exact hi2
   ·rw[acA (by omega),aA.aC (by omega),hfr2 id (by omega) d2 (by omega),hfr id (by omega) d2 (by omega) (by omega)];exact cfr id d1
end
end Go.Proofs.YtmccpdapaccnoaaGreat
namespace Go.AM
theorem aS2 {H:aA} {nx t:Nat} {o o':bA} (h3:H t=some o) (h5:CvO H noF id nx o' o):CvX noF nx H (H.set t o'):=apO (t:=t) (o':=o') (fun j hj=>hj.elim) aA.bH h3 (fun h=>h) h5 fun j hj _=>aA.aC hj
def aTA (H:aA) (F:Nat→Prop) (σ:Nat→Nat) (nh:Nat) (R' R:List (List D1)):Prop:=R'.length=R.length∧ ∀(i:Nat) (r' r:List D1),R'[i]?=some r'→R[i]?=some r→CvL H F σ nh r' r
section
variable {H : aA} {F : Nat → Prop} {σ : Nat → Nat} {nh : Nat} {R R' S S' : List (List D1)} {r r' : List D1}
theorem aT0:aTA H F σ nh [] []:=⟨rfl,fun i r' r h=>by simp at h⟩
theorem aSR (h:CvL H F σ nh r' r) (hR:aTA H F σ nh R' R):aTA H F σ nh (r'::R') (r::R):=by
 refine⟨by simp[hR.1],fun i a b ha hb=> ?_⟩
 match i with
 |0=>simp at ha hb;subst ha;subst hb;exact h
 |i+1=>simp at ha hb;exact hR.2 i a b ha hb
theorem aTZ (hR: ∀r∈R,∀x∈r,x.dQ=true):aTA H F σ nh R R:=⟨rfl,fun i a b ha hb=>by
 rw[ha] at hb;cases hb
 exact GW fun x hx=>hR a (s3 ha) x hx⟩
theorem aTS (h:aTA H F σ nh R' R) (h2:aTA H F σ nh S' S):aTA H F σ nh (R'++S') (R++S):=by
 refine⟨by simp[h.1,h2.1],fun i a b ha hb=> ?_⟩;rw[o5] at ha hb;rw[h.1] at ha;by_cases hi:i<R.length;·rw[if_pos hi] at ha hb;exact h.2 i a b ha hb
 ·rw[if_neg hi] at ha hb;exact h2.2 _ a b ha hb
theorem aUI {n m:Nat} (h:aTA H F σ nh R' R):CvO H F σ nh ⟨n,m,R'⟩ ⟨n,m,R⟩:=by
 refine⟨rfl,rfl,Nat.le_of_eq h.1,fun _ h0=> ?_,fun i a ha=> ?_⟩;·dsimp only at h0 ⊢;have:=h.1;rw[h0] at this;exact H4.1 this.symm
 ·have hi:i<R.length:=by rw[←h.1];exact(m3.1 ha).1
  exact⟨R[i],n1 hi,h.2 i a _ ha (n1 hi)⟩
end
theorem aM.aUF {P:Program} {T:Nat} {e:Env} {H:aA} {nx:Nat} {Q:AQ} {x y:AC} {zs:List AC} {β:Type} (E:β→Env) (Φ:β→aA→Nat→Prop)
 (h1: ∀K:Env→aA→Nat→Prop,(∀e' H' nx' b F H2,nx≤nx'→CvE H' F id nx' (E b) e'→CvX F nx' H' H2→Φ b H2 nx'→K e' H' nx')→aM P T [x] e H nx (AQ.then K Q))
 (h2: ∀b H1 nx1,nx≤nx1→Φ b H1 nx1→aM P T (y::zs) (E b) H1 nx1 Q):aM P T (.seq x y::zs) e H nx Q:=by
 refine aM.seq (aM.cut (fun e' H' nx'=>nx≤nx'∧ ∃b F H2,CvE H' F id nx' (E b) e'∧CvX F nx' H' H2∧Φ b H2 nx') (h1 _ fun e' H' nx' b F H2 q1 q2 q3 q4=>⟨q1,b,F,H2,q2,q3,q4⟩) fun e' H' nx' _ ⟨q1,b,F,H2,q2,q3,q4⟩=> ?_)
 exact aM.tW (E b) H2 F (fun t=>.inr (q2 t)) q3 (h2 b H2 nx' q1 q4)
end Go.AM
namespace Go.Proofs.YtmccpdapaccnoaaGreat
open Go Go.AM
attribute [local irreducible] aM wv aB vd wvH
section
variable {H : aA} {nx : Nat} {K : D → aA → Nat → Prop}
theorem aRR:cJ Tryz.prog lJ Tryz.f270 qQ FY:=cJ.mk Tryz.func270 (by kernel_rfl) QV
theorem aQN {l:List Int} {p i:Nat} (hl:kZ l) (hp50:p+1000<2^50) (hi:i<nx) (ho:H i=some (rdO l p))
 (h: ∀H' nx' p' (m:List Rng) (la:List Int) (aUU:Prog) (Ps:List Prog) bl cl bp cp mp boW c0,p≤p'→p'≤p+1000→DH m→la.length=4∧All la 0 3→Ps.length=2→(∀pr∈aUU::Ps,pr.length≤12∧ ∀q∈pr,dH q)→H' i=some (rdO l p')→Own aJ 1 H' bl cl la→Own eB 7 H' boW c0 aUU→H' bp=some ⟨1,mp,[.osl 7 boW 0 aUU.length c0]::Ps.map jR⟩→3≤cp→cp≤mp→nx≤bl→nx≤bp→nx≤boW→bl<nx'→bp<nx'→boW<nx'→[bl,bp,boW].Nodup→(∀id,id<nx→id≠i→H' id=H id)→
  K (boR [.isl (m.map eN),.osl 1 bl 0 4 cl,.osl 1 bp 0 3 cp]) H' nx'):aB Tryz.prog lJ [bkP 2 i,boP 6] H nx K:=by
 refine aRR rfl fun Q hQ=> ?_
 unfold qQ
 have hA:bQ nx [i]:=AM.apart (by simp) (by simp;omega)
 simp only[bQ,eZ] at hA
 repeat' first| (first|apply bn1| (refine IV (p:=p) hl (by omega) (by omega) (by rw[aA.aC (by omega)];exact ho) (fun pm m hm1 hm2 hmok=> ?_)))<;>(simp only[go_sem,boC,hA])|fail
 apply aM.EJ 1
 refine aM.aTJ fun bqO hG0=> ?_
 have bqB:bqO i=some (rdO l pm):=by rw[hG0];exact(by simp only[aA.set,aA.del,t1,Nat.reduceAdd,bqU,Nat.reduceEqDiff,bqT,bqV,if_true,if_false,hA];done)
 have q1:bqO nx=some ⟨3,1,[[.osl 0 0 0 0 0,.osl 0 0 0 0 0,.osl 0 0 0 0 0]]⟩:=by rw[hG0];exact(by simp only[aA.set,aA.del,t1,Nat.reduceAdd,bqU,Nat.reduceEqDiff,bqT,bqV,if_true,if_false,hA];done)
 have q2:bqO (nx+4)=some ⟨3,1,[[.isl (m.map eN),.osl 0 0 0 0 0,.osl 0 0 0 0 0]]⟩:=by rw[hG0];exact(by simp only[aA.set,aA.del,t1,Nat.reduceAdd,bqU,Nat.reduceEqDiff,bqT,bqV,if_true,if_false,hA];done)
 have q3:bqO (nx+7)=some ⟨1,0,[]⟩:=by rw[hG0];exact(by simp only[aA.set,aA.del,t1,Nat.reduceAdd,bqU,Nat.reduceEqDiff,bqT,bqV,if_true,if_false,hA];done)
 have qf: ∀id,id<nx→id≠i→bqO id=H id:=fun id h1 h2=>by rw[hG0,aA.aC (by omega),aA.aC (by omega),aA.aC h2,aA.aC (by omega)]
 clear hG0
 refine aM.gP (β:=Nat×Nat×List Int×Nat×Nat) (fun u=>en [(6,boP u.1),(5,bkP 3 (nx+4)),(4,bkP 3 nx),(1,boP 6),(0,bkP 2 i)])
  (fun u H1 nx1=>(u.1≤4∧p≤u.2.1∧u.2.1≤p+8+u.1∧u.2.2.1.length=u.1∧nx+7≤u.2.2.2.1∧u.2.2.2.1<nx1)∧H1 i=some (rdO l u.2.1)∧H1 nx=some ⟨3,1,[[.osl 0 0 0 0 0,.osl 0 0 0 0 0,.osl 0 0 0 0 0]]⟩∧H1 (nx+4)=some ⟨3,1,[[.isl (m.map eN),.osl 1 u.2.2.2.1 0 u.1 u.2.2.2.2,.osl 0 0 0 0 0]]⟩∧Own aJ 1 H1 u.2.2.2.1 u.2.2.2.2 u.2.2.1∧All u.2.2.1 0 3∧ ∀id,id<nx→id≠i→H1 id=H id)
  (fun u=>4-u.1) (0,pm,[],nx+7,0) ⟨noF,bqO.set (nx+4) ⟨3,1,[[.isl (m.map eN),.osl 1 (nx+7) 0 0 0,.osl 0 0 0 0 0]]⟩,by repeat' first|exact bo2|refine xqI rfl rfl ?_|refine xqP (by omega) rfl rfl ?_|fail,aS2 q2 (aP (aH (bB rfl) (aH (.VS _ _ _ _ _ _) (aH (.VS _ _ _ _ _ _) eP)))),by dsimp only;simp;omega,(by simp only[aA.set,aA.del,t1,Nat.reduceAdd,bqU,Nat.reduceEqDiff,bqT,bqV,if_true,if_false,hA,bqB];done),(by simp only[aA.set,aA.del,t1,Nat.reduceAdd,bqU,Nat.reduceEqDiff,bqT,bqV,if_true,if_false,hA,q1];done),(by simp only[aA.set,aA.del,t1,Nat.reduceAdd,bqU,Nat.reduceEqDiff,bqT,bqV,if_true,if_false,hA];done),⟨0,(by simp only[aA.set,aA.del,t1,Nat.reduceAdd,bqU,Nat.reduceEqDiff,bqT,bqV,if_true,if_false,hA,q3,q0];done),m5 _,m5 _⟩,fun x hx=>absurd hx (by simp),fun id h1 h2=>by rw[aA.aC (by omega)];exact qf id h1 h2⟩ ?_
 clear bqB q1 q2 q3 qf
 rintro⟨k,pl,la,bl,cl⟩ H1 nx1 hnx1 ⟨⟨bpR,f2,bpS,bpT,bpU,bpV⟩,bqB,q1,q2,⟨ml,q3,e1,e2⟩,hal,qf⟩ bpQ hKL
 dsimp only at bpR f2 bpS bpT bpU bpV bqB q1 q2 q3 e1 e2 hal
 have hta:la.take k=la:=boL (by omega)
 have hA1:bQ nx1 [i,nx,nx+4,bl]:=AM.apart (by simp;omega) (by simp;omega)
 simp only[bQ,eZ] at hA1
 by_cases hlt:k<4
 ·have hM: ∀G:aA,msk (nx1+2) [4] G (nx+4)=G (nx+4):=fun G=>mk1 (by omega);repeat' first| (first|apply bn1|refine aX (p:=pl) hl (by omega) (by omega) (by omega) bqB (fun x h1 h2=> ?_))<;>(simp only[go_sem,boC,bqB,q1,q2,q3,hA1,hta,hM];try simp (disch:=omega) only[Iw])|apply bn2 (by omega)| (with_reducible first|refine fun(cap:Nat) (hcap:_≤cap)=> ?_|refine fun(hcp:_≤cap)=> ?_)|refine⟨by omega,?_⟩|fail
  exact hKL _ _ _ (k+1,pl+1,la++[x],nx1+7,cap) noF _ (by omega) (by dsimp only;omega) (by dsimp only;repeat' first|exact bo2|refine xqI rfl rfl ?_|refine xqP (by omega) rfl rfl ?_|fail) aK ⟨by simp;omega,(by simp only[aA.set,aA.del,t1,Nat.reduceAdd,bqU,Nat.reduceEqDiff,bqT,bqV,if_true,if_false,hA1];done),(by simp only[aA.set,aA.del,t1,Nat.reduceAdd,bqU,Nat.reduceEqDiff,bqT,bqV,if_true,if_false,hA1,q1];done),(by simp only[aA.set,aA.del,t1,Nat.reduceAdd,bqU,Nat.reduceEqDiff,bqT,bqV,if_true,if_false,hA1];done),⟨cap,(by simp only[aA.set,aA.del,t1,Nat.reduceAdd,bqU,Nat.reduceEqDiff,bqT,bqV,if_true,if_false,hA1];done),by simp;omega,m5 _⟩,KC hal (by omega) (by omega),fun id h1 h2=>by rw[aA.aC (by omega),aA.aC (by omega),aA.aC (by omega),aA.aC h2,aA.jG (by omega)];exact qf id h1 h2⟩
 have hk4:k=4:=by omega
 subst hk4
 have hl4:=bpT
 repeat' first|apply bn1<;>(simp only[go_sem,t1])|apply bn3 (by omega)|fail
 apply aM.EJ 1
 refine aM.aTJ fun bqO hG0=> ?_
 have r0:bqO i=some (rdO l pl):=by rw[hG0];exact(by simp only[aA.set,aA.del,t1,Nat.reduceAdd,bqU,Nat.reduceEqDiff,bqT,bqV,if_true,if_false,hA1,bqB];done)
 have r1:bqO nx=some ⟨3,1,[[.osl 0 0 0 0 0,.osl 0 0 0 0 0,.osl 0 0 0 0 0]]⟩:=by rw[hG0];exact(by simp only[aA.set,aA.del,t1,Nat.reduceAdd,bqU,Nat.reduceEqDiff,bqT,bqV,if_true,if_false,hA1,q1];done)
 have r2:bqO (nx+4)=some ⟨3,1,[[.isl (m.map eN),.osl 1 bl 0 4 cl,.osl 0 0 0 0 0]]⟩:=by rw[hG0];exact(by simp only[aA.set,aA.del,t1,Nat.reduceAdd,bqU,Nat.reduceEqDiff,bqT,bqV,if_true,if_false,hA1,q2];done)
 have r3:Own aJ 1 bqO bl cl la:=⟨ml,by rw[hG0];exact(by simp only[aA.set,aA.del,t1,Nat.reduceAdd,bqU,Nat.reduceEqDiff,bqT,bqV,if_true,if_false,hA1,q3];done),e1,e2⟩
 have r4:bqO (nx1+3)=some ⟨1,0,[]⟩:=by rw[hG0];exact(by simp only[aA.set,aA.del,t1,Nat.reduceAdd,bqU,Nat.reduceEqDiff,bqT,bqV,if_true,if_false,hA1];done)
 have rf: ∀id,id<nx→id≠i→bqO id=H id:=fun id h1 h2=>by rw[hG0,aA.aC (by omega)];exact qf id h1 h2
 clear hG0 bqB q1 q2 q3 qf e1 e2
 refine aM.gP (β:=Nat×Nat×(List (List D1)×Nat×Nat)×(Prog×Nat×Nat)×List Prog) (fun u=>en [(7,boP u.1),(5,bkP 3 (nx+4)),(4,bkP 3 nx),(1,boP 6),(0,bkP 2 i)])
  (fun u H1 nx1=>((u.1≤3∧p≤u.2.1∧u.2.1≤p+12+300*u.1)∧(nx+5≤u.2.2.1.2.1∧u.2.2.1.2.1<nx1∧bl≠u.2.2.1.2.1∧bl<nx1))∧H1 i=some (rdO l u.2.1)∧H1 nx=some ⟨3,1,[[.osl 0 0 0 0 0,.osl 0 0 0 0 0,.osl 0 0 0 0 0]]⟩∧H1 (nx+4)=some ⟨3,1,[[.isl (m.map eN),.osl 1 bl 0 4 cl,.osl 1 u.2.2.1.2.1 0 u.1 u.2.2.1.2.2]]⟩∧Own aJ 1 H1 bl cl la∧
   (∃mp,H1 u.2.2.1.2.1=some ⟨1,mp,u.2.2.1.1⟩∧u.1≤u.2.2.1.2.2∧u.2.2.1.2.2≤mp)∧
   (0<u.1→Own eB 7 H1 u.2.2.2.1.2.1 u.2.2.2.1.2.2 u.2.2.2.1.1∧u.2.2.1.1=[.osl 7 u.2.2.2.1.2.1 0 u.2.2.2.1.1.length u.2.2.2.1.2.2]::u.2.2.2.2.map jR∧u.2.2.2.2.length+1=u.1∧(∀pr∈u.2.2.2.1.1::u.2.2.2.2,pr.length≤12∧ ∀q∈pr,dH q)∧nx+5≤u.2.2.2.1.2.1∧u.2.2.2.1.2.1<nx1∧[bl,u.2.2.1.2.1,u.2.2.2.1.2.1].Nodup)∧(u.1=0→u.2.2.1.1=[])∧ ∀id,id<nx→id≠i→H1 id=H id)
  (fun u=>3-u.1) (0,pl,([],nx1+3,0),([],0,0),[]) ⟨noF,bqO.set (nx+4) ⟨3,1,[[.isl (m.map eN),.osl 1 bl 0 4 cl,.osl 1 (nx1+3) 0 0 0]]⟩,by repeat' first|exact bo2|refine xqI rfl rfl ?_|refine xqP (by omega) rfl rfl ?_|fail,aS2 r2 (aP (aH (bB rfl) (aH (.osl _ _ _ _ _ (by omega)) (aH (.VS _ _ _ _ _ _) eP)))),by dsimp only;omega,(by simp only[aA.set,aA.del,t1,Nat.reduceAdd,bqU,Nat.reduceEqDiff,bqT,bqV,if_true,if_false,hA1,r0];done),(by simp only[aA.set,aA.del,t1,Nat.reduceAdd,bqU,Nat.reduceEqDiff,bqT,bqV,if_true,if_false,hA1,r1];done),(by simp only[aA.set,aA.del,t1,Nat.reduceAdd,bqU,Nat.reduceEqDiff,bqT,bqV,if_true,if_false,hA1];done),r3.of (by rw[aA.aC (by omega)]),⟨0,(by simp only[aA.set,aA.del,t1,Nat.reduceAdd,bqU,Nat.reduceEqDiff,bqT,bqV,if_true,if_false,hA1,r4];done),m5 _,m5 _⟩,fun h=>by dsimp only at h;omega,fun _=>rfl,fun id h1 h2=>by rw[aA.aC (by omega)];exact rf id h1 h2⟩ ?_
 clear r0 r1 r2 r3 r4 rf
 have hnn:nx+8≤nx1:=by omega
 clear hnx1 hA1
 rintro⟨k,pl,⟨rows,bp,cp⟩,⟨aUU,boW,c0⟩,Ps⟩ H1 nx1 hnx1 ⟨⟨⟨bpR,f2,bpS⟩,bpT,bpU,bpV,bpW⟩,bqB,q1,q2,q3,⟨mp,q4,e1,e2⟩,q5,q6,qf⟩ bpQ hKL
 dsimp only at bpR f2 bpS bpT bpU bpV bpW bqB q1 q2 q3 q4 q5 q6 e1 e2
 have hA1:bQ nx1 [i,nx,nx+4,bl,bp]:=AM.apart (by simp;omega) (by simp;omega)
 simp only[bQ,eZ] at hA1
 by_cases hlt:k<3
 ·repeat' first| (first|apply bn1| (refine aX (p:=pl) hl (by omega) (by omega) (by omega) (by simp only[aA.set,aA.del,t1,Nat.reduceAdd,bqU,Nat.reduceEqDiff,bqT,bqV,if_true,if_false,hA1,bqB];done) (fun x hx1 hx2=> ?_)))<;>(simp only[go_sem,boC,bqB,q1,q2,hA1];try simp (disch:=omega) only[Iw])|apply bn2 (by omega)|fail
  refine aM.aTJ fun bqO hG0=> ?_;have r0:bqO i=some (rdO l (pl+1)):=by rw[hG0];exact(by simp only[aA.set,aA.del,t1,Nat.reduceAdd,bqU,Nat.reduceEqDiff,bqT,bqV,if_true,if_false,hA1,bqB];done)
  have r1:bqO (nx1+2)=some ⟨7,0,[]⟩:=by rw[hG0];exact(by simp only[aA.set,aA.del,t1,Nat.reduceAdd,bqU,Nat.reduceEqDiff,bqT,bqV,if_true,if_false,hA1];done)
  have rf: ∀id,id<nx1→id≠i→bqO id=H1 id:=fun id h1 h2=>by rw[hG0,aA.aC h2,aA.aC (by omega)]
  clear hG0
  refine aM.gP (β:=Nat×Nat×Prog×Nat×Nat) (fun u=>en [(9,boP u.1),(8,.one (.c (.osl 7 u.2.2.2.1 0 u.2.2.1.length u.2.2.2.2))),(7,boP k),(5,bkP 3 (nx+4)),(4,bkP 3 nx),(1,boP 6),(0,bkP 2 i)])
   (fun u H2 nx2=>(u.1≤6∧p≤u.2.1∧u.2.1≤pl+1+41*(6-u.1)∧(∀q∈u.2.2.1,dH q)∧2*u.1+u.2.2.1.length≤12)∧(nx1≤u.2.2.2.1∧u.2.2.2.1<nx2)∧H2 i=some (rdO l u.2.1)∧Own eB 7 H2 u.2.2.2.1 u.2.2.2.2 u.2.2.1∧ ∀id,id<nx1→id≠i→H2 id=H1 id)
   (fun u=>u.1) (x.toNat,pl+1,[],nx1+2,0) ⟨noF,_,by repeat' first|exact bo2|refine xqI rfl rfl ?_|refine xqP (by omega) rfl rfl ?_|refine xqV rfl (by omega) ?_| (with_reducible apply bo3)| ((with_reducible apply bo0);exact bpA)| ((with_reducible apply bo1);apply bo7)|fail,aK,⟨by dsimp only;omega,by dsimp only;omega,by dsimp only;omega,fun q hq=>by simp at hq,by simp;omega⟩,by dsimp only;omega,r0,⟨0,r1,m5 _,m5 _⟩,rf⟩ ?_
  clear r0 r1 rf;rintro⟨j,pj,rs,b,cr⟩ H2 nx2 hnx2 ⟨⟨g1,g2,g3,g4,g5⟩,⟨bkU,bkV⟩,s0,⟨mr,s1,d1,d2⟩,sf⟩ bqR hKN;dsimp only at g1 g2 g3 g4 g5 bkU bkV s0 s1 d1 d2;have htr:rs.take rs.length=rs:=bq4;have hA2:bQ nx2 [i,b]:=AM.apart (by simp;omega) (by simp;omega);simp only[bQ,eZ] at hA2;by_cases hj:0<j
  ·apply aM.seq;repeat' first|apply boB<;>(simp only[go_sem])|apply bn2 (by omega)|fail
   apply aM.seq;repeat' first| (first|apply boB|refine ID (p:=pj) hl (by omega) (by omega) s0 (fun pq q hq1 hq2 hq3=> ?_))<;>(simp only[go_sem,boC,s0,s1,hA2])|fail
   refine aM.aUF (β:=Nat×Prog×Nat×Nat) (fun u=>en [(10,bkP 7 (nx2+4)),(9,boP j),(8,.one (.c (.osl 7 u.2.2.1 0 u.2.1.length u.2.2.2))),(7,boP k),(5,bkP 3 (nx+4)),(4,bkP 3 nx),(1,boP 6),(0,bkP 2 i)])
    (fun u H3 nx3=>(p≤u.1∧u.1≤pj+41∧(∀q∈u.2.1,dH q)∧u.2.1.length≤rs.length+1)∧(nx1≤u.2.2.1∧u.2.2.1<nx3∧u.2.2.1≠nx2+4)∧H3 i=some (rdO l u.1)∧H3 (nx2+4)=some ⟨7,1,[eB q]⟩∧Own eB 7 H3 u.2.2.1 u.2.2.2 u.2.1∧ ∀id,id<nx1→id≠i→H3 id=H1 id) (fun bkT hKJ=> ?_) ?_
   ·repeat' first| (first|apply bn1|refine bpL (fun h=> ?_) fun h=> ?_| (refine aX (p:=pq) hl (by omega) (by omega) (by omega) (by simp only[aA.set,aA.del,t1,Nat.reduceAdd,bqU,Nat.reduceEqDiff,bqT,bqV,if_true,if_false,hA2];done) (fun x h1 h2=> ?_)))<;>(simp only[go_sem,boC,s0,s1,hA2,htr])|refine bnE (fun h=> ?_) fun h=> ?_| (with_reducible first|refine fun(cap:Nat) (hcap:_≤cap)=> ?_|refine fun(hcp:_≤cap)=> ?_)|refine⟨by omega,?_⟩|fail
    ·refine hKJ _ _ _ (pq+1,rs++[⟨q.id,3,q.addr,1,false,[],[]⟩],nx2+26,cap) noF (aA.set _ (nx2+26) ⟨7,cap,(rs++[(⟨q.id,3,q.addr,1,false,[],[]⟩:Req)]).map eB⟩) (by omega) (by dsimp only;rw[t2,List.length_singleton];repeat' first|exact bo2|refine xqI rfl rfl ?_|refine xqP (by omega) rfl rfl ?_|refine xqO (by omega) rfl rfl (by rfl) ?_|fail)
      (aS2 aA.bH (uO (R:=rs.map eB) (r':=eB ⟨q.id,3,q.addr,1,false,[],[]⟩) (by simp) rfl (fun r hr=>(aG rL rs r hr).2) rfl (aH (bB rfl) (aH (bB rfl) (aH (bB rfl) (aH (bB rfl) (aH (bB rfl) (aH xG (aH xG eP)))))))))
      ⟨⟨by dsimp only;omega,by dsimp only;omega,fun q' hq'=> ?_,by simp⟩,⟨by dsimp only;omega,by dsimp only;omega,by dsimp only;omega⟩,(by simp only[aA.set,aA.del,t1,Nat.reduceAdd,bqU,Nat.reduceEqDiff,bqT,bqV,if_true,if_false,hA2];done),(by simp only[aA.set,aA.del,t1,Nat.reduceAdd,bqU,Nat.reduceEqDiff,bqT,bqV,if_true,if_false,hA2];done),⟨cap,aA.bH,by simpa using hcap,m5 _⟩,fun id h1 h2=>by rw[aA.aC (by omega),aA.aC (by omega),aA.aC (by omega),aA.aC (by omega),aA.aC h2,aA.jG (by omega)];exact sf id h1 h2⟩
     rcases o3.1 hq' with hq'|hq'
     ·exact g4 q' hq'
     ·simp at hq';subst hq';exact bkX.MM hq3
    ·exact hKJ _ _ _ (pq+1,rs,b,cr) noF _ (by omega) (by dsimp only;repeat' first|exact bo2|refine xqI rfl rfl ?_|refine xqP (by omega) rfl rfl ?_|refine xqO (by omega) rfl rfl (by rfl) ?_|fail) aK ⟨⟨by dsimp only;omega,by dsimp only;omega,g4,by dsimp only;omega⟩,⟨by dsimp only;omega,by dsimp only;omega,by dsimp only;omega⟩,(by simp only[aA.set,aA.del,t1,Nat.reduceAdd,bqU,Nat.reduceEqDiff,bqT,bqV,if_true,if_false,hA2];done),(by simp only[aA.set,aA.del,t1,Nat.reduceAdd,bqU,Nat.reduceEqDiff,bqT,bqV,if_true,if_false,hA2];done),⟨mr,(by simp only[aA.set,aA.del,t1,Nat.reduceAdd,bqU,Nat.reduceEqDiff,bqT,bqV,if_true,if_false,hA2,s1];done),d1,d2⟩,fun id h1 h2=>by rw[aA.aC (by omega),aA.aC h2];exact sf id h1 h2⟩
    all_goals exact hKJ _ _ _ (pq,rs,b,cr) noF _ (by omega) (by dsimp only;repeat' first|exact bo2|refine xqI rfl rfl ?_|refine xqP (by omega) rfl rfl ?_|refine xqO (by omega) rfl rfl (by rfl) ?_|fail) aK ⟨⟨by dsimp only;omega,by dsimp only;omega,g4,by dsimp only;omega⟩,⟨by dsimp only;omega,by dsimp only;omega,by dsimp only;omega⟩,(by simp only[aA.set,aA.del,t1,Nat.reduceAdd,bqU,Nat.reduceEqDiff,bqT,bqV,if_true,if_false,hA2];done),(by simp only[aA.set,aA.del,t1,Nat.reduceAdd,bqU,Nat.reduceEqDiff,bqT,bqV,if_true,if_false,hA2];done),⟨mr,(by simp only[aA.set,aA.del,t1,Nat.reduceAdd,bqU,Nat.reduceEqDiff,bqT,bqV,if_true,if_false,hA2,s1];done),d1,d2⟩,fun id h1 h2=>by rw[aA.aC (by omega),aA.aC h2];exact sf id h1 h2⟩
   ·rintro⟨pk,rk,bk,ck⟩ H3 nx3 hnx3 ⟨⟨aUV,aUW,aIG,aII⟩,⟨aUX,aIH,aUY⟩,v0,v1,⟨mk,v2,bqH,bqI⟩,vf⟩;dsimp only at aUV aUW aIG aII aUX aIH aUY v0 v2 bqH bqI;have htk:rk.take rk.length=rk:=bq4;have hA3:bQ nx3 [i,bk,nx2+4]:=AM.apart (by simp;omega) (by simp;omega);simp only[bQ,eZ] at hA3;repeat' first|apply bn1<;>(simp only[go_sem,boC,v0,v1,v2,hA3,htk];try simp (disch:=omega) only[Iw])| (with_reducible first|refine fun(cap:Nat) (hcap:_≤cap)=> ?_|refine fun(hcp:_≤cap)=> ?_)|refine⟨by omega,?_⟩|fail
    refine hKN _ _ _ (j-1,pk,rk++[q],nx3+3,cap) noF _ (by omega) (by dsimp only;omega) (by dsimp only;rw[t2,List.length_singleton];repeat' first|exact bo2|refine xqI rfl rfl ?_|refine xqP (by omega) rfl rfl ?_|refine xqO (by omega) rfl rfl (by rfl) ?_|refine xqV rfl (by omega) ?_|fail) aK ⟨⟨by dsimp only;omega,by dsimp only;omega,by dsimp only;omega,fun q' hq'=> ?_,by simp;omega⟩,⟨by dsimp only;omega,by dsimp only;omega⟩,(by simp only[aA.set,aA.del,t1,Nat.reduceAdd,bqU,Nat.reduceEqDiff,bqT,bqV,if_true,if_false,hA3,v0];done),⟨cap,(by simp only[aA.set,aA.del,t1,Nat.reduceAdd,bqU,Nat.reduceEqDiff,bqT,bqV,if_true,if_false,hA3];done),by simpa using hcap,m5 _⟩,fun id h1 h2=>by rw[aA.aC (by omega),aA.aC (by omega),aA.jG (by omega)];exact vf id h1 h2⟩;rcases o3.1 hq' with hq'|hq';·exact aIG q' hq'
    ·simp at hq';subst hq';exact hq3
  ·have hmin:(rs.length:Int)≤12:=(by omega);have s2:=(sf (nx+4) (by omega) (by omega)).trans q2;have bp7:=(sf bp (by omega) (by omega)).trans q4;have hA3:bQ nx2 [i,b,nx+4,bp]:=AM.apart (by simp;omega) (by simp;omega);simp only[bQ,eZ] at hA3;have hM: ∀G:aA,msk (nx2+2) [7] G (nx+4)=G (nx+4):=fun G=>mk1 (by omega)
   have hrl:rows.length=k:=by
    by_cases h0:k=0;·rw[q6 h0,h0];rfl
    ·obtain⟨_,e,e2,_⟩:=q5 (by omega);rw[e,List.length_cons,bqW];exact e2
   have hrt:rows.take k=rows:=boL (by omega);have hmn:(if (12:Int)<(rs.length:Int) then (12:Int) else (rs.length:Int)).toNat=rs.length:=(by rw[if_neg (by omega)];simp);repeat' first|apply bn1<;>(simp only[go_sem,boC,s0,s1,s2,bp7,hA3,hM,hrt,hmn];try simp (disch:=omega) only[Iw])|apply bn3 (by omega)| (with_reducible first|refine fun(cap:Nat) (hcap:_≤cap)=> ?_|refine fun(hcp:_≤cap)=> ?_)|refine⟨by omega,?_⟩|fail
   have hrs:rs.length≤12∧ ∀q∈rs,dH q:=⟨by omega,g4⟩
   have hfr: ∀(G:aA),(∀id,id<nx→id≠i→G id=H2 id)→∀id,id<nx→id≠i→G id=H id:=fun G bqK id h1 h2=>by rw[bqK id h1 h2,sf id (by omega) h2];exact qf id h1 h2
   have q3':Own aJ 1 H2 bl cl la:=q3.of (sf bl (by omega) (by omega));have bp8:=(sf nx (by omega) (by omega)).trans q1;by_cases h0:k=0
   ·subst h0;rw[q6 rfl]
    exact hKL _ _ _ (1,pj,([[.osl 7 b 0 rs.length cr]],nx2+10,cap),(rs,b,cr),[]) noF _ (by omega) (by dsimp only;omega) (by dsimp only;repeat' first|exact bo2|refine xqI rfl rfl ?_|refine xqP (by omega) rfl rfl ?_|fail) aK ⟨by dsimp only;omega,(by simp only[aA.set,aA.del,t1,Nat.reduceAdd,bqU,Nat.reduceEqDiff,bqT,bqV,if_true,if_false,hA3,s0];done),by rw[aA.aC (by omega),aA.aC (by omega),aA.aC (by omega),aA.jG (by omega)];exact bp8,(by simp only[aA.set,aA.del,t1,Nat.reduceAdd,bqU,Nat.reduceEqDiff,bqT,bqV,if_true,if_false,hA3];done),q3'.of (by rw[aA.aC (by omega),aA.aC (by omega),aA.aC (by omega),aA.jG (by omega)]),⟨cap,(by simp only[aA.set,aA.del,t1,Nat.reduceAdd,bqU,Nat.reduceEqDiff,bqT,bqV,if_true,if_false,hA3,List.nil_append];done),by dsimp only;omega,by dsimp only;omega⟩,
     fun _=>⟨⟨mr,(by simp only[aA.set,aA.del,t1,Nat.reduceAdd,bqU,Nat.reduceEqDiff,bqT,bqV,if_true,if_false,hA3,s1];done),d1,d2⟩,rfl,rfl,fun pr hpr=>by(simp at hpr;subst hpr;exact hrs),by dsimp only;omega,by dsimp only;omega,by simp;omega⟩,fun h=>by dsimp only at h;omega,hfr _ fun id h1 h2=>by rw[aA.aC (by omega),aA.aC (by omega),aA.aC (by omega),aA.jG (by omega)]⟩
   ·obtain⟨o0,hro,hP1,hP2,hb1,hb2,hnd⟩:=q5 (by omega);generalize bqK:aA.set _ (nx+4) _=aUZ;have bqK:=bqK.symm;have aU0:aUZ i=some (rdO l pj):=(by rw[bqK];exact(by simp only[aA.set,aA.del,t1,Nat.reduceAdd,bqU,Nat.reduceEqDiff,bqT,bqV,if_true,if_false,hA3,s0];done));have bpN:aUZ nx=some ⟨3,1,[[.osl 0 0 0 0 0,.osl 0 0 0 0 0,.osl 0 0 0 0 0]]⟩:=(by rw[bqK,aA.aC (by omega),aA.aC (by omega),aA.aC (by omega),aA.jG (by omega)];exact bp8);have bpO:aUZ (nx+4)=some ⟨3,1,[[.isl (m.map eN),.osl 1 bl 0 4 cl,.osl 1 (nx2+10) 0 (k+1) cap]]⟩:=(by rw[bqK];exact(by simp only[aA.set,aA.del,t1,Nat.reduceAdd,bqU,Nat.reduceEqDiff,bqT,bqV,if_true,if_false,hA3];done));have bpP:Own aJ 1 aUZ bl cl la:=q3'.of (by rw[bqK,aA.aC (by omega),aA.aC (by omega),aA.aC (by omega),aA.jG (by omega)]);have bpY:aUZ (nx2+10)=some ⟨1,cap,rows++[[.osl 7 b 0 rs.length cr]]⟩:=(by rw[bqK];exact(by simp only[aA.set,aA.del,t1,Nat.reduceAdd,bqU,Nat.reduceEqDiff,bqT,bqV,if_true,if_false,hA3];done));have aU1:aUZ b=some ⟨7,mr,rs.map eB⟩:=(by rw[bqK];exact(by simp only[aA.set,aA.del,t1,Nat.reduceAdd,bqU,Nat.reduceEqDiff,bqT,bqV,if_true,if_false,hA3,s1];done));have hne:boW≠bp:=(by simp at hnd;omega);have hnl:boW≠bl:=(by simp at hnd;omega);have aU2:Own eB 7 aUZ boW c0 aUU:=o0.of (by rw[bqK,aA.aC (by omega),aA.aC (by omega),aA.aC (by omega),aA.jG hne];exact sf boW (by omega) (by omega));have tf: ∀id,id<nx→id≠i→aUZ id=H id:=hfr _ fun id h1 h2=>by rw[bqK,aA.aC (by omega),aA.aC (by omega),aA.aC (by omega),aA.jG (by omega)]
    clear bqK s0 s1 s2 bp7 bp8 bqB q1 q2 q3 q4 q3' qf sf hfr
    refine hKL _ _ _ (k+1,pj,(rows++[jR rs],nx2+10,cap),(aUU,boW,c0),Ps++[rs]) (fun t=>t=b) ((without (fun t=>t=b) aUZ).set (nx2+10) ⟨1,cap,rows++[jR rs]⟩) (by omega) (by dsimp only;omega) (by dsimp only;repeat' first|exact bo2|refine xqI rfl rfl ?_|refine xqP (by omega) rfl rfl ?_|fail)
     (apO (t:=nx2+10) (o':=⟨1,cap,rows++[jR rs]⟩) (fun j hj=>by have hj':j=b:=hj;rw[aA.aC (by omega)];exact if_pos hj) aA.bH bpY (by omega) (aUI (aTS (by rw[hro];exact aSR (aH (.osl _ _ _ _ _ (by omega)) eP) (aTZ fun r hr=>(aG iR _ r hr).2)) (aSR (aH (bW rL aU1 rfl d1 rfl) eP) aT0))) fun j hj1 hj2=>by rw[aA.aC hj1,iI (F:=fun t=>t=b) hj2])
     ⟨by dsimp only;omega,by rw[aA.aC (by omega),iI (by omega)];exact aU0,by rw[aA.aC (by omega),iI (by omega)];exact bpN,by rw[aA.aC (by omega),iI (by omega)];exact bpO,bpP.of (by rw[aA.aC (by omega),iI (by omega)]),⟨cap,aA.bH,by dsimp only;omega,m5 _⟩,
      fun _=>⟨aU2.of (by(try dsimp only);rw[aA.aC (by omega),iI (by omega)]),by dsimp only;rw[hro,bqX];rfl,by dsimp only;rw[t2,List.length_singleton];omega,fun pr hpr=> ?_,by dsimp only;omega,by dsimp only;omega,by simp;omega⟩,fun h=>by dsimp only at h;omega,fun id h1 h2=>by rw[aA.aC (by omega),iI (by omega)];exact tf id h1 h2⟩
    rw[←List.cons_append,o3] at hpr;rcases hpr with hpr|hpr;·exact hP2 pr hpr
    ·simp at hpr;subst hpr;exact hrs
 have hk3:k=3:=by omega
 subst hk3
 obtain⟨o0,rfl,hP1,hP2,hb1,hb2,hnd⟩:=q5 (by omega)
 repeat' first|apply bn1<;>(simp only[go_sem,boC,bqB,q1,q2,hA1])|apply bn3 (by omega)|fail
 have hh:=fun H'=>h H' (nx1+4) pl m la aUU Ps bl cl bp cp mp boW c0 f2 (by omega) hmok ⟨hl4,hal⟩ (by omega) hP2
 exact hQ _ _ _ _ _ (.inr rfl) (fZ (m:=1) rfl aA.bH rfl) (hh _ (by simp only[aA.set,aA.del,t1,Nat.reduceAdd,bqU,Nat.reduceEqDiff,bqT,bqV,if_true,if_false,hA1,bqB];done) (q3.of (by rw[aA.aC (by omega)])) (o0.of (by rw[aA.aC (by omega)])) (by simp only[aA.set,aA.del,t1,Nat.reduceAdd,bqU,Nat.reduceEqDiff,bqT,bqV,if_true,if_false,hA1,q4];done) (by omega) e2 (by omega) (by omega) (by omega) (by omega) (by omega) (by omega) hnd fun id h1 h2=>by rw[aA.aC (by omega)];exact qf id h1 h2)
theorem aP3:cJ Tryz.prog aNJ Tryz.f210 at4 aOA:=cJ.mk Tryz.func210 (by kernel_rfl) aPQ
theorem aS9 {F:Nat→Prop} {bp mp boW c0 cp len0:Nat} {aUU:Prog} {Ps:List Prog} (h:H bp=some ⟨1,mp,[.osl 7 boW 0 len0 c0]::Ps.map jR⟩) (h0:len0=aUU.length) (o:Own eB 7 H boW c0 aUU) (h1:F bp) (h2:F boW) (hc:Ps.length+1≤cp):Frz H F (.isl ((aUU::Ps).map jR)) (.osl 1 bp 0 (Ps.length+1) cp):=by
 subst h0;obtain⟨m,o1,o2,bqD⟩:=o;refine QM h1 h rfl (by simp) (by simp) hc fun i r' hr=> ?_;rw[Y4]
 match i with
 |0=>simp only[n3,List.getElem?_cons_zero,Option.some.injEq] at hr;subst hr;exact⟨rfl,_,rfl,fO (ay5 (σ:=id) (nh:=0) rfl (bW rL o1 rfl o2 h2)) LH⟩
 |i+1=>rw[n3,List.getElem?_cons_succ] at hr;have:=aG iR _ _ (s3 hr);exact⟨this.1,r',hr,amO this.2⟩
theorem aT7 {F:Nat→Prop} {bp mp cp:Nat} {r:List D1} {Ps:List Prog} (h:H bp=some ⟨1,mp,r::Ps.map jR⟩) (h1:F bp) {len:Nat} (hl:len=Ps.length) (hc:len≤cp):Frz H F (.isl (Ps.map jR)) (.osl 1 bp 1 len cp):=by subst hl;refine QM h1 h rfl (by simp) (by simp;omega) hc fun i r' hr=> ?_;have:=aG iR _ _ (s3 hr);exact⟨this.1,r',by rw[Y3];exact hr,amO this.2⟩
theorem aT9 {m:List Rng} {la:List Int} {P:List Prog} (h1:m.length≤8) (h2:la.length≤4) (h3:P.length≤3) (h4: ∀pr∈P,pr.length≤13∧ ∀q∈pr,q.data.length≤8∧q.g6.length≤8):jO ⟨m,la,P⟩:=⟨by dsimp only;omega,by dsimp only;omega,by dsimp only;omega,fun pr hpr=>by have:=(h4 pr hpr).1;omega,fun pr hpr q hq=>by have:=(h4 pr hpr).2 q hq;omega⟩
theorem aTR {q:Req} (h:dH q):q.data.length≤8∧q.g6.length≤8:=by obtain⟨_,_,⟨h1,_⟩,h2,h3,_⟩:=h;unfold n5 at h2 h3;split at h2<;>omega
theorem aQA {l:List Int} {p i:Nat} {n:Int} (hn:0<n∧n<9000) (hl:kZ l) (hp50:p+1200<2^50) (hi:i<nx) (ho:H i=some (rdO l p))
 (h: ∀H' nx' p' (c:Cfg),nx≤nx'→jO c→p≤p'→p'≤p+1200→H' i=some (rdO l p')→(∀id,id<nx→id≠i→H' id=H id)→K (boR (cU c)) H' nx'):aB Tryz.prog aNJ [bkP 2 i,boP n] H nx K:=by
 apply aB.tW
 refine aP3 rfl fun Q hQ=> ?_
 unfold at4
 have hA:bQ nx [i]:=AM.apart (by simp) (by simp;omega)
 simp only[bQ,eZ] at hA
 repeat' first| (first|apply bn1| (refine aQN (p:=p) hl (by omega) (by omega) (by rw[aA.aC (by omega)];exact ho) (fun H1 nx1 pb m la aUU Ps bl cl bp cp mp boW c0 h1 h2 h3 h4 h5 h6 bqB q3 q5 q4 e1 e2 aUV aUW aIG aII aUX aIH hnd qf=> ?_)))<;>(simp only[go_sem,boC,hA])|fail
 have h3:=h3.1
 have h4:=h4.1
 have h6: ∀pr∈aUU::Ps,pr.length≤12∧ ∀q∈pr,q.data.length≤8∧q.g6.length≤8:=fun pr hpr=>⟨(h6 pr hpr).1,fun q hq=>aTR ((h6 pr hpr).2 q hq)⟩
 have q1:H1 nx=some ⟨3,1,[[.osl 0 0 0 0 0,.osl 0 0 0 0 0,.osl 0 0 0 0 0]]⟩:=by rw[qf _ (by omega) (by omega)];exact aA.bH
 have qf: ∀id,id<nx→id≠i→H1 id=H id:=fun id h1 h2=>by rw[qf id (by omega) h2,aA.aC (by omega)]
 have hbl: ¬bl=bp∧ ¬bl=boW∧ ¬bp=boW:=by simp at hnd;omega
 generalize bqK:H1.set (nx+3) _=G
 have bqK:=bqK.symm
 have r0:G i=some (rdO l pb):=by rw[bqK,aA.aC (by omega)];exact bqB
 have r1:G nx=some ⟨3,1,[[.osl 0 0 0 0 0,.osl 0 0 0 0 0,.osl 0 0 0 0 0]]⟩:=by rw[bqK,aA.aC (by omega)];exact q1
 have r2:G (nx+3)=some ⟨3,1,[[.isl (m.map eN),.osl 1 bl 0 4 cl,.osl 1 bp 0 3 cp]]⟩:=by rw[bqK];exact aA.bH
 obtain⟨ml,r3,d1,d2⟩:Own aJ 1 G bl cl la:=q3.of (by rw[bqK,aA.aC (by omega)])
 have r4:G bp=some ⟨1,mp,[.osl 7 boW 0 aUU.length c0]::Ps.map jR⟩:=by rw[bqK,aA.aC (by omega)];exact q4
 obtain⟨mr,r5,d3,bkS⟩:Own eB 7 G boW c0 aUU:=q5.of (by rw[bqK,aA.aC (by omega)])
 have rf: ∀id,id<nx→id≠i→G id=H id:=fun id h1 h2=>by rw[bqK,aA.aC (by omega)];exact qf id h1 h2
 clear bqK bqB q1 q3 q4 q5 qf
 have hA1:bQ nx1 [i,nx,nx+3,bl,bp,boW]:=AM.apart (by simp;omega) (by simp;omega)
 simp only[bQ,eZ] at hA1
 have endA: ∀(aID:aA) (nx2:Nat) (m':List Rng) (la':List Int) (P':List Prog) (d1 d2 d3:D1) (pb2:Nat) (F:Nat→Prop),nx1≤nx2→aID nx=some ⟨3,1,[[d1,d2,d3]]⟩→m'.length≤8→la'.length≤4→P'.length≤3→(∀pr∈P',pr.length≤13∧ ∀q∈pr,q.data.length≤8∧q.g6.length≤8)→p≤pb2→pb2≤p+1200→aID i=some (rdO l pb2)→(∀id,id<nx→id≠i→aID id=H id)→(∀j,F j→nx+5≤j)→Frz aID F (.isl (m'.map eN)) d1→Frz aID F (.isl (la'.map aJ)) d2→Frz aID F (.isl (P'.map jR)) d3→
  ∀{e2:Env},e2 4= .one (.c (.ptr 3 nx 0 0))→Q .ret e2 aID nx2:=fun aID nx2 m' la' P' d1 d2 d3 pb2 F g1 g2 g3 g4 g5 bkU bkV bp4 bp5 g10 g11 g12 g13 g14 e2 he=>by
  refine hQ _ _ _ _ _ (.inr rfl) (fZ (m:=1) he g2 rfl) ⟨boR (cU ⟨m',la',P'⟩),without F aID,F,A8 (fO g12 (fO g13 (fO g14 LH))),kS,h _ nx2 pb2 _ (by omega) (aT9 g3 g4 g5 bkU) bkV bp4 (by rw[iI fun hj=>by have:=g11 _ hj;omega];exact bp5) fun id h1 h2=>by rw[iI fun hj=>by have:=g11 _ hj;omega];exact g10 id h1 h2⟩
 have fl: ∀(aID:aA) (F:Nat→Prop) (L:List Int),L.length=4→aID bl=some ⟨1,ml,L.map aJ⟩→F bl→Frz aID F (.isl (L.map aJ)) (.osl 1 bl 0 4 cl):=fun aID F L h0 h1 h2=>ay5 (σ:=id) (nh:=0) rfl (bW bF h1 h0.symm (by omega) h2)
 have fp: ∀(aID:aA) (F:Nat→Prop),aID bp=some ⟨1,mp,[.osl 7 boW 0 aUU.length c0]::Ps.map jR⟩→aID boW=some ⟨7,mr,aUU.map eB⟩→F bp→F boW→Frz aID F (.isl ((aUU::Ps).map jR)) (.osl 1 bp 0 3 cp):=fun aID F h1 h2 h7 h8=>by have:=aS9 (F:=F) h1 rfl ⟨mr,h2,d3,bkS⟩ h7 h8 (show Ps.length+1≤cp by omega);rwa [show Ps.length+1=3 by omega] at this
 (try simp only[go_sem,boC,r0,r1,r2,r3,r4,r5,hA1]);repeat' first| (first|apply bn1|refine d6 (p:=pb) hn hl (by omega) (by omega) r0 (fun p1 bb hp1 hp2 _=> ?_))<;>(simp only[go_sem,boC,r0,r1,r2,r3,r4,r5,hA1])| ((refine bnF (fun h=> ?_) (fun h=> ?_))<;>try subst h)|fail
 case refine_2=>exact endA _ _ m la (aUU::Ps) _ _ _ p1 (fun j=>j=bl∨j=bp∨j=boW) (by omega) aA.bH (by omega) (by omega) (by simp;omega) (fun pr hpr=>by have:=h6 pr hpr;exact⟨by omega,this.2⟩) (by omega) (by omega) (by simp only[aA.set,aA.del,t1,Nat.reduceAdd,bqU,Nat.reduceEqDiff,bqT,bqV,if_true,if_false,hA1];done) (fun id h1 h2=>by rw[aA.aC (by omega),aA.aC h2];exact rf id h1 h2) (fun j hj=>by omega) (.same _ rfl) (fl _ _ _ h4 (by simp only[aA.set,aA.del,t1,Nat.reduceAdd,bqU,Nat.reduceEqDiff,bqT,bqV,if_true,if_false,hA1,r3];done) (.inl rfl)) (fp _ _ (by simp only[aA.set,aA.del,t1,Nat.reduceAdd,bqU,Nat.reduceEqDiff,bqT,bqV,if_true,if_false,hA1,r4];done) (by simp only[aA.set,aA.del,t1,Nat.reduceAdd,bqU,Nat.reduceEqDiff,bqT,bqV,if_true,if_false,hA1,r5];done) (.inr (.inl rfl)) (.inr (.inr rfl))) rfl
 generalize bqK:aA.set G i _=aID
 have bqK:=bqK.symm
 have bqB:aID i=some (rdO l p1):=by rw[bqK];exact aA.bH
 have q1:aID nx=some ⟨3,1,[[.osl 0 0 0 0 0,.osl 0 0 0 0 0,.osl 0 0 0 0 0]]⟩:=by rw[bqK,aA.aC (by omega)];exact r1
 have q2:aID (nx+3)=some ⟨3,1,[[.isl (m.map eN),.osl 1 bl 0 4 cl,.osl 1 bp 0 3 cp]]⟩:=by rw[bqK,aA.aC (by omega)];exact r2
 have q3:aID bl=some ⟨1,ml,la.map aJ⟩:=by rw[bqK,aA.aC (by omega)];exact r3
 have q4:aID bp=some ⟨1,mp,[.osl 7 boW 0 aUU.length c0]::Ps.map jR⟩:=by rw[bqK,aA.aC (by omega)];exact r4
 have q5:aID boW=some ⟨7,mr,aUU.map eB⟩:=by rw[bqK,aA.aC (by omega)];exact r5
 have qf: ∀id,id<nx→id≠i→aID id=H id:=fun id h1 h2=>by rw[bqK,aA.aC h2];exact rf id h1 h2
 clear bqK r0 r1 r2 r3 r4 r5 rf
 have hM: ∀(d k:Nat) (G:aA),msk (nx1+d) [k] G (nx+3)=G (nx+3):=fun d k G=>mk1 (by omega)
 refine aX (p:=p1) hl (by omega) (by omega) (by omega) bqB fun x h1 h2=> ?_
 (try simp only[go_sem,boC,bqB,q1,q2,q3,q4,q5,hA1,hM]);repeat' first| (first|apply bn1|refine aQQ (p:=p1+1) hl (by omega) (by omega) aA.bH (fun p2 bp3 hp1 hp2 hm2=> ?_))<;>(simp only[go_sem,boC,bqB,q1,q2,q3,q4,q5,hA1,hM])|refine bnE (fun h=> ?_) fun h=> ?_|refine⟨by omega,?_⟩|fail
 ·exact endA _ _ bp3 la (aUU::Ps) _ _ _ p2 (fun j=>j=bl∨j=bp∨j=boW) (by omega) aA.bH (by omega) (by omega) (by simp;omega) (fun pr hpr=>by have:=h6 pr hpr;exact⟨by omega,this.2⟩) (by omega) (by omega) (by simp only[aA.set,aA.del,t1,Nat.reduceAdd,bqU,Nat.reduceEqDiff,bqT,bqV,if_true,if_false,hA1];done) (fun id h1 h2=>by rw[aA.aC (by omega),aA.aC (by omega),aA.aC h2];exact qf id h1 h2) (fun j hj=>by omega) (.same _ rfl) (fl _ _ _ h4 (by simp only[aA.set,aA.del,t1,Nat.reduceAdd,bqU,Nat.reduceEqDiff,bqT,bqV,if_true,if_false,hA1,q3];done) (.inl rfl)) (fp _ _ (by simp only[aA.set,aA.del,t1,Nat.reduceAdd,bqU,Nat.reduceEqDiff,bqT,bqV,if_true,if_false,hA1,q4];done) (by simp only[aA.set,aA.del,t1,Nat.reduceAdd,bqU,Nat.reduceEqDiff,bqT,bqV,if_true,if_false,hA1,q5];done) (.inr (.inl rfl)) (.inr (.inr rfl))) rfl
 ·refine aX (p:=p1+1) hl (by omega) (by omega) (by omega) aA.bH fun y hy1 hy2=> ?_;(try simp only[go_sem,boC,bqB,q1,q2,q3,q4,q5,hA1,hM]);repeat' first|apply bn1<;>(simp only[go_sem,boC,bqB,q1,q2,q3,q4,q5,hA1,hM])|fail
  generalize aU3:dT (nx1+9) [4] _ (msk (nx1+9) [4] aID)=U;have k1:U nx=some ⟨3,1,[[.osl 0 0 0 0 0,.osl 0 0 0 0 0,.osl 0 0 0 0 0]]⟩:=by rw[←aU3,um1 (by omega),mk1 (by omega)];exact q1
  have k2:U (nx+3)=some ⟨3,1,[[.isl (m.map eN),.osl 1 bl 0 4 cl,.osl 1 bp 0 3 cp]]⟩:=by rw[←aU3,um1 (by omega),mk1 (by omega)];exact q2
  have k3:U bl=some ⟨1,ml,la.map aJ⟩:=by rw[←aU3,um1 (by omega),mk1 (by omega)];exact q3
  have k4:U bp=some ⟨1,mp,[.osl 7 boW 0 aUU.length c0]::Ps.map jR⟩:=by rw[←aU3,um1 (by omega),mk1 (by omega)];exact q4
  have k5:U boW=some ⟨7,mr,aUU.map eB⟩:=by rw[←aU3,um1 (by omega),mk1 (by omega)];exact q5
  have kf: ∀id,id<nx→id≠i→U id=H id:=fun id h1 h2=>by rw[←aU3,um1 (by omega),mk1 (by omega)];exact qf id h1 h2
  have k6:U (nx1+9+4)=some ⟨1,2,[[.v (.int .i64 (-1))],[.v (.int .i64 4)]]⟩:=by rw[←aU3,aH6];exact aA.bH
  clear aU3 bqB q1 q2 q3 q4 q5 qf;refine⟨fun _=>by rw[k2];rfl,?_⟩;refine aX (p:=p1+2) hl (by omega) (by omega) (by omega) aA.bH fun z hz1 hz2=> ?_;(try simp only[go_sem,boC,k2,hA1,hM]);repeat' first|apply bn1<;>(simp only[go_sem,boC,k2,hA1,hM])|fail
  generalize aU3:dT (nx1+9) [4] _ (msk (nx1+9) [4] U)=V;have bpN:V nx=some ⟨3,1,[[.osl 0 0 0 0 0,.osl 0 0 0 0 0,.osl 0 0 0 0 0]]⟩:=by rw[←aU3,um1 (by omega),mk1 (by omega)];exact k1
  have bpO:V (nx+3)=some ⟨3,1,[[.isl (m.map eN),.osl 1 bl 0 4 cl,.osl 1 bp 0 3 cp]]⟩:=by rw[←aU3,um1 (by omega),mk1 (by omega)];exact k2
  have bpP:V bl=some ⟨1,ml,la.map aJ⟩:=by rw[←aU3,um1 (by omega),mk1 (by omega)];exact k3
  have bpY:V bp=some ⟨1,mp,[.osl 7 boW 0 aUU.length c0]::Ps.map jR⟩:=by rw[←aU3,um1 (by omega),mk1 (by omega)];exact k4
  have aU1:V boW=some ⟨7,mr,aUU.map eB⟩:=by rw[←aU3,um1 (by omega),mk1 (by omega)];exact k5
  have tf: ∀id,id<nx→id≠i→V id=H id:=fun id h1 h2=>by rw[←aU3,um1 (by omega),mk1 (by omega)];exact kf id h1 h2
  have aU2:V (nx1+13)=some ⟨1,2,[[.v (.int .i64 (-1))],[.v (.int .i64 4)]]⟩:=by rw[show nx1+13=nx1+9+4 from rfl,←aU3,aH6,aA.aC (by omega)];exact k6
  clear aU3 k1 k2 k3 k4 k5 k6 kf;refine⟨fun _=>by rw[bpO];rfl,by omega,?_⟩;obtain⟨v,hv⟩:=aN1 (L:=[[.v (.int .i64 (-1))],[.v (.int .i64 4)]]) (by simp) hz1 (by simp;omega);(try simp only[go_sem,boC,bpN,bpO,bpP,bpY,aU1,aU2,hv,hA1,hM]);repeat' first|apply bn1<;>(simp only[go_sem,boC,bpN,bpO,bpP,bpY,aU1,aU2,hv,hA1,hM])|refine⟨by omega,?_⟩|fail
  exact endA _ _ m (la.set y.toNat v) (aUU::Ps) _ _ _ (p1+3) (fun j=>j=bl∨j=bp∨j=boW) (by omega) aA.bH (by omega) (by simp;omega) (by simp;omega) (fun pr hpr=>by have:=h6 pr hpr;exact⟨by omega,this.2⟩) (by omega) (by omega) (by simp only[aA.set,aA.del,t1,Nat.reduceAdd,bqU,Nat.reduceEqDiff,bqT,bqV,if_true,if_false,hA1];done) (fun id h1 h2=>by rw[aA.aC (by omega),aA.aC (by omega),aA.aC h2];exact tf id h1 h2) (fun j hj=>by omega) (.same _ rfl) (fl _ _ _ (by simp;omega) (by simp only[aA.set,aA.del,t1,Nat.reduceAdd,bqU,Nat.reduceEqDiff,bqT,bqV,if_true,if_false,hA1];done) (.inl rfl)) (fp _ _ (by simp only[aA.set,aA.del,t1,Nat.reduceAdd,bqU,Nat.reduceEqDiff,bqT,bqV,if_true,if_false,hA1,bpY];done) (by simp only[aA.set,aA.del,t1,Nat.reduceAdd,bqU,Nat.reduceEqDiff,bqT,bqV,if_true,if_false,hA1,aU1];done) (.inr (.inl rfl)) (.inr (.inr rfl))) rfl
 ·exact endA _ _ m (la.drop 1) (aUU::Ps) _ _ _ (p1+1) (fun j=>j=bl∨j=bp∨j=boW) (by omega) aA.bH (by omega) (by simp;omega) (by simp;omega) (fun pr hpr=>by have:=h6 pr hpr;exact⟨by omega,this.2⟩) (by omega) (by omega) (by simp only[aA.set,aA.del,t1,Nat.reduceAdd,bqU,Nat.reduceEqDiff,bqT,bqV,if_true,if_false,hA1,bqB];done) (fun id h1 h2=>by rw[aA.aC (by omega),aA.aC (by omega),aA.aC h2];exact qf id h1 h2) (fun j hj=>by omega) (.same _ rfl) (ay5 (σ:=id) (nh:=0) rfl (aTY (aG bF _) (by simp;omega) (.inl rfl) (show aA.set _ nx _ bl=some ⟨1,ml,la.map aJ⟩ from (by simp only[aA.set,aA.del,t1,Nat.reduceAdd,bqU,Nat.reduceEqDiff,bqT,bqV,if_true,if_false,hA1,q3];done)) rfl (by simp;omega) (by rw[boL (by simp),brE]) (by simp;omega))) (fp _ _ (by simp only[aA.set,aA.del,t1,Nat.reduceAdd,bqU,Nat.reduceEqDiff,bqT,bqV,if_true,if_false,hA1,q4];done) (by simp only[aA.set,aA.del,t1,Nat.reduceAdd,bqU,Nat.reduceEqDiff,bqT,bqV,if_true,if_false,hA1,q5];done) (.inr (.inl rfl)) (.inr (.inr rfl))) rfl
 ·exact endA _ _ m la Ps _ _ _ (p1+1) (fun j=>j=bl∨j=bp∨j=boW) (by omega) aA.bH (by omega) (by omega) (by omega) (fun pr hpr=>by have:=h6 pr (bq9 _ hpr);exact⟨by omega,this.2⟩) (by omega) (by omega) (by simp only[aA.set,aA.del,t1,Nat.reduceAdd,bqU,Nat.reduceEqDiff,bqT,bqV,if_true,if_false,hA1,bqB];done) (fun id h1 h2=>by rw[aA.aC (by omega),aA.aC (by omega),aA.aC h2];exact qf id h1 h2) (fun j hj=>by omega) (.same _ rfl) (fl _ _ _ h4 (by simp only[aA.set,aA.del,t1,Nat.reduceAdd,bqU,Nat.reduceEqDiff,bqT,bqV,if_true,if_false,hA1,q3];done) (.inl rfl)) (aT7 (Ps:=Ps) (mp:=mp) (r:=[.osl 7 boW 0 aUU.length c0]) (by simp only[aA.set,aA.del,t1,Nat.reduceAdd,bqU,Nat.reduceEqDiff,bqT,bqV,if_true,if_false,hA1,q4];done) (.inr (.inl rfl)) h5.symm (by omega)) rfl
 ·have hN: ∀(d k:Nat) (G:aA),msk (nx1+d) [k] G bp=G bp:=fun d k G=>mk1 (by omega);have htk:aUU.take aUU.length=aUU:=bq4;(try simp only[go_sem,boC,bqB,q1,q2,q3,q4,q5,hA1,hM,hN]);repeat' first|apply bn1<;>(simp only[go_sem,boC,bqB,q1,q2,q3,q4,q5,hA1,hM,hN])|fail
  refine aRK (p:=p1+1) hl (by omega) (by omega) aA.bH fun p2 q hp1 hp2 hm2=> ?_;(try simp only[go_sem,boC,bqB,q1,q2,q3,q4,q5,hA1,hM,hN,htk]);repeat' first|apply bn1<;>(simp only[go_sem,boC,bqB,q1,q2,q3,q4,q5,hA1,hM,hN,htk])|refine⟨by omega,?_⟩|fail
  have h60:=h6 aUU (by simp);refine⟨by omega,fun cap hcap _=>⟨by omega,?_⟩⟩;try apply bn0
  repeat' first|apply bn1<;>(simp only[go_sem,bqB,q1,q2,q3,q4,q5,hA1])|fail
  refine endA _ _ m la ((aUU++[q])::Ps) _ _ _ p2 (fun j=>j=bl∨j=bp∨j=nx1+22) (by omega) aA.bH (by omega) (by omega) (by simp;omega) (fun pr hpr=> ?_) (by omega) (by omega) (by simp only[aA.set,aA.del,t1,Nat.reduceAdd,bqU,Nat.reduceEqDiff,bqT,bqV,if_true,if_false,hA1];done) (fun id h1 h2=>by rw[aA.aC (by omega),aA.aC (by omega),aA.aC (by omega),aA.aC (by omega),aA.aC h2,aA.jG (by omega)];exact qf id h1 h2) (fun j hj=>by omega) (.same _ rfl) (fl _ _ _ h4 (by simp only[aA.set,aA.del,t1,Nat.reduceAdd,bqU,Nat.reduceEqDiff,bqT,bqV,if_true,if_false,hA1,q3];done) (.inl rfl)) ?_ rfl
  ·rcases t3.1 hpr with hpr|hpr
   ·subst hpr;refine⟨by rw[t2,List.length_singleton];omega,fun q' hq'=> ?_⟩;rcases o3.1 hq' with hq'|hq';·exact h60.2 q' hq'
    ·simp at hq';subst hq';exact hm2
   ·have:=h6 pr (bq9 _ hpr);exact⟨by omega,this.2⟩
  ·have e3:(3:Nat)=Ps.length+1:=(by omega);rw[e3];exact aS9 (mp:=mp) (boW:=nx1+22) (c0:=cap) (len0:=aUU.length+1) (by simp only[aA.set,aA.del,t1,Nat.reduceAdd,bqU,Nat.reduceEqDiff,bqT,bqV,if_true,if_false,hA1];done) (by simp) ⟨cap,(by simp only[aA.set,aA.del,t1,Nat.reduceAdd,bqU,Nat.reduceEqDiff,bqT,bqV,if_true,if_false,hA1];done),by simpa using hcap,m5 _⟩ (.inr (.inl rfl)) (.inr (.inr rfl)) (by omega)
end
end Go.Proofs.YtmccpdapaccnoaaGreat
namespace Go.AM
theorem bsW {c:Cfg} {f:CSt→Nat→Option Mic} {s:CSt}: ∀{l:List Nat},(∀k∈l,f s k=none)→vE c f s l=[]
 | [],_=>rfl
 |k::l,h=>by rw[GZ (h k (by simp))];exact bsW fun j hj=>h j (bq9 _ hj)
theorem bs6 {c:Cfg} {s:CSt} {u:List Bool}: ∀{l:List Nat},(∀k∈l,AO c s u k=none)→oP c s u l=[]
 | [],_=>rfl
 |k::l,h=>by unfold oP;rw[h k (by simp)];exact bs6 fun j hj=>h j (bq9 _ hj)
theorem btC {c:Cfg} {s:CSt} {i:CIn} (h:COk c s) (hf:Fin c s):vF c i s=s:=by
 have he:=WV h hf
 have e1:CW c i s=s:=by
  unfold CW;rw[show KQ c i s=[] from bsW fun k hk=> ?_];·rfl
  ·refine acZ fun j h1 h2=>decide_eq_false fun hh=> ?_;have hl:pQ s k j<4:=(by unfold pQ;omega);rw[(he _ hl).2] at hh;exact absurd hh.1 (by simp)
 have e2:QD c i s=s:=by unfold QD;rw[e1,show xX c i s=[] from bsW fun k hk=>Go.Proofs.YtmccpdapaccnoaaGreat.aa0 (.inr (by rw[(he k (w8 hk)).1];rfl))];rfl
 have e3:OI c i s=s:=by
  unfold OI;rw[e2,show ad4 c s=[] from bs6 fun k hk=>ah0 fun j h1 h2=> ?_];·rfl
  ·unfold KE;rw[boI];refine .inr (decide_eq_false fun hm=> ?_);have hl:sM s k j<3:=(by unfold sM;omega);have:=hm.1;rw[(hf _ hl).2.1] at this;exact absurd this (by simp)
 unfold vF;rw[e3,show MV c i s=[] from bsW fun k hk=>askO_nx ?_];·rfl
 ·have:=(hf k (tC hk)).1;omega
where askO_nx {c:Cfg} {i:CIn} {s:CSt} {k:Nat} (h: ¬(aF s k).next<(c.cP.getD k default).length):PA c i s k=none:=if_neg fun hh=>h hh.2.2
end Go.AM
