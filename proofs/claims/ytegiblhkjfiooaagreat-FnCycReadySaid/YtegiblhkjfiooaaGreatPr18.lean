/- Texts laid together by a program: rules, contracts and the walk that leads to the law. -/
import Derived.Test.YtegiblhkjfiooaaGreatPr17
import Derived.Test.YtegiblhkjfiooaaGreatPr3
import Derived.Test.YtegiblhkjfiooaaGreatPr12
import Derived.Test.YtegiblhkjfiooaaGreatPr13
import Derived.Test.YtegiblhkjfiooaaGreatPr10
import Derived.Test.YtegiblhkjfiooaaGreatPr6
set_option linter.unusedVariables false
set_option linter.unusedSimpArgs false
set_option linter.unusedSectionVars false
section
namespace Go.Proofs.YtegiblhkjfiooaaGreat
open Go Go.AM
set_option maxRecDepth 100000
set_option maxHeartbeats 8000000
section
variable {H : aA} {nx : Nat} {K : D → aA → Nat → Prop}
theorem UC (h: ∀H' nx',nx≤nx'→(∀id,id<nx→H' id=H id)→K (dA (eI HY)) H' nx'):aB Tryz.prog AA [] H nx K:=by
 refine aB.tW ?_
 refine SZ rfl fun Q hQ=> ?_
 unfold w7
 have hsz:CSz HY:=⟨rfl,rfl,by simp[HY],by simp[HY],⟨by simp[HY],fun j hj=>by simp[HY] at hj⟩,fun k hk=>by rw[MX hk];simp,fun k hk=>by rw[K4 hk];simp⟩
 generalize hs:HY=s0 at*
 obtain⟨w0,hw0⟩: ∃w0,w0=List.replicate 64 (0:Int):=⟨_,rfl⟩
 obtain⟨w1,hw1⟩: ∃w1,w1=List.replicate 6 (-1:Int):=⟨_,rfl⟩
 have han: ∀{H:aA} {nx:Nat} {K:D→aA→Nat→Prop},K (dA [.osl 1 nx 0 64 64,.osl 1 (nx+1) 0 6 6]) ((H.set nx ⟨1,64,w0.map aJ⟩).set (nx+1) ⟨1,6,w1.map aJ⟩) (nx+2)→aB Tryz.prog n8 [] H nx K:=fun h=>QG (by rw[hw0,hw1] at h;exact h)
 have hl0:w0.length=64:=by rw[hw0];rfl
 have hl1:w1.length=6:=by rw[hw1];rfl
 have e1:s0.words=w0:=by rw[←hs,hw0];rfl
 have e2:s0.holds=w1:=by rw[←hs,hw1];rfl
 obtain⟨p0,hp0⟩: ∃p0:fR,p0=⟨0,[],[],3⟩:=⟨_,rfl⟩
 obtain⟨v0,hv0⟩: ∃v0:nY,v0=⟨[],[],2⟩:=⟨_,rfl⟩
 have e3:s0.bM=List.replicate 3 p0:=by rw[←hs,hp0];rfl
 have e4:s0.dD=List.replicate 4 v0:=by rw[←hs,hv0];rfl
 have e5:s0.told=[]:=by rw[←hs];rfl
 clear hw0 hw1
 repeat' (first| (with_reducible first| (refine hK _ _ _ ?_;clear hK K)|refine Z1 ?_|refine Z3 fun KB hKB=> ?_)| (first| (with_reducible refine Y2 fun K hK=> ?_)| (refine han ?_))<;>(simp only[go_sem,Nat.add_assoc,Nat.left_eq_add,Nat.add_eq_left])|fail)
 (have hKX:=hKB;clear hKB)
 refine aM.EJ 4 ?_
 refine aM.EJ 3 ?_
 refine aM.tW _ _ noF (fun t=>.inl rfl) (KO (i:=nx+3) (o:=⟨5,1,[[.osl 1 (nx+5) 0 64 64,.osl 1 (nx+6) 0 6 6,.osl 0 0 0 0 0,.osl 0 0 0 0 0,.osl 0 0 0 0 0]]⟩) (o':=⟨5,1,[[.osl 1 (nx+5) 0 64 64,.osl 1 (nx+6) 0 6 6,.osl 4 (nx+8) 0 0 0,.osl 3 (nx+9) 0 0 0,.osl 0 0 0 0 0]]⟩) (by simp only[aA.set,Nat.add_assoc,Nat.add_left_cancel_iff,Nat.reduceEqDiff,Nat.reduceAdd,if_false,if_true]) (aP (aH (.osl _ _ _ _ _ (by omega)) (aH (.osl _ _ _ _ _ (by omega)) (aH (.VS ..) (aH (.VS ..) (aH (.VS ..) eP))))))) ?_
 refine aM.TF fun G0 hG0=> ?_
 have c0:G0 nx=some ⟨5,1,[[.osl 0 0 0 0 0,.osl 0 0 0 0 0,.osl 0 0 0 0 0,.osl 0 0 0 0 0,.osl 0 0 0 0 0]]⟩:=by rw[hG0];simp only[aA.set,Nat.add_assoc,Nat.add_left_cancel_iff,Nat.reduceEqDiff,Nat.reduceAdd,Nat.left_eq_add,if_false,if_true]
 have c3:G0 (nx+3)=some ⟨5,1,[[.osl 1 (nx+5) 0 64 64,.osl 1 (nx+6) 0 6 6,.osl 4 (nx+8) 0 0 0,.osl 3 (nx+9) 0 0 0,.osl 0 0 0 0 0]]⟩:=by rw[hG0];exact aA.bH
 have c5:G0 (nx+5)=some ⟨1,64,w0.map aJ⟩:=by rw[hG0];simp only[aA.set,Nat.add_assoc,Nat.add_left_cancel_iff,Nat.reduceEqDiff,Nat.reduceAdd,Nat.left_eq_add,if_false,if_true]
 have c6:G0 (nx+6)=some ⟨1,6,w1.map aJ⟩:=by rw[hG0];simp only[aA.set,Nat.add_assoc,Nat.add_left_cancel_iff,Nat.reduceEqDiff,Nat.reduceAdd,Nat.left_eq_add,if_false,if_true]
 have c8:G0 (nx+8)=some ⟨4,0,[]⟩:=by rw[hG0];simp only[aA.set,Nat.add_assoc,Nat.add_left_cancel_iff,Nat.reduceEqDiff,Nat.reduceAdd,Nat.left_eq_add,if_false,if_true]
 have c9:G0 (nx+9)=some ⟨3,0,[]⟩:=by rw[hG0];simp only[aA.set,Nat.add_assoc,Nat.add_left_cancel_iff,Nat.reduceEqDiff,Nat.reduceAdd,Nat.left_eq_add,if_false,if_true]
 have cfr: ∀id,id<nx→G0 id=H id:=fun id hid=>by
  rw[hG0];simp only[aA.set,Nat.add_assoc,Nat.reduceAdd,show ¬id=nx by omega,show ¬id=nx+3 by omega,show ¬id=nx+5 by omega,show ¬id=nx+6 by omega,show ¬id=nx+8 by omega,show ¬id=nx+9 by omega,if_false]
 clear hG0
 refine aM.gP (β:=Nat×Nat×Nat) (fun u=>en [(4,dI u.1),(1,.one (.c (.ptr 5 (nx+3) 0 0))),(0,.one (.c (.ptr 5 nx 0 0)))])
  (fun u H1 nx1=>u.1≤3∧H1 (nx+3)=some ⟨5,1,[[.osl 1 (nx+5) 0 64 64,.osl 1 (nx+6) 0 6 6,.osl 4 u.2.1 0 u.1 u.2.2,.osl 3 (nx+9) 0 0 0,.osl 0 0 0 0 0]]⟩∧(∃mp,H1 u.2.1=some ⟨4,mp,(List.replicate u.1 p0).map cD⟩∧u.1≤u.2.2∧u.2.2≤mp)∧(nx+8≤u.2.1∧u.2.1<nx1∧u.2.1≠nx+9)∧ ∀id,id<nx+10→id≠nx+3→id≠nx+8→H1 id=G0 id)
  (fun u=>3-u.1) (0,nx+8,0) ⟨noF,_,by repeat' (first| (with_reducible first|exact C1|refine C2 ?_ ?_)| ((with_reducible refine C0 ?_);exact CE (by omega) rfl)| ((with_reducible refine D0 ?_);first|exact CA rfl|refine CJ ?_)|fail),aK,by dsimp only;omega,c3,⟨0,c8,Nat.le_refl _,Nat.le_refl _⟩,by dsimp only;omega,fun _ _ _ _=>rfl⟩ ?_
 rintro⟨k,ip,cp⟩ H1 nx1 hnx ⟨hk,aAD,⟨mp,ap,ap1,ap2⟩,aa,hfr⟩ KL hKL
 dsimp only at hk aAD ap ap1 ap2 aa
 have hA:bQ nx1 [nx,nx+3,nx+9,ip]:=AM.apart (by simp;omega) (by simp;omega)
 simp only[bQ,eZ] at hA
 by_cases hlt:k<3
 ·obtain⟨P,hP⟩: ∃P,P=List.replicate k p0:=⟨_,rfl⟩
  have hPl:P.length=k:=by rw[hP];simp
  rw[←hP] at ap
  rw[←hPl] at aAD
  repeat' (first| (with_reducible first| (refine hK _ _ _ ?_;clear hK K)| (refine hA ?_;clear hA hB A B)|refine Z1 ?_|refine Z2 ?_|refine Z3 fun KB hKB=> ?_|refine Z4 (by omega) ?_|refine fun(cap:Nat) (hcap:_≤cap)=> ?_|refine fun(hcp:_≤cap)=> ?_)| (with_reducible first|refine Y2 fun K hK=> ?_|refine Y3 fun A B hA hB=> ?_)<;>(simp only[go_sem,Nat.add_assoc,Nat.left_eq_add,Nat.add_eq_left,aAD,ap,hA,List.set];try simp (disch:=omega) only[Iw])| ((with_reducible refine Y0 ?_);simp only[AQ.then,AQ.blk])|refine⟨by omega,?_⟩| (with_reducible refine hKB _ _ _ ?_)|fail)
  have hre:List.replicate (k+1) p0=P++[p0]:=by rw[hP,List.replicate_succ']
  refine af0 (K:=KL) fun G hG=> ?_
  refine hKL _ _ _ (k+1,nx1+5,cap) noF _ (by omega) (by dsimp only;omega) (by repeat' (first| (with_reducible first|exact C1|refine C2 ?_ ?_)| ((with_reducible refine C0 ?_);exact CE (by omega) rfl)| ((with_reducible refine D0 ?_);first|exact CA rfl|refine CJ ?_)|fail)) (KO (i:=nx1+5) (o':=⟨4,cap,(P++[p0]).map cD⟩) (by rw[hG,aA.aC (by omega)];exact aA.bH) (uO (R:=P.map cD) (r':=cD p0) (by rw[List.map_append];rfl) rfl (fun r hr=>(aG t7 _ r hr).2) rfl (by rw[hp0];exact aH (bB rfl) (aH (.frz (.nil ..)) (aH (.frz (.nil ..)) (aH (bB rfl) eP)))))) ⟨by dsimp only;omega,?_,⟨cap,by dsimp only;rw[hre];exact aA.bH,by dsimp only;omega,Nat.le_refl _⟩,by dsimp only;omega,fun id f0 f1 f2=> ?_⟩
  ·dsimp only
   rw[aA.aC (by omega),hG,aA.bH,hPl]
  ·rw[aA.aC (by omega),hG,aA.aC f1,aA.aC (by omega),aA.aC (by omega),aA.jG (by omega)]
   exact hfr id f0 f1 f2
 ·repeat' (first| (with_reducible first| (refine hK _ _ _ ?_;clear hK K)| (refine hB ?_;clear hA hB A B)|refine Z1 ?_|refine Z3 fun KB hKB=> ?_|refine Z5 (by omega) ?_|refine hKX _ _ _ ?_)| (with_reducible first|refine Y2 fun K hK=> ?_|refine Y3 fun A B hA hB=> ?_)<;>(simp only[go_sem])| ((with_reducible refine Y9 ?_);try simp only[AQ.then,AQ.blk,reduceIte,Nat.reduceEqDiff])|fail)
  have hk3:k=3:=by omega
  subst hk3
  have b9:=(hfr (nx+9) (by omega) (by omega) (by omega)).trans c9
  clear hA
  (have hKY:=hKB;clear hKB)
  refine aM.gP (β:=Nat×Nat×Nat) (fun u=>en [(13,dI u.1),(1,.one (.c (.ptr 5 (nx+3) 0 0))),(0,.one (.c (.ptr 5 nx 0 0)))])
   (fun u H2 nx2=>u.1≤4∧H2 (nx+3)=some ⟨5,1,[[.osl 1 (nx+5) 0 64 64,.osl 1 (nx+6) 0 6 6,.osl 4 ip 0 3 cp,.osl 3 u.2.1 0 u.1 u.2.2,.osl 0 0 0 0 0]]⟩∧(∃mp,H2 u.2.1=some ⟨3,mp,(List.replicate u.1 v0).map gF⟩∧u.1≤u.2.2∧u.2.2≤mp)∧(nx+8≤u.2.1∧u.2.1<nx2∧u.2.1≠ip)∧H2 ip=some ⟨4,mp,(List.replicate 3 p0).map cD⟩∧ ∀id,id<nx+8→id≠nx+3→H2 id=G0 id)
   (fun u=>4-u.1) (0,nx+9,0) ⟨noF,_,by repeat' (first| (with_reducible first|exact C1|refine C2 ?_ ?_)| ((with_reducible refine C0 ?_);exact CE (by omega) rfl)| ((with_reducible refine D0 ?_);first|exact CA rfl|refine CJ ?_)|fail),aK,by dsimp only;omega,aAD,⟨0,b9,Nat.le_refl _,Nat.le_refl _⟩,by dsimp only;omega,ap,fun id f0 f1=>hfr id (by omega) f1 (by omega)⟩ ?_
  rintro⟨k,iv,cv⟩ H2 nx2 hnx2 ⟨hk,b3,⟨mv,bp,bp1,bp2⟩,ba,bip,hfr2⟩ KM hKM
  dsimp only at hk b3 bp bp1 bp2 ba
  have hA2:bQ nx2 [nx,nx+3,ip,iv]:=AM.apart (by simp;omega) (by simp;omega)
  simp only[bQ,eZ] at hA2
  by_cases hlt:k<4
  ·obtain⟨P,hP⟩: ∃P,P=List.replicate k v0:=⟨_,rfl⟩
   have hPl:P.length=k:=by rw[hP];simp
   rw[←hP] at bp
   rw[←hPl] at b3
   repeat' (first| (with_reducible first| (refine hK _ _ _ ?_;clear hK K)| (refine hA ?_;clear hA hB A B)|refine Z1 ?_|refine Z2 ?_|refine Z3 fun KB hKB=> ?_|refine Z4 (by omega) ?_|refine fun(cap:Nat) (hcap:_≤cap)=> ?_|refine fun(hcp:_≤cap)=> ?_)| (with_reducible first|refine Y2 fun K hK=> ?_|refine Y3 fun A B hA hB=> ?_)<;>(simp only[go_sem,Nat.add_assoc,Nat.left_eq_add,Nat.add_eq_left,b3,bp,hA2,List.set];try simp (disch:=omega) only[Iw])| ((with_reducible refine Y0 ?_);simp only[AQ.then,AQ.blk])|refine⟨by omega,?_⟩| (with_reducible refine hKB _ _ _ ?_)|fail)
   have hre:List.replicate (k+1) v0=P++[v0]:=by rw[hP,List.replicate_succ']
   refine af0 (K:=KM) fun G hG=> ?_
   refine hKM _ _ _ (k+1,nx2+5,cap) noF _ (by omega) (by dsimp only;omega) (by repeat' (first| (with_reducible first|exact C1|refine C2 ?_ ?_)| ((with_reducible refine C0 ?_);exact CE (by omega) rfl)| ((with_reducible refine D0 ?_);first|exact CA rfl|refine CJ ?_)|fail)) (KO (i:=nx2+5) (o':=⟨3,cap,(P++[v0]).map gF⟩) (by rw[hG,aA.aC (by omega)];exact aA.bH) (uO (R:=P.map gF) (r':=gF v0) (by rw[List.map_append];rfl) rfl (fun r hr=>(aG zJ _ r hr).2) rfl (by rw[hv0];exact aH (.frz (.nil ..)) (aH (.frz (.nil ..)) (aH (bB rfl) eP))))) ⟨by dsimp only;omega,?_,⟨cap,by dsimp only;rw[hre];exact aA.bH,by dsimp only;omega,Nat.le_refl _⟩,by dsimp only;omega,?_,fun id f0 f1=> ?_⟩
   ·dsimp only
    rw[aA.aC (by omega),hG,aA.bH,hPl]
   ·rw[aA.aC (by omega),hG,aA.aC (by omega),aA.aC (by omega),aA.aC (by omega),aA.jG (by omega)]
    exact bip
   ·rw[aA.aC (by omega),hG,aA.aC f1,aA.aC (by omega),aA.aC (by omega),aA.jG (by omega)]
    exact hfr2 id f0 f1
  ·have hk4:k=4:=by omega
   subst hk4
   repeat' (first| (with_reducible first| (refine hK _ _ _ ?_;clear hK K)| (refine hB ?_;clear hA hB A B)|refine Z1 ?_|refine Z5 (by omega) ?_|refine hKY _ _ _ ?_)| (with_reducible first|refine Y2 fun K hK=> ?_|refine Y3 fun A B hA hB=> ?_)<;>(simp only[go_sem,b3])| ((with_reducible refine Y9 ?_);try simp only[AQ.then,AQ.blk,reduceIte,Nat.reduceEqDiff])|fail)
   have f5:=(hfr2 (nx+5) (by omega) (by omega)).trans c5
   have f6:=(hfr2 (nx+6) (by omega) (by omega)).trans c6
   have f0:=(hfr2 nx (by omega) (by omega)).trans c0
   refine aB.ao4 (args':=[dA (eI s0)]) (without (fun j=>j=nx+5∨j=nx+6∨j=ip∨j=iv) H2) (fun j=>j=nx+5∨j=nx+6∨j=ip∨j=iv) rfl (fun i d0 d h1 h2=> ?_) kS ?_
   ·match i with
    |0=>
     simp only[List.getElem?_cons_zero,Option.some.injEq] at h1 h2
     subst h1;subst h2
     have heS:eI s0=[.isl (w0.map aJ),.isl (w1.map aJ),.isl ((List.replicate 3 p0).map cD),.isl ((List.replicate 4 v0).map gF),.isl []]:=by
      unfold eI;rw[e1,e2,e3,e4,e5];rfl
     rw[heS]
     exact lY (aH (bW bF f5 hl0.symm (by omega) (.inl rfl)) (aH (bW bF f6 hl1.symm (by omega) (.inr (.inl rfl))) (aH (bW t7 bip (by simp) (by simp;omega) (.inr (.inr (.inl rfl)))) (aH (bW zJ bp (by simp) (by simp;omega) (.inr (.inr (.inr rfl)))) (aH (.frz (.nil ..)) eP)))))
    |i+1=>simp at h1
   refine fJ hsz fun H3 nx3 nm3 cells3 hx3 hR3 hP3 ffr3=> ?_
   have hcl3:cells3.length=5:=by obtain⟨_,_,_,_,_,rfl,_⟩:=hR3.ex;rfl
   have hrow3:cells3++List.drop cells3.length [D1.osl 0 0 0 0 0,.osl 0 0 0 0 0,.osl 0 0 0 0 0,.osl 0 0 0 0 0,.osl 0 0 0 0 0]=cells3:=by rw[hcl3];simp
   have g0:H3 nx=some ⟨5,1,[[.osl 0 0 0 0 0,.osl 0 0 0 0 0,.osl 0 0 0 0 0,.osl 0 0 0 0 0,.osl 0 0 0 0 0]]⟩:=by
    rw[ffr3 _ (by omega),iI (by omega)];exact f0
   simp only[go_sem,g0]
   refine⟨hcl3,by omega,?_⟩
   rw[hrow3]
   refine hK _ _ _ ?_
   clear hK K
   repeat' (first| ((with_reducible refine Y8 ?_);try simp only[AQ.then,AQ.blk,reduceIte,Nat.reduceEqDiff])|fail)
   refine hQ _ _ _ _ _ (.inr rfl) (fZ rfl aA.bH hcl3) ⟨dA (eI s0),_,fun j=>∃k,k<19∧j=nm3 k,?_,kS,h _ _ (by omega) fun id hid=> ?_⟩
   ·exact lY (A8 ((hR3.frame fun k hk=>aA.aC (by have:=hP3.rng k hk;omega)).VI (fun k hk=>⟨k,hk,rfl⟩) hsz.pl hsz.sl))
   ·rw[iI (fun⟨k,hk,he⟩=>by have:=hP3.rng k hk;omega),aA.aC (by omega),ffr3 _ (by omega),iI (by omega),hfr2 id (by omega) (by omega)]
    exact cfr id hid
end
end Go.Proofs.YtegiblhkjfiooaaGreat
end
section
namespace Go.Proofs.YtegiblhkjfiooaaGreat
open Go Go.AM
set_option maxRecDepth 100000
set_option maxHeartbeats 8000000
section
variable {H : aA} {nx : Nat} {K : D → aA → Nat → Prop}
theorem aa9:aB Tryz.prog E2 [] .nil 0 fun rr _ _=>rr.plain=true∧rr=dB true:=by
 refine XX rfl fun Q hQ=> ?_
 unfold CP
 repeat' (first| (with_reducible first| (refine hK _ _ _ ?_;clear hK K)|refine Z1 ?_)| (first| (with_reducible refine Y2 fun K hK=> ?_)| (with_reducible refine wS ?_))<;>(simp only[go_sem])| ((with_reducible refine Y8 ?_);try simp only[AQ.then,AQ.blk,reduceIte,Nat.reduceEqDiff])|fail)
 all_goals first|with_reducible refine aZ hQ _ rfl rfl ?_|skip
 all_goals exact(q9 (by decide)).symm
theorem apY (h:K (dB true) H nx):aB Tryz.prog E2 [] H nx K:=
 (aa9).pure rfl (aI trivial) (fun r hr=>hr▸h)
end
end Go.Proofs.YtegiblhkjfiooaaGreat
end
section
namespace Go.Proofs.YtegiblhkjfiooaaGreat
open Go Go.AM
set_option maxRecDepth 100000
end Go.Proofs.YtegiblhkjfiooaaGreat
end
section
namespace Go.Proofs.YtegiblhkjfiooaaGreat
open Go Go.AM
set_option maxRecDepth 100000
end Go.Proofs.YtegiblhkjfiooaaGreat
end
section
namespace Go.Proofs.YtegiblhkjfiooaaGreat
open Go Go.AM
set_option maxRecDepth 100000
end Go.Proofs.YtegiblhkjfiooaaGreat
end
section
namespace Go.Proofs.YtegiblhkjfiooaaGreat
open Go Go.AM
set_option maxRecDepth 100000
end Go.Proofs.YtegiblhkjfiooaaGreat
end
section
namespace Go.Proofs.YtegiblhkjfiooaaGreat
open Go Go.AM
set_option maxRecDepth 100000
end Go.Proofs.YtegiblhkjfiooaaGreat
end
section
namespace Go.Proofs.YtegiblhkjfiooaaGreat
open Go Go.AM
set_option maxRecDepth 100000
end Go.Proofs.YtegiblhkjfiooaaGreat
end
section
namespace Go.Proofs.YtegiblhkjfiooaaGreat
open Go Go.AM
set_option maxRecDepth 100000
end Go.Proofs.YtegiblhkjfiooaaGreat
end
section
namespace Go.Proofs.YtegiblhkjfiooaaGreat
open Go Go.AM
set_option maxRecDepth 100000
set_option maxHeartbeats 8000000
section
variable {H : aA} {nx : Nat} {K : D → aA → Nat → Prop}
end
end Go.Proofs.YtegiblhkjfiooaaGreat
end
section
namespace Go.Proofs.YtegiblhkjfiooaaGreat
open Go Go.AM
set_option maxRecDepth 100000
set_option maxHeartbeats 8000000
section
variable {H : aA} {nx : Nat} {K : D → aA → Nat → Prop}
end
end Go.Proofs.YtegiblhkjfiooaaGreat
end
section
namespace Go.Proofs.YtegiblhkjfiooaaGreat
open Go Go.AM
set_option maxRecDepth 100000
set_option maxHeartbeats 8000000
section
variable {H : aA} {nx : Nat} {K : D → aA → Nat → Prop}
end
end Go.Proofs.YtegiblhkjfiooaaGreat
end
section
namespace Go.Proofs.YtegiblhkjfiooaaGreat
open Go Go.AM
set_option maxRecDepth 100000
set_option maxHeartbeats 8000000
theorem TZ:cJ Tryz.prog DB Tryz.f24 AV IY:=cJ.mk Tryz.func24 (by kernel_rfl) UH
section
variable {H : aA} {nx : Nat} {K : D → aA → Nat → Prop}
theorem GG:aB Tryz.prog eF [dW 1,dW 3] .nil 0 fun rr _ _=>rr.plain=true∧rr= .tup [.c (.v (.int .u64 0)),.c (.v (.int .u64 3))]:=by
 refine pB rfl fun Q hQ=> ?_
 unfold iN
 repeat' (first| (with_reducible first| (refine hK _ _ _ ?_;clear hK K)|refine Z1 ?_)| (with_reducible refine Y2 fun K hK=> ?_)<;>(simp only[go_sem])| ((with_reducible refine Y8 ?_);try simp only[AQ.then,AQ.blk,reduceIte,Nat.reduceEqDiff])|fail)
 exact aZ hQ (.tup [.c (.v (.int .u64 0)),.c (.v (.int .u64 3))]) (by rfl) rfl rfl
theorem FF (h:K (.tup [.c (.v (.int .u64 0)),.c (.v (.int .u64 3))]) H nx):aB Tryz.prog eF [dW 1,dW 3] H nx K:=
 (GG).pure rfl (aI ⟨aE rfl,aE rfl,trivial⟩) (fun r hr=>hr▸h)
theorem JT:aB Tryz.prog cE [dW 1,dW 3] .nil 0 fun rr _ _=>rr.plain=true∧rr= .tup [.c (.v (.int .u64 0)),.c (.v (.int .u64 3))]:=by
 refine tM rfl fun Q hQ=> ?_
 unfold kO
 repeat' (first| (with_reducible first| (refine hK _ _ _ ?_;clear hK K)| (refine hB ?_;clear hA hB A B)|refine Z1 ?_|refine Z2 ?_)| (first| (with_reducible first|refine Y2 fun K hK=> ?_|refine Y3 fun A B hA hB=> ?_)| (with_reducible refine FF ?_))<;>(simp only[go_sem])| ((with_reducible refine Y8 ?_);try simp only[AQ.then,AQ.blk,reduceIte,Nat.reduceEqDiff])|fail)
 all_goals first|with_reducible refine aZ hQ _ rfl rfl ?_|skip
 all_goals rfl
theorem JQ (h:K (.tup [.c (.v (.int .u64 0)),.c (.v (.int .u64 3))]) H nx):aB Tryz.prog cE [dW 1,dW 3] H nx K:=
 (JT).pure rfl (aI ⟨aE rfl,aE rfl,trivial⟩) (fun r hr=>hr▸h)
theorem xE:aB Tryz.prog dN [dO 1 0 1 1,dI 3] (hp [(0,⟨1,1,[true].map eH⟩)]) 1
 fun r H' n'=>n'=2∧H'=hp [(1,⟨1,3,(List.replicate 3 true).map eH⟩)]∧r=dO 1 1 3 3:=by
 refine wL rfl fun Q hQ=> ?_
 unfold iE
 have w1:IntKind.u64.wrap 1=1:=by decide
 have w3:IntKind.u64.wrap 3=3:=by decide
 have m13:min 1 3=1:=rfl
 have h11:((1:Nat):Int)=1:=rfl
 generalize hl0:[true]=l0 at*
 have hlen:l0.length=1:=by subst hl0;rfl
 repeat' (first| (with_reducible first| (refine hK _ _ _ ?_;clear hK K)| (refine hB ?_;clear hA hB A B)|refine Z1 ?_|refine Z2 ?_|refine Z3 fun KB hKB=> ?_)| (first| (with_reducible first|refine Y2 fun K hK=> ?_|refine Y3 fun A B hA hB=> ?_)| (with_reducible refine JQ ?_))<;>(simp only[go_sem,hlen,w1,w3,h11,m13];try simp (disch:=omega) only[Iw])|refine⟨by omega,?_⟩|fail)
 (have hKX:=hKB;clear hKB)
 obtain⟨R,hR⟩: ∃R:Nat→List Bool,R=fun n=>List.replicate n true++List.replicate (3-n) false:=⟨_,rfl⟩
 refine aM.sG 1 (β:=Nat) (fun b n=>en [(8,dI n),(7,dO 1 b 3 3)]) (fun b n=>hp [(b,⟨1,3,(R n).map eH⟩)]) (fun n=>n=1∨n=2∨n=3) (fun n=>3-n) 1
  (by(refine cR [23] (by omega) (by repeat' (first| (with_reducible first|exact C1|refine C2 ?_ ?_)| ((with_reducible refine C0 ?_);exact CQ (by omega) rfl rfl (by rfl) rfl)| ((with_reducible refine D0 ?_);first|exact CA rfl|refine CJ ?_)|fail)) ⟨⟨by simp,by simp[sgL],_,rfl,bP (aG mK _) (by subst hR;subst hl0;rfl) rfl⟩,trivial⟩ (by simp[sgL]))) (.inl rfl) ?_
 intro n hn KL hKL
 have m12:min 1 2=1:=rfl
 have m21:min 2 1=1:=rfl
 have hRl: ∀n,n≤3→(R n).length=3:=fun n hn=>by subst hR;simp;omega
 have r1:=hRl 1 (by decide)
 have r2:=hRl 2 (by decide)
 rcases hn with rfl|rfl|rfl
 ·repeat' (first| (with_reducible first| (refine hK _ _ _ ?_;clear hK K)| (refine hA ?_;clear hA hB A B)|refine Z1 ?_|refine Z2 ?_|refine Z3 fun KB hKB=> ?_|refine Z4 (by omega) ?_)| (with_reducible first|refine Y2 fun K hK=> ?_|refine Y3 fun A B hA hB=> ?_)<;>(simp only[go_sem,r1,m12];try simp (disch:=omega) only[Iw])| ((with_reducible refine Y0 ?_);simp only[AQ.then,AQ.blk])|refine⟨by omega,?_⟩| (with_reducible refine hKB _ _ _ ?_)|fail)
  exact hKL _ _ _ 2 (by omega) (by(refine cR [29] (by omega) (by repeat' (first| (with_reducible first|exact C1|refine C2 ?_ ?_)| ((with_reducible refine C0 ?_);exact CQ (by omega) rfl rfl (by rfl) rfl)| ((with_reducible refine D0 ?_);first|exact CA rfl|refine CJ ?_)|fail)) ⟨⟨by simp,by simp[sgL],_,rfl,bP (aG mK _) (by subst hR;rfl) rfl⟩,trivial⟩ (by simp[sgL]))) (by omega) (by omega)
 ·repeat' (first| (with_reducible first| (refine hK _ _ _ ?_;clear hK K)| (refine hA ?_;clear hA hB A B)|refine Z1 ?_|refine Z2 ?_|refine Z3 fun KB hKB=> ?_|refine Z4 (by omega) ?_)| (with_reducible first|refine Y2 fun K hK=> ?_|refine Y3 fun A B hA hB=> ?_)<;>(simp only[go_sem,r2,m21];try simp (disch:=omega) only[Iw])| ((with_reducible refine Y0 ?_);simp only[AQ.then,AQ.blk])|refine⟨by omega,?_⟩| (with_reducible refine hKB _ _ _ ?_)|fail)
  exact hKL _ _ _ 3 (by omega) (by(refine cR [29] (by omega) (by repeat' (first| (with_reducible first|exact C1|refine C2 ?_ ?_)| ((with_reducible refine C0 ?_);exact CQ (by omega) rfl rfl (by rfl) rfl)| ((with_reducible refine D0 ?_);first|exact CA rfl|refine CJ ?_)|fail)) ⟨⟨by simp,by simp[sgL],_,rfl,bP (aG mK _) (by subst hR;rfl) rfl⟩,trivial⟩ (by simp[sgL]))) (by omega) (by omega)
 ·repeat' (first| (with_reducible first| (refine hK _ _ _ ?_;clear hK K)| (refine hB ?_;clear hA hB A B)|refine Z1 ?_|refine Z5 (by omega) ?_|refine hKX _ _ _ ?_)| (with_reducible first|refine Y2 fun K hK=> ?_|refine Y3 fun A B hA hB=> ?_)<;>(simp only[go_sem])| ((with_reducible first|refine Y8 ?_|refine Y9 ?_);try simp only[AQ.then,AQ.blk,reduceIte,Nat.reduceEqDiff])|fail)
  (refine hQ _ _ _ _ _ 2 (dO 1 1 3 3) (hp [(1,⟨1,3,(List.replicate 3 true).map eH⟩)]) _ _ (.inr rfl) rfl (fU [29] (by omega) (by repeat' (first| ((with_reducible refine C0 ?_);exact CQ (by omega) rfl rfl (by rfl) rfl)| ((with_reducible refine D0 ?_);refine CJ ?_)|fail)) ⟨⟨by simp,by simp[sgL],_,rfl,bP (aG mK _) (by subst hR;rfl) rfl⟩,trivial⟩ (by simp[sgL])) ?_)
  exact⟨rfl,rfl,rfl⟩
theorem aiQ {τ:Nat→Nat} {m:Nat} {l:List Bool}:bA.rn τ ⟨1,m,l.map eH⟩=⟨1,m,l.map eH⟩:=by
 refine rF fun r hr x hx=> ?_
 obtain⟨y,_,rfl⟩:=List.mem_map.1 hr
 simp only[eH,List.mem_singleton] at hx;subst hx;rfl
theorem xD {i0:Nat} (h0:i0<nx) (o0:H i0=some ⟨1,1,[[cB true]]⟩) (h:K (dO 1 nx 3 3) ((H.del i0).set nx ⟨1,3,(List.replicate 3 true).map eH⟩) (nx+1)):aB Tryz.prog dN [dO 1 i0 1 1,dI 3] H nx K:=by
 refine xE.AF [i0] rfl ⟨qS (by simp) rfl rfl rfl rfl,aE rfl,trivial⟩ ⟨⟨by simp,id,_,o0,bP (aG mK _) rfl rfl⟩,trivial⟩ (by simp) (by simp;omega) (by simp) fun r H' n' _ ⟨q1,q2,q3⟩=> ?_
 subst q1;subst q2;subst q3
 generalize List.replicate 3 true=w0 at*
 have e1:back (tau 1 nx (nth [i0])) (hp [(1,⟨1,3,w0.map eH⟩)]) 2 H=(H.del i0).set nx ⟨1,3,w0.map eH⟩:=by
  simp[back,hp,aA.set,aA.nil,tau,nth,aiQ,aA.eL,aA.yI]
 rw[←e1] at h
 exact h
end
end Go.Proofs.YtegiblhkjfiooaaGreat
end
section
namespace Go.Proofs.YtegiblhkjfiooaaGreat
open Go Go.AM
end Go.Proofs.YtegiblhkjfiooaaGreat
end
section
namespace Go.Proofs.YtegiblhkjfiooaaGreat
open Go Go.AM
set_option maxRecDepth 100000
def aAU:AC:=
 (.seq (.region [rq 0 2 (.alloc [OZ,OZ,OZ]),
 rq 1 3 (.move (.kv (.slice none 0 0)))] 2 [0,2])
 (.seq (.region [RM 0 6 0,
 rq 1 7 (.call kN [(.tm 6)]),
 RM 2 4 7] 3 [2,4])
 (.seq (.region [RM 0 8 4,
 rq 1 9 (.call aBE [(.tm 8)]),
 rq 2 5 (.alloc [OZ,OZ,OZ]),
 rn 3 (.store 3 true (.tm 5) (.tm 9))] 4 [2,4,5])
 (.seq (.region [⟨0,(some 10),.load 3 true (.tm 5),none,[],[],true⟩,
 RM 1 11 4,
 ⟨2,(some 12),.call AE [(.tm 11),(ki 50)],none,[],[0],false⟩,
 rn 3 (.store 3 true (.tm 2) (.tm 10)),
 RM 4 3 12] 5 [2,3])
 .ret))))
def aCH:List Cert:=[⟨[],[0,2]⟩,⟨[],[2,4]⟩,⟨[],[2,4,5]⟩,⟨[(0,[],[],true),cz 1,(2,[],[0],false),cz 3,cz 4],[2,3]⟩]
def aA5:List aW:=[.cell 2 3 true,.tm 3]
theorem aCB:aO Tryz.prog Tryz.f27 aCH=some (aAU,aA5):=by kernel_rfl
theorem aCE:aN Tryz.prog aAT Tryz.f27 aAU aA5:=
 aN.mk Tryz.func27 (by kernel_rfl) aCB
def aA9:AC:=
 (.seq (.region [rq 0 2 (.box true (.tm 0)),
 rq 1 4 (.move (.kv (.bool false)))] 2 [1,2])
 (.seq (.seq (.region [rq 0 10 (.load 3 true (.tm 2)),
 rq 1 11 (.call wF [(.tm 10)]),
 rq 2 12 (.un .not (.tm 11)),
 RM 3 13 12,
 GQ 4 14 (.move (.tm 1)) 13 false,
 GQ 5 15 (.call jA [(.tm 14)]) 13 false,
 GQ 6 16 (.un .not (.tm 15)) 13 false,
 rq 7 17 (.pick (.tm 13) (.kv (.bool true)) (.tm 16))] 8 [1,2,17])
 (.cond (.tm 17)
 (.seq (.region [rq 0 4 (.move (.kv (.bool false)))] 1 [4])
 .ret)
 .skip))
 (.seq (.region [rq 0 5 (.alloc [(.v (.bool false)),(.v (.bool false)),(.v (.bool false)),(.v (.bool false))])] 1 [1,2,5])
 (.seq (.seq (.region [RF 0 18 2 2,
 RL 1 19 18,
 RM 2 20 1,
 rq 3 21 (.idx 1 (.tm 19) (.tm 20)),
 RL 4 22 21,
 rq 5 23 (.len false (.tm 22)),
 rq 6 24 (.move (ki 0))] 7 [1,2,5,22,23,24])
 (.block 0
 (.loop
 (.seq (.region [rq 0 25 (.bin .lss (.tm 24) (.tm 23))] 1 [1,2,5,22,23,24,25])
 (.seq (.cond (.tm 25)
 .skip
 (.exit 0))
 (.seq (.block 1
 (.seq (.region [rq 0 26 (.idx 7 (.tm 22) (.tm 24)),
 rq 1 27 (.load 7 true (.tm 26)),
 rq 2 7 (.alloc [VZ,VZ,VZ,VZ,(.v (.bool false)),OZ,OZ]),
 rn 3 (.store 7 true (.tm 7) (.tm 27))] 4 [1,2,5,7,22,23,24])
 (.region [RF 0 28 0 2,
 RL 1 29 28,
 rq 2 30 (.load 7 true (.tm 7)),
 rq 3 31 (.call rN [(.tm 29),(.tm 30)]),
 rq 4 32 (.TL 1 4 (.tm 5) (.tm 31)),
 rn 5 (.store 1 false (.tm 32) (.kv (.bool true)))] 6 [1,2,5,22,23,24])))
 (.region [rq 0 33 (.bin .add (.tm 24) (ki 1)),
 RM 1 24 33] 2 [1,2,5,22,23,24])))))))
 (.seq (.seq (.region [RF 0 34 2 2,
 RL 1 35 34,
 rq 2 36 (.len false (.tm 35)),
 rq 3 37 (.move (ki 0))] 4 [1,2,5,35,36,37])
 (.block 2
 (.loop
 (.seq (.region [rq 0 38 (.bin .lss (.tm 37) (.tm 36))] 1 [1,2,5,35,36,37,38])
 (.seq (.cond (.tm 38)
 .skip
 (.exit 2))
 (.seq (.block 3
 (.seq (.region [RM 0 39 37,
 rq 1 40 (.idx 1 (.tm 35) (.tm 37)),
 RL 2 41 40,
 RM 3 8 39,
 RM 4 9 41] 5 [1,2,5,8,9,35,36,37])
 (.seq (.region [RM 0 42 8,
 RM 1 43 1,
 rq 2 44 (.bin .neq (.tm 42) (.tm 43)),
 RM 3 45 44,
 GQ 4 46 (.move (.tm 9)) 45 true,
 GQ 5 47 (.xop (.zI aAV) [(.tm 5),(.tm 2)]) 45 true,
 GQ 6 48 (.call cN [(.tm 46),(.tm 47)]) 45 true,
 rq 7 49 (.pick (.tm 45) (.tm 48) (.kv (.bool false)))] 8 [1,2,5,35,36,37,49])
 (.cond (.tm 49)
 (.seq (.region [rq 0 4 (.move (.kv (.bool false)))] 1 [4])
 .ret)
 .skip))))
 (.region [rq 0 50 (.bin .add (.tm 37) (ki 1)),
 RM 1 37 50] 2 [1,2,5,35,36,37])))))))
 (.seq (.region [rq 0 4 (.move (.kv (.bool true)))] 1 [4])
 .ret))))))
def aCJ:List Cert:=[⟨[],[1,2]⟩,⟨[],[1,2,17]⟩,⟨[],[4]⟩,⟨[],[1,2,5]⟩,⟨[],[1,2,5,22,23,24]⟩,⟨[],[1,2,5,22,23,24,25]⟩,⟨[],[1,2,5,7,22,23,24]⟩,⟨[],[1,2,5,22,23,24]⟩,⟨[],[1,2,5,22,23,24]⟩,⟨[],[1,2,5,35,36,37]⟩,⟨[],[1,2,5,35,36,37,38]⟩,⟨[],[1,2,5,8,9,35,36,37]⟩,⟨[],[1,2,5,35,36,37,49]⟩,⟨[],[4]⟩,⟨[],[1,2,5,35,36,37]⟩,⟨[],[4]⟩]
def aBT:List aW:=[.tm 4]
theorem aCN:aO Tryz.prog Tryz.f28 aCJ=some (aA9,aBT):=by kernel_rfl
def aA8:AC:=
 (.seq (.region [rq 0 2 (.alloc [OZ,OZ,OZ])] 1 [0,2])
 (.seq (.region [RM 0 8 0,
 rq 1 9 (.call lJ [(.tm 8),(ki 6)]),
 rq 2 3 (.alloc [OZ,OZ,OZ]),
 rn 3 (.store 3 true (.tm 3) (.tm 9))] 4 [0,2,3])
 (.seq (.region [rq 0 10 (.build [VZ,VZ,VZ,(.v (.bool false))] [(0,1,(ki 0)),(1,1,(ki 15))]),
 rq 1 11 (.build [VZ,VZ,VZ,(.v (.bool false))] [(0,1,(ki 16)),(1,1,(ki 31)),(2,1,(ki 1))]),
 rq 2 12 (.build [VZ,VZ,VZ,(.v (.bool false))] [(0,1,(ki 32)),(1,1,(ki 47)),(2,1,(ki 2))]),
 rq 3 13 (.bC 4 3 [VZ,VZ,VZ,(.v (.bool false))] [(0,4,(.tm 10)),(4,4,(.tm 11)),(8,4,(.tm 12))]),
 RF 4 14 0 3,
 rn 5 (.store 1 false (.tm 14) (.tm 13))] 6 [0,2,3])
 (.seq (.seq (.region [rq 0 4 (.move (ki 0))] 1 [0,2,3,4])
 (.block 0
 (.loop
 (.seq (.seq (.region [RM 0 15 4,
 rq 1 16 (.bin .lss (.tm 15) (ki 3))] 2 [0,2,3,4,16])
 (.cond (.tm 16)
 .skip
 (.exit 0)))
 (.seq (.block 1
 (.seq (.region [rq 0 19 (.bC 7 0 [VZ,VZ,VZ,VZ,(.v (.bool false)),OZ,OZ] []),
 RM 1 5 19] 2 [0,2,3,4,5])
 (.seq (.seq (.region [rq 0 6 (.move (ki 0))] 1 [0,2,3,4,5,6])
 (.block 2
 (.loop
 (.seq (.seq (.region [RM 0 20 6,
 RF 1 21 2 3,
 RL 2 22 21,
 RM 3 23 4,
 rq 4 24 (.idx 1 (.tm 22) (.tm 23)),
 RL 5 25 24,
 rq 6 26 (.len false (.tm 25)),
 rq 7 27 (.bin .lss (.tm 20) (.tm 26))] 8 [0,2,3,4,5,6,27])
 (.cond (.tm 27)
 .skip
 (.exit 2)))
 (.seq (.block 3
 (.seq (.region [RF 0 30 2 3,
 RL 1 31 30,
 RM 2 32 4,
 rq 3 33 (.idx 1 (.tm 31) (.tm 32)),
 RL 4 34 33,
 RM 5 35 6,
 rq 6 36 (.idx 7 (.tm 34) (.tm 35)),
 rq 7 37 (.load 7 true (.tm 36)),
 rq 8 7 (.alloc [VZ,VZ,VZ,VZ,(.v (.bool false)),OZ,OZ]),
 rn 9 (.store 7 true (.tm 7) (.tm 37))] 10 [0,2,3,4,5,6,7])
 (.seq (.region [RF 0 38 0 3,
 RL 1 39 38,
 rq 2 40 (.load 7 true (.tm 7)),
 rq 3 41 (.call y3 [(.tm 39),(.tm 40)]),
 rq 4 42 (.bin .eql (.tm 41) (ki 0)),
 RM 5 43 4,
 rq 6 44 (.bin .eql (.tm 43) (ki 0)),
 rq 7 45 (.beq false (.tm 42) (.tm 44)),
 RM 8 46 45,
 GQ 9 47 (.fld 0 (.tm 3)) 46 true,
 GQ 10 48 (.load 1 false (.tm 47)) 46 true,
 GQ 11 49 (.load 7 true (.tm 7)) 46 true,
 GQ 12 50 (.call y3 [(.tm 48),(.tm 49)]) 46 true,
 GQ 13 51 (.bin .neq (.tm 50) (ki 3)) 46 true,
 rq 14 52 (.pick (.tm 46) (.tm 51) (.kv (.bool false)))] 15 [0,2,3,4,5,6,7,52])
 (.cond (.tm 52)
 (.region [RM 0 53 5,
 rq 1 54 (.load 7 true (.tm 7)),
 rq 2 55 (.bC 7 1 [VZ,VZ,VZ,VZ,(.v (.bool false)),OZ,OZ] [(0,7,(.tm 54))]),
 rq 3 56 (.append 7 (.tm 53) (.tm 55)),
 RM 4 5 56] 5 [0,2,3,4,5,6])
 .skip))))
 (.region [RM 0 28 6,
 rq 1 29 (.bin .add (.tm 28) (ki 1)),
 RM 2 6 29] 3 [0,2,3,4,5,6]))))))
 (.seq (.seq (.region [RM 0 57 4,
 rq 1 58 (.bin .eql (.tm 57) (ki 0))] 2 [0,2,3,4,5,58])
 (.cond (.tm 58)
 (.region [RM 0 59 5,
 RM 1 60 0,
 rq 2 61 (.call aD [(.tm 60),(ki 12)]),
 rq 3 62 (.build [VZ,VZ,VZ,VZ,(.v (.bool false)),OZ,OZ] [(1,1,(ki 1)),(2,1,(.tm 61)),(3,1,(ki 4))]),
 rq 4 63 (.bC 7 1 [VZ,VZ,VZ,VZ,(.v (.bool false)),OZ,OZ] [(0,7,(.tm 62))]),
 rq 5 64 (.append 7 (.tm 59) (.tm 63)),
 RM 6 5 64] 7 [0,2,3,4,5])
 .skip))
 (.region [RF 0 65 2 3,
 RL 1 66 65,
 RM 2 67 4,
 RM 3 68 5,
 RM 4 69 5,
 rq 5 70 (.len false (.tm 69)),
 rq 6 71 (.mmx true (.tm 70) (ki 12)),
 rq 7 72 (.slc 7 (.tm 68) none (some (.tm 71)) none),
 rq 8 73 (.idx 1 (.tm 66) (.tm 67)),
 rn 9 (.store 1 false (.tm 73) (.tm 72))] 10 [0,2,3,4])))))
 (.region [RM 0 17 4,
 rq 1 18 (.bin .add (.tm 17) (ki 1)),
 RM 2 4 18] 3 [0,2,3,4]))))))
 (.seq (.region [rq 0 74 (.load 3 true (.tm 3)),
 rn 1 (.store 3 true (.tm 2) (.tm 74))] 2 [2])
 .ret)))))
def aCZ:List Cert:=[⟨[],[0,2]⟩,⟨[],[0,2,3]⟩,⟨[],[0,2,3]⟩,⟨[],[0,2,3,4]⟩,⟨[],[0,2,3,4,16]⟩,⟨[],[0,2,3,4,5]⟩,⟨[],[0,2,3,4,5,6]⟩,⟨[],[0,2,3,4,5,6,27]⟩,⟨[],[0,2,3,4,5,6,7]⟩,⟨[],[0,2,3,4,5,6,7,52]⟩,⟨[],[0,2,3,4,5,6]⟩,⟨[],[0,2,3,4,5,6]⟩,⟨[],[0,2,3,4,5,58]⟩,⟨[],[0,2,3,4,5]⟩,⟨[cz 0,cz 1,cz 2,cz 3,cz 4,cz 5,cz 6,cz 7,cz 8,cz 9],[0,2,3,4]⟩,⟨[],[0,2,3,4]⟩,⟨[],[2]⟩]
def aBQ:List aW:=[.cell 2 3 true]
theorem aCL:aO Tryz.prog Tryz.f72 aCZ=some (aA8,aBQ):=by kernel_rfl
def aA2:AC:=
 (.seq (.region [rq 0 3 (.box true (.tm 0)),
 rq 1 4 (.move (.kv (.bool false)))] 2 [1,2,3])
 (.seq (.region [RF 0 5 0 2,
 RL 1 6 5,
 rq 2 7 (.load 7 true (.tm 3)),
 rq 3 8 (.call rN [(.tm 6),(.tm 7)]),
 rq 4 9 (.TL 1 4 (.tm 1) (.tm 8)),
 RL 5 10 9,
 RM 6 4 10] 7 [4])
 .ret))
def aB8:List Cert:=[⟨[],[1,2,3]⟩,⟨[],[4]⟩]
def aBI:List aW:=[.tm 4]
theorem aCA:aO Tryz.prog Tryz.f75 aB8=some (aA2,aBI):=by kernel_rfl
def aA7:AC:=
 (.seq (.region [rq 0 3 (.box true (.tm 1)),
 rq 1 4 (.move (ki 0))] 2 [0,3])
 (.seq (.seq (.region [RM 0 6 0,
 rq 1 7 (.call aBG [(.tm 6)]),
 rq 2 8 (.un .not (.tm 7)),
 RM 3 9 8,
 GQ 4 10 (.load 7 true (.tm 3)) 9 false,
 GQ 5 11 (.call aBF [(.tm 10)]) 9 false,
 GQ 6 12 (.un .not (.tm 11)) 9 false,
 rq 7 13 (.pick (.tm 9) (.kv (.bool true)) (.tm 12))] 8 [0,3,13])
 (.cond (.tm 13)
 (.seq (.region [rq 0 4 (.move (.kv (.int .i64 (-1))))] 1 [4])
 .ret)
 .skip))
 (.seq (.region [RM 0 14 0,
 RF 1 15 2 3,
 RL 2 16 15,
 RF 3 17 3 3,
 RL 4 18 17,
 RF 5 19 4 3,
 RL 6 20 19,
 rq 7 21 (.call aAY [(.tm 16),(.tm 18),(.tm 20)]),
 rq 8 22 (.call aA4 [(.tm 14),(.tm 21)]),
 RM 9 5 22] 10 [0,5])
 (.seq (.seq (.region [RM 0 23 5,
 rq 1 24 (.bin .lss (.tm 23) (ki 0))] 2 [0,5,24])
 (.cond (.tm 24)
 (.seq (.region [rq 0 4 (.move (ki 3))] 1 [4])
 .ret)
 .skip))
 (.seq (.region [RM 0 25 0,
 RM 1 26 5,
 rq 2 27 (.idx 4 (.tm 25) (.tm 26)),
 RF 3 28 2 27,
 RL 4 29 28,
 RM 5 4 29] 6 [4])
 .ret)))))
def aCK:List Cert:=[⟨[],[0,3]⟩,⟨[],[0,3,13]⟩,⟨[],[4]⟩,⟨[],[0,5]⟩,⟨[],[0,5,24]⟩,⟨[],[4]⟩,⟨[],[4]⟩]
def aBU:List aW:=[.tm 4]
theorem aCT:aO Tryz.prog Tryz.f78 aCK=some (aA7,aBU):=by kernel_rfl
theorem aCQ:aN Tryz.prog y3 Tryz.f78 aA7 aBU:=
 aN.mk Tryz.func78 (by kernel_rfl) aCT
end Go.Proofs.YtegiblhkjfiooaaGreat
end
section
namespace Go.Proofs.YtegiblhkjfiooaaGreat
open Go Go.AM
set_option maxRecDepth 100000
def yD:AC:=
 (.seq (.region [rq 0 4 (.move (.kv (.slice none 0 0)))] 1 [0,1])
 (.seq (.region [rq 0 8 (.bC 3 0 [OZ,OZ,OZ] []),
 RM 1 5 8] 2 [0,1,5])
 (.seq (.region [rq 0 9 (.bC 1 4 [VZ] [(0,1,(ki 2)),(1,1,(ki 3)),(2,1,(ki 5)),(3,1,(ki 20))]),
 RM 1 10 0,
 rq 2 11 (.call aD [(.tm 10),(ki 4)]),
 rq 3 12 (.idx 1 (.tm 9) (.tm 11)),
 RL 4 13 12,
 RM 5 6 13] 6 [0,1,5,6])
 (.seq (.seq (.region [RM 0 14 0,
 RM 1 15 1,
 rq 2 16 (.call aD [(.tm 14),(.tm 15)]),
 RM 3 7 16] 4 [0,5,6,7])
 (.block 0
 (.loop
 (.seq (.seq (.region [RM 0 17 7,
 rq 1 18 (.bin .gtr (.tm 17) (ki 0))] 2 [0,5,6,7,18])
 (.cond (.tm 18)
 .skip
 (.exit 0)))
 (.seq (.block 1
 (.region [RM 0 21 5,
 RM 1 22 0,
 RM 2 23 6,
 rq 3 24 (.call B9 [(.tm 22),(.tm 23)]),
 rq 4 25 (.bC 3 1 [OZ,OZ,OZ] [(0,3,(.tm 24))]),
 rq 5 26 (.append 3 (.tm 21) (.tm 25)),
 RM 6 5 26] 7 [0,5,6,7]))
 (.region [RM 0 19 7,
 rq 1 20 (.bin .sub (.tm 19) (ki 1)),
 RM 2 7 20] 3 [0,5,6,7]))))))
 (.seq (.region [RM 0 27 5,
 RM 1 4 27] 2 [4])
 .ret)))))
def R9:List Cert:=[⟨[],[0,1]⟩,⟨[],[0,1,5]⟩,⟨[],[0,1,5,6]⟩,⟨[],[0,5,6,7]⟩,⟨[],[0,5,6,7,18]⟩,⟨[],[0,5,6,7]⟩,⟨[],[0,5,6,7]⟩,⟨[],[4]⟩]
def FE:List aW:=[.tm 4]
theorem R1:aO Tryz.prog Tryz.f57 R9=some (yD,FE):=by kernel_rfl
def z9:AC:=
 (.seq (.region [rq 0 4 (.alloc [OZ,OZ,OZ])] 1 [0,1,4])
 (.seq (.region [rq 0 8 (.call CS []),
 rq 1 5 (.alloc [OZ,OZ,OZ]),
 rn 2 (.store 3 true (.tm 5) (.tm 8))] 3 [0,1,4,5])
 (.seq (.seq (.region [rq 0 6 (.move (ki 0))] 1 [0,1,4,5,6])
 (.block 0
 (.loop
 (.seq (.seq (.region [RM 0 9 6,
 rq 1 10 (.bin .lss (.tm 9) (ki 3))] 2 [0,1,4,5,6,10])
 (.cond (.tm 10)
 .skip
 (.exit 0)))
 (.seq (.block 1
 (.seq (.region [RF 0 13 0 5,
 ⟨1,(some 14),.load 1 false (.tm 13),none,[],[],true⟩,
 RM 2 15 6,
 RM 3 16 0,
 RM 4 17 1,
 ⟨5,(some 18),.call aD [(.tm 16),(.tm 17)],none,[],[1],false⟩,
 rq 6 19 (.bin .gtr (.tm 18) (ki 0)),
 rq 7 20 (.idx 1 (.tm 14) (.tm 15)),
 rn 8 (.store 1 false (.tm 20) (.tm 19))] 9 [0,1,4,5,6])
 (.region [RF 0 21 2 5,
 ⟨1,(some 22),.load 1 false (.tm 21),none,[],[],true⟩,
 RM 2 23 6,
 RM 3 24 0,
 RM 4 25 1,
 ⟨5,(some 26),.call aD [(.tm 24),(.tm 25)],none,[],[1],false⟩,
 rq 6 27 (.bin .gtr (.tm 26) (ki 0)),
 rq 7 28 (.idx 1 (.tm 22) (.tm 23)),
 rn 8 (.store 1 false (.tm 28) (.tm 27))] 9 [0,1,4,5,6])))
 (.region [RM 0 11 6,
 rq 1 12 (.bin .add (.tm 11) (ki 1)),
 RM 2 6 12] 3 [0,1,4,5,6]))))))
 (.seq (.seq (.region [rq 0 7 (.move (ki 0))] 1 [0,1,4,5,7])
 (.block 2
 (.loop
 (.seq (.seq (.region [RM 0 29 7,
 rq 1 30 (.bin .leq (.tm 29) (ki 3))] 2 [0,1,4,5,7,30])
 (.cond (.tm 30)
 .skip
 (.exit 2)))
 (.seq (.block 3
 (.region [RF 0 33 1 5,
 ⟨1,(some 34),.load 1 false (.tm 33),none,[],[],true⟩,
 RM 2 35 7,
 RM 3 36 0,
 RM 4 37 1,
 ⟨5,(some 38),.call aD [(.tm 36),(.tm 37)],none,[],[1],false⟩,
 rq 6 39 (.bin .eql (.tm 38) (ki 0)),
 rq 7 40 (.idx 1 (.tm 34) (.tm 35)),
 rn 8 (.store 1 false (.tm 40) (.tm 39))] 9 [0,1,4,5,7]))
 (.region [RM 0 31 7,
 rq 1 32 (.bin .add (.tm 31) (ki 1)),
 RM 2 7 32] 3 [0,1,4,5,7]))))))
 (.seq (.region [rq 0 41 (.load 3 true (.tm 5)),
 rn 1 (.store 3 true (.tm 4) (.tm 41))] 2 [4])
 .ret)))))
def VG:List Cert:=[⟨[],[0,1,4]⟩,⟨[],[0,1,4,5]⟩,⟨[],[0,1,4,5,6]⟩,⟨[],[0,1,4,5,6,10]⟩,⟨[cz 0,(1,[],[],true),cz 2,cz 3,cz 4,(5,[],[1],false),cz 6,cz 7,cz 8],[0,1,4,5,6]⟩,⟨[cz 0,(1,[],[],true),cz 2,cz 3,cz 4,(5,[],[1],false),cz 6,cz 7,cz 8],[0,1,4,5,6]⟩,⟨[],[0,1,4,5,6]⟩,⟨[],[0,1,4,5,7]⟩,⟨[],[0,1,4,5,7,30]⟩,⟨[cz 0,(1,[],[],true),cz 2,cz 3,cz 4,(5,[],[1],false),cz 6,cz 7,cz 8],[0,1,4,5,7]⟩,⟨[],[0,1,4,5,7]⟩,⟨[],[4]⟩]
def I6:List aW:=[.cell 4 3 true]
theorem U3:aO Tryz.prog Tryz.f109 VG=some (z9,I6):=by kernel_rfl
def zW:AC:=
 (.seq (.region [rq 0 0 (.alloc [OZ,OZ,OZ])] 1 [0])
 (.seq (.region [rq 0 1 (.bC 1 3 [(.v (.bool false))] [(0,1,(.kv (.bool true))),(1,1,(.kv (.bool true))),(2,1,(.kv (.bool true)))]),
 rq 1 2 (.bC 1 4 [(.v (.bool false))] [(0,1,(.kv (.bool false))),(1,1,(.kv (.bool false))),(2,1,(.kv (.bool false))),(3,1,(.kv (.bool false)))]),
 rq 2 3 (.bC 1 3 [(.v (.bool false))] [(0,1,(.kv (.bool true))),(1,1,(.kv (.bool true))),(2,1,(.kv (.bool true)))]),
 rq 3 4 (.build [OZ,OZ,OZ] [(0,1,(.tm 1)),(1,1,(.tm 2)),(2,1,(.tm 3))]),
 rn 4 (.store 3 true (.tm 0) (.tm 4))] 5 [0])
 .ret))
def TO:List Cert:=[⟨[],[0]⟩,⟨[],[0]⟩]
def IZ:List aW:=[.cell 0 3 true]
theorem UW:aO Tryz.prog Tryz.f178 TO=some (zW,IZ):=by kernel_rfl
end Go.Proofs.YtegiblhkjfiooaaGreat
end
section
namespace Go.Proofs.YtegiblhkjfiooaaGreat
open Go Go.AM
set_option maxRecDepth 100000
set_option maxHeartbeats 4000000
section
variable {H : aA} {nx : Nat} {K : D → aA → Nat → Prop}
theorem K1 (l:List Int) (p:Nat) (n:Int) (hl:kZ l) (hp50:p<2^50) (hn: -2^31<n∧n<2^31):aB Tryz.prog aD [dP 2 0,dI n] (hp [(0,rdO l p)]) 1
 fun r H' n'=>n'=1∧ ∃o',H'=hp [(0,o')]∧C7 o'∧o'=rdO l (p+1)∧ ∃x:Int,r=dI x∧0≤x∧(x<n∨x=0):=by
 have hl2:=hl.len
 refine JN rfl fun Q hQ=> ?_
 unfold pG
 simp only[rdO]
 repeat' (first| (with_reducible first| (refine hK _ _ _ ?_;clear hK K)| (refine hA ?_;clear hA hB A B)| (refine hB ?_;clear hA hB A B)|refine Z1 ?_|refine Z2 ?_|refine Z6 (fun h=> ?_) fun h=> ?_)| (with_reducible first|refine Y2 fun K hK=> ?_|refine Y3 fun A B hA hB=> ?_|refine Y6 (fun h=> ?_) fun h=> ?_)<;>(simp only[go_sem];try simp (disch:=omega) only[Iw])| ((with_reducible refine Y8 ?_);try simp only[AQ.then,AQ.blk,reduceIte,Nat.reduceEqDiff])|refine⟨by omega,?_⟩|fail)
 ·exact lA hQ (dI 0) _ _ rfl (aE rfl) rfl (aV l (p+1)) ⟨rfl,0,rfl,by omega,by omega⟩
 ·exact lA hQ (dI 0) _ _ rfl (aE rfl) rfl (aV l (p+1)) ⟨rfl,0,rfl,by omega,by omega⟩
 ·have b1:=hl.at (p+1-1:Int).toNat
  rw[IntWalk.i64_in (l.getD _ _) (by omega)]
  exact lA hQ (dI _) _ _ rfl (aE rfl) rfl (aV l (p+1)) ⟨rfl,_,rfl,Int.tmod_nonneg _ (by omega),.inl (Int.tmod_lt_of_pos _ (by omega))⟩
 ·have e1:(p:Int)+1-1=p:=by omega
  rw[e1] at*
  have hl3:(0:Int)<l.length:=by omega
  have t1:=Int.tmod_nonneg (l.length:Int) (show (0:Int)≤p by omega)
  have t2:=Int.tmod_lt_of_pos (p:Int) hl3
  have t3:=Int.tmod_nonneg (l.length:Int) (show (0:Int)≤p*7+3 by omega)
  have t4:=Int.tmod_lt_of_pos ((p:Int)*7+3) hl3
  refine⟨⟨t1,t2⟩,by omega,⟨t3,t4⟩,by omega,hK _ _ _ ?_⟩
  clear hK K
  have b1:=hl.at ((p:Int).tmod l.length).toNat
  have b2:=hl.at ((p*7+3:Int).tmod l.length).toNat
  generalize l.getD ((p:Int).tmod l.length).toNat default=x1 at*
  generalize l.getD ((p*7+3:Int).tmod l.length).toNat default=x2 at*
  have d1:0≤(p:Int).tdiv l.length:=Int.tdiv_nonneg (by omega) (by omega)
  have d2:(p:Int).tdiv l.length≤p:=Int.tdiv_le_self _ (by omega)
  generalize (p:Int).tdiv l.length=q at*
  simp (disch:=omega) only[IntWalk.i64_in]
  have hx:0≤(x1:Int)*131+x2*1117+p*29+q*53∧(x1:Int)*131+x2*1117+p*29+q*53<2^60:=by omega
  generalize (x1:Int)*131+x2*1117+p*29+q*53=X at*
  have d3:0≤X.tdiv 64:=Int.tdiv_nonneg (by omega) (by omega)
  have d4:X.tdiv 64≤X:=Int.tdiv_le_self _ (by omega)
  have hy:=aq7 (a:=X) (b:=X.tdiv 64) (by omega) (by omega)
  repeat' (first| (with_reducible first| (refine hK _ _ _ ?_;clear hK K)|refine Z1 ?_)| (with_reducible refine Y2 fun K hK=> ?_)<;>(simp only[go_sem];try simp (disch:=omega) only[Iw])| ((with_reducible refine Y8 ?_);try simp only[AQ.then,AQ.blk,reduceIte,Nat.reduceEqDiff])|refine⟨by omega,?_⟩|fail)
  exact lA hQ (dI _) _ _ rfl (aE rfl) rfl (aV l (p+1)) ⟨rfl,_,rfl,Int.tmod_nonneg _ hy,.inl (Int.tmod_lt_of_pos _ (by omega))⟩
theorem aX {l:List Int} {p i:Nat} {n:Int} (hl:kZ l) (hp50:p<2^50) (hn: -2^31<n∧n<2^31) (hi:i<nx) (ho:H i=some (rdO l p)) (h: ∀x:Int,0≤x→(x<n∨x=0)→K (dI x) (H.set i (rdO l (p+1))) nx):
 aB Tryz.prog aD [dP 2 i,dI n] H nx K:=
 (K1 l p n hl hp50 hn).OU i rfl (gW ⟨DG (by omega) rfl,aE rfl,trivial⟩) hi ho (aV l p) fun r o' ⟨h1,x,h2,h3,h4⟩=>by
  subst h1;subst h2;exact h x h3 h4
theorem FJ (l:List Int) (p:Nat):aB Tryz.prog kE [dP 2 0,dI 99999] (hp [(0,rdO l p)]) 1
 fun r H' n'=>n'=1∧ ∃o',H'=hp [(0,o')]∧C7 o'∧o'=rdO l p∧r=dB false:=by
 refine LF rfl fun Q hQ=> ?_
 unfold rH
 repeat' (first| (with_reducible first| (refine hK _ _ _ ?_;clear hK K)|refine Z1 ?_)| (with_reducible refine Y2 fun K hK=> ?_)<;>(simp only[go_sem])| ((with_reducible refine Y8 ?_);try simp only[AQ.then,AQ.blk,reduceIte,Nat.reduceEqDiff])|fail)
 exact lA hQ (dB false) _ _ rfl (aE rfl) rfl (aV l p) ⟨rfl,rfl⟩
theorem uA {l:List Int} {p i:Nat} (hi:i<nx) (ho:H i=some (rdO l p)) (h:K (dB false) (H.set i (rdO l p)) nx):aB Tryz.prog kE [dP 2 i,dI 99999] H nx K:=
 (FJ l p).OU i rfl (gW ⟨DG (by omega) rfl,aE rfl,trivial⟩) hi ho (aV l p) fun r o' ⟨h1,h2⟩=>by
  subst h1;subst h2;exact h
end
end Go.Proofs.YtegiblhkjfiooaaGreat
end
section
namespace Go.Proofs.YtegiblhkjfiooaaGreat
open Go Go.AM
set_option maxRecDepth 100000
set_option maxHeartbeats 4000000
section
variable {H : aA} {nx : Nat} {K : D → aA → Nat → Prop}
theorem RI (l:List Int) (p:Nat) (hl:kZ l) (hp50:p+7<2^50):aB Tryz.prog qM [dP 2 0] (hp [(0,rdO l p)]) 1
 fun rr H' n'=>n'=1∧ ∃o',H'=hp [(0,o')]∧C7 o'∧ ∃(p':Nat) (x:Int),o'=rdO l p'∧p≤p'∧p'≤p+7∧rr=dI x∧(0≤x∧x≤63):=by
 refine N4 rfl fun Q hQ=> ?_
 unfold vH
 repeat' (first| (with_reducible first| (refine hK _ _ _ ?_;clear hK K)|refine Z1 ?_)| (first| (with_reducible refine Y2 fun K hK=> ?_)| (refine aX hl (by omega) (by omega) (by omega) rfl (fun x h1 h2=> ?_)))<;>(simp only[go_sem];try simp (disch:=omega) only[Iw])|refine⟨by omega,?_⟩|fail)
 have hx:x=0∨x=1∨x=2∨x=3∨x=4∨x=5∨x=6∨x=7:=by omega
 rcases hx with rfl|rfl|rfl|rfl|rfl|rfl|rfl|rfl
 all_goals simp only[go_sem];try simp (disch:=omega) only[Iw]
 all_goals repeat' (first| (with_reducible (refine hK _ _ _ ?_;clear hK K))| ((with_reducible refine Y8 ?_);try simp only[AQ.then,AQ.blk,reduceIte,Nat.reduceEqDiff])|refine⟨by omega,?_⟩|fail)
 all_goals exact lA hQ (dI _) _ _ rfl (aE rfl) rfl (aV _ _) ⟨_,_,rfl,by omega,by omega,rfl,by omega,by omega⟩
theorem SE {l:List Int} {p i:Nat} (hl:kZ l) (hp50:p+7<2^50) (hi:i<nx) (ho:H i=some (rdO l p)) (h: ∀(p':Nat) (x:Int),p≤p'→p'≤p+7→(0≤x∧x≤63)→K (dI x) (H.set i (rdO l p')) nx):
 aB Tryz.prog qM [dP 2 i] H nx K:=
 (RI l p hl hp50).OU i rfl (gW ⟨DG (by omega) rfl,trivial⟩) hi ho (aV l p) fun r o' ⟨p',x,h1,h2,h3,h4,h5⟩=>by
  subst h1;subst h4;exact EW (A:=fun d=>K d (H.set i (rdO l p')) nx) rfl (h p' x h2 h3 h5)
theorem TX (l:List Int) (p:Nat) (hl:kZ l) (hp50:p+8<2^50):aB Tryz.prog tN [dP 2 0,dI 99999] (hp [(0,rdO l p)]) 1
 fun rr H' n'=>n'=1∧ ∃o',H'=hp [(0,o')]∧C7 o'∧ ∃(p':Nat) (m:List Rng),o'=rdO l p'∧p≤p'∧p'≤p+8∧rr=dS (m.map eN)∧(DH m):=by
 refine RN rfl fun Q hQ=> ?_
 unfold w9
 repeat' (first| (with_reducible first| (refine hK _ _ _ ?_;clear hK K)| (refine hA ?_;clear hA hB A B)| (refine hB ?_;clear hA hB A B)|refine Z1 ?_|refine Z2 ?_|refine Z3 fun KB hKB=> ?_|refine Z6 (fun h=> ?_) fun h=> ?_)| (first| (with_reducible first|refine Y2 fun K hK=> ?_|refine Y3 fun A B hA hB=> ?_)| (refine aX hl (by omega) (by omega) (by omega) rfl (fun x h1 h2=> ?_))| (refine uA (by omega) rfl ?_))<;>(simp only[go_sem];try simp (disch:=omega) only[Iw])| ((with_reducible refine Y8 ?_);try simp only[AQ.then,AQ.blk,reduceIte,Nat.reduceEqDiff])| ((with_reducible refine Y0 ?_);simp only[AQ.then,AQ.blk])|refine⟨by omega,?_⟩| (with_reducible refine hKB _ _ _ ?_)|fail)
 ·exact lA hQ (dS ((al2 _ _).map eN)) _ _ rfl (yP (l:=al2 _ _) K3 rfl rfl (by simp[al2]) (by decide)) rfl (aV _ _) ⟨_,al2 _ _,rfl,by omega,by omega,rfl,apM _ _ (by omega)⟩
 ·have hx:x=0∨x=1∨x=2:=by omega
  rcases hx with rfl|rfl|rfl
  ·exact lA hQ (dS (((E9 false).take 1).map eN)) _ _ rfl (DJ (rows:=((E9 false).take 1).map eN) (aG K3 _) rfl (by decide) rfl rfl rfl (by simp[E9])) rfl (aV _ _) ⟨_,(E9 false).take 1,rfl,by omega,by omega,rfl,PO _ 1 (by decide)⟩
  ·exact lA hQ (dS (((E9 false).take 2).map eN)) _ _ rfl (DJ (rows:=((E9 false).take 2).map eN) (aG K3 _) rfl (by decide) rfl rfl rfl (by simp[E9])) rfl (aV _ _) ⟨_,(E9 false).take 2,rfl,by omega,by omega,rfl,PO _ 2 (by decide)⟩
  ·exact lA hQ (dS (((E9 _).take 3).map eN)) _ _ rfl (DJ (rows:=((E9 _).take 3).map eN) (aG K3 _) rfl (by decide) rfl rfl rfl (by simp[E9])) rfl (aV _ _) ⟨_,(E9 _).take 3,rfl,by omega,by omega,rfl,PO _ 3 (by decide)⟩
 ·exact lA hQ (dS (((E9 _).take 3).map eN)) _ _ rfl (DJ (rows:=((E9 _).take 3).map eN) (aG K3 _) rfl (by decide) rfl rfl rfl (by simp[E9])) rfl (aV _ _) ⟨_,(E9 _).take 3,rfl,by omega,by omega,rfl,PO _ 3 (by decide)⟩
theorem IV {l:List Int} {p i:Nat} (hl:kZ l) (hp50:p+8<2^50) (hi:i<nx) (ho:H i=some (rdO l p)) (h: ∀(p':Nat) (m:List Rng),p≤p'→p'≤p+8→(DH m)→K (dS (m.map eN)) (H.set i (rdO l p')) nx):
 aB Tryz.prog tN [dP 2 i,dI 99999] H nx K:=
 (TX l p hl hp50).OU i rfl (gW ⟨DG (by omega) rfl,aE rfl,trivial⟩) hi ho (aV l p) fun r o' ⟨p',m,h1,h2,h3,h4,h5⟩=>by
  subst h1;subst h4;exact EW (A:=fun d=>K d (H.set i (rdO l p')) nx) rfl (h p' m h2 h3 h5)
end
end Go.Proofs.YtegiblhkjfiooaaGreat
end
