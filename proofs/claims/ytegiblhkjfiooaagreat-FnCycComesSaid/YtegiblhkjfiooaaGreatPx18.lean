/- Texts laid together by a program: rules, contracts and the walk that leads to the law. -/
import Derived.Test.YtegiblhkjfiooaaGreatPx17
import Derived.Test.YtegiblhkjfiooaaGreatPx8
import Derived.Test.YtegiblhkjfiooaaGreatPx3
import Derived.Test.YtegiblhkjfiooaaGreatPx11
set_option linter.unusedVariables false
set_option linter.unusedSimpArgs false
set_option linter.unusedSectionVars false
section
namespace Go.Proofs.YtegiblhkjfiooaaGreat
open Go Go.AM
set_option maxRecDepth 100000
set_option maxHeartbeats 8000000
section
variable {H : aA} {nx : Nat} {K : D → aA → Nat → Prop}
theorem UC (h: ∀H' nx',nx≤nx'→(∀id,id<nx→H' id=H id)→K (dA (eI HY)) H' nx'):aB Tryz.prog AA [] H nx K:=by
 refine aB.tW ?_
 refine SZ rfl fun Q hQ=> ?_
 unfold w7
 have hsz:CSz HY:=⟨rfl,rfl,by simp[HY],by simp[HY],⟨by simp[HY],fun j hj=>by simp[HY] at hj⟩,fun k hk=>by rw[MX hk];simp,fun k hk=>by rw[K4 hk];simp⟩
 generalize hs:HY=s0 at*
 obtain⟨w0,hw0⟩: ∃w0,w0=List.replicate 64 (0:Int):=⟨_,rfl⟩
 obtain⟨w1,hw1⟩: ∃w1,w1=List.replicate 6 (-1:Int):=⟨_,rfl⟩
 have han: ∀{H:aA} {nx:Nat} {K:D→aA→Nat→Prop},K (dA [.osl 1 nx 0 64 64,.osl 1 (nx+1) 0 6 6]) ((H.set nx ⟨1,64,w0.map aJ⟩).set (nx+1) ⟨1,6,w1.map aJ⟩) (nx+2)→aB Tryz.prog n8 [] H nx K:=fun h=>QG (by rw[hw0,hw1] at h;exact h)
 have hl0:w0.length=64:=by rw[hw0];rfl
 have hl1:w1.length=6:=by rw[hw1];rfl
 have e1:s0.words=w0:=by rw[←hs,hw0];rfl
 have e2:s0.holds=w1:=by rw[←hs,hw1];rfl
 obtain⟨p0,hp0⟩: ∃p0:fR,p0=⟨0,[],[],3⟩:=⟨_,rfl⟩
 obtain⟨v0,hv0⟩: ∃v0:nY,v0=⟨[],[],2⟩:=⟨_,rfl⟩
 have e3:s0.bM=List.replicate 3 p0:=by rw[←hs,hp0];rfl
 have e4:s0.dD=List.replicate 4 v0:=by rw[←hs,hv0];rfl
 have e5:s0.told=[]:=by rw[←hs];rfl
 clear hw0 hw1
 repeat' (first| (with_reducible first| (refine hK _ _ _ ?_;clear hK K)|refine Z1 ?_|refine Z3 fun KB hKB=> ?_)| (first| (with_reducible refine Y2 fun K hK=> ?_)| (refine han ?_))<;>(simp only[go_sem,Nat.add_assoc,Nat.left_eq_add,Nat.add_eq_left])|fail)
 (have hKX:=hKB;clear hKB)
 refine aM.EJ 4 ?_
 refine aM.EJ 3 ?_
 refine aM.tW _ _ noF (fun t=>.inl rfl) (KO (i:=nx+3) (o:=⟨5,1,[[.osl 1 (nx+5) 0 64 64,.osl 1 (nx+6) 0 6 6,.osl 0 0 0 0 0,.osl 0 0 0 0 0,.osl 0 0 0 0 0]]⟩) (o':=⟨5,1,[[.osl 1 (nx+5) 0 64 64,.osl 1 (nx+6) 0 6 6,.osl 4 (nx+8) 0 0 0,.osl 3 (nx+9) 0 0 0,.osl 0 0 0 0 0]]⟩) (by simp only[aA.set,Nat.add_assoc,Nat.add_left_cancel_iff,Nat.reduceEqDiff,Nat.reduceAdd,if_false,if_true]) (aP (aH (.osl _ _ _ _ _ (by omega)) (aH (.osl _ _ _ _ _ (by omega)) (aH (.VS ..) (aH (.VS ..) (aH (.VS ..) eP))))))) ?_
 refine aM.TF fun G0 hG0=> ?_
 have c0:G0 nx=some ⟨5,1,[[.osl 0 0 0 0 0,.osl 0 0 0 0 0,.osl 0 0 0 0 0,.osl 0 0 0 0 0,.osl 0 0 0 0 0]]⟩:=by rw[hG0];simp only[aA.set,Nat.add_assoc,Nat.add_left_cancel_iff,Nat.reduceEqDiff,Nat.reduceAdd,Nat.left_eq_add,if_false,if_true]
 have c3:G0 (nx+3)=some ⟨5,1,[[.osl 1 (nx+5) 0 64 64,.osl 1 (nx+6) 0 6 6,.osl 4 (nx+8) 0 0 0,.osl 3 (nx+9) 0 0 0,.osl 0 0 0 0 0]]⟩:=by rw[hG0];exact aA.bH
 have c5:G0 (nx+5)=some ⟨1,64,w0.map aJ⟩:=by rw[hG0];simp only[aA.set,Nat.add_assoc,Nat.add_left_cancel_iff,Nat.reduceEqDiff,Nat.reduceAdd,Nat.left_eq_add,if_false,if_true]
 have c6:G0 (nx+6)=some ⟨1,6,w1.map aJ⟩:=by rw[hG0];simp only[aA.set,Nat.add_assoc,Nat.add_left_cancel_iff,Nat.reduceEqDiff,Nat.reduceAdd,Nat.left_eq_add,if_false,if_true]
 have c8:G0 (nx+8)=some ⟨4,0,[]⟩:=by rw[hG0];simp only[aA.set,Nat.add_assoc,Nat.add_left_cancel_iff,Nat.reduceEqDiff,Nat.reduceAdd,Nat.left_eq_add,if_false,if_true]
 have c9:G0 (nx+9)=some ⟨3,0,[]⟩:=by rw[hG0];simp only[aA.set,Nat.add_assoc,Nat.add_left_cancel_iff,Nat.reduceEqDiff,Nat.reduceAdd,Nat.left_eq_add,if_false,if_true]
 have cfr: ∀id,id<nx→G0 id=H id:=fun id hid=>by
  rw[hG0];simp only[aA.set,Nat.add_assoc,Nat.reduceAdd,show ¬id=nx by omega,show ¬id=nx+3 by omega,show ¬id=nx+5 by omega,show ¬id=nx+6 by omega,show ¬id=nx+8 by omega,show ¬id=nx+9 by omega,if_false]
 clear hG0
 refine aM.gP (β:=Nat×Nat×Nat) (fun u=>en [(4,dI u.1),(1,.one (.c (.ptr 5 (nx+3) 0 0))),(0,.one (.c (.ptr 5 nx 0 0)))])
  (fun u H1 nx1=>u.1≤3∧H1 (nx+3)=some ⟨5,1,[[.osl 1 (nx+5) 0 64 64,.osl 1 (nx+6) 0 6 6,.osl 4 u.2.1 0 u.1 u.2.2,.osl 3 (nx+9) 0 0 0,.osl 0 0 0 0 0]]⟩∧(∃mp,H1 u.2.1=some ⟨4,mp,(List.replicate u.1 p0).map cD⟩∧u.1≤u.2.2∧u.2.2≤mp)∧(nx+8≤u.2.1∧u.2.1<nx1∧u.2.1≠nx+9)∧ ∀id,id<nx+10→id≠nx+3→id≠nx+8→H1 id=G0 id)
  (fun u=>3-u.1) (0,nx+8,0) ⟨noF,_,by repeat' (first| (with_reducible first|exact C1|refine C2 ?_ ?_)| ((with_reducible refine C0 ?_);exact CE (by omega) rfl)| ((with_reducible refine D0 ?_);first|exact CA rfl|refine CJ ?_)|fail),aK,by dsimp only;omega,c3,⟨0,c8,Nat.le_refl _,Nat.le_refl _⟩,by dsimp only;omega,fun _ _ _ _=>rfl⟩ ?_
 rintro⟨k,ip,cp⟩ H1 nx1 hnx ⟨hk,aAD,⟨mp,ap,ap1,ap2⟩,aa,hfr⟩ KL hKL
 dsimp only at hk aAD ap ap1 ap2 aa
 have hA:bQ nx1 [nx,nx+3,nx+9,ip]:=AM.apart (by simp;omega) (by simp;omega)
 simp only[bQ,eZ] at hA
 by_cases hlt:k<3
 ·obtain⟨P,hP⟩: ∃P,P=List.replicate k p0:=⟨_,rfl⟩
  have hPl:P.length=k:=by rw[hP];simp
  rw[←hP] at ap
  rw[←hPl] at aAD
  repeat' (first| (with_reducible first| (refine hK _ _ _ ?_;clear hK K)| (refine hA ?_;clear hA hB A B)|refine Z1 ?_|refine Z2 ?_|refine Z3 fun KB hKB=> ?_|refine Z4 (by omega) ?_|refine fun(cap:Nat) (hcap:_≤cap)=> ?_|refine fun(hcp:_≤cap)=> ?_)| (with_reducible first|refine Y2 fun K hK=> ?_|refine Y3 fun A B hA hB=> ?_)<;>(simp only[go_sem,Nat.add_assoc,Nat.left_eq_add,Nat.add_eq_left,aAD,ap,hA,List.set];try simp (disch:=omega) only[Iw])| ((with_reducible refine Y0 ?_);simp only[AQ.then,AQ.blk])|refine⟨by omega,?_⟩| (with_reducible refine hKB _ _ _ ?_)|fail)
  have hre:List.replicate (k+1) p0=P++[p0]:=by rw[hP,List.replicate_succ']
  refine af0 (K:=KL) fun G hG=> ?_
  refine hKL _ _ _ (k+1,nx1+5,cap) noF _ (by omega) (by dsimp only;omega) (by repeat' (first| (with_reducible first|exact C1|refine C2 ?_ ?_)| ((with_reducible refine C0 ?_);exact CE (by omega) rfl)| ((with_reducible refine D0 ?_);first|exact CA rfl|refine CJ ?_)|fail)) (KO (i:=nx1+5) (o':=⟨4,cap,(P++[p0]).map cD⟩) (by rw[hG,aA.aC (by omega)];exact aA.bH) (uO (R:=P.map cD) (r':=cD p0) (by rw[List.map_append];rfl) rfl (fun r hr=>(aG t7 _ r hr).2) rfl (by rw[hp0];exact aH (bB rfl) (aH (.frz (.nil ..)) (aH (.frz (.nil ..)) (aH (bB rfl) eP)))))) ⟨by dsimp only;omega,?_,⟨cap,by dsimp only;rw[hre];exact aA.bH,by dsimp only;omega,Nat.le_refl _⟩,by dsimp only;omega,fun id f0 f1 f2=> ?_⟩
  ·dsimp only
   rw[aA.aC (by omega),hG,aA.bH,hPl]
  ·rw[aA.aC (by omega),hG,aA.aC f1,aA.aC (by omega),aA.aC (by omega),aA.jG (by omega)]
   exact hfr id f0 f1 f2
 ·repeat' (first| (with_reducible first| (refine hK _ _ _ ?_;clear hK K)| (refine hB ?_;clear hA hB A B)|refine Z1 ?_|refine Z3 fun KB hKB=> ?_|refine Z5 (by omega) ?_|refine hKX _ _ _ ?_)| (with_reducible first|refine Y2 fun K hK=> ?_|refine Y3 fun A B hA hB=> ?_)<;>(simp only[go_sem])| ((with_reducible refine Y9 ?_);try simp only[AQ.then,AQ.blk,reduceIte,Nat.reduceEqDiff])|fail)
  have hk3:k=3:=by omega
  subst hk3
  have b9:=(hfr (nx+9) (by omega) (by omega) (by omega)).trans c9
  clear hA
  (have hKY:=hKB;clear hKB)
  refine aM.gP (β:=Nat×Nat×Nat) (fun u=>en [(13,dI u.1),(1,.one (.c (.ptr 5 (nx+3) 0 0))),(0,.one (.c (.ptr 5 nx 0 0)))])
   (fun u H2 nx2=>u.1≤4∧H2 (nx+3)=some ⟨5,1,[[.osl 1 (nx+5) 0 64 64,.osl 1 (nx+6) 0 6 6,.osl 4 ip 0 3 cp,.osl 3 u.2.1 0 u.1 u.2.2,.osl 0 0 0 0 0]]⟩∧(∃mp,H2 u.2.1=some ⟨3,mp,(List.replicate u.1 v0).map gF⟩∧u.1≤u.2.2∧u.2.2≤mp)∧(nx+8≤u.2.1∧u.2.1<nx2∧u.2.1≠ip)∧H2 ip=some ⟨4,mp,(List.replicate 3 p0).map cD⟩∧ ∀id,id<nx+8→id≠nx+3→H2 id=G0 id)
   (fun u=>4-u.1) (0,nx+9,0) ⟨noF,_,by repeat' (first| (with_reducible first|exact C1|refine C2 ?_ ?_)| ((with_reducible refine C0 ?_);exact CE (by omega) rfl)| ((with_reducible refine D0 ?_);first|exact CA rfl|refine CJ ?_)|fail),aK,by dsimp only;omega,aAD,⟨0,b9,Nat.le_refl _,Nat.le_refl _⟩,by dsimp only;omega,ap,fun id f0 f1=>hfr id (by omega) f1 (by omega)⟩ ?_
  rintro⟨k,iv,cv⟩ H2 nx2 hnx2 ⟨hk,b3,⟨mv,bp,bp1,bp2⟩,ba,bip,hfr2⟩ KM hKM
  dsimp only at hk b3 bp bp1 bp2 ba
  have hA2:bQ nx2 [nx,nx+3,ip,iv]:=AM.apart (by simp;omega) (by simp;omega)
  simp only[bQ,eZ] at hA2
  by_cases hlt:k<4
  ·obtain⟨P,hP⟩: ∃P,P=List.replicate k v0:=⟨_,rfl⟩
   have hPl:P.length=k:=by rw[hP];simp
   rw[←hP] at bp
   rw[←hPl] at b3
   repeat' (first| (with_reducible first| (refine hK _ _ _ ?_;clear hK K)| (refine hA ?_;clear hA hB A B)|refine Z1 ?_|refine Z2 ?_|refine Z3 fun KB hKB=> ?_|refine Z4 (by omega) ?_|refine fun(cap:Nat) (hcap:_≤cap)=> ?_|refine fun(hcp:_≤cap)=> ?_)| (with_reducible first|refine Y2 fun K hK=> ?_|refine Y3 fun A B hA hB=> ?_)<;>(simp only[go_sem,Nat.add_assoc,Nat.left_eq_add,Nat.add_eq_left,b3,bp,hA2,List.set];try simp (disch:=omega) only[Iw])| ((with_reducible refine Y0 ?_);simp only[AQ.then,AQ.blk])|refine⟨by omega,?_⟩| (with_reducible refine hKB _ _ _ ?_)|fail)
   have hre:List.replicate (k+1) v0=P++[v0]:=by rw[hP,List.replicate_succ']
   refine af0 (K:=KM) fun G hG=> ?_
   refine hKM _ _ _ (k+1,nx2+5,cap) noF _ (by omega) (by dsimp only;omega) (by repeat' (first| (with_reducible first|exact C1|refine C2 ?_ ?_)| ((with_reducible refine C0 ?_);exact CE (by omega) rfl)| ((with_reducible refine D0 ?_);first|exact CA rfl|refine CJ ?_)|fail)) (KO (i:=nx2+5) (o':=⟨3,cap,(P++[v0]).map gF⟩) (by rw[hG,aA.aC (by omega)];exact aA.bH) (uO (R:=P.map gF) (r':=gF v0) (by rw[List.map_append];rfl) rfl (fun r hr=>(aG zJ _ r hr).2) rfl (by rw[hv0];exact aH (.frz (.nil ..)) (aH (.frz (.nil ..)) (aH (bB rfl) eP))))) ⟨by dsimp only;omega,?_,⟨cap,by dsimp only;rw[hre];exact aA.bH,by dsimp only;omega,Nat.le_refl _⟩,by dsimp only;omega,?_,fun id f0 f1=> ?_⟩
   ·dsimp only
    rw[aA.aC (by omega),hG,aA.bH,hPl]
   ·rw[aA.aC (by omega),hG,aA.aC (by omega),aA.aC (by omega),aA.aC (by omega),aA.jG (by omega)]
    exact bip
   ·rw[aA.aC (by omega),hG,aA.aC f1,aA.aC (by omega),aA.aC (by omega),aA.jG (by omega)]
    exact hfr2 id f0 f1
  ·have hk4:k=4:=by omega
   subst hk4
   repeat' (first| (with_reducible first| (refine hK _ _ _ ?_;clear hK K)| (refine hB ?_;clear hA hB A B)|refine Z1 ?_|refine Z5 (by omega) ?_|refine hKY _ _ _ ?_)| (with_reducible first|refine Y2 fun K hK=> ?_|refine Y3 fun A B hA hB=> ?_)<;>(simp only[go_sem,b3])| ((with_reducible refine Y9 ?_);try simp only[AQ.then,AQ.blk,reduceIte,Nat.reduceEqDiff])|fail)
   have f5:=(hfr2 (nx+5) (by omega) (by omega)).trans c5
   have f6:=(hfr2 (nx+6) (by omega) (by omega)).trans c6
   have f0:=(hfr2 nx (by omega) (by omega)).trans c0
   refine aB.ao4 (args':=[dA (eI s0)]) (without (fun j=>j=nx+5∨j=nx+6∨j=ip∨j=iv) H2) (fun j=>j=nx+5∨j=nx+6∨j=ip∨j=iv) rfl (fun i d0 d h1 h2=> ?_) kS ?_
   ·match i with
    |0=>
     simp only[List.getElem?_cons_zero,Option.some.injEq] at h1 h2
     subst h1;subst h2
     have heS:eI s0=[.isl (w0.map aJ),.isl (w1.map aJ),.isl ((List.replicate 3 p0).map cD),.isl ((List.replicate 4 v0).map gF),.isl []]:=by
      unfold eI;rw[e1,e2,e3,e4,e5];rfl
     rw[heS]
     exact lY (aH (bW bF f5 hl0.symm (by omega) (.inl rfl)) (aH (bW bF f6 hl1.symm (by omega) (.inr (.inl rfl))) (aH (bW t7 bip (by simp) (by simp;omega) (.inr (.inr (.inl rfl)))) (aH (bW zJ bp (by simp) (by simp;omega) (.inr (.inr (.inr rfl)))) (aH (.frz (.nil ..)) eP)))))
    |i+1=>simp at h1
   refine fJ hsz fun H3 nx3 nm3 cells3 hx3 hR3 hP3 ffr3=> ?_
   have hcl3:cells3.length=5:=by obtain⟨_,_,_,_,_,rfl,_⟩:=hR3.ex;rfl
   have hrow3:cells3++List.drop cells3.length [D1.osl 0 0 0 0 0,.osl 0 0 0 0 0,.osl 0 0 0 0 0,.osl 0 0 0 0 0,.osl 0 0 0 0 0]=cells3:=by rw[hcl3];simp
   have g0:H3 nx=some ⟨5,1,[[.osl 0 0 0 0 0,.osl 0 0 0 0 0,.osl 0 0 0 0 0,.osl 0 0 0 0 0,.osl 0 0 0 0 0]]⟩:=by
    rw[ffr3 _ (by omega),iI (by omega)];exact f0
   simp only[go_sem,g0]
   refine⟨hcl3,by omega,?_⟩
   rw[hrow3]
   refine hK _ _ _ ?_
   clear hK K
   repeat' (first| ((with_reducible refine Y8 ?_);try simp only[AQ.then,AQ.blk,reduceIte,Nat.reduceEqDiff])|fail)
   refine hQ _ _ _ _ _ (.inr rfl) (fZ rfl aA.bH hcl3) ⟨dA (eI s0),_,fun j=>∃k,k<19∧j=nm3 k,?_,kS,h _ _ (by omega) fun id hid=> ?_⟩
   ·exact lY (A8 ((hR3.frame fun k hk=>aA.aC (by have:=hP3.rng k hk;omega)).VI (fun k hk=>⟨k,hk,rfl⟩) hsz.pl hsz.sl))
   ·rw[iI (fun⟨k,hk,he⟩=>by have:=hP3.rng k hk;omega),aA.aC (by omega),ffr3 _ (by omega),iI (by omega),hfr2 id (by omega) (by omega)]
    exact cfr id hid
end
end Go.Proofs.YtegiblhkjfiooaaGreat
end
section
namespace Go.Proofs.YtegiblhkjfiooaaGreat
open Go Go.AM
set_option maxRecDepth 100000
set_option maxHeartbeats 8000000
def GA (c:Cfg) (k:Nat):Int:=(c.cP.getD k default).length
theorem OO:cJ Tryz.prog xJ Tryz.f18 uZ D2:=cJ.mk Tryz.func18 (by kernel_rfl) O6
section
variable {H : aA} {nx : Nat} {K : D → aA → Nat → Prop}
theorem RV (c:Cfg) (s:CSt) (hb:aQ c) (hcf:jO c) (hs:COk c s):aB Tryz.prog xJ [dA (cU c),dA (eI s)] .nil 0 fun r _ _=>r.plain=true∧r=dB (decide ((s.told.length:Int)=jS (GA c) 3)):=by
 have hpl:=(hC hb).1
 refine OO rfl fun Q hQ=> ?_
 unfold uZ
 repeat' (first| (with_reducible first| (refine hK _ _ _ ?_;clear hK K)| (refine hB ?_;clear hA hB A B)|refine Z1 ?_|refine Z2 ?_|refine Z3 fun KB hKB=> ?_)| (first| (with_reducible first|refine Y2 fun K hK=> ?_|refine Y3 fun A B hA hB=> ?_)| (refine C5 hb hcf hs ?_))<;>(simp only[go_sem,hpl])|fail)
 (have hKX:=hKB;clear hKB)
 refine aM.abC fun G0 hG0=> ?_
 have c0:G0 0=some ⟨3,1,[cU c]⟩:=by rw[hG0];rfl
 have c1:G0 1=some ⟨5,1,[eI s]⟩:=by rw[hG0];rfl
 clear hG0
 refine aM.gP (β:=Nat) (fun k=>en [(15,dI k),(14,dI 3),(13,dS (c.cP.map jR)),(5,dI (jS (GA c) k)),(3,.one (.c (.ptr 5 1 0 0)))])
  (fun k H1 _=>k≤3∧ ∀id,id<2→H1 id=G0 id) (fun k=>3-k) 0 ⟨noF,_,by repeat' (first| (with_reducible first|exact C1|refine C2 ?_ ?_)| ((with_reducible refine C0 ?_);exact CE (by omega) rfl)| ((with_reducible refine D0 ?_);first|exact CA rfl|refine CJ ?_)|fail),aK,by omega,fun _ _=>rfl⟩ ?_
 rintro k H1 nx1 hnx ⟨hk,hfr⟩ KL hKL
 have g0:=(hfr 0 (by omega)).trans c0
 have g1:=(hfr 1 (by omega)).trans c1
 have hs1:=KF (f:=GA c) (m:=12) (by omega) k fun j hj=>by have:=(hC hb).2 j;unfold GA;omega
 by_cases hlt:k<3
 ·have hsum:jS (GA c) (k+1)=jS (GA c) k+(c.cP.getD k default).length:=by rw[jS,GA]
  have hple:=(hC hb).2 k
  repeat' (first| (with_reducible first| (refine hK _ _ _ ?_;clear hK K)| (refine hA ?_;clear hA hB A B)|refine Z1 ?_|refine Z2 ?_|refine Z3 fun KB hKB=> ?_|refine Z4 (by omega) ?_)| (with_reducible first|refine Y2 fun K hK=> ?_|refine Y3 fun A B hA hB=> ?_)<;>(simp only[go_sem,g0,g1];try simp (disch:=omega) only[Iw])| ((with_reducible refine Y0 ?_);simp only[AQ.then,AQ.blk])|refine⟨by omega,?_⟩| (with_reducible refine hKB _ _ _ ?_)|fail)
  exact hKL _ _ _ (k+1) noF _ (by omega) (by omega) (by rw[hsum];repeat' (first| (with_reducible first|exact C1|refine C2 ?_ ?_)| ((with_reducible refine C0 ?_);exact CE (by omega) rfl)| ((with_reducible refine D0 ?_);first|exact CA rfl|refine CJ ?_)|fail)) aK ⟨by omega,hfr⟩
 ·have hk3:k=3:=by omega
  subst hk3
  repeat' (first| (with_reducible first| (refine hK _ _ _ ?_;clear hK K)| (refine hB ?_;clear hA hB A B)|refine Z1 ?_|refine Z5 (by omega) ?_|refine hKX _ _ _ ?_)| (with_reducible first|refine Y2 fun K hK=> ?_|refine Y3 fun A B hA hB=> ?_)<;>(simp only[go_sem,g0,g1])| ((with_reducible first|refine Y8 ?_|refine Y9 ?_);try simp only[AQ.then,AQ.blk,reduceIte,Nat.reduceEqDiff])|fail)
  exact hQ _ _ _ _ _ (.inr rfl) rfl ⟨rfl,rfl⟩
theorem ak3 {c:Cfg} {s:CSt} (hb:aQ c) (hcf:jO c) (hs:COk c s) (h:K (dB (decide ((s.told.length:Int)=jS (GA c) 3))) H nx):aB Tryz.prog xJ [dA (cU c),dA (eI s)] H nx K:=
 (RV c s hb hcf hs).pure rfl (aI ⟨aE rfl,aE rfl,trivial⟩) fun r hr=>hr▸h
end
end Go.Proofs.YtegiblhkjfiooaaGreat
end
section
namespace Go.Proofs.YtegiblhkjfiooaaGreat
open Go Go.AM
set_option maxRecDepth 100000
set_option maxHeartbeats 8000000
section
variable {H : aA} {nx : Nat} {K : D → aA → Nat → Prop}
end
end Go.Proofs.YtegiblhkjfiooaaGreat
end
section
namespace Go.Proofs.YtegiblhkjfiooaaGreat
open Go Go.AM
set_option maxRecDepth 100000
set_option maxHeartbeats 8000000
theorem TZ:cJ Tryz.prog DB Tryz.f24 AV IY:=cJ.mk Tryz.func24 (by kernel_rfl) UH
theorem OX:cJ Tryz.prog xN Tryz.f16 u0 DP:=cJ.mk Tryz.func16 (by kernel_rfl) N3
section
variable {H : aA} {nx : Nat} {K : D → aA → Nat → Prop}
theorem GG:aB Tryz.prog eF [dW 1,dW 3] .nil 0 fun rr _ _=>rr.plain=true∧rr= .tup [.c (.v (.int .u64 0)),.c (.v (.int .u64 3))]:=by
 refine pB rfl fun Q hQ=> ?_
 unfold iN
 repeat' (first| (with_reducible first| (refine hK _ _ _ ?_;clear hK K)|refine Z1 ?_)| (with_reducible refine Y2 fun K hK=> ?_)<;>(simp only[go_sem])| ((with_reducible refine Y8 ?_);try simp only[AQ.then,AQ.blk,reduceIte,Nat.reduceEqDiff])|fail)
 exact aZ hQ (.tup [.c (.v (.int .u64 0)),.c (.v (.int .u64 3))]) (by rfl) rfl rfl
theorem FF (h:K (.tup [.c (.v (.int .u64 0)),.c (.v (.int .u64 3))]) H nx):aB Tryz.prog eF [dW 1,dW 3] H nx K:=
 (GG).pure rfl (aI ⟨aE rfl,aE rfl,trivial⟩) (fun r hr=>hr▸h)
theorem JT:aB Tryz.prog cE [dW 1,dW 3] .nil 0 fun rr _ _=>rr.plain=true∧rr= .tup [.c (.v (.int .u64 0)),.c (.v (.int .u64 3))]:=by
 refine tM rfl fun Q hQ=> ?_
 unfold kO
 repeat' (first| (with_reducible first| (refine hK _ _ _ ?_;clear hK K)| (refine hB ?_;clear hA hB A B)|refine Z1 ?_|refine Z2 ?_)| (first| (with_reducible first|refine Y2 fun K hK=> ?_|refine Y3 fun A B hA hB=> ?_)| (with_reducible refine FF ?_))<;>(simp only[go_sem])| ((with_reducible refine Y8 ?_);try simp only[AQ.then,AQ.blk,reduceIte,Nat.reduceEqDiff])|fail)
 all_goals first|with_reducible refine aZ hQ _ rfl rfl ?_|skip
 all_goals rfl
theorem JQ (h:K (.tup [.c (.v (.int .u64 0)),.c (.v (.int .u64 3))]) H nx):aB Tryz.prog cE [dW 1,dW 3] H nx K:=
 (JT).pure rfl (aI ⟨aE rfl,aE rfl,trivial⟩) (fun r hr=>hr▸h)
theorem FM:aB Tryz.prog eF [dW 1,dW 300] .nil 0 fun rr _ _=>rr.plain=true∧rr= .tup [.c (.v (.int .u64 0)),.c (.v (.int .u64 300))]:=by
 refine pB rfl fun Q hQ=> ?_
 unfold iN
 repeat' (first| (with_reducible first| (refine hK _ _ _ ?_;clear hK K)|refine Z1 ?_)| (with_reducible refine Y2 fun K hK=> ?_)<;>(simp only[go_sem])| ((with_reducible refine Y8 ?_);try simp only[AQ.then,AQ.blk,reduceIte,Nat.reduceEqDiff])|fail)
 exact aZ hQ (.tup [.c (.v (.int .u64 0)),.c (.v (.int .u64 300))]) (by rfl) rfl rfl
theorem E0 (h:K (.tup [.c (.v (.int .u64 0)),.c (.v (.int .u64 300))]) H nx):aB Tryz.prog eF [dW 1,dW 300] H nx K:=
 (FM).pure rfl (aI ⟨aE rfl,aE rfl,trivial⟩) (fun r hr=>hr▸h)
theorem JF:aB Tryz.prog cE [dW 1,dW 300] .nil 0 fun rr _ _=>rr.plain=true∧rr= .tup [.c (.v (.int .u64 0)),.c (.v (.int .u64 300))]:=by
 refine tM rfl fun Q hQ=> ?_
 unfold kO
 repeat' (first| (with_reducible first| (refine hK _ _ _ ?_;clear hK K)| (refine hB ?_;clear hA hB A B)|refine Z1 ?_|refine Z2 ?_)| (first| (with_reducible first|refine Y2 fun K hK=> ?_|refine Y3 fun A B hA hB=> ?_)| (with_reducible refine E0 ?_))<;>(simp only[go_sem])| ((with_reducible refine Y8 ?_);try simp only[AQ.then,AQ.blk,reduceIte,Nat.reduceEqDiff])|fail)
 all_goals first|with_reducible refine aZ hQ _ rfl rfl ?_|skip
 all_goals rfl
theorem JP (h:K (.tup [.c (.v (.int .u64 0)),.c (.v (.int .u64 300))]) H nx):aB Tryz.prog cE [dW 1,dW 300] H nx K:=
 (JF).pure rfl (aI ⟨aE rfl,aE rfl,trivial⟩) (fun r hr=>hr▸h)
theorem xE:aB Tryz.prog dN [dO 1 0 1 1,dI 3] (hp [(0,⟨1,1,[true].map eH⟩)]) 1
 fun r H' n'=>n'=2∧H'=hp [(1,⟨1,3,(List.replicate 3 true).map eH⟩)]∧r=dO 1 1 3 3:=by
 refine wL rfl fun Q hQ=> ?_
 unfold iE
 have w1:IntKind.u64.wrap 1=1:=by decide
 have w3:IntKind.u64.wrap 3=3:=by decide
 have m13:min 1 3=1:=rfl
 have h11:((1:Nat):Int)=1:=rfl
 generalize hl0:[true]=l0 at*
 have hlen:l0.length=1:=by subst hl0;rfl
 repeat' (first| (with_reducible first| (refine hK _ _ _ ?_;clear hK K)| (refine hB ?_;clear hA hB A B)|refine Z1 ?_|refine Z2 ?_|refine Z3 fun KB hKB=> ?_)| (first| (with_reducible first|refine Y2 fun K hK=> ?_|refine Y3 fun A B hA hB=> ?_)| (with_reducible refine JQ ?_))<;>(simp only[go_sem,hlen,w1,w3,h11,m13];try simp (disch:=omega) only[Iw])|refine⟨by omega,?_⟩|fail)
 (have hKX:=hKB;clear hKB)
 obtain⟨R,hR⟩: ∃R:Nat→List Bool,R=fun n=>List.replicate n true++List.replicate (3-n) false:=⟨_,rfl⟩
 refine aM.sG 1 (β:=Nat) (fun b n=>en [(8,dI n),(7,dO 1 b 3 3)]) (fun b n=>hp [(b,⟨1,3,(R n).map eH⟩)]) (fun n=>n=1∨n=2∨n=3) (fun n=>3-n) 1
  (by(refine cR [23] (by omega) (by repeat' (first| (with_reducible first|exact C1|refine C2 ?_ ?_)| ((with_reducible refine C0 ?_);exact CQ (by omega) rfl rfl (by rfl) rfl)| ((with_reducible refine D0 ?_);first|exact CA rfl|refine CJ ?_)|fail)) ⟨⟨by simp,by simp[sgL],_,rfl,bP (aG mK _) (by subst hR;subst hl0;rfl) rfl⟩,trivial⟩ (by simp[sgL]))) (.inl rfl) ?_
 intro n hn KL hKL
 have m12:min 1 2=1:=rfl
 have m21:min 2 1=1:=rfl
 have hRl: ∀n,n≤3→(R n).length=3:=fun n hn=>by subst hR;simp;omega
 have r1:=hRl 1 (by decide)
 have r2:=hRl 2 (by decide)
 rcases hn with rfl|rfl|rfl
 ·repeat' (first| (with_reducible first| (refine hK _ _ _ ?_;clear hK K)| (refine hA ?_;clear hA hB A B)|refine Z1 ?_|refine Z2 ?_|refine Z3 fun KB hKB=> ?_|refine Z4 (by omega) ?_)| (with_reducible first|refine Y2 fun K hK=> ?_|refine Y3 fun A B hA hB=> ?_)<;>(simp only[go_sem,r1,m12];try simp (disch:=omega) only[Iw])| ((with_reducible refine Y0 ?_);simp only[AQ.then,AQ.blk])|refine⟨by omega,?_⟩| (with_reducible refine hKB _ _ _ ?_)|fail)
  exact hKL _ _ _ 2 (by omega) (by(refine cR [29] (by omega) (by repeat' (first| (with_reducible first|exact C1|refine C2 ?_ ?_)| ((with_reducible refine C0 ?_);exact CQ (by omega) rfl rfl (by rfl) rfl)| ((with_reducible refine D0 ?_);first|exact CA rfl|refine CJ ?_)|fail)) ⟨⟨by simp,by simp[sgL],_,rfl,bP (aG mK _) (by subst hR;rfl) rfl⟩,trivial⟩ (by simp[sgL]))) (by omega) (by omega)
 ·repeat' (first| (with_reducible first| (refine hK _ _ _ ?_;clear hK K)| (refine hA ?_;clear hA hB A B)|refine Z1 ?_|refine Z2 ?_|refine Z3 fun KB hKB=> ?_|refine Z4 (by omega) ?_)| (with_reducible first|refine Y2 fun K hK=> ?_|refine Y3 fun A B hA hB=> ?_)<;>(simp only[go_sem,r2,m21];try simp (disch:=omega) only[Iw])| ((with_reducible refine Y0 ?_);simp only[AQ.then,AQ.blk])|refine⟨by omega,?_⟩| (with_reducible refine hKB _ _ _ ?_)|fail)
  exact hKL _ _ _ 3 (by omega) (by(refine cR [29] (by omega) (by repeat' (first| (with_reducible first|exact C1|refine C2 ?_ ?_)| ((with_reducible refine C0 ?_);exact CQ (by omega) rfl rfl (by rfl) rfl)| ((with_reducible refine D0 ?_);first|exact CA rfl|refine CJ ?_)|fail)) ⟨⟨by simp,by simp[sgL],_,rfl,bP (aG mK _) (by subst hR;rfl) rfl⟩,trivial⟩ (by simp[sgL]))) (by omega) (by omega)
 ·repeat' (first| (with_reducible first| (refine hK _ _ _ ?_;clear hK K)| (refine hB ?_;clear hA hB A B)|refine Z1 ?_|refine Z5 (by omega) ?_|refine hKX _ _ _ ?_)| (with_reducible first|refine Y2 fun K hK=> ?_|refine Y3 fun A B hA hB=> ?_)<;>(simp only[go_sem])| ((with_reducible first|refine Y8 ?_|refine Y9 ?_);try simp only[AQ.then,AQ.blk,reduceIte,Nat.reduceEqDiff])|fail)
  (refine hQ _ _ _ _ _ 2 (dO 1 1 3 3) (hp [(1,⟨1,3,(List.replicate 3 true).map eH⟩)]) _ _ (.inr rfl) rfl (fU [29] (by omega) (by repeat' (first| ((with_reducible refine C0 ?_);exact CQ (by omega) rfl rfl (by rfl) rfl)| ((with_reducible refine D0 ?_);refine CJ ?_)|fail)) ⟨⟨by simp,by simp[sgL],_,rfl,bP (aG mK _) (by subst hR;rfl) rfl⟩,trivial⟩ (by simp[sgL])) ?_)
  exact⟨rfl,rfl,rfl⟩
theorem aiQ {τ:Nat→Nat} {m:Nat} {l:List Bool}:bA.rn τ ⟨1,m,l.map eH⟩=⟨1,m,l.map eH⟩:=by
 refine rF fun r hr x hx=> ?_
 obtain⟨y,_,rfl⟩:=List.mem_map.1 hr
 simp only[eH,List.mem_singleton] at hx;subst hx;rfl
theorem xD {i0:Nat} (h0:i0<nx) (o0:H i0=some ⟨1,1,[[cB true]]⟩) (h:K (dO 1 nx 3 3) ((H.del i0).set nx ⟨1,3,(List.replicate 3 true).map eH⟩) (nx+1)):aB Tryz.prog dN [dO 1 i0 1 1,dI 3] H nx K:=by
 refine xE.AF [i0] rfl ⟨qS (by simp) rfl rfl rfl rfl,aE rfl,trivial⟩ ⟨⟨by simp,id,_,o0,bP (aG mK _) rfl rfl⟩,trivial⟩ (by simp) (by simp;omega) (by simp) fun r H' n' _ ⟨q1,q2,q3⟩=> ?_
 subst q1;subst q2;subst q3
 generalize List.replicate 3 true=w0 at*
 have e1:back (tau 1 nx (nth [i0])) (hp [(1,⟨1,3,w0.map eH⟩)]) 2 H=(H.del i0).set nx ⟨1,3,w0.map eH⟩:=by
  simp[back,hp,aA.set,aA.nil,tau,nth,aiQ,aA.eL,aA.yI]
 rw[←e1] at h
 exact h
theorem XE (h: ∀H' nx',nx≤nx'→(∀id,id<nx→H' id=H id)→K (dA (eIn pU)) H' nx'):aB Tryz.prog DB [] H nx K:=by
 refine aB.tW ?_
 refine TZ rfl fun Q hQ=> ?_
 unfold AV
 repeat' (first| (with_reducible first| (refine hK _ _ _ ?_;clear hK K)|refine Z1 ?_)| (first| (with_reducible refine Y2 fun K hK=> ?_)| (refine xD (by omega) (by simp only[aA.set,aA.del,msk,dT];simp;try rfl) ?_))<;>(simp only[go_sem,Nat.add_assoc,Nat.left_eq_add,Nat.add_eq_left])| ((with_reducible refine Y8 ?_);try simp only[AQ.then,AQ.blk,reduceIte,Nat.reduceEqDiff])|fail)
 refine(fun(h: ∀G,G=_→Q _ _ G _)=>h _ rfl) fun G hG=> ?_
 have f0:G nx=some ⟨3,1,[[.osl 1 (nx+8) 0 3 3,.osl 1 (nx+3) 0 4 4,.osl 1 (nx+9) 0 3 3]]⟩:=by rw[hG];simp[aA.set]
 have f8:G (nx+8)=some ⟨1,3,[true,true,true].map eH⟩:=by rw[hG];simp[aA.set]
 have f9:G (nx+9)=some ⟨1,3,[true,true,true].map eH⟩:=by rw[hG];simp[aA.set]
 have f3:G (nx+3)=some ⟨1,4,[false,false,false,false].map eH⟩:=by rw[hG];simp[aA.set,aA.del,msk,dT];rfl
 have ff: ∀id,id<nx→G id=H id:=fun id hid=>by
  rw[hG]
  simp[aA.set,aA.del,msk,dT,show ¬id=nx by omega,show ¬id=nx+1 by omega,show ¬id=nx+3 by omega,show ¬id=nx+4 by omega,show ¬id=nx+8 by omega,show ¬id=nx+9 by omega]
 clear hG
 refine hQ _ _ _ _ _ (.inr rfl) (fZ (m:=1) rfl f0 rfl) ⟨dA (eIn pU),without (fun j=>j=nx+3∨j=nx+8∨j=nx+9) G,fun j=>j=nx+3∨j=nx+8∨j=nx+9,?_,kS,h _ _ (by omega) fun id hid=> ?_⟩
 ·exact lY (aH (bW mK f8 rfl (by decide) (.inr (.inl rfl))) (aH (bW mK f3 rfl (by decide) (.inl rfl)) (aH (bW mK f9 rfl (by decide) (.inr (.inr rfl))) eP)))
 ·rw[iI (by omega)];exact ff id hid
theorem ap8 {F:Nat→Prop} {σ:Nat→Nat} {nh n m m':Nat} {rows rows':List (List D1)} (hi: ∀r∈rows',∀y∈r,y.dQ=true∨y= .osl 0 0 0 0 0) (h:rows'=rows) (hm:m'=m):CvO H F σ nh ⟨n,m',rows'⟩ ⟨n,m,rows⟩:=by
 subst h;subst hm
 refine⟨rfl,rfl,Nat.le_refl _,fun _ h=>h,fun i r hr=>⟨r,hr,rfl,fun j a b ha hb=> ?_⟩⟩
 rw[ha] at hb;cases hb
 rcases hi r (List.mem_of_getElem? hr) a (List.mem_of_getElem? ha) with h|h
 ·exact bB h
 ·subst h;exact afQ
theorem u1 (x:CIn) (N:Nat) (h1:1≤N) (h300:N≤300) (hmul: ∀{H:aA} {nx:Nat} {K:D→aA→Nat→Prop},K (.tup [.c (.v (.int .u64 0)),.c (.v (.int .u64 N))]) H nx→aB Tryz.prog cE [dW 1,dW N] H nx K):aB Tryz.prog eT [dO 3 0 1 1,dI N] (hp [(0,⟨3,1,[x].map eIn⟩)]) 1
 fun r H' n'=>n'=2∧H'=hp [(1,⟨3,N,(List.replicate N x).map eIn⟩)]∧r=dO 3 1 N N:=by
 refine uM rfl fun Q hQ=> ?_
 unfold gJ
 have w1:IntKind.u64.wrap 1=1:=by decide
 have w3:IntKind.u64.wrap N=N:=by rw[IntKind.wrap_u64];omega
 have m13:min 1 N=1:=by omega
 have h11:((1:Nat):Int)=1:=rfl
 generalize hl0:[x]=l0 at*
 have hlen:l0.length=1:=by subst hl0;rfl
 repeat' (first| (with_reducible first| (refine hK _ _ _ ?_;clear hK K)| (refine hB ?_;clear hA hB A B)|refine Z1 ?_|refine Z2 ?_|refine Z3 fun KB hKB=> ?_|refine Z5 (by omega) ?_)| (first| (with_reducible first|refine Y2 fun K hK=> ?_|refine Y3 fun A B hA hB=> ?_)| (refine hmul ?_))<;>(simp only[go_sem,hlen,w1,w3,h11,m13];try simp (disch:=omega) only[Iw])|refine⟨by omega,?_⟩|fail)
 (have hKX:=hKB;clear hKB)
 obtain⟨Z,aAQ⟩: ∃Z:List D1,Z=[.osl 0 0 0 0 0,.osl 0 0 0 0 0,.osl 0 0 0 0 0]:=⟨_,rfl⟩
 obtain⟨R,hR⟩: ∃R:Nat→List (List D1),R=fun n=>List.replicate n (eIn x)++List.replicate (N-n) Z:=⟨_,rfl⟩
 have hRi: ∀n,∀r∈R n,∀y∈r,y.dQ=true∨y= .osl 0 0 0 0 0:=fun n r hr y hy=>by
  rw[hR] at hr
  rcases List.mem_append.1 hr with hr|hr
  ·rw[(List.mem_replicate.1 hr).2] at hy;exact .inl (List.all_eq_true.1 (QX x).2 y hy)
  ·rw[(List.mem_replicate.1 hr).2,aAQ] at hy;simp at hy;exact .inr hy
 have hRl: ∀n,n≤N→(R n).length=N:=fun n hn=>by rw[hR];simp;omega
 refine aM.sG 1 (β:=Nat) (fun b n=>en [(8,dI n),(7,dO 3 b N N)]) (fun b n=>hp [(b,⟨3,N,R n⟩)]) (fun n=>1≤n∧n≤N) (fun n=>N-n) 1
  (by(refine cR [23] (by omega) (by repeat' (first| (with_reducible first|exact C1|refine C2 ?_ ?_)| ((with_reducible refine C0 ?_);exact CQ (by omega) rfl rfl (by rfl) rfl)| ((with_reducible refine D0 ?_);first|exact CA rfl|refine CJ ?_)|fail)) ⟨⟨by simp,by simp[sgL],_,rfl,ap8 (hRi 1) (by rw[hR,←aAQ];subst hl0;unfold wr;simp) rfl⟩,trivial⟩ (by simp[sgL]))) ⟨by omega,by omega⟩ ?_
 rintro n ⟨hn1,hn2⟩ KL hKL
 have r1:=hRl n hn2
 by_cases hlt:n<N
 ·have k1:(min n (N-n)≤N)=True:=eq_true (by omega)
  have k2:(0<N-n∧0<N∧n≤N∧n+min n (N-n)≤N)=True:=eq_true ⟨by omega,by omega,by omega,by omega⟩
  have hW:R (n+min n (N-n))=wr (R n) n (List.take (min n (N-n)) (R n)):=by
   obtain⟨k,hk⟩: ∃k,k=min n (N-n):=⟨_,rfl⟩
   rw[←hk]
   have e1:List.take k (R n)=List.replicate k (eIn x):=by rw[hR,List.take_append_of_le_length (by simp;omega),List.take_replicate,Nat.min_eq_left (by omega)]
   have e2:List.take n (R n)=List.replicate n (eIn x):=by rw[hR];simp
   have e3:List.drop (n+k) (R n)=List.replicate (N-(n+k)) Z:=by rw[hR];simp only[List.drop_append,List.length_replicate,List.drop_replicate];rw[show n-(n+k)=0 by omega,List.replicate_zero,List.nil_append];congr 1;omega
   unfold wr
   rw[e1,e2,List.length_replicate,e3,hR]
   dsimp only
   rw[←List.replicate_append_replicate]
  repeat' (first| (with_reducible first| (refine hK _ _ _ ?_;clear hK K)| (refine hA ?_;clear hA hB A B)|refine Z1 ?_|refine Z2 ?_|refine Z3 fun KB hKB=> ?_|refine Z4 (by omega) ?_)| (with_reducible first|refine Y2 fun K hK=> ?_|refine Y3 fun A B hA hB=> ?_)<;>(simp only[go_sem,r1,k1,k2];try simp (disch:=omega) only[Iw])| ((with_reducible refine Y0 ?_);simp only[AQ.then,AQ.blk])|refine⟨by omega,?_⟩| (with_reducible refine hKB _ _ _ ?_)|fail)
  exact hKL _ _ _ (n+min n (N-n)) (by omega) (by(refine cR [29] (by omega) (by repeat' (first| (with_reducible first|exact C1|refine C2 ?_ ?_)| ((with_reducible refine C0 ?_);exact CQ (by omega) rfl rfl (by rfl) rfl)| ((with_reducible refine D0 ?_);first|exact CA rfl|refine CJ ?_)|fail)) ⟨⟨by simp,by simp[sgL],_,rfl,ap8 (hRi _) hW rfl⟩,trivial⟩ (by simp[sgL]))) ⟨by omega,by omega⟩ (by omega)
 ·repeat' (first| (with_reducible first| (refine hK _ _ _ ?_;clear hK K)| (refine hB ?_;clear hA hB A B)|refine Z1 ?_|refine Z5 (by omega) ?_|refine hKX _ _ _ ?_)| (with_reducible first|refine Y2 fun K hK=> ?_|refine Y3 fun A B hA hB=> ?_)<;>(simp only[go_sem])| ((with_reducible first|refine Y8 ?_|refine Y9 ?_);try simp only[AQ.then,AQ.blk,reduceIte,Nat.reduceEqDiff])|fail)
  have hnN:n=N:=by omega
  (refine hQ _ _ _ _ _ 2 (dO 3 1 N N) (hp [(1,⟨3,N,(List.replicate N x).map eIn⟩)]) _ _ (.inr rfl) rfl (fU [29] (by omega) (by repeat' (first| ((with_reducible refine C0 ?_);exact CQ (by omega) rfl rfl (by rfl) rfl)| ((with_reducible refine D0 ?_);refine CJ ?_)|fail)) ⟨⟨by simp,by simp[sgL],_,rfl,bP (aG QX _) (by rw[hR,hnN];simp) rfl⟩,trivial⟩ (by simp[sgL])) ?_)
  exact⟨rfl,rfl,rfl⟩
theorem anN {τ:Nat→Nat} {m:Nat} {l:List CIn}:bA.rn τ ⟨3,m,l.map eIn⟩=⟨3,m,l.map eIn⟩:=by
 refine rF fun r hr x hx=> ?_
 obtain⟨y,_,rfl⟩:=List.mem_map.1 hr
 simp only[eIn,List.mem_cons,List.not_mem_nil,or_false] at hx
 rcases hx with rfl|rfl|rfl<;>rfl
theorem u2 {x:CIn} {N:Nat} (h1:1≤N) (h300:N≤300) (hmul: ∀{H:aA} {nx:Nat} {K:D→aA→Nat→Prop},K (.tup [.c (.v (.int .u64 0)),.c (.v (.int .u64 N))]) H nx→aB Tryz.prog cE [dW 1,dW N] H nx K)
 {i0:Nat} (h0:i0<nx) (o0:H i0=some ⟨3,1,[eIn x]⟩) (h:K (dO 3 nx N N) ((H.del i0).set nx ⟨3,N,(List.replicate N x).map eIn⟩) (nx+1)):aB Tryz.prog eT [dO 3 i0 1 1,dI N] H nx K:=by
 refine(u1 x N h1 h300 hmul).AF [i0] rfl ⟨qS (by simp) rfl rfl rfl rfl,aE rfl,trivial⟩ ⟨⟨by simp,id,_,o0,bP (aG QX _) rfl rfl⟩,trivial⟩ (by simp) (by simp;omega) (by simp) fun r H' n' _ ⟨q1,q2,q3⟩=> ?_
 subst q1;subst q2;subst q3
 generalize List.replicate N x=w0 at*
 have e1:back (tau 1 nx (nth [i0])) (hp [(1,⟨3,N,w0.map eIn⟩)]) 2 H=(H.del i0).set nx ⟨3,N,w0.map eIn⟩:=by
  simp[back,hp,aA.set,aA.nil,tau,nth,anN,aA.eL,aA.yI]
 rw[←e1] at h
 exact h
theorem O5 {c:Cfg} {s:CSt} {N:Nat} (h1:1≤N) (h300:N≤300) (hmul: ∀{H:aA} {nx:Nat} {K:D→aA→Nat→Prop},K (.tup [.c (.v (.int .u64 0)),.c (.v (.int .u64 N))]) H nx→aB Tryz.prog cE [dW 1,dW N] H nx K)
 (hb:aQ c) (hcf:jO c) (hs:COk c s)
 (h: ∀H' nx',nx≤nx'→(∀id,id<nx→H' id=H id)→K (dA (eI (sQ c s (List.replicate N pU)))) H' nx'):aB Tryz.prog xN [dA (cU c),dA (eI s),dI N] H nx K:=by
 refine aB.tW ?_
 refine OX rfl fun Q hQ=> ?_
 unfold u0
 have hN0:(0<(N:Int))=True:=eq_true (by omega)
 repeat' (first| (with_reducible first| (refine hK _ _ _ ?_;clear hK K)| (refine hB ?_;clear hA hB A B)|refine Z1 ?_|refine Z2 ?_|refine Z5 (by omega) ?_)| (first| (with_reducible first|refine Y2 fun K hK=> ?_|refine Y3 fun A B hA hB=> ?_)| (refine XE (fun H1 nx1 hx1 ffr1=> ?_)))<;>(simp only[go_sem,Nat.add_assoc,Nat.left_eq_add,Nat.add_eq_left,hN0])|fail)
 have e0:H1 nx=some ⟨3,1,[cU c]⟩:=by rw[ffr1 _ (by omega)];simp[aA.set,msk]
 have e1:H1 (nx+1)=some ⟨5,1,[eI s]⟩:=by rw[ffr1 _ (by omega)];simp[aA.set,msk]
 have e2:H1 (nx+2)=some ⟨5,1,[[.osl 0 0 0 0 0,.osl 0 0 0 0 0,.osl 0 0 0 0 0,.osl 0 0 0 0 0,.osl 0 0 0 0 0]]⟩:=by rw[ffr1 _ (by omega)];simp[aA.set,msk]
 have ef: ∀id,id<nx→H1 id=H id:=fun id hid=>by
  rw[ffr1 _ (by omega)];simp[aA.set,msk,show ¬id=nx by omega,show ¬id=nx+1 by omega,show ¬id=nx+2 by omega]
 have m0: ∀G:aA,msk (nx+5) [3] G nx=G nx:=fun G=>by unfold msk;rw[if_neg (by simp;omega)]
 have m1: ∀G:aA,msk (nx+5) [3] G (nx+1)=G (nx+1):=fun G=>by unfold msk;rw[if_neg (by simp)]
 refine⟨⟨fun _=>by rw[m1,e1];rfl,fun _=>by rw[m0,e0];rfl⟩,?_⟩
 refine u2 (i0:=nx+8) h1 h300 hmul (by omega) aA.bH ?_
 obtain⟨l,hl⟩: ∃l,l=List.replicate N pU:=⟨_,rfl⟩
 have hll:l.length=N:=by rw[hl];simp
 have hlo: ∀i∈l,vZ i:=fun i hi=>by rw[hl] at hi;rw[(List.mem_replicate.1 hi).2];exact⟨rfl,rfl,rfl⟩
 rw[←hl] at h ⊢
 clear hl ffr1
 refine(fun(h: ∀G,G=_→DQ _ _ _ _ _ _ _ _ _ _ _ _ G _)=>h _ rfl) fun G hG=> ?_
 have g0:G nx=some ⟨3,1,[cU c]⟩:=by rw[hG,aA.aC (by omega),aA.jG (by omega),aA.aC (by omega)];exact e0
 have g1:G (nx+1)=some ⟨5,1,[eI s]⟩:=by rw[hG,aA.aC (by omega),aA.jG (by omega),aA.aC (by omega)];exact e1
 have g2:G (nx+2)=some ⟨5,1,[[.osl 0 0 0 0 0,.osl 0 0 0 0 0,.osl 0 0 0 0 0,.osl 0 0 0 0 0,.osl 0 0 0 0 0]]⟩:=by rw[hG,aA.aC (by omega),aA.jG (by omega),aA.aC (by omega)];exact e2
 have gf: ∀id,id<nx→G id=H id:=fun id hid=>by rw[hG,aA.aC (by omega),aA.jG (by omega),aA.aC (by omega)];exact ef id hid
 have gl:G nx1=some ⟨3,N,l.map eIn⟩:=by rw[hG];exact aA.bH
 clear hG e0 e1 e2 ef
 simp only[go_sem]
 refine⟨⟨fun _=>by rw[m1,g1];rfl,fun _=>by rw[m0,g0];rfl⟩,?_⟩
 refine aB.ao4 (args':=[dA (cU c),dA (eI s),dS (l.map eIn)]) (without (fun j=>j=nx1) G) (fun j=>j=nx1) rfl (fun i d0 d h1 h2=> ?_) kS ?_
 ·match i with
  |0=>
   simp only[List.getElem?_cons_zero,Option.some.injEq] at h1 h2
   subst h1;subst h2
   exact aE rfl
  |1=>
   simp only[List.getElem?_cons_succ,List.getElem?_cons_zero,Option.some.injEq] at h1 h2
   subst h1;subst h2
   exact aE rfl
  |2=>
   simp only[List.getElem?_cons_succ,List.getElem?_cons_zero,Option.some.injEq] at h1 h2
   subst h1;subst h2
   exact yP QX gl (by omega) (by omega) rfl
  |i+3=>simp at h1
 refine IA hb hcf hs (by omega) hlo fun H2 nx2 hx2 ffr2=> ?_
 have f2:=(ffr2 (nx+2) (by omega)).trans ((iI (by omega)).trans g2)
 simp only[go_sem,f2]
 refine hK _ _ _ ?_
 clear hK K
 repeat' (first| ((with_reducible refine Y8 ?_);try simp only[AQ.then,AQ.blk,reduceIte,Nat.reduceEqDiff])|fail)
 refine hQ _ _ _ _ _ (.inr rfl) (fZ rfl aA.bH rfl) ⟨dA (eI (sQ c s l)),_,noF,aE rfl,aK,h _ _ (by omega) fun id hid=> ?_⟩
 rw[aA.aC (by omega),ffr2 _ (by omega),iI (by omega)];exact gf id hid
theorem afT {c:Cfg} {s:CSt} (hb:aQ c) (hcf:jO c) (hs:COk c s)
 (h: ∀H' nx',nx≤nx'→(∀id,id<nx→H' id=H id)→K (dA (eI (sQ c s (List.replicate 300 pU)))) H' nx'):aB Tryz.prog xN [dA (cU c),dA (eI s),dI 300] H nx K:=
 O5 (N:=300) (by omega) (by omega) (fun h=>JP h) hb hcf hs h
end
end Go.Proofs.YtegiblhkjfiooaaGreat
end
section
namespace Go.Proofs.YtegiblhkjfiooaaGreat
open Go Go.AM
set_option maxRecDepth 100000
def yM:AC:=
 (.seq (.region [rq 0 4 (.move (.kv (.slice none 0 0)))] 1 [0,1])
 (.seq (.region [rq 0 5 (.move (.kv (.slice none 0 0)))] 1 [0,1,5])
 (.seq (.seq (.region [RM 0 8 0,
 rq 1 9 (.len false (.tm 8)),
 rq 2 10 (.move (ki 0))] 3 [1,5,8,9,10])
 (.block 0
 (.loop
 (.seq (.region [rq 0 11 (.bin .lss (.tm 10) (.tm 9))] 1 [1,5,8,9,10,11])
 (.seq (.cond (.tm 11)
 .skip
 (.exit 0))
 (.seq (.block 1
 (.seq (.region [rq 0 12 (.idx 5 (.tm 8) (.tm 10)),
 rq 1 13 (.load 5 true (.tm 12)),
 rq 2 7 (.alloc [VZ,VZ,VZ,VZ,OZ]),
 rn 3 (.store 5 true (.tm 7) (.tm 13))] 4 [1,5,7,8,9,10])
 (.seq (.region [RF 0 14 0 7,
 RL 1 15 14,
 RM 2 16 1,
 rq 3 17 (.bin .eql (.tm 15) (.tm 16))] 4 [1,5,7,8,9,10,17])
 (.cond (.tm 17)
 (.region [RM 0 18 5,
 rq 1 19 (.load 5 true (.tm 7)),
 rq 2 20 (.bC 5 1 [VZ,VZ,VZ,VZ,OZ] [(0,5,(.tm 19))]),
 rq 3 21 (.append 5 (.tm 18) (.tm 20)),
 RM 4 5 21] 5 [1,5,8,9,10])
 .skip))))
 (.region [rq 0 22 (.bin .add (.tm 10) (ki 1)),
 RM 1 10 22] 2 [1,5,8,9,10])))))))
 (.seq (.region [RM 0 23 5,
 rq 1 24 (.call eO [(.tm 23)]),
 RM 2 4 24] 3 [4])
 .ret))))
def QB:List Cert:=[⟨[],[0,1]⟩,⟨[],[0,1,5]⟩,⟨[],[1,5,8,9,10]⟩,⟨[],[1,5,8,9,10,11]⟩,⟨[],[1,5,7,8,9,10]⟩,⟨[],[1,5,7,8,9,10,17]⟩,⟨[],[1,5,8,9,10]⟩,⟨[],[1,5,8,9,10]⟩,⟨[],[4]⟩]
def E8:List aW:=[.tm 4]
theorem RO:aO Tryz.prog Tryz.f31 QB=some (yM,E8):=by kernel_rfl
theorem RG:aN Tryz.prog zR Tryz.f31 yM E8:=
 aN.mk Tryz.func31 (by kernel_rfl) RO
end Go.Proofs.YtegiblhkjfiooaaGreat
end
section
namespace Go.Proofs.YtegiblhkjfiooaaGreat
open Go Go.AM
set_option maxRecDepth 100000
set_option maxHeartbeats 8000000
section
variable {H : aA} {nx : Nat} {K : D → aA → Nat → Prop}
theorem VD (l:List Job) (who:Int) (hl:l.length<2^20) (hd: ∀j∈l,j.rsp.data.length<2^20):aB Tryz.prog zR [dS (l.map aS),dI who] .nil 0 fun r _ n=>n=0∧r.imm=true∧r=dS ((fS l who).map aS):=by
 refine RG rfl fun Q hQ=> ?_
 unfold yM
 have hmd:=fun j (hj:j∈fS l who)=>hd j (WN j hj)
 have hmL:=WJ (l:=l) (who:=who)
 repeat' (first| (with_reducible first| (refine hK _ _ _ ?_;clear hK K)|refine Z1 ?_|refine Z3 fun KB hKB=> ?_)| (with_reducible refine Y2 fun K hK=> ?_)<;>(simp only[go_sem])|fail)
 (have hQX:=hKB;clear hKB)
 refine aM.sG 1 (β:=Nat×Nat) (fun b u=>en [(10,dI u.1),(9,dI l.length),(8,dS (l.map aS)),(5,aaT 5 b (fS (l.take u.1) who).length u.2),(1,dI who)])
  (fun b u=>hpN b (fS (l.take u.1) who).length ⟨5,u.2,(fS (l.take u.1) who).map aS⟩) (fun u=>u.1≤l.length∧(fS (l.take u.1) who).length≤u.2) (fun u=>l.length-u.1) (0,0) (bU (by omega) (by simp only[fS,List.take_zero,List.filter_nil,List.length_nil,aaT,if_true];unfold D1.nil;repeat' (first| (with_reducible first|exact C1|refine C2 ?_ ?_)| ((with_reducible refine C0 ?_);exact CC)| ((with_reducible refine D0 ?_);first|exact CA rfl|refine CJ ?_)|fail))) ⟨by omega,by simp[fS]⟩ ?_
 rintro⟨k,cap⟩ ⟨hk,hc⟩ KL hKL
 dsimp only at hk hc
 have hml:=WJ (l:=l.take k) (who:=who)
 have htl:(l.take k).length=k:=by simp;omega
 rcases Nat.eq_zero_or_pos (fS (l.take k) who).length with h0|h0
 ·simp only[aaT,hpN,h0,if_true]
  unfold D1.nil
  by_cases hlt:k<l.length
  ·by_cases hw:(l.getD k default).who=who
   ·have hy:=WA hlt hw
    have hz:=List.length_eq_zero_iff.1 h0
    rw[hz,List.nil_append] at hy
    have hyl:=congrArg List.length hy
    rw[List.length_singleton] at hyl
    repeat' (first| (with_reducible first| (refine hK _ _ _ ?_;clear hK K)| (refine hA ?_;clear hA hB A B)|refine Z1 ?_|refine Z2 ?_|refine Z3 fun KB hKB=> ?_|refine Z4 (by omega) ?_|refine fun(cap:Nat) (hcap:_≤cap)=> ?_|refine fun(hcp:_≤cap)=> ?_)| (with_reducible first|refine Y2 fun K hK=> ?_|refine Y3 fun A B hA hB=> ?_)<;>(simp only[go_sem];try simp (disch:=omega) only[Iw])| ((with_reducible refine Y0 ?_);simp only[AQ.then,AQ.blk])|refine⟨by omega,?_⟩| (with_reducible refine hKB _ _ _ ?_)|fail)
    exact hKL _ _ _ (k+1,cap) (by omega) (by dsimp only;simp only[aaT,hpN,hyl,hy,Nat.one_ne_zero,if_false];(refine cR [18] (by omega) (by repeat' (first| (with_reducible first|exact C1|refine C2 ?_ ?_)| ((with_reducible refine C0 ?_);exact CQ (by omega) rfl rfl (by rfl) rfl)| ((with_reducible refine D0 ?_);first|exact CA rfl|refine CJ ?_)|fail)) ⟨⟨by simp,by simp[sgL],_,rfl,bP (aG dZ _) rfl rfl⟩,trivial⟩ (by simp[sgL]))) ⟨by dsimp only;omega,by dsimp only;omega⟩ (by dsimp only;omega)
   ·have hn:=abI hlt hw
    repeat' (first| (with_reducible first| (refine hK _ _ _ ?_;clear hK K)| (refine hA ?_;clear hA hB A B)| (refine hB ?_;clear hA hB A B)|refine Z1 ?_|refine Z2 ?_|refine Z3 fun KB hKB=> ?_|refine Z4 (by omega) ?_|refine Z5 (by omega) ?_)| (with_reducible first|refine Y2 fun K hK=> ?_|refine Y3 fun A B hA hB=> ?_)<;>(simp only[go_sem];try simp (disch:=omega) only[Iw])| ((with_reducible refine Y0 ?_);simp only[AQ.then,AQ.blk])|refine⟨by omega,?_⟩| (with_reducible refine hKB _ _ _ ?_)|fail)
    exact hKL _ _ _ (k+1,cap) (by omega) (by simp only[aaT,hpN,hn,h0,if_true];unfold D1.nil;exact bU (by omega) (by repeat' (first| (with_reducible first|exact C1|refine C2 ?_ ?_)| ((with_reducible refine C0 ?_);exact CC)| ((with_reducible refine D0 ?_);first|exact CA rfl|refine CJ ?_)|fail))) ⟨by dsimp only;omega,by dsimp only;rw[hn];omega⟩ (by dsimp only;omega)
  ·have hk2:k=l.length:=by omega
   subst hk2
   rw[List.take_length] at h0
   have hz:=List.length_eq_zero_iff.1 h0
   rw[hz] at hQ
   repeat' (first| (with_reducible first| (refine hK _ _ _ ?_;clear hK K)| (refine hB ?_;clear hA hB A B)|refine Z1 ?_|refine Z5 (by omega) ?_)| (with_reducible first|refine Y2 fun K hK=> ?_|refine Y3 fun A B hA hB=> ?_)<;>(simp only[go_sem])| ((with_reducible refine Y9 ?_);try simp only[AQ.then,AQ.blk,reduceIte,Nat.reduceEqDiff])|fail)
   refine hQX _ _ _ ?_
   refine aM.aqB 0 (en [(5,dS (([]:List Job).map aS))]) .nil (bU (by omega) (oF K6 xG)) ?_
   repeat' (first| (with_reducible first| (refine hK _ _ _ ?_;clear hK K)|refine Z1 ?_)| (first| (with_reducible refine Y2 fun K hK=> ?_)| (refine gY (l:=[]) (by simp) (by simp) (fun m hm=> ?_)))<;>(simp only[go_sem])| ((with_reducible refine Y8 ?_);try simp only[AQ.then,AQ.blk,reduceIte,Nat.reduceEqDiff])|fail)
   exact V4 hQ (dS _) _ rfl (yP (l:=[]) dZ rfl rfl (Nat.le_refl _) trivial) rfl rfl
 ·simp only[aaT,hpN,show ¬(fS (l.take k) who).length=0 by omega,if_false]
  by_cases hlt:k<l.length
  ·by_cases hw:(l.getD k default).who=who
   ·have hy:=WA hlt hw
    have hyl:=congrArg List.length hy
    simp only[List.length_append,List.length_cons,List.length_nil] at hyl
    have hy2:=congrArg (List.map aS) hy
    repeat' (first| (with_reducible first| (refine hK _ _ _ ?_;clear hK K)| (refine hA ?_;clear hA hB A B)|refine Z1 ?_|refine Z2 ?_|refine Z3 fun KB hKB=> ?_|refine Z4 (by omega) ?_|refine fun(cap:Nat) (hcap:_≤cap)=> ?_|refine fun(hcp:_≤cap)=> ?_)| (with_reducible first|refine Y2 fun K hK=> ?_|refine Y3 fun A B hA hB=> ?_)<;>(simp only[go_sem];try simp (disch:=omega) only[Iw])| ((with_reducible refine Y0 ?_);simp only[AQ.then,AQ.blk])|refine⟨by omega,?_⟩| (with_reducible refine hKB _ _ _ ?_)|fail)
    exact hKL _ _ _ (k+1,cap) (by omega) (by simp only[aaT,hpN,show ¬(fS (l.take (k+1)) who).length=0 by omega,if_false];(refine cR [18] (by omega) (by repeat' (first| (with_reducible first|exact C1|refine C2 ?_ ?_)| ((with_reducible refine C0 ?_);exact CQ (by omega) rfl rfl (by omega) rfl)| ((with_reducible refine D0 ?_);first|exact CA rfl|refine CJ ?_)|fail)) ⟨⟨by simp,by simp[sgL],_,rfl,bP (aG dZ _) hy2 rfl⟩,trivial⟩ (by simp[sgL]))) ⟨by dsimp only;omega,by dsimp only;omega⟩ (by dsimp only;omega)
   ·have hn:=abI hlt hw
    repeat' (first| (with_reducible first| (refine hK _ _ _ ?_;clear hK K)| (refine hA ?_;clear hA hB A B)| (refine hB ?_;clear hA hB A B)|refine Z1 ?_|refine Z2 ?_|refine Z3 fun KB hKB=> ?_|refine Z4 (by omega) ?_|refine Z5 (by omega) ?_)| (with_reducible first|refine Y2 fun K hK=> ?_|refine Y3 fun A B hA hB=> ?_)<;>(simp only[go_sem];try simp (disch:=omega) only[Iw])| ((with_reducible refine Y0 ?_);simp only[AQ.then,AQ.blk])|refine⟨by omega,?_⟩| (with_reducible refine hKB _ _ _ ?_)|fail)
    exact hKL _ _ _ (k+1,cap) (by omega) (by simp only[aaT,hpN,hn,show ¬(fS (l.take k) who).length=0 by omega,if_false];(refine cR [5] (by omega) (by repeat' (first| (with_reducible first|exact C1|refine C2 ?_ ?_)| ((with_reducible refine C0 ?_);exact CQ (by omega) rfl rfl (by rfl) rfl)| ((with_reducible refine D0 ?_);first|exact CA rfl|refine CJ ?_)|fail)) ⟨⟨by simp,by simp[sgL],_,rfl,bP (aG dZ _) rfl rfl⟩,trivial⟩ (by simp[sgL]))) ⟨by dsimp only;omega,by dsimp only;rw[hn];omega⟩ (by dsimp only;omega)
  ·have hk2:k=l.length:=by omega
   subst hk2
   rw[List.take_length] at*
   repeat' (first| (with_reducible first| (refine hK _ _ _ ?_;clear hK K)| (refine hB ?_;clear hA hB A B)|refine Z1 ?_|refine Z5 (by omega) ?_)| (with_reducible first|refine Y2 fun K hK=> ?_|refine Y3 fun A B hA hB=> ?_)<;>(simp only[go_sem])| ((with_reducible refine Y9 ?_);try simp only[AQ.then,AQ.blk,reduceIte,Nat.reduceEqDiff])|fail)
   refine hQX _ _ _ ?_
   refine aM.aqB 0 (en [(5,dS ((fS l who).map aS))]) .nil (bU (by omega) (oF K6 (yP dZ rfl rfl (by omega) trivial))) ?_
   repeat' (first| (with_reducible first| (refine hK _ _ _ ?_;clear hK K)|refine Z1 ?_)| (first| (with_reducible refine Y2 fun K hK=> ?_)| (refine gY (l:=fS l who) (by omega) hmd (fun m hm=> ?_)))<;>(simp only[go_sem])| ((with_reducible refine Y8 ?_);try simp only[AQ.then,AQ.blk,reduceIte,Nat.reduceEqDiff])|fail)
   exact V4 hQ (dS _) _ rfl (yP dZ rfl rfl (Nat.le_refl _) trivial) rfl rfl
theorem anE {l:List Job} {who:Int} (hl:l.length<2^20) (hd: ∀j∈l,j.rsp.data.length<2^20) (h:K (dS ((fS l who).map aS)) H nx):aB Tryz.prog zR [dS (l.map aS),dI who] H nx K:=
 (VD l who hl hd).fresh rfl fun r hr=>hr▸h
end
end Go.Proofs.YtegiblhkjfiooaaGreat
end
section
namespace Go.Proofs.YtegiblhkjfiooaaGreat
open Go Go.AM
set_option maxRecDepth 100000
def yC:AC:=
 (.seq (.region [rq 0 2 (.box true (.tm 0)),
 rq 1 4 (.alloc [OZ,OZ,OZ,OZ,OZ])] 2 [1,2,4])
 (.seq (.region [⟨0,(some 5),.load 3 true (.tm 2),none,[],[],true⟩,
 RM 2 7 1,
 ⟨1,(some 6),.call AA [],none,[],[0],false⟩,
 rq 3 8 (.call tV [(.tm 5),(.tm 6),(.tm 7)]),
 rn 4 (.store 5 true (.tm 4) (.tm 8))] 5 [4])
 .ret))
def SR:List Cert:=[⟨[],[1,2,4]⟩,⟨[(0,[],[],true),cz 2,(1,[],[0],false),cz 3,cz 4],[4]⟩]
def F7:List aW:=[.cell 4 5 true]
theorem Q3:aO Tryz.prog Tryz.f21 SR=some (yC,F7):=by kernel_rfl
end Go.Proofs.YtegiblhkjfiooaaGreat
end
section
namespace Go.Proofs.YtegiblhkjfiooaaGreat
open Go Go.AM
set_option maxRecDepth 100000
set_option maxHeartbeats 8000000
theorem umM {b:Nat} {l:List Nat} {H:aA}:dT b l H (msk b l H)=H:=by
 funext j;simp only[dT,msk];split<;>rfl
theorem muM {b:Nat} {l:List Nat} {H G:aA}:msk b l (dT b l H G)=msk b l G:=by
 funext j;simp only[dT,msk];split<;>rfl
theorem Q9:cJ Tryz.prog IM Tryz.f21 yC F7:=cJ.mk Tryz.func21 (by kernel_rfl) Q3
section
variable {H : aA} {nx : Nat} {K : D → aA → Nat → Prop}
theorem anF {c:Cfg} {l:List CIn} (hb:aQ c) (hcf:jO c) (hl:l.length≤300) (hi: ∀i∈l,vZ i)
 (h: ∀H' nx',nx≤nx'→(∀id,id<nx→H' id=H id)→K (dA (eI (sQ c HY l))) H' nx'):aB Tryz.prog IM [dA (cU c),dS (l.map eIn)] H nx K:=by
 refine aB.tW ?_
 refine Q9 rfl fun Q hQ=> ?_
 unfold yC
 repeat' (first| (with_reducible first| (refine hK _ _ _ ?_;clear hK K)|refine Z1 ?_)| (first| (with_reducible refine Y2 fun K hK=> ?_)| (refine UC (fun H1 nx1 hx1 ffr1=> ?_)))<;>(simp only[go_sem,Nat.add_assoc,Nat.left_eq_add,Nat.add_eq_left])|fail)
 have e0:=(ffr1 nx (by omega)).trans (show _=some ⟨3,1,[cU c]⟩ by simp only[aA.set,Nat.left_eq_add,Nat.reduceEqDiff,if_false,if_true,Nat.one_ne_zero,reduceIte])
 have e1:=(ffr1 (nx+1) (by omega)).trans (show _=some ⟨5,1,[[.osl 0 0 0 0 0,.osl 0 0 0 0 0,.osl 0 0 0 0 0,.osl 0 0 0 0 0,.osl 0 0 0 0 0]]⟩ by simp only[aA.set,if_true])
 have e2: ∀id,id<nx→H1 id=H id:=fun id hid=>by
  rw[ffr1 _ (by omega)];simp only[aA.set,show ¬id=nx by omega,show ¬id=nx+1 by omega,if_false]
 clear ffr1
 refine⟨fun _=>by rw[e0];rfl,?_⟩
 refine IA hb hcf (anK c) hl hi fun H2 nx2 hx2 ffr2=> ?_
 have f1:=(ffr2 (nx+1) (by omega)).trans e1
 simp only[go_sem,f1]
 refine hK _ _ _ ?_
 clear hK K
 repeat' (first| ((with_reducible refine Y8 ?_);try simp only[AQ.then,AQ.blk,reduceIte,Nat.reduceEqDiff])|fail)
 refine hQ _ _ _ _ _ (.inr rfl) (fZ rfl aA.bH rfl) ⟨dA (eI (sQ c HY l)),_,noF,aE rfl,aK,h _ _ (by omega) fun id hid=> ?_⟩
 rw[aA.aC (by omega),ffr2 _ (by omega)];exact e2 id hid
end
end Go.Proofs.YtegiblhkjfiooaaGreat
end
section
namespace Go.Proofs.YtegiblhkjfiooaaGreat
open Go Go.AM
theorem asX {c:Cfg} {s:CSt} (h:COk c s):(s.told.length:Int)=jS (GA c) 3↔Fin c s:=by
 have hst:=h.st
 have hcnt:=hst.count
 have hA:=fun k (hk:k<3)=>R6 (s:=s) (k:=k) (by have:=h.pl;omega)
 have hN:=fun k (hk:k<3)=>(h.port k hk).next
 have n0:=hN 0 (by omega)
 have n1:=hN 1 (by omega)
 have n2:=hN 2 (by omega)
 rw[hA 0 (by omega),hA 1 (by omega),hA 2 (by omega)] at hcnt
 have ht:(cX s).told=s.told:=rfl
 rw[ht] at hcnt
 have hs:jS (GA c) 3=((c.cP.getD 0 default).length:Int)+(c.cP.getD 1 default).length+(c.cP.getD 2 default).length:=by
  simp only[jS,GA];omega
 rw[hs]
 constructor
 ·intro he
  have hw:qU s=[]:=by
   have e1:(cX s).wait.length=(qU s).length:=(fH _).length_eq
   exact List.eq_nil_of_length_eq_zero (by omega)
  have hd:uQ s=[]:=by
   have e1:(cX s).done.length=(uQ s).length:=(fH _).length_eq
   exact List.eq_nil_of_length_eq_zero (by omega)
  have hq: ∀k,k<3→(aF s k).queue=[]:=fun k hk=>List.eq_nil_iff_forall_not_mem.2 fun m hm=>by
   have:(⟨k,m,oW⟩:Job)∈qU s:=wU.2 (.inl ⟨k,by have:=h.pl;omega,m,hm,rfl⟩)
   rw[hw] at this;cases this
  have hp: ∀k,k<4→(aL s k).pipe=[]:=fun k hk=>List.eq_nil_iff_forall_not_mem.2 fun x hx=>by
   have:(⟨x.who,x.n,oW⟩:Job)∈qU s:=wU.2 (.inr ⟨k,by have:=h.sl;omega,x,hx,rfl⟩)
   rw[hw] at this;cases this
  have hdn: ∀k,k<4→(aL s k).done=[]:=fun k hk=>List.eq_nil_iff_forall_not_mem.2 fun x hx=>by
   have:x∈uQ s:=BU.2 ⟨k,by have:=h.sl;omega,hx⟩
   rw[hd] at this;cases this
  have hc:=h.count
  have hh: ∀k,k<4→hU s k=0:=fun k hk=>by unfold hU;rw[hp k hk,hdn k hk];rfl
  rw[hh 0 (by omega),hh 1 (by omega),hh 2 (by omega),hh 3 (by omega)] at hc
  intro k hk
  have:k=0∨k=1∨k=2:=by omega
  rcases this with rfl|rfl|rfl
  ·exact⟨by omega,hq _ hk,List.eq_nil_of_length_eq_zero (by omega)⟩
  ·exact⟨by omega,hq _ hk,List.eq_nil_of_length_eq_zero (by omega)⟩
  ·exact⟨by omega,hq _ hk,List.eq_nil_of_length_eq_zero (by omega)⟩
 ·intro hf
  obtain⟨h1,h2⟩:=afO h hf
  rw[h1,h2] at hcnt
  have f0:=(hf 0 (by omega)).1
  have f1:=(hf 1 (by omega)).1
  have f2:=(hf 2 (by omega)).1
  simp only[List.length_nil] at hcnt
  omega
end Go.Proofs.YtegiblhkjfiooaaGreat
end
section
namespace Go.Proofs.YtegiblhkjfiooaaGreat
open Go Go.AM
set_option maxRecDepth 100000
def s7:AC:=
 (.seq (.region [rq 0 2 (.alloc [OZ,OZ,OZ]),
 rq 1 3 (.move (.kv (.slice none 0 0)))] 2 [0,2])
 (.seq (.region [RM 0 5 0,
 rq 1 6 (.call kN [(.tm 5)]),
 RM 2 4 6] 3 [2,4])
 (.seq (.region [RM 0 7 4,
 rq 1 8 (.call lJ [(.tm 7),(ki 7)]),
 RM 2 9 4,
 rq 3 10 (.call AE [(.tm 9),(ki 90)]),
 rn 4 (.store 3 true (.tm 2) (.tm 8)),
 RM 5 3 10] 6 [2,3])
 .ret)))
def MW:List Cert:=[⟨[],[0,2]⟩,⟨[],[2,4]⟩,⟨[],[2,3]⟩]
def BH:List aW:=[.cell 2 3 true,.tm 3]
theorem L3:aO Tryz.prog Tryz.f14 MW=some (s7,BH):=by kernel_rfl
theorem L7:aN Tryz.prog u7 Tryz.f14 s7 BH:=
 aN.mk Tryz.func14 (by kernel_rfl) L3
def yD:AC:=
 (.seq (.region [rq 0 4 (.move (.kv (.slice none 0 0)))] 1 [0,1])
 (.seq (.region [rq 0 8 (.bC 3 0 [OZ,OZ,OZ] []),
 RM 1 5 8] 2 [0,1,5])
 (.seq (.region [rq 0 9 (.bC 1 4 [VZ] [(0,1,(ki 2)),(1,1,(ki 3)),(2,1,(ki 5)),(3,1,(ki 20))]),
 RM 1 10 0,
 rq 2 11 (.call aD [(.tm 10),(ki 4)]),
 rq 3 12 (.idx 1 (.tm 9) (.tm 11)),
 RL 4 13 12,
 RM 5 6 13] 6 [0,1,5,6])
 (.seq (.seq (.region [RM 0 14 0,
 RM 1 15 1,
 rq 2 16 (.call aD [(.tm 14),(.tm 15)]),
 RM 3 7 16] 4 [0,5,6,7])
 (.block 0
 (.loop
 (.seq (.seq (.region [RM 0 17 7,
 rq 1 18 (.bin .gtr (.tm 17) (ki 0))] 2 [0,5,6,7,18])
 (.cond (.tm 18)
 .skip
 (.exit 0)))
 (.seq (.block 1
 (.region [RM 0 21 5,
 RM 1 22 0,
 RM 2 23 6,
 rq 3 24 (.call B9 [(.tm 22),(.tm 23)]),
 rq 4 25 (.bC 3 1 [OZ,OZ,OZ] [(0,3,(.tm 24))]),
 rq 5 26 (.append 3 (.tm 21) (.tm 25)),
 RM 6 5 26] 7 [0,5,6,7]))
 (.region [RM 0 19 7,
 rq 1 20 (.bin .sub (.tm 19) (ki 1)),
 RM 2 7 20] 3 [0,5,6,7]))))))
 (.seq (.region [RM 0 27 5,
 RM 1 4 27] 2 [4])
 .ret)))))
def R9:List Cert:=[⟨[],[0,1]⟩,⟨[],[0,1,5]⟩,⟨[],[0,1,5,6]⟩,⟨[],[0,5,6,7]⟩,⟨[],[0,5,6,7,18]⟩,⟨[],[0,5,6,7]⟩,⟨[],[0,5,6,7]⟩,⟨[],[4]⟩]
def FE:List aW:=[.tm 4]
theorem R1:aO Tryz.prog Tryz.f57 R9=some (yD,FE):=by kernel_rfl
def z9:AC:=
 (.seq (.region [rq 0 4 (.alloc [OZ,OZ,OZ])] 1 [0,1,4])
 (.seq (.region [rq 0 8 (.call CS []),
 rq 1 5 (.alloc [OZ,OZ,OZ]),
 rn 2 (.store 3 true (.tm 5) (.tm 8))] 3 [0,1,4,5])
 (.seq (.seq (.region [rq 0 6 (.move (ki 0))] 1 [0,1,4,5,6])
 (.block 0
 (.loop
 (.seq (.seq (.region [RM 0 9 6,
 rq 1 10 (.bin .lss (.tm 9) (ki 3))] 2 [0,1,4,5,6,10])
 (.cond (.tm 10)
 .skip
 (.exit 0)))
 (.seq (.block 1
 (.seq (.region [RF 0 13 0 5,
 ⟨1,(some 14),.load 1 false (.tm 13),none,[],[],true⟩,
 RM 2 15 6,
 RM 3 16 0,
 RM 4 17 1,
 ⟨5,(some 18),.call aD [(.tm 16),(.tm 17)],none,[],[1],false⟩,
 rq 6 19 (.bin .gtr (.tm 18) (ki 0)),
 rq 7 20 (.idx 1 (.tm 14) (.tm 15)),
 rn 8 (.store 1 false (.tm 20) (.tm 19))] 9 [0,1,4,5,6])
 (.region [RF 0 21 2 5,
 ⟨1,(some 22),.load 1 false (.tm 21),none,[],[],true⟩,
 RM 2 23 6,
 RM 3 24 0,
 RM 4 25 1,
 ⟨5,(some 26),.call aD [(.tm 24),(.tm 25)],none,[],[1],false⟩,
 rq 6 27 (.bin .gtr (.tm 26) (ki 0)),
 rq 7 28 (.idx 1 (.tm 22) (.tm 23)),
 rn 8 (.store 1 false (.tm 28) (.tm 27))] 9 [0,1,4,5,6])))
 (.region [RM 0 11 6,
 rq 1 12 (.bin .add (.tm 11) (ki 1)),
 RM 2 6 12] 3 [0,1,4,5,6]))))))
 (.seq (.seq (.region [rq 0 7 (.move (ki 0))] 1 [0,1,4,5,7])
 (.block 2
 (.loop
 (.seq (.seq (.region [RM 0 29 7,
 rq 1 30 (.bin .leq (.tm 29) (ki 3))] 2 [0,1,4,5,7,30])
 (.cond (.tm 30)
 .skip
 (.exit 2)))
 (.seq (.block 3
 (.region [RF 0 33 1 5,
 ⟨1,(some 34),.load 1 false (.tm 33),none,[],[],true⟩,
 RM 2 35 7,
 RM 3 36 0,
 RM 4 37 1,
 ⟨5,(some 38),.call aD [(.tm 36),(.tm 37)],none,[],[1],false⟩,
 rq 6 39 (.bin .eql (.tm 38) (ki 0)),
 rq 7 40 (.idx 1 (.tm 34) (.tm 35)),
 rn 8 (.store 1 false (.tm 40) (.tm 39))] 9 [0,1,4,5,7]))
 (.region [RM 0 31 7,
 rq 1 32 (.bin .add (.tm 31) (ki 1)),
 RM 2 7 32] 3 [0,1,4,5,7]))))))
 (.seq (.region [rq 0 41 (.load 3 true (.tm 5)),
 rn 1 (.store 3 true (.tm 4) (.tm 41))] 2 [4])
 .ret)))))
def VG:List Cert:=[⟨[],[0,1,4]⟩,⟨[],[0,1,4,5]⟩,⟨[],[0,1,4,5,6]⟩,⟨[],[0,1,4,5,6,10]⟩,⟨[cz 0,(1,[],[],true),cz 2,cz 3,cz 4,(5,[],[1],false),cz 6,cz 7,cz 8],[0,1,4,5,6]⟩,⟨[cz 0,(1,[],[],true),cz 2,cz 3,cz 4,(5,[],[1],false),cz 6,cz 7,cz 8],[0,1,4,5,6]⟩,⟨[],[0,1,4,5,6]⟩,⟨[],[0,1,4,5,7]⟩,⟨[],[0,1,4,5,7,30]⟩,⟨[cz 0,(1,[],[],true),cz 2,cz 3,cz 4,(5,[],[1],false),cz 6,cz 7,cz 8],[0,1,4,5,7]⟩,⟨[],[0,1,4,5,7]⟩,⟨[],[4]⟩]
def I6:List aW:=[.cell 4 3 true]
theorem U3:aO Tryz.prog Tryz.f109 VG=some (z9,I6):=by kernel_rfl
def zW:AC:=
 (.seq (.region [rq 0 0 (.alloc [OZ,OZ,OZ])] 1 [0])
 (.seq (.region [rq 0 1 (.bC 1 3 [(.v (.bool false))] [(0,1,(.kv (.bool true))),(1,1,(.kv (.bool true))),(2,1,(.kv (.bool true)))]),
 rq 1 2 (.bC 1 4 [(.v (.bool false))] [(0,1,(.kv (.bool false))),(1,1,(.kv (.bool false))),(2,1,(.kv (.bool false))),(3,1,(.kv (.bool false)))]),
 rq 2 3 (.bC 1 3 [(.v (.bool false))] [(0,1,(.kv (.bool true))),(1,1,(.kv (.bool true))),(2,1,(.kv (.bool true)))]),
 rq 3 4 (.build [OZ,OZ,OZ] [(0,1,(.tm 1)),(1,1,(.tm 2)),(2,1,(.tm 3))]),
 rn 4 (.store 3 true (.tm 0) (.tm 4))] 5 [0])
 .ret))
def TO:List Cert:=[⟨[],[0]⟩,⟨[],[0]⟩]
def IZ:List aW:=[.cell 0 3 true]
theorem UW:aO Tryz.prog Tryz.f178 TO=some (zW,IZ):=by kernel_rfl
end Go.Proofs.YtegiblhkjfiooaaGreat
end
