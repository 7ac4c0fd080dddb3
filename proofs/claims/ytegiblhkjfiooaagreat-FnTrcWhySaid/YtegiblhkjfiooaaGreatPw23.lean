/- Texts laid together by a program: rules, contracts and the walk that leads to the law. -/
import Derived.Test.YtegiblhkjfiooaaGreatPw22
import Derived.Test.YtegiblhkjfiooaaGreatPw3
import Derived.Test.YtegiblhkjfiooaaGreatPw16
import Derived.Test.YtegiblhkjfiooaaGreatPw8
import Derived.OpenShut
import Derived.Below
set_option linter.unusedVariables false
set_option linter.unusedSimpArgs false
set_option linter.unusedSectionVars false
section
namespace Go.Proofs.YtegiblhkjfiooaaGreat
open Go Go.AM
set_option maxRecDepth 100000
set_option maxHeartbeats 8000000
section
variable {H : aA} {nx : Nat} {K : D → aA → Nat → Prop}
theorem aXD {H:aA} {e:Env} {t1 n1 id1 m1 t2 n2 id2 m2 t3 n3 id3 m3:Nat} {cs1 cs2 cs3:List D1} (he1:e t1= .one (.c (.ptr n1 id1 0 0))) (ho1:H id1=some ⟨n1,m1,[cs1]⟩) (hl1:cs1.length=n1) (he2:e t2= .one (.c (.ptr n2 id2 0 0))) (ho2:H id2=some ⟨n2,m2,[cs2]⟩) (hl2:cs2.length=n2)
 (he3:e t3= .one (.c (.ptr n3 id3 0 0))) (ho3:H id3=some ⟨n3,m3,[cs3]⟩) (hl3:cs3.length=n3):yT H e [.cell t1 n1 true,.cell t2 n2 true,.cell t3 n3 true]=some (.tup [.agg cs1,.agg cs2,.agg cs3]):=by
 subst hl1;subst hl2;subst hl3
 simp[yT,VP,he1,he2,he3,tT,ho1,ho2,ho3,mkV,asI]
theorem aV1:cJ Tryz.prog aVD Tryz.f47 aU8 aVM:=cJ.mk Tryz.func47 (by kernel_rfl) aV2
theorem aV9 {l:List Int} (hl:kZ l)
 (h: ∀H' nx' (c:Cfg) (s:TSt) (e:Ev),nx≤nx'→jO c→aVX s→(∀id,id<nx→H' id=H id)→K (.tup [.agg (cU c),.agg (eSt s),.agg (eEv e)]) H' nx'):aB Tryz.prog aVD [dS (l.map eU8)] H nx K:=by
 have hl2:kZ (l.take 2000):=⟨by simp;omega,fun x hx=>hl.byte x (List.take_subset _ _ hx)⟩
 obtain⟨L,hL⟩: ∃L,L=l.take 2000:=⟨_,rfl⟩
 rw[←hL] at hl2
 refine aV1 rfl fun Q hQ=> ?_
 unfold aU8
 repeat' (first| (with_reducible (refine hK _ _ _ ?_;clear hK K))| (first| (with_reducible refine Y1 fun K hK=> ?_)| (refine F2 ?_)| (refine aRT (p:=0) hl2 (by omega) (by omega) (by omega) (by rw[hL];exact aA.bH) (fun H1 nx1 p1 c es be ce h1 h2 h3 h4 h5 h6 q0 aUV aUW o0 qf=> ?_)))<;>(simp only[go_sem,Nat.add_assoc,Nat.left_eq_add,Nat.add_eq_left])|fail)
 have hs:=azI h1 (arF c) h3
 have hsm:=hs.small h1
 have hlen:=hs.lens h1
 have hal:=hs.JI
 generalize runM c st0 es=s at*
 have r0:H1 nx=some ⟨3,1,[[.osl 0 0 0 0 0,.osl 0 0 0 0 0,.osl 0 0 0 0 0]]⟩:=by rw[qf _ (by omega) (by omega)];exact(by simp only[aA.set,aA.del,Nat.add_assoc,Nat.reduceAdd,Nat.add_left_cancel_iff,Nat.reduceEqDiff,Nat.left_eq_add,Nat.add_eq_left,if_true,if_false];done)
 have r1:H1 (nx+1)=some ⟨6,1,[[.osl 0 0 0 0 0,.osl 0 0 0 0 0,.osl 0 0 0 0 0,.osl 0 0 0 0 0,.osl 0 0 0 0 0,.osl 0 0 0 0 0]]⟩:=by rw[qf _ (by omega) (by omega)];exact(by simp only[aA.set,aA.del,Nat.add_assoc,Nat.reduceAdd,Nat.add_left_cancel_iff,Nat.reduceEqDiff,Nat.left_eq_add,Nat.add_eq_left,if_true,if_false];done)
 have r2:H1 (nx+2)=some ⟨3,1,[[cI 0,cI 0,cI 0]]⟩:=by rw[qf _ (by omega) (by omega)];exact(by simp only[aA.set,aA.del,Nat.add_assoc,Nat.reduceAdd,Nat.add_left_cancel_iff,Nat.reduceEqDiff,Nat.left_eq_add,Nat.add_eq_left,if_true,if_false];done)
 have rf: ∀id,id<nx→H1 id=H id:=fun id hid=>by rw[qf id (by omega) (by omega),aA.aC (by omega),aA.aC (by omega),aA.aC (by omega),aA.aC (by omega)]
 generalize hG:aA.set _ (nx+14) _=G
 have hG:=hG.symm
 have q0:G (nx+6)=some (rdO L p1):=by rw[hG,aA.aC (by omega),aA.aC (by omega)];exact q0
 have q1:G nx=some ⟨3,1,[[.osl 0 0 0 0 0,.osl 0 0 0 0 0,.osl 0 0 0 0 0]]⟩:=by rw[hG,aA.aC (by omega),aA.aC (by omega)];exact r0
 have q2:G (nx+1)=some ⟨6,1,[[.osl 0 0 0 0 0,.osl 0 0 0 0 0,.osl 0 0 0 0 0,.osl 0 0 0 0 0,.osl 0 0 0 0 0,.osl 0 0 0 0 0]]⟩:=by rw[hG,aA.aC (by omega),aA.aC (by omega)];exact r1
 have q3:G (nx+2)=some ⟨3,1,[[cI 0,cI 0,cI 0]]⟩:=by rw[hG,aA.aC (by omega),aA.aC (by omega)];exact r2
 have q4:G (nx+13)=some ⟨3,1,[cU c]⟩:=by rw[hG,aA.aC (by omega)];exact aA.bH
 have q5:G (nx+14)=some ⟨6,1,[eSt s]⟩:=by rw[hG];exact aA.bH
 have qf: ∀id,id<nx→G id=H id:=fun id hid=>by rw[hG,aA.aC (by omega),aA.aC (by omega)];exact rf id hid
 clear hG o0 rf r0 r1 r2
 have hA1:bQ nx1 [nx,nx+1,nx+2,nx+6,nx+13,nx+14]:=AM.apart (by simp) (by simp;omega)
 simp only[bQ,eZ] at hA1
 refine aOX (p:=p1) hal (by omega) (by omega) hl2 (by omega) (by omega) q0 fun p2 e hp1 hp2 _=> ?_
 (try simp only[go_sem,Nat.add_assoc,Nat.left_eq_add,Nat.add_eq_left,q0,q1,q2,q3,q4,q5,hA1]);repeat' (first| (with_reducible first| (refine hK _ _ _ ?_;clear hK K)| (refine hA ?_;clear hA hB A B)| (refine hB ?_;clear hA hB A B)|refine Z1 ?_|refine Z2 ?_)| (first| (with_reducible first|refine Y2 fun K hK=> ?_|refine Y3 fun A B hA hB=> ?_)| (refine d6 (p:=p2) (n:=12) (by omega) hl2 (by omega) (by omega) (by simp only[aA.set,aA.del,Nat.add_assoc,Nat.reduceAdd,Nat.add_left_cancel_iff,Nat.reduceEqDiff,Nat.left_eq_add,Nat.add_eq_left,if_true,if_false,hA1];done) (fun p3 bb hp3 hp4 _=> ?_))| (refine aWK (p:=p3) (n:=1) (by omega) hl2 (by omega) (by omega) (by simp only[aA.set,aA.del,Nat.add_assoc,Nat.reduceAdd,Nat.add_left_cancel_iff,Nat.reduceEqDiff,Nat.left_eq_add,Nat.add_eq_left,if_true,if_false,hA1];done) (fun H2 nx2 p4 c' s' w1 w2 w3 w4 w5 w6 aXP=> ?_)))<;>(simp only[go_sem,Nat.add_assoc,Nat.left_eq_add,Nat.add_eq_left,q0,q1,q2,q3,q4,q5,hA1])| ((with_reducible refine Y8 ?_);try simp only[AQ.then,AQ.blk,reduceIte,Nat.reduceEqDiff])| ((with_reducible refine Z8 (fun h=> ?_) (fun h=> ?_))<;>try subst h)|fail)
 ·
  have tq1:H2 nx=some ⟨3,1,[[.osl 0 0 0 0 0,.osl 0 0 0 0 0,.osl 0 0 0 0 0]]⟩:=by rw[aXP _ (by omega) (by omega),aA.aC (by omega),aA.aC (by omega)];exact q1
  have tq2:H2 (nx+1)=some ⟨6,1,[[.osl 0 0 0 0 0,.osl 0 0 0 0 0,.osl 0 0 0 0 0,.osl 0 0 0 0 0,.osl 0 0 0 0 0,.osl 0 0 0 0 0]]⟩:=by rw[aXP _ (by omega) (by omega),aA.aC (by omega),aA.aC (by omega)];exact q2
  have tq3:H2 (nx+2)=some ⟨3,1,[[cI 0,cI 0,cI 0]]⟩:=by rw[aXP _ (by omega) (by omega),aA.aC (by omega),aA.aC (by omega)];exact q3
  have tq4:H2 (nx+13)=some ⟨3,1,[cU c]⟩:=by rw[aXP _ (by omega) (by omega),aA.aC (by omega),aA.aC (by omega)];exact q4
  have tq5:H2 (nx+14)=some ⟨6,1,[eSt s]⟩:=by rw[aXP _ (by omega) (by omega),aA.aC (by omega),aA.aC (by omega)];exact q5
  have te:H2 (nx1+4)=some ⟨3,1,[eEv e]⟩:=by rw[aXP _ (by omega) (by omega)];exact(by simp only[aA.set,aA.del,Nat.add_assoc,Nat.reduceAdd,Nat.add_left_cancel_iff,Nat.reduceEqDiff,Nat.left_eq_add,Nat.add_eq_left,if_true,if_false,hA1];done)
  have tf: ∀id,id<nx→H2 id=H id:=fun id hid=>by rw[aXP _ (by omega) (by omega),aA.aC (by omega),aA.aC (by omega)];exact qf id hid
  have hA2:bQ nx2 [nx,nx+1,nx+2,nx+13,nx+14,nx1+4]:=AM.apart (by simp;omega) (by simp;omega)
  simp only[bQ,eZ] at hA2
  (try simp only[go_sem,Nat.add_assoc,Nat.left_eq_add,Nat.add_eq_left,tq1,tq2,tq3,tq4,tq5,te,hA2]);repeat' (first| (with_reducible first| (refine hK _ _ _ ?_;clear hK K)|refine Z1 ?_)| (with_reducible refine Y2 fun K hK=> ?_)<;>(simp only[go_sem,Nat.add_assoc,Nat.left_eq_add,Nat.add_eq_left,tq1,tq2,tq3,tq4,tq5,te,hA2])| ((with_reducible refine Y8 ?_);try simp only[AQ.then,AQ.blk,reduceIte,Nat.reduceEqDiff])|fail)
  exact hQ _ _ _ _ _ (.inr rfl) (aXD (m1:=1) (m2:=1) (m3:=1) (cs1:=cU c') (cs2:=eSt s') (cs3:=eEv e) rfl (by simp only[aA.set,aA.del,Nat.add_assoc,Nat.reduceAdd,Nat.add_left_cancel_iff,Nat.reduceEqDiff,Nat.left_eq_add,Nat.add_eq_left,if_true,if_false,hA2];done) rfl rfl (by simp only[aA.set,aA.del,Nat.add_assoc,Nat.reduceAdd,Nat.add_left_cancel_iff,Nat.reduceEqDiff,Nat.left_eq_add,Nat.add_eq_left,if_true,if_false,hA2];done) rfl rfl (by simp only[aA.set,aA.del,Nat.add_assoc,Nat.reduceAdd,Nat.add_left_cancel_iff,Nat.reduceEqDiff,Nat.left_eq_add,Nat.add_eq_left,if_true,if_false,hA2];done) rfl) (h _ _ c' s' e (by omega) w2 w3 fun id hid=>by rw[aA.aC (by omega),aA.aC (by omega),aA.aC (by omega),aA.aC (by omega),aA.aC (by omega)];exact tf id hid)
 ·exact hQ _ _ _ _ _ (.inr rfl) (aXD (m1:=1) (m2:=1) (m3:=1) (cs1:=cU c) (cs2:=eSt s) (cs3:=eEv e) rfl (by simp only[aA.set,aA.del,Nat.add_assoc,Nat.reduceAdd,Nat.add_left_cancel_iff,Nat.reduceEqDiff,Nat.left_eq_add,Nat.add_eq_left,if_true,if_false,hA1];done) rfl rfl (by simp only[aA.set,aA.del,Nat.add_assoc,Nat.reduceAdd,Nat.add_left_cancel_iff,Nat.reduceEqDiff,Nat.left_eq_add,Nat.add_eq_left,if_true,if_false,hA1];done) rfl rfl (by simp only[aA.set,aA.del,Nat.add_assoc,Nat.reduceAdd,Nat.add_left_cancel_iff,Nat.reduceEqDiff,Nat.left_eq_add,Nat.add_eq_left,if_true,if_false,hA1];done) rfl) (h _ _ c s e (by omega) h2 hsm fun id hid=>by rw[aA.aC (by omega),aA.aC (by omega),aA.aC (by omega),aA.aC (by omega),aA.aC (by omega)];exact qf id hid)
theorem aV6:cJ Tryz.prog aVG Tryz.f43 aVC aVQ:=cJ.mk Tryz.func43 (by kernel_rfl) aV8
theorem aWA {l:List Int} (hl:kZ l)
 (h: ∀H' nx' (c:Cfg) (s:TSt) (e:Ev),nx≤nx'→jO c→aVX s→(∀id,id<nx→H' id=H id)→K (.tup [.agg (cU c),.agg (eSt s),.agg (eEv e)]) H' nx'):aB Tryz.prog aVG [dS (l.map eU8)] H nx K:=by
 refine aV6 rfl fun Q hQ=> ?_
 unfold aVC
 repeat' (first| (with_reducible first| (refine hK _ _ _ ?_;clear hK K)|refine Z1 ?_)| (first| (with_reducible refine Y2 fun K hK=> ?_)| (refine aV9 hl (fun H1 nx1 c s e h1 h2 h3 h4=> ?_)))<;>(simp only[go_sem,Nat.add_assoc,Nat.left_eq_add,Nat.add_eq_left])|fail)
 have r0:H1 nx=some ⟨3,1,[[.osl 0 0 0 0 0,.osl 0 0 0 0 0,.osl 0 0 0 0 0]]⟩:=by rw[h4 _ (by omega)];exact(by simp only[aA.set,aA.del,Nat.add_assoc,Nat.reduceAdd,Nat.add_left_cancel_iff,Nat.reduceEqDiff,Nat.left_eq_add,Nat.add_eq_left,if_true,if_false];done)
 have r1:H1 (nx+1)=some ⟨6,1,[[.osl 0 0 0 0 0,.osl 0 0 0 0 0,.osl 0 0 0 0 0,.osl 0 0 0 0 0,.osl 0 0 0 0 0,.osl 0 0 0 0 0]]⟩:=by rw[h4 _ (by omega)];exact(by simp only[aA.set,aA.del,Nat.add_assoc,Nat.reduceAdd,Nat.add_left_cancel_iff,Nat.reduceEqDiff,Nat.left_eq_add,Nat.add_eq_left,if_true,if_false];done)
 have r2:H1 (nx+2)=some ⟨3,1,[[cI 0,cI 0,cI 0]]⟩:=by rw[h4 _ (by omega)];exact(by simp only[aA.set,aA.del,Nat.add_assoc,Nat.reduceAdd,Nat.add_left_cancel_iff,Nat.reduceEqDiff,Nat.left_eq_add,Nat.add_eq_left,if_true,if_false];done)
 (try simp only[go_sem,Nat.add_assoc,Nat.left_eq_add,Nat.add_eq_left,r0,r1,r2]);repeat' (first| (with_reducible (refine hK _ _ _ ?_;clear hK K))| ((with_reducible refine Y8 ?_);try simp only[AQ.then,AQ.blk,reduceIte,Nat.reduceEqDiff])|fail)
 exact hQ _ _ _ _ _ (.inr rfl) (aXD (m1:=1) (m2:=1) (m3:=1) (cs1:=cU c) (cs2:=eSt s) (cs3:=eEv e) rfl (by simp only[aA.set,aA.del,Nat.add_assoc,Nat.reduceAdd,Nat.add_left_cancel_iff,Nat.reduceEqDiff,Nat.left_eq_add,Nat.add_eq_left,if_true,if_false];done) rfl rfl (by simp only[aA.set,aA.del,Nat.add_assoc,Nat.reduceAdd,Nat.add_left_cancel_iff,Nat.reduceEqDiff,Nat.left_eq_add,Nat.add_eq_left,if_true,if_false];done) rfl rfl (by simp only[aA.set,aA.del,Nat.add_assoc,Nat.reduceAdd,Nat.add_left_cancel_iff,Nat.reduceEqDiff,Nat.left_eq_add,Nat.add_eq_left,if_true,if_false];done) rfl) (h _ _ c s e (by omega) h2 h3 fun id hid=>by rw[aA.aC (by omega),aA.aC (by omega),aA.aC (by omega),h4 id (by omega),aA.aC (by omega),aA.aC (by omega),aA.aC (by omega)])
end
end Go.Proofs.YtegiblhkjfiooaaGreat
end
section
namespace Go.Proofs.YtegiblhkjfiooaaGreat
open Go Go.AM
set_option maxRecDepth 100000
set_option maxHeartbeats 8000000
section
variable {H : aA} {nx : Nat} {K : D → aA → Nat → Prop}
theorem aa9:aB Tryz.prog E2 [] .nil 0 fun rr _ _=>rr.plain=true∧rr=dB true:=by
 refine XX rfl fun Q hQ=> ?_
 unfold CP
 repeat' (first| (with_reducible first| (refine hK _ _ _ ?_;clear hK K)|refine Z1 ?_)| (first| (with_reducible refine Y2 fun K hK=> ?_)| (with_reducible refine wS ?_))<;>(simp only[go_sem])| ((with_reducible refine Y8 ?_);try simp only[AQ.then,AQ.blk,reduceIte,Nat.reduceEqDiff])|fail)
 all_goals first|with_reducible refine aZ hQ _ rfl rfl ?_|skip
 all_goals exact(q9 (by decide)).symm
theorem apY (h:K (dB true) H nx):aB Tryz.prog E2 [] H nx K:=
 (aa9).pure rfl (aI trivial) (fun r hr=>hr▸h)
end
theorem aXG {c:Cfg} {s:TSt} {e:Ev}:0≤aTD c s e∧aTD c s e≤6:=by
 have:=aUD (c:=c) (s:=s) (e:=e)
 unfold aTD
 split<;>omega
theorem aWD:cJ Tryz.prog aVU Tryz.f10 aVJ aVS:=cJ.mk Tryz.func10 (by kernel_rfl) aWG
theorem aXF (l:List Int) (hby: ∀x∈l,0≤x∧x<256):aB Tryz.prog aVU [dS (l.map eU8)] .nil 0 fun rr _ _=>rr.plain=true∧rr=dB true:=by
 refine aWD rfl fun Q hQ=> ?_
 unfold aVJ
 by_cases hbig:l.length≤1048576
 case neg=>
  repeat' (first| (with_reducible first| (refine hK _ _ _ ?_;clear hK K)| (refine hA ?_;clear hA hB A B)|refine Z1 ?_|refine Z4 (by omega) ?_)| (with_reducible first|refine Y2 fun K hK=> ?_|refine Y3 fun A B hA hB=> ?_)<;>(simp only[go_sem])| ((with_reducible refine Y8 ?_);try simp only[AQ.then,AQ.blk,reduceIte,Nat.reduceEqDiff])|fail)
  exact hQ _ _ _ _ _ (.inr rfl) rfl ⟨rfl,rfl⟩
 have hl:kZ l:=⟨by omega,hby⟩
 repeat' (first| (with_reducible first| (refine hK _ _ _ ?_;clear hK K)| (refine hB ?_;clear hA hB A B)|refine Z1 ?_|refine Z2 ?_|refine Z5 (by omega) ?_)| (first| (with_reducible first|refine Y2 fun K hK=> ?_|refine Y3 fun A B hA hB=> ?_)| (refine aWA hl (fun H1 nx1 c s e hx1 hcf hsm _=> ?_)))<;>(simp only[go_sem])|fail)
 have hf:=hsm.fit
 have hw:=aXG (c:=c) (s:=s) (e:=e)
 have htw: ∀{H:aA} {nx:Nat} {K:D→aA→Nat→Prop},K (dI (aTD c s e)) H nx→aB Tryz.prog aND [dA (cU c),dA (eSt s),dA (eEv e)] H nx K:=fun h=>aO1 hcf hf (aE rfl) h
 refine aW0 hcf hf ?_
 generalize hG:aA.set _ 12 _=G
 have g10:G 10=some ⟨3,1,[cU c]⟩:=by rw[←hG];exact(by simp only[aA.set,aA.del,Nat.add_assoc,Nat.reduceAdd,Nat.add_left_cancel_iff,Nat.reduceEqDiff,Nat.left_eq_add,Nat.add_eq_left,if_true,if_false];done)
 have g11:G 11=some ⟨6,1,[eSt s]⟩:=by rw[←hG];exact(by simp only[aA.set,aA.del,Nat.add_assoc,Nat.reduceAdd,Nat.add_left_cancel_iff,Nat.reduceEqDiff,Nat.left_eq_add,Nat.add_eq_left,if_true,if_false];done)
 have g12:G 12=some ⟨3,1,[eEv e]⟩:=by rw[←hG];exact(by simp only[aA.set,aA.del,Nat.add_assoc,Nat.reduceAdd,Nat.add_left_cancel_iff,Nat.reduceEqDiff,Nat.left_eq_add,Nat.add_eq_left,if_true,if_false];done)
 have hsg: ∀{H:aA} {nx:Nat} {K:D→aA→Nat→Prop},K (.tup [.agg (eSt (stT c s e)),.c (cB (decide (aTD c s e=0)))]) H nx→aB Tryz.prog dW [dA (cU c),dA (eSt s),dA (eEv e)] H nx K:=fun h=>aWM hcf hf h
 clear hG
 generalize aTD c s e=w at*
 generalize stT c s e=s2 at*
 have hA1:bQ nx1 [10,11,12]:=AM.apart (by simp) (by simp;omega)
 simp only[bQ,eZ] at hA1
 have e6:(0≤w)=True:=eq_true hw.1
 have e7:(w≤6)=True:=eq_true hw.2
 (try simp only[go_sem,Nat.add_assoc,Nat.left_eq_add,Nat.add_eq_left,g10,g11,g12,hA1,e6,e7]);repeat' (first| (with_reducible first| (refine hK _ _ _ ?_;clear hK K)| (refine hB ?_;clear hA hB A B)|refine Z1 ?_|refine Z2 ?_)| (first| (with_reducible first|refine Y2 fun K hK=> ?_|refine Y3 fun A B hA hB=> ?_)| (refine htw ?_)| (refine hsg ?_)| (with_reducible refine apY ?_))<;>(simp only[go_sem,Nat.add_assoc,Nat.left_eq_add,Nat.add_eq_left,g10,g11,g12,hA1,e6,e7])| ((with_reducible refine Y8 ?_);try simp only[AQ.then,AQ.blk,reduceIte,Nat.reduceEqDiff])|fail)
 exact hQ _ _ _ _ _ (.inr rfl) rfl ⟨rfl,rfl⟩
end Go.Proofs.YtegiblhkjfiooaaGreat
end
section
namespace Go.AM
open Go.RowKit
def asV (k:IntKind) (w:World) (a:Option Addr) (len cap:Nat) (zs:List Int):Prop:=
 (a=none∧len=0∧cap=0∧zs=[])∨
 ∃x,a=some x∧len≤cap∧cap≤maxLen∧zs.length=cap∧(∀i,i<zs.length→w.cell? (x.add i)=some (.int k (zs.getD i 0)))∧ ∀n∈zs,(Lit.int k n).wf=true
theorem abA {P:Program} {f:FuncId} {l:List Int} {w:World} {v:Value} {I:Nat→Prop} (h:aB P f [dS (l.map eU8)] .nil 0 fun rr _ _=>rr.plain=true∧rr=dB true) (hI: ∀b,I b→b<w.heap.size) (hv:Imm I w (.isl (l.map eU8)) v):
 Calls P f #[v] w fun e w'=>e= .returned (.bool true)∧Below w.heap.size w w':=by
 have hno: ∀b,¬uG ⟨fun _=>(0,0),fun _=>False,I,w⟩ .nil b:=by rintro b ⟨id,o,h,_⟩;cases h
 have hst:St ⟨fun _=>(0,0),fun _=>False,I,w⟩ .nil:=⟨fun id o h=>(by cases h),fun id o h=>(by cases h),fun id o h=>(by cases h),fun id o i j r d h=>(by cases h),fun id id' o o' h=>(by cases h),fun id o h=>(by cases h),hI⟩
 refine(h.2 ⟨fun _=>(0,0),fun _=>False,I,w⟩ [v] hst (fun i hi=>hi.elim) rfl (fun i d u h1 h2=> ?_)).mono ?_
 ·match i with
  |0=>simp at h1 h2;subst h1;subst h2;exact hv
  |i+1=>simp at h1
 ·rintro x w' ⟨u,c',r,H',nx',rfl,rfl,p1,p2,p3,p4,p5,p6,rfl⟩
  have hu:u= .bool true:=by
   simp only[fD,jZ,Rel,bY] at p5
   cases p5;rfl
  subst hu
  exact⟨rfl,p2.os,p2.tape,p2.output,p2.size,fun k hk=>p2.frame k hk (hno k)⟩
theorem atQ {P:Program} {f:FuncId} (h: ∀l:List Int,(∀x∈l,0≤x∧x<256)→aB P f [dS (l.map eU8)] .nil 0 fun rr _ _=>rr.plain=true∧rr=dB true) (az5:Option Addr) (len0 cap0:Nat) (z0:List Int) (w:World) (w0:asV .u8 w az5 len0 cap0 z0):
 Calls P f #[.slice az5 len0 cap0] w fun e w'=>e= .returned (.bool true)∧Below w.heap.size w w':=by
 rcases w0 with⟨rfl,rfl,rfl,rfl⟩|⟨x,rfl,hl,hm,hz,hc,hw⟩
 ·refine abA (I:=fun _=>False) (h [] (fun x hx=>by cases hx)) (fun b hb=>hb.elim) ?_
  exact .isl [] none 0 1 0 0 (fun _ _=>.int .u8 0) (fun h=>absurd rfl h) (Nat.le_refl _) (fun i r h=>by simp at h) (fun i j r d h=>by simp at h) (fun i j r d h=>by simp at h)
 ·have hlt:(z0.take len0).length=len0:=by simp;omega
  have hby: ∀y∈z0.take len0,0≤y∧y<256:=fun y hy=>by
   have:=bounds_u8 (hw y (List.take_subset _ _ hy));omega
  refine abA (I:=fun b=>b=x.block∧0<len0) (h (z0.take len0) hby) (fun b hb=> ?_) ?_
  ·obtain⟨rfl,h0⟩:=hb
   have:=World.block_lt_of_cell? w _ (hc 0 (by omega))
   simpa [Addr.add] using this
  ·have key:=Imm.isl (I:=fun b=>b=x.block∧0<len0) (w:=w) ((z0.take len0).map eU8) (some x) cap0 1 x.block x.off (fun i _=>.int .u8 (z0.getD i 0)) (fun hne=> ?_) (by simp;omega) (fun i r hr=> ?_) (fun i j r d hr hd=> ?_) (fun i j r d hr hd=> ?_)
   ·rw[List.length_map,hlt] at key;exact key
   ·have h0:0<len0:=by
     rcases Nat.eq_zero_or_pos len0 with h0|h0
     ·subst h0;exact absurd (by simp) hne
     ·exact h0
    have hsp:=World.cell?_spot (hc 0 (by omega))
    refine⟨?_,rfl,h0⟩
    obtain⟨b,o,s⟩:=x
    simp only[Addr.add,if_true] at hsp
    subst hsp
    rfl
   ·obtain⟨y,_,rfl⟩:=List.mem_map.1 (List.mem_of_getElem? hr)
    rfl
   ·rw[List.getElem?_map] at hr
    obtain⟨y,hy,rfl⟩:=Option.map_eq_some_iff.1 hr
    match j with
    |0=>
     have hi:i<len0:=by have:=(List.getElem?_eq_some_iff.1 hy).1;omega
     have h1:=hc i (by omega)
     have hsp:=World.cell?_spot (hc 0 (by omega))
     obtain⟨b,o,s⟩:=x
     simp only[Addr.add,if_true] at hsp
     subst hsp
     have e:(Addr.mk b o none).add i=⟨b,o+(i*1+0),none⟩:=by
      unfold Addr.add
      split
      ·rename_i h;subst h;simp
      ·simp
     rw[e] at h1
     exact h1
    |j+1=>simp[eU8] at hd
   ·rw[List.getElem?_map] at hr
    obtain⟨y,hy,rfl⟩:=Option.map_eq_some_iff.1 hr
    match j with
    |0=>
     simp only[eU8,List.getElem?_cons_zero,Option.some.injEq] at hd
     subst hd
     have hyz:y=z0.getD i 0:=by
      rw[List.getElem?_take] at hy
      split at hy
      ·simp[List.getD,hy]
      ·cases hy
     subst hyz
     exact .v _ rfl
    |j+1=>simp[eU8] at hd
end Go.AM
end
