/- Texts laid together by a program: rules, contracts and the walk that leads to the law. -/
import Derived.Test.YtegiblhkjfiooaaGreatPu23
import Derived.Test.YtegiblhkjfiooaaGreatPu3
import Derived.Test.YtegiblhkjfiooaaGreatPu10
import Derived.Test.YtegiblhkjfiooaaGreatPu12
import Derived.Test.YtegiblhkjfiooaaGreatPu4
import Derived.Test.YtegiblhkjfiooaaGreatPu20
set_option linter.unusedVariables false
set_option linter.unusedSimpArgs false
set_option linter.unusedSectionVars false
section
namespace Go.Proofs.YtegiblhkjfiooaaGreat
open Go Go.AM
set_option maxRecDepth 100000
set_option maxHeartbeats 8000000
section
variable {H : aA} {nx : Nat} {K : D → aA → Nat → Prop}
theorem aZF:aVX st0:=⟨by decide,by decide,by decide,by decide,by decide,by decide,fun j hj=>by simp[st0] at hj⟩
structure aZI where
 p:Nat
 c:Cfg
 s:TSt
 es:List Ev
 be:Nat
 ce:Nat
structure aZE (L:List Int) (nx:Nat) (H:aA) (lim lp:Nat) (u:aZI) (H2:aA) (nx2:Nat):Prop where
 p:u.p≤lp
 c:jO u.c
 s:aVX u.s
 es:u.es.length≤lim
 b1:nx+18≤u.be
 b2:u.be<nx2
 q0:H2 (nx+6)=some (rdO L u.p)
 q1:H2 nx=some ⟨3,1,[[.osl 0 0 0 0 0,.osl 0 0 0 0 0,.osl 0 0 0 0 0]]⟩
 q2:H2 (nx+1)=some ⟨6,1,[[.osl 0 0 0 0 0,.osl 0 0 0 0 0,.osl 0 0 0 0 0,.osl 0 0 0 0 0,.osl 0 0 0 0 0,.osl 0 0 0 0 0]]⟩
 q3:H2 (nx+13)=some ⟨3,1,[cU u.c]⟩
 q4:H2 (nx+14)=some ⟨6,1,[eSt u.s]⟩
 q5:Own eEv 3 H2 u.be u.ce u.es
 qf: ∀id,id<nx→H2 id=H id
theorem aY0:cJ Tryz.prog aYQ Tryz.f53 aYP aYS:=cJ.mk Tryz.func53 (by kernel_rfl) aYZ
theorem aY9 (h: ∀H' nx',nx≤nx'→(∀id,id<nx→H' id=H id)→K (dA (eSt st0)) H' nx'):aB Tryz.prog c7 [] H nx K:=by
 have hl0:st0.words.length=64:=rfl
 have hl1:st0.holds.length=6:=rfl
 have hl2:st0.asked.length=3:=rfl
 have hl3:st0.told.length=0:=rfl
 have htn: ∀{H:aA} {nx:Nat} {K:D→aA→Nat→Prop},(∀hc,6≤hc→K (dA (oSt nx (nx+1) (nx+2) (nx+3) 64 hc 3 0 st0)) ((((H.set nx ⟨1,64,st0.words.map aJ⟩).set (nx+1) ⟨1,hc,st0.holds.map aJ⟩).set (nx+2) ⟨1,3,st0.asked.map aJ⟩).set (nx+3) ⟨5,0,st0.told.map aS⟩) (nx+4))→aB Tryz.prog c7 [] H nx K:=fun h=>aO9 h
 generalize st0=s0 at*
 refine aB.tW (htn fun hc hhc=> ?_)
 refine⟨_,_,fun j=>j=nx∨j=nx+1∨j=nx+2∨j=nx+3,?_,kS,h _ (nx+4) (by omega) fun id hid=>by rw[iI (by omega),aA.aC (by omega),aA.aC (by omega),aA.aC (by omega),aA.aC (by omega)]⟩
 exact lY (aH (bW (m:=64) bF (by simp only[aA.set,aA.del,Nat.add_assoc,Nat.reduceAdd,Nat.add_left_cancel_iff,Nat.reduceEqDiff,Nat.left_eq_add,Nat.add_eq_left,if_true,if_false];done) (by omega) (by omega) (by simp)) (aH (bW (m:=hc) bF (by simp only[aA.set,aA.del,Nat.add_assoc,Nat.reduceAdd,Nat.add_left_cancel_iff,Nat.reduceEqDiff,Nat.left_eq_add,Nat.add_eq_left,if_true,if_false];done) (by omega) (by omega) (by simp)) (aH (bW (m:=3) bF (by simp only[aA.set,aA.del,Nat.add_assoc,Nat.reduceAdd,Nat.add_left_cancel_iff,Nat.reduceEqDiff,Nat.left_eq_add,Nat.add_eq_left,if_true,if_false];done) (by omega) (by omega) (by simp)) (aH (bB rfl) (aH (bB rfl) (aH (bW (m:=0) dZ (by simp only[aA.set,aA.del,Nat.add_assoc,Nat.reduceAdd,Nat.add_left_cancel_iff,Nat.reduceEqDiff,Nat.left_eq_add,Nat.add_eq_left,if_true,if_false];done) (by omega) (by omega) (by simp)) eP))))))
theorem aY1 {l:List Int} (hl:kZ l)
 (h: ∀H' nx' (c:Cfg) (s:TSt) (es:List Ev),nx≤nx'→jO c→aVX s→es.length≤300→(∀id,id<nx→H' id=H id)→K (.tup [.agg (cU c),.agg (eSt s),.c (.isl (es.map eEv))]) H' nx'):aB Tryz.prog aYQ [dS (l.map eU8)] H nx K:=by
 have hl2:kZ (l.take 2000):=⟨by simp;omega,fun x hx=>hl.byte x (List.take_subset _ _ hx)⟩
 obtain⟨L,hL⟩: ∃L,L=l.take 2000:=⟨_,rfl⟩
 rw[←hL] at hl2
 refine aB.tW ?_
 refine aY0 rfl fun Q hQ=> ?_
 unfold aYP
 repeat' (first| (with_reducible (refine hK _ _ _ ?_;clear hK K))| (first| (with_reducible refine Y1 fun K hK=> ?_)| (refine F2 ?_)| (refine aRT (p:=0) hl2 (by omega) (by omega) (by omega) (by rw[hL];exact aA.bH) (fun H1 nx1 p1 c es be ce h1 h2 h3 h4 h5 h6 q0 aUV aUW o0 qf=> ?_)))<;>(simp only[go_sem,Nat.add_assoc,Nat.left_eq_add,Nat.add_eq_left])|fail)
 have hs:=azI h1 (arF c) h3
 have hsm:=hs.small h1
 generalize runM c st0 es=s at*
 generalize hG:aA.set _ (nx+14) _=G
 have hΦ:aZE L nx H 70 10000 ⟨p1,c,s,es,be,ce⟩ G nx1:=by
  refine⟨by dsimp only;omega,h2,hsm,by dsimp only;omega,aUV,aUW,?_,?_,?_,?_,?_,?_,fun id hid=> ?_⟩
  ·rw[←hG,aA.aC (by omega),aA.aC (by omega)];exact q0
  ·rw[←hG,aA.aC (by omega),aA.aC (by omega),qf _ (by omega) (by omega)];exact(by simp only[aA.set,aA.del,Nat.add_assoc,Nat.reduceAdd,Nat.add_left_cancel_iff,Nat.reduceEqDiff,Nat.left_eq_add,Nat.add_eq_left,if_true,if_false];done)
  ·rw[←hG,aA.aC (by omega),aA.aC (by omega),qf _ (by omega) (by omega)];exact(by simp only[aA.set,aA.del,Nat.add_assoc,Nat.reduceAdd,Nat.add_left_cancel_iff,Nat.reduceEqDiff,Nat.left_eq_add,Nat.add_eq_left,if_true,if_false];done)
  ·rw[←hG,aA.aC (by omega)];exact aA.bH
  ·rw[←hG];exact aA.bH
  ·exact o0.of (by rw[←hG,aA.aC (by omega),aA.aC (by omega)])
  ·rw[←hG,aA.aC (by omega),aA.aC (by omega),qf _ (by omega) (by omega),aA.aC (by omega),aA.aC (by omega),aA.aC (by omega)]
 clear hG q0 qf o0 h3 h4 hs hsm h1 h2 h5 h6 aUV aUW
 refine aM.aUF (β:=aZI) (fun u=>en [(8,.one (.c (.osl 3 u.be 0 u.es.length u.ce))),(7,dP 6 (nx+14)),(6,dP 3 (nx+13)),(5,dP 2 (nx+6)),(3,dP 6 (nx+1)),(2,dP 3 nx)]) (aZE L nx H 70 10001) (fun KJ hKJ=> ?_) ?_
 ·obtain⟨v1,v2,aXN,v4,aXO,v6,q0,q1,q2,q3,q4,⟨me,q5,e1,e2⟩,qf⟩:=hΦ
  dsimp only at v1 v2 aXN v4 aXO v6 q0 q1 q2 q3 q4 q5 e1 e2
  have hA:bQ nx1 [nx,nx+1,nx+6,nx+13,nx+14,be]:=AM.apart (by simp;omega) (by simp;omega)
  simp only[bQ,eZ] at hA
  repeat' (first| (with_reducible first| (refine hK _ _ _ ?_;clear hK K)| (refine hA ?_;clear hA hB A B)| (refine hB ?_;clear hA hB A B)|refine Z1 ?_|refine Z2 ?_|refine Z6 (fun h=> ?_) fun h=> ?_)| (first| (with_reducible first|refine Y2 fun K hK=> ?_|refine Y3 fun A B hA hB=> ?_)| (refine aX (p:=p1) hl2 (by omega) (by omega) (by omega) q0 (fun x h1 h2=> ?_))| (refine aY9 (fun H3 nx3 hx3 fr3=> ?_)))<;>(simp only[go_sem,Nat.add_assoc,Nat.left_eq_add,Nat.add_eq_left,q1,q2,q3,q4,q5,hA])| ((with_reducible refine Y0 ?_);simp only[AQ.then,AQ.blk])|fail)
  ·
   have tq1:H3 nx=some ⟨3,1,[[.osl 0 0 0 0 0,.osl 0 0 0 0 0,.osl 0 0 0 0 0]]⟩:=by rw[fr3 _ (by omega),aA.aC (by omega)];exact q1
   have tq2:H3 (nx+1)=some ⟨6,1,[[.osl 0 0 0 0 0,.osl 0 0 0 0 0,.osl 0 0 0 0 0,.osl 0 0 0 0 0,.osl 0 0 0 0 0,.osl 0 0 0 0 0]]⟩:=by rw[fr3 _ (by omega),aA.aC (by omega)];exact q2
   have tq3:H3 (nx+13)=some ⟨3,1,[cU c]⟩:=by rw[fr3 _ (by omega),aA.aC (by omega)];exact q3
   have tq4:H3 (nx+14)=some ⟨6,1,[eSt s]⟩:=by rw[fr3 _ (by omega),aA.aC (by omega)];exact q4
   have tq5:H3 be=some ⟨3,me,es.map eEv⟩:=by rw[fr3 _ (by omega),aA.aC (by omega)];exact q5
   have tqf: ∀id,id<nx→H3 id=H id:=fun id hid=>by rw[fr3 _ (by omega),aA.aC (by omega)];exact qf id hid
   have tq0:H3 (nx+6)=some (rdO L (p1+1)):=by rw[fr3 _ (by omega)];exact aA.bH
   have hA3:bQ nx3 [nx,nx+1,nx+6,nx+13,nx+14,be]:=AM.apart (by simp;omega) (by simp;omega)
   simp only[bQ,eZ] at hA3
   (try simp only[go_sem,Nat.add_assoc,Nat.left_eq_add,Nat.add_eq_left,tq4,hA3]);repeat' (first| (with_reducible (refine hK _ _ _ ?_;clear hK K))| ((with_reducible refine Y0 ?_);simp only[AQ.then,AQ.blk])|fail)
   exact hKJ _ _ _ ⟨p1+1,c,st0,es,be,ce⟩ noF _ (by omega) (by dsimp only;repeat' (first| (with_reducible first|exact C1|refine C2 ?_ ?_)| ((with_reducible refine C0 ?_);first|exact CQ (by omega) rfl rfl (by rfl) rfl|exact CE (by omega) rfl)| ((with_reducible refine D0 ?_);refine CJ ?_)|fail)) aK ⟨by dsimp only;omega,v2,aZF,by dsimp only;omega,by dsimp only;omega,by dsimp only;omega,(by simp only[aA.set,aA.del,Nat.add_assoc,Nat.reduceAdd,Nat.add_left_cancel_iff,Nat.reduceEqDiff,Nat.left_eq_add,Nat.add_eq_left,if_true,if_false,hA3,tq0];done),(by simp only[aA.set,aA.del,Nat.add_assoc,Nat.reduceAdd,Nat.add_left_cancel_iff,Nat.reduceEqDiff,Nat.left_eq_add,Nat.add_eq_left,if_true,if_false,hA3,tq1];done),(by simp only[aA.set,aA.del,Nat.add_assoc,Nat.reduceAdd,Nat.add_left_cancel_iff,Nat.reduceEqDiff,Nat.left_eq_add,Nat.add_eq_left,if_true,if_false,hA3,tq2];done),(by simp only[aA.set,aA.del,Nat.add_assoc,Nat.reduceAdd,Nat.add_left_cancel_iff,Nat.reduceEqDiff,Nat.left_eq_add,Nat.add_eq_left,if_true,if_false,hA3,tq3];done),aA.bH,⟨me,(by simp only[aA.set,aA.del,Nat.add_assoc,Nat.reduceAdd,Nat.add_left_cancel_iff,Nat.reduceEqDiff,Nat.left_eq_add,Nat.add_eq_left,if_true,if_false,hA3,tq5];done),e1,e2⟩,fun id hid=>by rw[aA.aC (by omega)];exact tqf id hid⟩
  ·exact hKJ _ _ _ ⟨p1+1,c,s,es,be,ce⟩ noF _ (by omega) (by dsimp only;repeat' (first| (with_reducible first|exact C1|refine C2 ?_ ?_)| ((with_reducible refine C0 ?_);first|exact CQ (by omega) rfl rfl (by rfl) rfl|exact CE (by omega) rfl)| ((with_reducible refine D0 ?_);refine CJ ?_)|fail)) aK ⟨by dsimp only;omega,v2,aXN,by dsimp only;omega,by dsimp only;omega,by dsimp only;omega,(by simp only[aA.set,aA.del,Nat.add_assoc,Nat.reduceAdd,Nat.add_left_cancel_iff,Nat.reduceEqDiff,Nat.left_eq_add,Nat.add_eq_left,if_true,if_false,hA];done),(by simp only[aA.set,aA.del,Nat.add_assoc,Nat.reduceAdd,Nat.add_left_cancel_iff,Nat.reduceEqDiff,Nat.left_eq_add,Nat.add_eq_left,if_true,if_false,hA,q1];done),(by simp only[aA.set,aA.del,Nat.add_assoc,Nat.reduceAdd,Nat.add_left_cancel_iff,Nat.reduceEqDiff,Nat.left_eq_add,Nat.add_eq_left,if_true,if_false,hA,q2];done),(by simp only[aA.set,aA.del,Nat.add_assoc,Nat.reduceAdd,Nat.add_left_cancel_iff,Nat.reduceEqDiff,Nat.left_eq_add,Nat.add_eq_left,if_true,if_false,hA,q3];done),(by simp only[aA.set,aA.del,Nat.add_assoc,Nat.reduceAdd,Nat.add_left_cancel_iff,Nat.reduceEqDiff,Nat.left_eq_add,Nat.add_eq_left,if_true,if_false,hA,q4];done),⟨me,(by simp only[aA.set,aA.del,Nat.add_assoc,Nat.reduceAdd,Nat.add_left_cancel_iff,Nat.reduceEqDiff,Nat.left_eq_add,Nat.add_eq_left,if_true,if_false,hA,q5];done),e1,e2⟩,fun id hid=>by rw[aA.aC (by omega)];exact qf id hid⟩
 clear hΦ
 rintro⟨p1,c,s,es,be,ce⟩ H2 nx2 hnx2 hΦ
 refine aM.aUF (β:=aZI) (fun u=>en [(8,.one (.c (.osl 3 u.be 0 u.es.length u.ce))),(7,dP 6 (nx+14)),(6,dP 3 (nx+13)),(5,dP 2 (nx+6)),(3,dP 6 (nx+1)),(2,dP 3 nx)]) (aZE L nx H 70 10006) (fun KJ hKJ=> ?_) ?_
 ·obtain⟨v1,v2,aXN,v4,aXO,v6,q0,q1,q2,q3,q4,⟨me,q5,e1,e2⟩,qf⟩:=hΦ
  dsimp only at v1 v2 aXN v4 aXO v6 q0 q1 q2 q3 q4 q5 e1 e2
  have hA:bQ nx2 [nx,nx+1,nx+6,nx+13,nx+14,be]:=AM.apart (by simp;omega) (by simp;omega)
  simp only[bQ,eZ] at hA
  repeat' (first| (with_reducible first| (refine hK _ _ _ ?_;clear hK K)| (refine hA ?_;clear hA hB A B)| (refine hB ?_;clear hA hB A B)|refine Z1 ?_|refine Z2 ?_|refine Z6 (fun h=> ?_) fun h=> ?_)| (first| (with_reducible first|refine Y2 fun K hK=> ?_|refine Y3 fun A B hA hB=> ?_| (refine Y7 (fun h=> ?_) (fun h=> ?_)<;>try subst h))| (refine d6 (n:=4) (p:=p1) (by omega) hl2 (by omega) (by omega) q0 (fun p2 bb hp1 hp2 _=> ?_))| (refine aTK (p:=p2) hl2 (by omega) (by omega) (by omega) aA.bH (fun k hk=> ?_)))<;>(simp only[go_sem,Nat.add_assoc,Nat.left_eq_add,Nat.add_eq_left,q1,q2,q3,q4,q5,hA])| ((with_reducible refine Y0 ?_);simp only[AQ.then,AQ.blk])|fail)
  ·refine aX (p:=p2+1) hl2 (by omega) (by omega) (by omega) aA.bH fun y1 hy1 hy2=> ?_
   (try simp only[go_sem,Nat.add_assoc,Nat.left_eq_add,Nat.add_eq_left,q1,q2,q3,q4,q5,hA]);skip
   refine aX (p:=p2+2) hl2 (by omega) (by omega) (by omega) aA.bH fun aHC hy3 hy4=> ?_
   (try simp only[go_sem,Nat.add_assoc,Nat.left_eq_add,Nat.add_eq_left,q1,q2,q3,q4,q5,hA]);skip
   refine aX (p:=p2+3) hl2 (by omega) (by omega) (by omega) aA.bH fun aHD hy5 hy6=> ?_
   have hrow:[D1.v (.int .i64 (IntKind.i64.wrap (1+y1))),.v (.int .i64 aHC),.v (.int .i64 aHD)]=eEv ⟨IntKind.i64.wrap (1+y1),aHC,aHD⟩:=rfl
   have hrow2:(es.map eEv).set k [D1.v (.int .i64 (IntKind.i64.wrap (1+y1))),.v (.int .i64 aHC),.v (.int .i64 aHD)]=(es.set k ⟨IntKind.i64.wrap (1+y1),aHC,aHD⟩).map eEv:=by rw[hrow,List.map_set]
   (try simp only[go_sem,Nat.add_assoc,Nat.left_eq_add,Nat.add_eq_left,q1,q2,q3,q4,q5,hA]);repeat' (first| (with_reducible (refine hK _ _ _ ?_;clear hK K))| ((with_reducible refine Y0 ?_);simp only[AQ.then,AQ.blk])|refine⟨by omega,?_⟩|fail)
   exact hKJ _ _ _ ⟨p2+4,c,s,es.set k ⟨IntKind.i64.wrap (1+y1),aHC,aHD⟩,be,ce⟩ noF _ (by omega) (by dsimp only;rw[List.length_set];repeat' (first| (with_reducible first|exact C1|refine C2 ?_ ?_)| ((with_reducible refine C0 ?_);first|exact CQ (by omega) rfl rfl (by rfl) rfl|exact CE (by omega) rfl)| ((with_reducible refine D0 ?_);refine CJ ?_)|fail)) aK ⟨by dsimp only;omega,v2,aXN,by simp;omega,by dsimp only;omega,by dsimp only;omega,(by simp only[aA.set,aA.del,Nat.add_assoc,Nat.reduceAdd,Nat.add_left_cancel_iff,Nat.reduceEqDiff,Nat.left_eq_add,Nat.add_eq_left,if_true,if_false,hA];done),(by simp only[aA.set,aA.del,Nat.add_assoc,Nat.reduceAdd,Nat.add_left_cancel_iff,Nat.reduceEqDiff,Nat.left_eq_add,Nat.add_eq_left,if_true,if_false,hA,q1];done),(by simp only[aA.set,aA.del,Nat.add_assoc,Nat.reduceAdd,Nat.add_left_cancel_iff,Nat.reduceEqDiff,Nat.left_eq_add,Nat.add_eq_left,if_true,if_false,hA,q2];done),(by simp only[aA.set,aA.del,Nat.add_assoc,Nat.reduceAdd,Nat.add_left_cancel_iff,Nat.reduceEqDiff,Nat.left_eq_add,Nat.add_eq_left,if_true,if_false,hA,q3];done),(by simp only[aA.set,aA.del,Nat.add_assoc,Nat.reduceAdd,Nat.add_left_cancel_iff,Nat.reduceEqDiff,Nat.left_eq_add,Nat.add_eq_left,if_true,if_false,hA,q4];done),⟨me,by dsimp only;rw[aA.bH,←hrow2],by simp;omega,e2⟩,fun id hid=>by rw[aA.aC (by omega),aA.aC (by omega)];exact qf id hid⟩
  ·exact hKJ _ _ _ ⟨p2,c,s,es,be,ce⟩ noF _ (by omega) (by dsimp only;repeat' (first| (with_reducible first|exact C1|refine C2 ?_ ?_)| ((with_reducible refine C0 ?_);first|exact CQ (by omega) rfl rfl (by rfl) rfl|exact CE (by omega) rfl)| ((with_reducible refine D0 ?_);refine CJ ?_)|fail)) aK ⟨by dsimp only;omega,v2,aXN,by dsimp only;omega,by dsimp only;omega,by dsimp only;omega,(by simp only[aA.set,aA.del,Nat.add_assoc,Nat.reduceAdd,Nat.add_left_cancel_iff,Nat.reduceEqDiff,Nat.left_eq_add,Nat.add_eq_left,if_true,if_false,hA];done),(by simp only[aA.set,aA.del,Nat.add_assoc,Nat.reduceAdd,Nat.add_left_cancel_iff,Nat.reduceEqDiff,Nat.left_eq_add,Nat.add_eq_left,if_true,if_false,hA,q1];done),(by simp only[aA.set,aA.del,Nat.add_assoc,Nat.reduceAdd,Nat.add_left_cancel_iff,Nat.reduceEqDiff,Nat.left_eq_add,Nat.add_eq_left,if_true,if_false,hA,q2];done),(by simp only[aA.set,aA.del,Nat.add_assoc,Nat.reduceAdd,Nat.add_left_cancel_iff,Nat.reduceEqDiff,Nat.left_eq_add,Nat.add_eq_left,if_true,if_false,hA,q3];done),(by simp only[aA.set,aA.del,Nat.add_assoc,Nat.reduceAdd,Nat.add_left_cancel_iff,Nat.reduceEqDiff,Nat.left_eq_add,Nat.add_eq_left,if_true,if_false,hA,q4];done),⟨me,(by simp only[aA.set,aA.del,Nat.add_assoc,Nat.reduceAdd,Nat.add_left_cancel_iff,Nat.reduceEqDiff,Nat.left_eq_add,Nat.add_eq_left,if_true,if_false,hA,q5];done),e1,e2⟩,fun id hid=>by rw[aA.aC (by omega)];exact qf id hid⟩
  ·exact hKJ _ _ _ ⟨p2,c,s,es,be,ce⟩ noF _ (by omega) (by dsimp only;repeat' (first| (with_reducible first|exact C1|refine C2 ?_ ?_)| ((with_reducible refine C0 ?_);first|exact CQ (by omega) rfl rfl (by rfl) rfl|exact CE (by omega) rfl)| ((with_reducible refine D0 ?_);refine CJ ?_)|fail)) aK ⟨by dsimp only;omega,v2,aXN,by dsimp only;omega,by dsimp only;omega,by dsimp only;omega,(by simp only[aA.set,aA.del,Nat.add_assoc,Nat.reduceAdd,Nat.add_left_cancel_iff,Nat.reduceEqDiff,Nat.left_eq_add,Nat.add_eq_left,if_true,if_false,hA];done),(by simp only[aA.set,aA.del,Nat.add_assoc,Nat.reduceAdd,Nat.add_left_cancel_iff,Nat.reduceEqDiff,Nat.left_eq_add,Nat.add_eq_left,if_true,if_false,hA,q1];done),(by simp only[aA.set,aA.del,Nat.add_assoc,Nat.reduceAdd,Nat.add_left_cancel_iff,Nat.reduceEqDiff,Nat.left_eq_add,Nat.add_eq_left,if_true,if_false,hA,q2];done),(by simp only[aA.set,aA.del,Nat.add_assoc,Nat.reduceAdd,Nat.add_left_cancel_iff,Nat.reduceEqDiff,Nat.left_eq_add,Nat.add_eq_left,if_true,if_false,hA,q3];done),(by simp only[aA.set,aA.del,Nat.add_assoc,Nat.reduceAdd,Nat.add_left_cancel_iff,Nat.reduceEqDiff,Nat.left_eq_add,Nat.add_eq_left,if_true,if_false,hA,q4];done),⟨me,(by simp only[aA.set,aA.del,Nat.add_assoc,Nat.reduceAdd,Nat.add_left_cancel_iff,Nat.reduceEqDiff,Nat.left_eq_add,Nat.add_eq_left,if_true,if_false,hA,q5];done),e1,e2⟩,fun id hid=>by rw[aA.aC (by omega)];exact qf id hid⟩
 clear hΦ
 rintro⟨p1,c,s,es,be,ce⟩ H3 nx3 hnx3 hΦ
 refine aM.aUF (β:=aZI) (fun u=>en [(8,.one (.c (.osl 3 u.be 0 u.es.length u.ce))),(7,dP 6 (nx+14)),(6,dP 3 (nx+13)),(5,dP 2 (nx+6)),(3,dP 6 (nx+1)),(2,dP 3 nx)]) (aZE L nx H 201 10007) (fun KJ hKJ=> ?_) ?_
 ·obtain⟨v1,v2,aXN,v4,aXO,v6,q0,q1,q2,q3,q4,⟨me,q5,e1,e2⟩,qf⟩:=hΦ
  dsimp only at v1 v2 aXN v4 aXO v6 q0 q1 q2 q3 q4 q5 e1 e2
  have hA:bQ nx3 [nx,nx+1,nx+6,nx+13,nx+14,be]:=AM.apart (by simp;omega) (by simp;omega)
  simp only[bQ,eZ] at hA
  repeat' (first| (with_reducible first| (refine hK _ _ _ ?_;clear hK K)| (refine hA ?_;clear hA hB A B)| (refine hB ?_;clear hA hB A B)|refine Z1 ?_|refine Z2 ?_|refine Z3 fun KB hKB=> ?_)| (first| (with_reducible first|refine Y2 fun K hK=> ?_|refine Y3 fun A B hA hB=> ?_)| (refine d6 (n:=30) (p:=p1) (by omega) hl2 (by omega) (by omega) q0 (fun p2 bb hp1 hp2 _=> ?_)))<;>(simp only[go_sem,Nat.add_assoc,Nat.left_eq_add,Nat.add_eq_left,q1,q2,q3,q4,q5,hA])| ((with_reducible refine Y0 ?_);simp only[AQ.then,AQ.blk])| ((with_reducible refine Z8 (fun h=> ?_) (fun h=> ?_))<;>try subst h)|fail)
  · (have hKX:=hKB;clear hKB)
    refine aM.gP (β:=List Ev×Nat×Nat) (fun u=>en [(8,.one (.c (.osl 3 u.2.1 0 u.1.length u.2.2))),(7,dP 6 (nx+14)),(6,dP 3 (nx+13)),(5,dP 2 (nx+6)),(3,dP 6 (nx+1)),(2,dP 3 nx)])
     (fun u H4 nx4=>aZE L nx H 201 10007 ⟨p2,c,s,u.1,u.2.1,u.2.2⟩ H4 nx4) (fun u=>201-u.1.length) (es,be,ce)
     ⟨noF,_,by dsimp only;repeat' (first| (with_reducible first|exact C1|refine C2 ?_ ?_)| ((with_reducible refine C0 ?_);first|exact CQ (by omega) rfl rfl (by rfl) rfl|exact CE (by omega) rfl)| ((with_reducible refine D0 ?_);refine CJ ?_)|fail),aK,⟨by dsimp only;omega,v2,aXN,by dsimp only;omega,by dsimp only;omega,by dsimp only;omega,(by simp only[aA.set,aA.del,Nat.add_assoc,Nat.reduceAdd,Nat.add_left_cancel_iff,Nat.reduceEqDiff,Nat.left_eq_add,Nat.add_eq_left,if_true,if_false,hA];done),(by simp only[aA.set,aA.del,Nat.add_assoc,Nat.reduceAdd,Nat.add_left_cancel_iff,Nat.reduceEqDiff,Nat.left_eq_add,Nat.add_eq_left,if_true,if_false,hA,q1];done),(by simp only[aA.set,aA.del,Nat.add_assoc,Nat.reduceAdd,Nat.add_left_cancel_iff,Nat.reduceEqDiff,Nat.left_eq_add,Nat.add_eq_left,if_true,if_false,hA,q2];done),(by simp only[aA.set,aA.del,Nat.add_assoc,Nat.reduceAdd,Nat.add_left_cancel_iff,Nat.reduceEqDiff,Nat.left_eq_add,Nat.add_eq_left,if_true,if_false,hA,q3];done),(by simp only[aA.set,aA.del,Nat.add_assoc,Nat.reduceAdd,Nat.add_left_cancel_iff,Nat.reduceEqDiff,Nat.left_eq_add,Nat.add_eq_left,if_true,if_false,hA,q4];done),⟨me,(by simp only[aA.set,aA.del,Nat.add_assoc,Nat.reduceAdd,Nat.add_left_cancel_iff,Nat.reduceEqDiff,Nat.left_eq_add,Nat.add_eq_left,if_true,if_false,hA,q5];done),e1,e2⟩,fun id hid=>by rw[aA.aC (by omega)];exact qf id hid⟩⟩ ?_
    clear q0 q1 q2 q3 q4 q5 qf e1 e2 hA
    rintro⟨E,b,ce⟩ H4 nx4 hnx4 ⟨aUV,aUW,aIG,aII,aUX,aIH,q0,q1,q2,q3,q4,⟨me,q5,e1,e2⟩,qf⟩ KL hKL
    dsimp only at aUV aUW aIG aII aUX aIH q0 q1 q2 q3 q4 q5 e1 e2
    have hA:bQ nx4 [nx,nx+1,nx+6,nx+13,nx+14,b]:=AM.apart (by simp;omega) (by simp;omega)
    simp only[bQ,eZ] at hA
    have htE:E.take E.length=E:=List.take_length
    by_cases hlt:E.length≤200
    ·have hrow:[D1.v (.int .i64 1),.v (.int .i64 0),.v (.int .i64 0)]=eEv ⟨1,0,0⟩:=rfl
     repeat' (first| (with_reducible first| (refine hK _ _ _ ?_;clear hK K)| (refine hA ?_;clear hA hB A B)|refine Z1 ?_|refine Z2 ?_|refine Z3 fun KB hKB=> ?_|refine Z4 (by omega) ?_|refine fun(cap:Nat) (hcap:_≤cap)=> ?_|refine fun(hcp:_≤cap)=> ?_)| (with_reducible first|refine Y2 fun K hK=> ?_|refine Y3 fun A B hA hB=> ?_)<;>(simp only[go_sem,Nat.add_assoc,Nat.left_eq_add,Nat.add_eq_left,q5,hA,htE,hrow])| ((with_reducible refine Y0 ?_);simp only[AQ.then,AQ.blk])|refine⟨by omega,?_⟩| (with_reducible refine hKB _ _ _ ?_)|fail)
     exact hKL _ _ _ (E++[⟨1,0,0⟩],nx4+6,cap) noF _ (by omega) (by simp;omega) (by dsimp only;rw[List.length_append,List.length_singleton];repeat' (first| (with_reducible first|exact C1|refine C2 ?_ ?_)| ((with_reducible refine C0 ?_);first|exact CQ (by omega) rfl rfl (by rfl) rfl|exact CE (by omega) rfl)| ((with_reducible refine D0 ?_);refine CJ ?_)|fail)) aK ⟨aUV,aUW,aIG,by simp;omega,by dsimp only;omega,by dsimp only;omega,(by simp only[aA.set,aA.del,Nat.add_assoc,Nat.reduceAdd,Nat.add_left_cancel_iff,Nat.reduceEqDiff,Nat.left_eq_add,Nat.add_eq_left,if_true,if_false,hA,q0];done),(by simp only[aA.set,aA.del,Nat.add_assoc,Nat.reduceAdd,Nat.add_left_cancel_iff,Nat.reduceEqDiff,Nat.left_eq_add,Nat.add_eq_left,if_true,if_false,hA,q1];done),(by simp only[aA.set,aA.del,Nat.add_assoc,Nat.reduceAdd,Nat.add_left_cancel_iff,Nat.reduceEqDiff,Nat.left_eq_add,Nat.add_eq_left,if_true,if_false,hA,q2];done),(by simp only[aA.set,aA.del,Nat.add_assoc,Nat.reduceAdd,Nat.add_left_cancel_iff,Nat.reduceEqDiff,Nat.left_eq_add,Nat.add_eq_left,if_true,if_false,hA,q3];done),(by simp only[aA.set,aA.del,Nat.add_assoc,Nat.reduceAdd,Nat.add_left_cancel_iff,Nat.reduceEqDiff,Nat.left_eq_add,Nat.add_eq_left,if_true,if_false,hA,q4];done),⟨cap,(by simp only[aA.set,aA.del,Nat.add_assoc,Nat.reduceAdd,Nat.add_left_cancel_iff,Nat.reduceEqDiff,Nat.left_eq_add,Nat.add_eq_left,if_true,if_false,hA];done),by simpa using hcap,Nat.le_refl _⟩,fun id hid=>by rw[aA.aC (by omega),aA.aC (by omega),aA.jG (by omega)];exact qf id hid⟩
    ·repeat' (first| (with_reducible first| (refine hK _ _ _ ?_;clear hK K)| (refine hB ?_;clear hA hB A B)|refine Z1 ?_|refine Z5 (by omega) ?_|refine hKX _ _ _ ?_)| (with_reducible first|refine Y2 fun K hK=> ?_|refine Y3 fun A B hA hB=> ?_)<;>(simp only[go_sem])| ((with_reducible refine Y9 ?_);try simp only[AQ.then,AQ.blk,reduceIte,Nat.reduceEqDiff])| ((with_reducible refine Y0 ?_);simp only[AQ.then,AQ.blk])|fail)
     exact hKJ _ _ _ ⟨p2,c,s,E,b,ce⟩ noF _ (by omega) (by dsimp only;repeat' (first| (with_reducible first|exact C1|refine C2 ?_ ?_)| ((with_reducible refine C0 ?_);first|exact CQ (by omega) rfl rfl (by rfl) rfl|exact CE (by omega) rfl)| ((with_reducible refine D0 ?_);refine CJ ?_)|fail)) aK ⟨aUV,aUW,aIG,aII,aUX,by dsimp only;omega,q0,q1,q2,q3,q4,⟨me,q5,e1,e2⟩,qf⟩
  ·exact hKJ _ _ _ ⟨p2,c,s,es,be,ce⟩ noF _ (by omega) (by dsimp only;repeat' (first| (with_reducible first|exact C1|refine C2 ?_ ?_)| ((with_reducible refine C0 ?_);first|exact CQ (by omega) rfl rfl (by rfl) rfl|exact CE (by omega) rfl)| ((with_reducible refine D0 ?_);refine CJ ?_)|fail)) aK ⟨by dsimp only;omega,v2,aXN,by dsimp only;omega,by dsimp only;omega,by dsimp only;omega,(by simp only[aA.set,aA.del,Nat.add_assoc,Nat.reduceAdd,Nat.add_left_cancel_iff,Nat.reduceEqDiff,Nat.left_eq_add,Nat.add_eq_left,if_true,if_false,hA];done),(by simp only[aA.set,aA.del,Nat.add_assoc,Nat.reduceAdd,Nat.add_left_cancel_iff,Nat.reduceEqDiff,Nat.left_eq_add,Nat.add_eq_left,if_true,if_false,hA,q1];done),(by simp only[aA.set,aA.del,Nat.add_assoc,Nat.reduceAdd,Nat.add_left_cancel_iff,Nat.reduceEqDiff,Nat.left_eq_add,Nat.add_eq_left,if_true,if_false,hA,q2];done),(by simp only[aA.set,aA.del,Nat.add_assoc,Nat.reduceAdd,Nat.add_left_cancel_iff,Nat.reduceEqDiff,Nat.left_eq_add,Nat.add_eq_left,if_true,if_false,hA,q3];done),(by simp only[aA.set,aA.del,Nat.add_assoc,Nat.reduceAdd,Nat.add_left_cancel_iff,Nat.reduceEqDiff,Nat.left_eq_add,Nat.add_eq_left,if_true,if_false,hA,q4];done),⟨me,(by simp only[aA.set,aA.del,Nat.add_assoc,Nat.reduceAdd,Nat.add_left_cancel_iff,Nat.reduceEqDiff,Nat.left_eq_add,Nat.add_eq_left,if_true,if_false,hA,q5];done),e1,e2⟩,fun id hid=>by rw[aA.aC (by omega)];exact qf id hid⟩
 clear hΦ
 rintro⟨p1,c,s,es,be,ce⟩ H4 nx4 hnx4 hΦ
 obtain⟨v1,v2,aXN,v4,aXO,v6,q0,q1,q2,q3,q4,⟨me,q5,e1,e2⟩,qf⟩:=hΦ
 dsimp only at v1 v2 aXN v4 aXO v6 q0 q1 q2 q3 q4 q5 e1 e2
 have hA:bQ nx4 [nx,nx+1,nx+6,nx+13,nx+14,be]:=AM.apart (by simp;omega) (by simp;omega)
 simp only[bQ,eZ] at hA
 repeat' (first| (with_reducible first| (refine hK _ _ _ ?_;clear hK K)| (refine hA ?_;clear hA hB A B)| (refine hB ?_;clear hA hB A B)|refine Z1 ?_|refine Z2 ?_)| (first| (with_reducible first|refine Y2 fun K hK=> ?_|refine Y3 fun A B hA hB=> ?_)| (refine d6 (n:=20) (p:=p1) (by omega) hl2 (by omega) (by omega) q0 (fun p2 bb hp1 hp2 _=> ?_))| (refine aWK (p:=p2) (n:=1) (by omega) hl2 (by omega) (by omega) (by simp only[aA.set,aA.del,Nat.add_assoc,Nat.reduceAdd,Nat.add_left_cancel_iff,Nat.reduceEqDiff,Nat.left_eq_add,Nat.add_eq_left,if_true,if_false,hA];done) (fun aZJ nx5 p4 c' s' w1 w2 w3 w4 w5 w6 aXP=> ?_)))<;>(simp only[go_sem,Nat.add_assoc,Nat.left_eq_add,Nat.add_eq_left,q1,q2,q3,q4,q5,hA])| ((with_reducible refine Y8 ?_);try simp only[AQ.then,AQ.blk,reduceIte,Nat.reduceEqDiff])| ((with_reducible refine Z8 (fun h=> ?_) (fun h=> ?_))<;>try subst h)|fail)
 ·
  have tq1:aZJ nx=some ⟨3,1,[[.osl 0 0 0 0 0,.osl 0 0 0 0 0,.osl 0 0 0 0 0]]⟩:=by rw[aXP _ (by omega) (by omega),aA.aC (by omega)];exact q1
  have tq2:aZJ (nx+1)=some ⟨6,1,[[.osl 0 0 0 0 0,.osl 0 0 0 0 0,.osl 0 0 0 0 0,.osl 0 0 0 0 0,.osl 0 0 0 0 0,.osl 0 0 0 0 0]]⟩:=by rw[aXP _ (by omega) (by omega),aA.aC (by omega)];exact q2
  have tq3:aZJ (nx+13)=some ⟨3,1,[cU c]⟩:=by rw[aXP _ (by omega) (by omega),aA.aC (by omega)];exact q3
  have tq4:aZJ (nx+14)=some ⟨6,1,[eSt s]⟩:=by rw[aXP _ (by omega) (by omega),aA.aC (by omega)];exact q4
  have tq5:aZJ be=some ⟨3,me,es.map eEv⟩:=by rw[aXP _ (by omega) (by omega),aA.aC (by omega)];exact q5
  have tqf: ∀id,id<nx→aZJ id=H id:=fun id hid=>by rw[aXP _ (by omega) (by omega),aA.aC (by omega)];exact qf id hid
  have hA5:bQ nx5 [nx,nx+1,nx+13,nx+14,be]:=AM.apart (by simp;omega) (by simp;omega)
  simp only[bQ,eZ] at hA5
  (try simp only[go_sem,Nat.add_assoc,Nat.left_eq_add,Nat.add_eq_left,tq1,tq2,tq3,tq4,hA5]);repeat' (first| (with_reducible first| (refine hK _ _ _ ?_;clear hK K)|refine Z1 ?_)| (with_reducible refine Y2 fun K hK=> ?_)<;>(simp only[go_sem,Nat.add_assoc,Nat.left_eq_add,Nat.add_eq_left,tq1,tq2,tq3,tq4,hA5])| ((with_reducible refine Y8 ?_);try simp only[AQ.then,AQ.blk,reduceIte,Nat.reduceEqDiff])|fail)
  have hh:=fun H'=>h (without (fun j=>j=be) H') (nx5+6) c' s' es (by omega) w2 w3 (by omega)
  exact hQ _ _ _ _ _ (.inr rfl) (aUK (m1:=1) (m2:=1) (cs1:=cU c') (cs2:=eSt s') rfl (by simp only[aA.set,aA.del,Nat.add_assoc,Nat.reduceAdd,Nat.add_left_cancel_iff,Nat.reduceEqDiff,Nat.left_eq_add,Nat.add_eq_left,if_true,if_false,hA5];done) rfl rfl (by simp only[aA.set,aA.del,Nat.add_assoc,Nat.reduceAdd,Nat.add_left_cancel_iff,Nat.reduceEqDiff,Nat.left_eq_add,Nat.add_eq_left,if_true,if_false,hA5];done) rfl rfl) ⟨_,_,fun j=>j=be,aUJ (ayY (GW fun x hx=>List.all_eq_true.1 (azD c').2 x hx)) (ayY (GW fun x hx=>List.all_eq_true.1 (azX s').2 x hx)) (azN (bW (m:=me) aq2 (by simp only[aA.set,aA.del,Nat.add_assoc,Nat.reduceAdd,Nat.add_left_cancel_iff,Nat.reduceEqDiff,Nat.left_eq_add,Nat.add_eq_left,if_true,if_false,hA5,tq5];done) rfl e1 rfl)),kS,hh _ fun id hid=>by rw[iI (by omega),aA.aC (by omega),aA.aC (by omega),aA.aC (by omega),aA.aC (by omega)];exact tqf id hid⟩
 ·have hh:=fun H'=>h (without (fun j=>j=be) H') (nx4+8) c s es (by omega) v2 aXN (by omega)
  exact hQ _ _ _ _ _ (.inr rfl) (aUK (m1:=1) (m2:=1) (cs1:=cU c) (cs2:=eSt s) rfl (by simp only[aA.set,aA.del,Nat.add_assoc,Nat.reduceAdd,Nat.add_left_cancel_iff,Nat.reduceEqDiff,Nat.left_eq_add,Nat.add_eq_left,if_true,if_false,hA];done) rfl rfl (by simp only[aA.set,aA.del,Nat.add_assoc,Nat.reduceAdd,Nat.add_left_cancel_iff,Nat.reduceEqDiff,Nat.left_eq_add,Nat.add_eq_left,if_true,if_false,hA];done) rfl rfl) ⟨_,_,fun j=>j=be,aUJ (ayY (GW fun x hx=>List.all_eq_true.1 (azD c).2 x hx)) (ayY (GW fun x hx=>List.all_eq_true.1 (azX s).2 x hx)) (azN (bW (m:=me) aq2 (by simp only[aA.set,aA.del,Nat.add_assoc,Nat.reduceAdd,Nat.add_left_cancel_iff,Nat.reduceEqDiff,Nat.left_eq_add,Nat.add_eq_left,if_true,if_false,hA,q5];done) rfl e1 rfl)),kS,hh _ fun id hid=>by rw[iI (by omega),aA.aC (by omega),aA.aC (by omega),aA.aC (by omega)];exact qf id hid⟩
end
end Go.Proofs.YtegiblhkjfiooaaGreat
end
section
namespace Go.Proofs.YtegiblhkjfiooaaGreat
open Go Go.AM
set_option maxRecDepth 100000
def av4:AC:=
 (.seq (.region [rq 0 2 (.box true (.tm 0)),
 rq 1 3 (.box true (.tm 1)),
 rq 2 4 (.move (.kv (.bool false)))] 3 [2,3])
 (.seq (.region [RF 0 5 0 2,
 rq 1 6 (.load 2 true (.tm 5)),
 RF 2 7 0 3,
 rq 3 8 (.load 2 true (.tm 7)),
 rq 4 9 (.call wK [(.tm 6),(.tm 8)]),
 RM 5 10 9,
 GQ 6 11 (.fld 2 (.tm 2)) 10 true,
 GQ 7 12 (.load 1 false (.tm 11)) 10 true,
 GQ 8 13 (.fld 2 (.tm 3)) 10 true,
 GQ 9 14 (.load 1 false (.tm 13)) 10 true,
 GQ 10 15 (.call jM [(.tm 12),(.tm 14)]) 10 true,
 rq 11 16 (.pick (.tm 10) (.tm 15) (.kv (.bool false))),
 RM 12 17 16,
 GQ 13 18 (.fld 3 (.tm 2)) 17 true,
 GQ 14 19 (.load 1 false (.tm 18)) 17 true,
 GQ 15 20 (.fld 3 (.tm 3)) 17 true,
 GQ 16 21 (.load 1 false (.tm 20)) 17 true,
 GQ 17 22 (.call jN [(.tm 19),(.tm 21)]) 17 true,
 rq 18 23 (.pick (.tm 17) (.tm 22) (.kv (.bool false))),
 RM 19 24 23,
 GQ 20 25 (.fld 4 (.tm 2)) 24 true,
 GQ 21 26 (.load 1 false (.tm 25)) 24 true,
 GQ 22 27 (.fld 4 (.tm 3)) 24 true,
 GQ 23 28 (.load 1 false (.tm 27)) 24 true,
 GQ 24 29 (.call jN [(.tm 26),(.tm 28)]) 24 true,
 rq 25 30 (.pick (.tm 24) (.tm 29) (.kv (.bool false))),
 RM 26 31 30,
 GQ 27 32 (.fld 5 (.tm 2)) 31 true,
 GQ 28 33 (.load 1 false (.tm 32)) 31 true,
 GQ 29 34 (.fld 5 (.tm 3)) 31 true,
 GQ 30 35 (.load 1 false (.tm 34)) 31 true,
 GQ 31 36 (.call jN [(.tm 33),(.tm 35)]) 31 true,
 rq 32 37 (.pick (.tm 31) (.tm 36) (.kv (.bool false))),
 RM 33 4 37] 34 [4])
 .ret))
def ayQ:List Cert:=[⟨[],[2,3]⟩,⟨[],[4]⟩]
def aw2:List aW:=[.tm 4]
theorem ayU:aO Tryz.prog Tryz.f38 ayQ=some (av4,aw2):=by kernel_rfl
theorem ayR:aN Tryz.prog au9 Tryz.f38 av4 aw2:=
 aN.mk Tryz.func38 (by kernel_rfl) ayU
end Go.Proofs.YtegiblhkjfiooaaGreat
end
section
namespace Go.Proofs.YtegiblhkjfiooaaGreat
open Go Go.AM
set_option maxRecDepth 100000
def xO:AC:=
 (.seq (.region [rq 0 4 (.move (.kv (.bool false)))] 1 [0,1])
 (.seq (.seq (.region [RM 0 6 0,
 rq 1 7 (.len false (.tm 6)),
 RM 2 8 1,
 rq 3 9 (.len false (.tm 8)),
 rq 4 10 (.bin .neq (.tm 7) (.tm 9))] 5 [0,1,10])
 (.cond (.tm 10)
 (.seq (.region [rq 0 4 (.move (.kv (.bool false)))] 1 [4])
 .ret)
 .skip))
 (.seq (.seq (.region [rq 0 5 (.move (ki 0))] 1 [0,1,5])
 (.block 0
 (.loop
 (.seq (.seq (.region [RM 0 11 5,
 RM 1 12 0,
 rq 2 13 (.len false (.tm 12)),
 rq 3 14 (.bin .lss (.tm 11) (.tm 13))] 4 [0,1,5,14])
 (.cond (.tm 14)
 .skip
 (.exit 0)))
 (.seq (.block 1
 (.seq (.region [RM 0 17 0,
 RM 1 18 5,
 rq 2 19 (.idx 1 (.tm 17) (.tm 18)),
 RL 3 20 19,
 RM 4 21 1,
 RM 5 22 5,
 rq 6 23 (.idx 1 (.tm 21) (.tm 22)),
 RL 7 24 23,
 rq 8 25 (.bin .neq (.tm 20) (.tm 24))] 9 [0,1,5,25])
 (.cond (.tm 25)
 (.seq (.region [rq 0 4 (.move (.kv (.bool false)))] 1 [4])
 .ret)
 .skip)))
 (.region [RM 0 15 5,
 rq 1 16 (.bin .add (.tm 15) (ki 1)),
 RM 2 5 16] 3 [0,1,5]))))))
 (.seq (.region [rq 0 4 (.move (.kv (.bool true)))] 1 [4])
 .ret))))
def P9:List Cert:=[⟨[],[0,1]⟩,⟨[],[0,1,10]⟩,⟨[],[4]⟩,⟨[],[0,1,5]⟩,⟨[],[0,1,5,14]⟩,⟨[cz 0,cz 1,cz 2,cz 3,cz 4,cz 5,cz 6,cz 7,cz 8],[0,1,5,25]⟩,⟨[],[4]⟩,⟨[],[0,1,5]⟩,⟨[],[4]⟩]
def GS:List aW:=[.tm 4]
theorem P1:aO Tryz.prog Tryz.f19 P9=some (xO,GS):=by kernel_rfl
theorem SU:aN Tryz.prog jM Tryz.f19 xO GS:=
 aN.mk Tryz.func19 (by kernel_rfl) P1
end Go.Proofs.YtegiblhkjfiooaaGreat
end
section
namespace Go.Proofs.YtegiblhkjfiooaaGreat
open Go Go.AM
set_option maxRecDepth 100000
def AT:AC:=
 (.seq (.region [rq 0 2 (.box true (.tm 0)),
 rq 1 3 (.box true (.tm 1)),
 rq 2 4 (.move (.kv (.bool false)))] 3 [2,3])
 (.seq (.region [RF 0 5 0 2,
 RL 1 6 5,
 RF 2 7 0 3,
 RL 3 8 7,
 rq 4 9 (.bin .eql (.tm 6) (.tm 8)),
 RM 5 10 9,
 GQ 6 11 (.fld 1 (.tm 2)) 10 true,
 GQ 7 12 (.load 1 false (.tm 11)) 10 true,
 GQ 8 13 (.fld 1 (.tm 3)) 10 true,
 GQ 9 14 (.load 1 false (.tm 13)) 10 true,
 GQ 10 15 (.bin .eql (.tm 12) (.tm 14)) 10 true,
 rq 11 16 (.pick (.tm 10) (.tm 15) (.kv (.bool false))),
 RM 12 17 16,
 GQ 13 18 (.fld 2 (.tm 2)) 17 true,
 GQ 14 19 (.load 1 false (.tm 18)) 17 true,
 GQ 15 20 (.fld 2 (.tm 3)) 17 true,
 GQ 16 21 (.load 1 false (.tm 20)) 17 true,
 GQ 17 22 (.call jM [(.tm 19),(.tm 21)]) 17 true,
 rq 18 23 (.pick (.tm 17) (.tm 22) (.kv (.bool false))),
 RM 19 4 23] 20 [4])
 .ret))
def T1:List Cert:=[⟨[],[2,3]⟩,⟨[],[4]⟩]
def II:List aW:=[.tm 4]
theorem U0:aO Tryz.prog Tryz.f84 T1=some (AT,II):=by kernel_rfl
theorem UL:aN Tryz.prog qO Tryz.f84 AT II:=
 aN.mk Tryz.func84 (by kernel_rfl) U0
end Go.Proofs.YtegiblhkjfiooaaGreat
end
section
namespace Go.Proofs.YtegiblhkjfiooaaGreat
open Go Go.AM
set_option maxRecDepth 100000
def xT:AC:=
 (.seq (.region [rq 0 4 (.move (.kv (.bool false)))] 1 [0,1])
 (.seq (.seq (.region [RM 0 6 0,
 rq 1 7 (.len false (.tm 6)),
 RM 2 8 1,
 rq 3 9 (.len false (.tm 8)),
 rq 4 10 (.bin .neq (.tm 7) (.tm 9))] 5 [0,1,10])
 (.cond (.tm 10)
 (.seq (.region [rq 0 4 (.move (.kv (.bool false)))] 1 [4])
 .ret)
 .skip))
 (.seq (.seq (.region [rq 0 5 (.move (ki 0))] 1 [0,1,5])
 (.block 0
 (.loop
 (.seq (.seq (.region [RM 0 11 5,
 RM 1 12 0,
 rq 2 13 (.len false (.tm 12)),
 rq 3 14 (.bin .lss (.tm 11) (.tm 13))] 4 [0,1,5,14])
 (.cond (.tm 14)
 .skip
 (.exit 0)))
 (.seq (.block 1
 (.seq (.region [RM 0 17 0,
 RM 1 18 5,
 rq 2 19 (.idx 5 (.tm 17) (.tm 18)),
 RF 3 20 0 19,
 RL 4 21 20,
 RM 5 22 1,
 RM 6 23 5,
 rq 7 24 (.idx 5 (.tm 22) (.tm 23)),
 RF 8 25 0 24,
 RL 9 26 25,
 rq 10 27 (.bin .neq (.tm 21) (.tm 26)),
 RM 11 28 27,
 GQ 12 29 (.move (.tm 0)) 28 false,
 GQ 13 30 (.move (.tm 5)) 28 false,
 GQ 14 31 (.idx 5 (.tm 29) (.tm 30)) 28 false,
 GQ 15 32 (.fld 1 (.tm 31)) 28 false,
 GQ 16 33 (.load 1 false (.tm 32)) 28 false,
 GQ 17 34 (.move (.tm 1)) 28 false,
 GQ 18 35 (.move (.tm 5)) 28 false,
 GQ 19 36 (.idx 5 (.tm 34) (.tm 35)) 28 false,
 GQ 20 37 (.fld 1 (.tm 36)) 28 false,
 GQ 21 38 (.load 1 false (.tm 37)) 28 false,
 GQ 22 39 (.bin .neq (.tm 33) (.tm 38)) 28 false,
 rq 23 40 (.pick (.tm 28) (.kv (.bool true)) (.tm 39)),
 RM 24 41 40,
 GQ 25 42 (.move (.tm 0)) 41 false,
 GQ 26 43 (.move (.tm 5)) 41 false,
 GQ 27 44 (.idx 5 (.tm 42) (.tm 43)) 41 false,
 GQ 28 45 (.fld 2 (.tm 44)) 41 false,
 GQ 29 46 (.load 3 true (.tm 45)) 41 false,
 GQ 30 47 (.move (.tm 1)) 41 false,
 GQ 31 48 (.move (.tm 5)) 41 false,
 GQ 32 49 (.idx 5 (.tm 47) (.tm 48)) 41 false,
 GQ 33 50 (.fld 2 (.tm 49)) 41 false,
 GQ 34 51 (.load 3 true (.tm 50)) 41 false,
 GQ 35 52 (.call qO [(.tm 46),(.tm 51)]) 41 false,
 GQ 36 53 (.un .not (.tm 52)) 41 false,
 rq 37 54 (.pick (.tm 41) (.kv (.bool true)) (.tm 53))] 38 [0,1,5,54])
 (.cond (.tm 54)
 (.seq (.region [rq 0 4 (.move (.kv (.bool false)))] 1 [4])
 .ret)
 .skip)))
 (.region [RM 0 15 5,
 rq 1 16 (.bin .add (.tm 15) (ki 1)),
 RM 2 5 16] 3 [0,1,5]))))))
 (.seq (.region [rq 0 4 (.move (.kv (.bool true)))] 1 [4])
 .ret))))
def R3:List Cert:=[⟨[],[0,1]⟩,⟨[],[0,1,10]⟩,⟨[],[4]⟩,⟨[],[0,1,5]⟩,⟨[],[0,1,5,14]⟩,⟨[cz 0,cz 1,cz 2,cz 3,cz 4,cz 5,cz 6,cz 7,cz 8,cz 9,cz 10,cz 11,cz 12,cz 13,cz 14,cz 15,cz 16,cz 17,cz 18,cz 19,cz 20,cz 21,cz 22,cz 23,cz 24,cz 25,cz 26,cz 27,cz 28,cz 29,cz 30,cz 31,cz 32,cz 33,cz 34,cz 35,cz 36,cz 37],[0,1,5,54]⟩,⟨[],[4]⟩,⟨[],[0,1,5]⟩,⟨[],[4]⟩]
def FA:List aW:=[.tm 4]
theorem RZ:aO Tryz.prog Tryz.f35 R3=some (xT,FA):=by kernel_rfl
theorem RW:aN Tryz.prog jN Tryz.f35 xT FA:=
 aN.mk Tryz.func35 (by kernel_rfl) RZ
end Go.Proofs.YtegiblhkjfiooaaGreat
end
section
namespace Go.Proofs.YtegiblhkjfiooaaGreat
open Go Go.AM
set_option maxRecDepth 100000
end Go.Proofs.YtegiblhkjfiooaaGreat
end
section
namespace Go.Proofs.YtegiblhkjfiooaaGreat
open Go Go.AM
set_option maxRecDepth 100000
def zY:AC:=
 (.seq (.region [rq 0 2 (.box true (.tm 0)),
 rq 1 3 (.box true (.tm 1)),
 rq 2 4 (.move (.kv (.bool false)))] 3 [2,3])
 (.seq (.region [RF 0 5 0 2,
 RF 1 6 0 5,
 RL 2 7 6,
 RF 3 8 0 3,
 RF 4 9 0 8,
 RL 5 10 9,
 rq 6 11 (.call jM [(.tm 7),(.tm 10)]),
 RM 7 12 11,
 GQ 8 13 (.fld 1 (.tm 2)) 12 true,
 GQ 9 14 (.load 1 false (.tm 13)) 12 true,
 GQ 10 15 (.fld 1 (.tm 3)) 12 true,
 GQ 11 16 (.load 1 false (.tm 15)) 12 true,
 GQ 12 17 (.call jM [(.tm 14),(.tm 16)]) 12 true,
 rq 13 18 (.pick (.tm 12) (.tm 17) (.kv (.bool false))),
 RM 14 4 18] 15 [4])
 .ret))
def UG:List Cert:=[⟨[],[2,3]⟩,⟨[],[4]⟩]
def I2:List aW:=[.tm 4]
theorem UP:aO Tryz.prog Tryz.f41 UG=some (zY,I2):=by kernel_rfl
theorem UZ:aN Tryz.prog wK Tryz.f41 zY I2:=
 aN.mk Tryz.func41 (by kernel_rfl) UP
end Go.Proofs.YtegiblhkjfiooaaGreat
end
section
namespace Go.Proofs.YtegiblhkjfiooaaGreat
open Go Go.AM
set_option maxRecDepth 100000
set_option maxHeartbeats 8000000
section
variable {H : aA} {nx : Nat} {K : D → aA → Nat → Prop}
theorem yO {α:Type} [Inhabited α] {a b:List α} (hl:a.length=b.length) (h: ∀i,i<a.length→a.getD i default=b.getD i default):a=b:=by
 refine List.ext_getElem hl fun i h1 h2=> ?_
 have:=h i h1
 simpa [List.getD,h1,h2] using this
theorem VC (a b:List Int) (ha:a.length<2^40) (hb:b.length<2^40):aB Tryz.prog jM [dS (a.map aJ),dS (b.map aJ)] .nil 0 fun rr _ _=>rr.plain=true∧rr=dB (decide (a=b)):=by
 refine SU rfl fun Q hQ=> ?_
 unfold xO
 by_cases hl:a.length=b.length
 ·repeat' (first| (with_reducible first| (refine hK _ _ _ ?_;clear hK K)| (refine hB ?_;clear hA hB A B)|refine Z1 ?_|refine Z2 ?_|refine Z3 fun KB hKB=> ?_|refine Z5 (by omega) ?_)| (with_reducible first|refine Y2 fun K hK=> ?_|refine Y3 fun A B hA hB=> ?_)<;>(simp only[go_sem])|fail)
  (have hKX:=hKB;clear hKB);(refine aM.loop (α:={k:Nat//k≤a.length∧(∀i,i<k→a.getD i default=b.getD i default)}) (fun u=>en [(5,dI u.1),(1,dS (b.map aJ)),(0,dS (a.map aJ))]) (fun _=>.nil) _ (fun u=>a.length-u.1) ⟨0,by omega,(by intros;first|trivial|omega)⟩ (bU (Nat.le_refl _) (by repeat' (first| (with_reducible first|exact C1|refine C2 ?_ ?_)| ((with_reducible refine D0 ?_);exact CA rfl)|fail))) ?_);(rintro⟨k,hk,hinv⟩ KL hKL)
  by_cases hlt:k<a.length
  ·repeat' (first| (with_reducible first| (refine hK _ _ _ ?_;clear hK K)| (refine hA ?_;clear hA hB A B)| (refine hB ?_;clear hA hB A B)|refine Z1 ?_|refine Z2 ?_|refine Z3 fun KB hKB=> ?_|refine Z4 (by omega) ?_|refine Z6 (fun h=> ?_) fun h=> ?_)| (with_reducible first|refine Y2 fun K hK=> ?_|refine Y3 fun A B hA hB=> ?_)<;>(simp only[go_sem];try simp (disch:=omega) only[Iw])| ((with_reducible refine Y8 ?_);try simp only[AQ.then,AQ.blk,reduceIte,Nat.reduceEqDiff])| ((with_reducible refine Y0 ?_);simp only[AQ.then,AQ.blk])|refine⟨by omega,?_⟩| (with_reducible refine hKB _ _ _ ?_)|fail)
   ·refine aZ hQ _ rfl rfl (j7 ?_)
    intro he;subst he;simp_all
   · (refine hKL _ _ _ ⟨k+1,by omega,iS hinv (by omega)⟩ (by omega) (by(try dsimp only);omega) (bU (Nat.le_refl _) (by repeat' (first| (with_reducible first|exact C1|refine C2 ?_ ?_)| ((with_reducible refine D0 ?_);exact CA rfl)|fail))))
  ·repeat' (first| (with_reducible first| (refine hK _ _ _ ?_;clear hK K)| (refine hB ?_;clear hA hB A B)|refine Z1 ?_|refine Z5 (by omega) ?_|refine hKX _ _ _ ?_)| (with_reducible first|refine Y2 fun K hK=> ?_|refine Y3 fun A B hA hB=> ?_)<;>(simp only[go_sem])| ((with_reducible first|refine Y8 ?_|refine Y9 ?_);try simp only[AQ.then,AQ.blk,reduceIte,Nat.reduceEqDiff])|fail)
   refine aZ hQ _ rfl rfl (q9 (yO hl fun i hi=>hinv i (by omega)))
 ·repeat' (first| (with_reducible first| (refine hK _ _ _ ?_;clear hK K)| (refine hA ?_;clear hA hB A B)|refine Z1 ?_|refine Z4 (by omega) ?_)| (with_reducible first|refine Y2 fun K hK=> ?_|refine Y3 fun A B hA hB=> ?_)<;>(simp only[go_sem])| ((with_reducible refine Y8 ?_);try simp only[AQ.then,AQ.blk,reduceIte,Nat.reduceEqDiff])|fail)
  refine aZ hQ _ rfl rfl (j7 fun he=>hl (by rw[he]))
theorem tP {a:List Int} {b:List Int} (ha:a.length<2^40) (hb:b.length<2^40) (h:K (dB (decide (a=b))) H nx):aB Tryz.prog jM [dS (a.map aJ),dS (b.map aJ)] H nx K:=
 (VC a b ha hb).pure rfl (aI ⟨aE rfl,aE rfl,trivial⟩) (fun r hr=>hr▸h)
theorem YL (a b:Rsp) (ha:a.data.length<2^40) (hb:b.data.length<2^40):aB Tryz.prog qO [dA (tG a),dA (tG b)] .nil 0 fun rr _ _=>rr.plain=true∧rr=dB (decide (a=b)):=by
 refine UL rfl fun Q hQ=> ?_
 unfold AT
 repeat' (first| (with_reducible first| (refine hK _ _ _ ?_;clear hK K)|refine Z1 ?_)| (first| (with_reducible first|refine Y2 fun K hK=> ?_|refine Y6 (fun h=> ?_) fun h=> ?_)| (with_reducible refine tP ha hb ?_))<;>(simp only[go_sem])| ((with_reducible refine Y8 ?_);try simp only[AQ.then,AQ.blk,reduceIte,Nat.reduceEqDiff])|fail)
 all_goals first|with_reducible refine aZ hQ _ rfl rfl ?_|skip
 all_goals (obtain⟨az9,az2,aAD⟩:=a;obtain⟨b1,b2,b3⟩:=b;dsimp only at*;first|exact q9 (by simp_all)|exact j7 (by simp_all)|exact pD (by simp_all))
theorem W9 {a:Rsp} {b:Rsp} (ha:a.data.length<2^40) (hb:b.data.length<2^40) (h:K (dB (decide (a=b))) H nx):aB Tryz.prog qO [dA (tG a),dA (tG b)] H nx K:=
 (YL a b ha hb).pure rfl (aI ⟨aE rfl,aE rfl,trivial⟩) (fun r hr=>hr▸h)
theorem VN {a b:Rsp} (ha:a.data.length<2^40) (hb:b.data.length<2^40) (h:K (dB (decide (a=b))) H nx):aB Tryz.prog qO [.one (.agg [cI a.id,cI a.code,.isl (a.data.map aJ)]),.one (.agg [cI b.id,cI b.code,.isl (b.data.map aJ)])] H nx K:=W9 ha hb h
attribute [-go_sem] agE ai7
theorem TJ (a b:List Job) (ha:a.length<2^40) (hb:b.length<2^40) (hda: ∀j∈a,j.rsp.data.length<2^40) (hdb: ∀j∈b,j.rsp.data.length<2^40):aB Tryz.prog jN [dS (a.map aS),dS (b.map aS)] .nil 0 fun rr _ _=>rr.plain=true∧rr=dB (decide (a=b)):=by
 refine RW rfl fun Q hQ=> ?_
 unfold xT
 by_cases hl:a.length=b.length
 ·repeat' (first| (with_reducible first| (refine hK _ _ _ ?_;clear hK K)| (refine hB ?_;clear hA hB A B)|refine Z1 ?_|refine Z2 ?_|refine Z3 fun KB hKB=> ?_|refine Z5 (by omega) ?_)| (with_reducible first|refine Y2 fun K hK=> ?_|refine Y3 fun A B hA hB=> ?_)<;>(simp only[go_sem])|fail)
  (have hKX:=hKB;clear hKB);(refine aM.loop (α:={k:Nat//k≤a.length∧(∀i,i<k→a.getD i default=b.getD i default)}) (fun u=>en [(5,dI u.1),(1,dS (b.map aS)),(0,dS (a.map aS))]) (fun _=>.nil) _ (fun u=>a.length-u.1) ⟨0,by omega,(by intros;first|trivial|omega)⟩ (bU (Nat.le_refl _) (by repeat' (first| (with_reducible first|exact C1|refine C2 ?_ ?_)| ((with_reducible refine D0 ?_);exact CA rfl)|fail))) ?_);(rintro⟨k,hk,hinv⟩ KL hKL)
  by_cases hlt:k<a.length
  ·have d1:=hda _ (cC (l:=a) (k:=k) hlt)
   have d2:=hdb _ (cC (l:=b) (k:=k) (by omega))
   have hne: ¬a.getD k default=b.getD k default→¬a=b:=fun h1 h2=>h1 (by rw[h2])
   have heq:(a.getD k default).who=(b.getD k default).who→(a.getD k default).n=(b.getD k default).n→(a.getD k default).rsp=(b.getD k default).rsp→a.getD k default=b.getD k default:=by
    generalize a.getD k default=x
    generalize b.getD k default=y
    obtain⟨x1,x2,aYM⟩:=x;obtain⟨y1,aHC,aHD⟩:=y
    dsimp only;intro h1 h2 h3;subst h1;subst h2;subst h3;rfl
   repeat' (first| (with_reducible first| (refine hK _ _ _ ?_;clear hK K)| (refine hA ?_;clear hA hB A B)| (refine hB ?_;clear hA hB A B)|refine Z1 ?_|refine Z2 ?_|refine Z3 fun KB hKB=> ?_|refine Z4 (by omega) ?_|refine Z6 (fun h=> ?_) fun h=> ?_)| (first| (with_reducible first|refine Y2 fun K hK=> ?_|refine Y3 fun A B hA hB=> ?_|refine Y6 (fun h=> ?_) fun h=> ?_)| (with_reducible refine VN (a:=(a.getD k default).rsp) (b:=(b.getD k default).rsp) d1 d2 ?_))<;>(simp only[go_sem];try simp (disch:=omega) only[Iw])| ((with_reducible refine Y8 ?_);try simp only[AQ.then,AQ.blk,reduceIte,Nat.reduceEqDiff])| ((with_reducible refine Y0 ?_);simp only[AQ.then,AQ.blk])|refine⟨by omega,?_⟩| (with_reducible refine hKB _ _ _ ?_)|fail)
   ·refine aZ hQ _ rfl rfl (j7 (hne fun he=>absurd (congrArg Job.who he) (by assumption)))
   ·refine aZ hQ _ rfl rfl (j7 (hne fun he=>absurd (congrArg Job.n he) (by assumption)))
   ·refine aZ hQ _ rfl rfl (j7 (hne fun he=>absurd (congrArg Job.rsp he) (by assumption)))
   · (refine hKL _ _ _ ⟨k+1,by omega,iS hinv (heq (by omega) (by omega) (Classical.not_not.1 (by assumption)))⟩ (by omega) (by(try dsimp only);omega) (bU (Nat.le_refl _) (by repeat' (first| (with_reducible first|exact C1|refine C2 ?_ ?_)| ((with_reducible refine D0 ?_);exact CA rfl)|fail))))
  ·repeat' (first| (with_reducible first| (refine hK _ _ _ ?_;clear hK K)| (refine hB ?_;clear hA hB A B)|refine Z1 ?_|refine Z5 (by omega) ?_|refine hKX _ _ _ ?_)| (with_reducible first|refine Y2 fun K hK=> ?_|refine Y3 fun A B hA hB=> ?_)<;>(simp only[go_sem])| ((with_reducible first|refine Y8 ?_|refine Y9 ?_);try simp only[AQ.then,AQ.blk,reduceIte,Nat.reduceEqDiff])|fail)
   refine aZ hQ _ rfl rfl (q9 (yO hl fun i hi=>hinv i (by omega)))
 ·repeat' (first| (with_reducible first| (refine hK _ _ _ ?_;clear hK K)| (refine hA ?_;clear hA hB A B)|refine Z1 ?_|refine Z4 (by omega) ?_)| (with_reducible first|refine Y2 fun K hK=> ?_|refine Y3 fun A B hA hB=> ?_)<;>(simp only[go_sem])| ((with_reducible refine Y8 ?_);try simp only[AQ.then,AQ.blk,reduceIte,Nat.reduceEqDiff])|fail)
  refine aZ hQ _ rfl rfl (j7 fun he=>hl (by rw[he]))
theorem AL {a:List Job} {b:List Job} (ha:a.length<2^40) (hb:b.length<2^40) (hda: ∀j∈a,j.rsp.data.length<2^40) (hdb: ∀j∈b,j.rsp.data.length<2^40) (h:K (dB (decide (a=b))) H nx):aB Tryz.prog jN [dS (a.map aS),dS (b.map aS)] H nx K:=
 (TJ a b ha hb hda hdb).pure rfl (aI ⟨aE rfl,aE rfl,trivial⟩) (fun r hr=>hr▸h)
theorem XD (a b u v:List Int) (ha:a.length<2^40) (hb:b.length<2^40) (hu:u.length<2^40) (hv:v.length<2^40):aB Tryz.prog wK [.one (.agg [.isl (a.map aJ),.isl (b.map aJ)]),.one (.agg [.isl (u.map aJ),.isl (v.map aJ)])] .nil 0 fun rr _ _=>rr.plain=true∧rr=dB (decide (a=u∧b=v)):=by
 refine UZ rfl fun Q hQ=> ?_
 unfold zY
 repeat' (first| (with_reducible first| (refine hK _ _ _ ?_;clear hK K)|refine Z1 ?_)| (first| (with_reducible first|refine Y2 fun K hK=> ?_|refine Y6 (fun h=> ?_) fun h=> ?_)| (with_reducible refine tP ha hu ?_)| (with_reducible refine tP hb hv ?_))<;>(simp only[go_sem])| ((with_reducible refine Y8 ?_);try simp only[AQ.then,AQ.blk,reduceIte,Nat.reduceEqDiff])|fail)
 all_goals first|with_reducible refine aZ hQ _ rfl rfl ?_|skip
 all_goals first|exact q9 (by simp_all)|exact j7 (by simp_all)|exact pD (by simp_all)
theorem YN {a:List Int} {b:List Int} {u:List Int} {v:List Int} (ha:a.length<2^40) (hb:b.length<2^40) (hu:u.length<2^40) (hv:v.length<2^40) (h:K (dB (decide (a=u∧b=v))) H nx):aB Tryz.prog wK [.one (.agg [.isl (a.map aJ),.isl (b.map aJ)]),.one (.agg [.isl (u.map aJ),.isl (v.map aJ)])] H nx K:=
 (XD a b u v ha hb hu hv).pure rfl (aI ⟨aE rfl,aE rfl,trivial⟩) (fun r hr=>hr▸h)
end
end Go.Proofs.YtegiblhkjfiooaaGreat
end
section
namespace Go.Proofs.YtegiblhkjfiooaaGreat
open Go Go.AM
set_option maxRecDepth 100000
set_option maxHeartbeats 8000000
section
variable {H : aA} {nx : Nat} {K : D → aA → Nat → Prop}
theorem ayX (s:TSt) (hw:s.words.length<2^40) (hh:s.holds.length<2^40) (ha:s.asked.length<2^40) (h1:s.wait.length<2^40) (h2:s.done.length<2^40) (h3:s.told.length<2^40) (hd: ∀j∈s.wait++s.done++s.told,j.rsp.data.length<2^40):aB Tryz.prog au9 [dA (eSt s),dA (eSt s)] .nil 0 fun rr _ _=>rr.plain=true∧rr=dB true:=by
 refine ayR rfl fun Q hQ=> ?_
 unfold av4
 have hd1:=fun j (hj:j∈s.wait)=>hd j (by simp[hj])
 have hd2:=fun j (hj:j∈s.done)=>hd j (by simp[hj])
 have hd3:=fun j (hj:j∈s.told)=>hd j (by simp[hj])
 repeat' (first| (with_reducible first| (refine hK _ _ _ ?_;clear hK K)|refine Z1 ?_)| (first| (with_reducible refine Y2 fun K hK=> ?_)| (refine YN (a:=s.words) (b:=s.holds) (u:=s.words) (v:=s.holds) hw hh hw hh ?_)| (refine tP ha ha ?_)| (refine AL h1 h1 hd1 hd1 ?_)| (refine AL h2 h2 hd2 hd2 ?_)| (refine AL h3 h3 hd3 hd3 ?_))<;>(simp only[go_sem])| ((with_reducible refine Y8 ?_);try simp only[AQ.then,AQ.blk,reduceIte,Nat.reduceEqDiff])|fail)
 all_goals exact aZ hQ _ rfl rfl rfl
theorem ayZ {s:TSt} (hw:s.words.length<2^40) (hh:s.holds.length<2^40) (ha:s.asked.length<2^40) (h1:s.wait.length<2^40) (h2:s.done.length<2^40) (h3:s.told.length<2^40) (hd: ∀j∈s.wait++s.done++s.told,j.rsp.data.length<2^40) (h:K (dB true) H nx):aB Tryz.prog au9 [dA (eSt s),dA (eSt s)] H nx K:=
 (ayX s hw hh ha h1 h2 h3 hd).pure rfl (aI ⟨aE rfl,aE rfl,trivial⟩) (fun r hr=>hr▸h)
end
end Go.Proofs.YtegiblhkjfiooaaGreat
end
section
namespace Go.Proofs.YtegiblhkjfiooaaGreat
open Go Go.AM
set_option maxRecDepth 100000
set_option maxHeartbeats 8000000
section
variable {H : aA} {nx : Nat} {K : D → aA → Nat → Prop}
theorem aa9:aB Tryz.prog E2 [] .nil 0 fun rr _ _=>rr.plain=true∧rr=dB true:=by
 refine XX rfl fun Q hQ=> ?_
 unfold CP
 repeat' (first| (with_reducible first| (refine hK _ _ _ ?_;clear hK K)|refine Z1 ?_)| (first| (with_reducible refine Y2 fun K hK=> ?_)| (with_reducible refine wS ?_))<;>(simp only[go_sem])| ((with_reducible refine Y8 ?_);try simp only[AQ.then,AQ.blk,reduceIte,Nat.reduceEqDiff])|fail)
 all_goals first|with_reducible refine aZ hQ _ rfl rfl ?_|skip
 all_goals exact(q9 (by decide)).symm
theorem apY (h:K (dB true) H nx):aB Tryz.prog E2 [] H nx K:=
 (aa9).pure rfl (aI trivial) (fun r hr=>hr▸h)
theorem aYX {s:TSt} (hf:aTQ s) (h:K (dB true) H nx):aB Tryz.prog au9 [dA (eSt s),dA (eSt s)] H nx K:=by
 obtain⟨h1,h2,h3,h4,h5,h6,h7⟩:=hf
 exact ayZ (by omega) (by omega) (by omega) (by omega) (by omega) (by omega) (fun j hj=>by have:=h7 j hj;omega) h
end
theorem aZH:aTQ stN:=⟨by decide,by decide,by decide,by decide,by decide,by decide,fun j hj=>by simp[stN] at hj⟩
theorem aY4:cJ Tryz.prog aYV Tryz.f13 aYR aYU:=cJ.mk Tryz.func13 (by kernel_rfl) aY3
theorem aZG (l:List Int) (hby: ∀x∈l,0≤x∧x<256):aB Tryz.prog aYV [dS (l.map eU8)] .nil 0 fun rr _ _=>rr.plain=true∧rr=dB true:=by
 refine aY4 rfl fun Q hQ=> ?_
 unfold aYR
 by_cases hbig:l.length≤1048576
 case neg=>
  repeat' (first| (with_reducible first| (refine hK _ _ _ ?_;clear hK K)| (refine hA ?_;clear hA hB A B)|refine Z1 ?_|refine Z4 (by omega) ?_)| (with_reducible first|refine Y2 fun K hK=> ?_|refine Y3 fun A B hA hB=> ?_)<;>(simp only[go_sem])| ((with_reducible refine Y8 ?_);try simp only[AQ.then,AQ.blk,reduceIte,Nat.reduceEqDiff])|fail)
  exact hQ _ _ _ _ _ (.inr rfl) rfl ⟨rfl,rfl⟩
 have hl:kZ l:=⟨by omega,hby⟩
 repeat' (first| (with_reducible first| (refine hK _ _ _ ?_;clear hK K)| (refine hB ?_;clear hA hB A B)|refine Z1 ?_|refine Z2 ?_|refine Z5 (by omega) ?_)| (first| (with_reducible first|refine Y2 fun K hK=> ?_|refine Y3 fun A B hA hB=> ?_)| (refine aY1 hl (fun H1 nx1 c s es hx1 hcf hsm hel _=> ?_)))<;>(simp only[go_sem])|fail)
 have hf:=hsm.fit
 generalize hG:aA.set _ 11 _=G
 have g10:G 10=some ⟨3,1,[cU c]⟩:=by rw[←hG];exact(by simp only[aA.set,aA.del,Nat.add_assoc,Nat.reduceAdd,Nat.add_left_cancel_iff,Nat.reduceEqDiff,Nat.left_eq_add,Nat.add_eq_left,if_true,if_false];done)
 have g11:G 11=some ⟨6,1,[eSt s]⟩:=by rw[←hG];exact aA.bH
 clear hG
 have hA1:bQ nx1 [10,11]:=AM.apart (by simp) (by simp;omega)
 simp only[bQ,eZ] at hA1
 by_cases hok:(aQ c∧BA c s)∧es.length≤200
 case neg=>
  (try simp only[go_sem,Nat.add_assoc,Nat.left_eq_add,Nat.add_eq_left,g10,g11,hA1]);repeat' (first| (with_reducible first| (refine hK _ _ _ ?_;clear hK K)| (refine hA ?_;clear hA hB A B)| (refine hB ?_;clear hA hB A B)|refine Z1 ?_|refine Z2 ?_)| (first| (with_reducible first|refine Y2 fun K hK=> ?_|refine Y3 fun A B hA hB=> ?_|refine Y6 (fun h=> ?_) fun h=> ?_)| (refine aY7 hcf hf (by omega) hok ?_)| (refine aY8 hcf hf (by omega) hok ?_)| (refine aYX aZH ?_)| (with_reducible refine apY ?_))<;>(simp only[go_sem,Nat.add_assoc,Nat.left_eq_add,Nat.add_eq_left,g10,g11,hA1])| ((with_reducible refine Y8 ?_);try simp only[AQ.then,AQ.blk,reduceIte,Nat.reduceEqDiff])|fail)
  all_goals first
   |exact hQ _ _ _ _ _ (.inr rfl) rfl ⟨rfl,rfl⟩
   | (exfalso;omega)
   | (exfalso;simp at h;done)
   | (exfalso;exact h rfl)
 obtain⟨⟨hb,hs⟩,hlen⟩:=hok
 (try simp only[go_sem,Nat.add_assoc,Nat.left_eq_add,Nat.add_eq_left,g10,g11,hA1]);repeat' (first| (with_reducible first| (refine hK _ _ _ ?_;clear hK K)|refine Z1 ?_)| (first| (with_reducible refine Y2 fun K hK=> ?_)| (refine aQT hb hcf hs hlen ?_)| (refine aY5 hb hcf hs hlen (fun H2 nx2 hx2 fr2=> ?_)))<;>(simp only[go_sem,Nat.add_assoc,Nat.left_eq_add,Nat.add_eq_left,g10,g11,hA1])|fail)
 have hSok:=fun k (hk:k≤b9 c s es)=>aPL hb hs hk
 have hSw:=fun k (hk:k<b9 c s es)=>aS0 hk
 have hSb:=aN8 (c:=c) (s:=s) (l:=es)
 have hle:=aNZ (c:=c) (s:=s) (l:=es)
 have hS0:runM c s (es.take 0)=s:=rfl
 have hSt:=fun k (hk:k<es.length)=>av6 (c:=c) (s:=s) hk
 obtain⟨S,hS⟩: ∃S:Nat→TSt,S=fun k=>runM c s (es.take k):=⟨_,rfl⟩
 have hSe: ∀k,runM c s (es.take k)=S k:=fun k=>by rw[hS]
 simp only[hSe] at*
 clear hS hSe
 generalize b9 c s es=n at*
 have q10:H2 10=some ⟨3,1,[cU c]⟩:=by rw[fr2 _ (by omega),aA.aC (by omega)];exact g10
 have q11:H2 11=some ⟨6,1,[eSt s]⟩:=by rw[fr2 _ (by omega),aA.aC (by omega)];exact g11
 have q7:H2 (nx1+7)=some ⟨6,1,[eSt (S n)]⟩:=by rw[fr2 _ (by omega)];exact aA.bH
 clear fr2 g10 g11 hA1
 have hA:bQ nx2 [10,11,nx1+7,nx1+17]:=AM.apart (by simp;omega) (by simp;omega)
 simp only[bQ,eZ] at hA
 have hfn:=(hSok n (Nat.le_refl _)).aUG hb
 (try simp only[go_sem,Nat.add_assoc,Nat.left_eq_add,Nat.add_eq_left,q10,q11,q7,hA]);repeat' (first| (with_reducible first| (refine hK _ _ _ ?_;clear hK K)| (refine hB ?_;clear hA hB A B)|refine Z1 ?_|refine Z2 ?_|refine Z3 fun KB hKB=> ?_|refine Z5 (by omega) ?_)| (first| (with_reducible first|refine Y2 fun K hK=> ?_|refine Y3 fun A B hA hB=> ?_)| (refine aYX hfn ?_))<;>(simp only[go_sem,Nat.add_assoc,Nat.left_eq_add,Nat.add_eq_left,q10,q11,q7,hA])|fail)
 (have hKX:=hKB;clear hKB)
 have n12:nx2≤nx2+12:=by omega
 refine aM.gP (β:=Nat) (fun k=>en [(11,dI k),(10,dP 6 (nx2+12)),(7,dI n),(6,dP 6 (nx1+7)),(5,dS (es.map eEv)),(3,dP 3 10)])
  (fun k H3 _=>k≤n∧H3 10=some ⟨3,1,[cU c]⟩∧H3 (nx1+7)=some ⟨6,1,[eSt (S n)]⟩∧H3 (nx2+12)=some ⟨6,1,[eSt (S k)]⟩) (fun k=>n-k) 0
  ⟨noF,_,by repeat' (first| (with_reducible first|exact C1|refine C2 ?_ ?_)| ((with_reducible refine C0 ?_);exact CE (by omega) rfl)| ((with_reducible refine D0 ?_);first|exact CA rfl|refine CJ ?_)|fail),aK,Nat.zero_le _,(by simp only[aA.set,aA.del,Nat.add_assoc,Nat.reduceAdd,Nat.add_left_cancel_iff,Nat.reduceEqDiff,Nat.left_eq_add,Nat.add_eq_left,if_true,if_false,hA,q10];done),(by simp only[aA.set,aA.del,Nat.add_assoc,Nat.reduceAdd,Nat.add_left_cancel_iff,Nat.reduceEqDiff,Nat.left_eq_add,Nat.add_eq_left,if_true,if_false,hA,q7];done),by rw[hS0];exact aA.bH⟩ ?_
 clear q10 q11 q7 hA
 rintro k H3 nx3 hnx3 ⟨hk,q10,q7,q12⟩ KL hKL
 have hok:=hSok k hk
 have hA:bQ nx3 [10,nx1+7,nx2+12]:=AM.apart (by simp;omega) (by simp;omega)
 simp only[bQ,eZ] at hA
 have hM1: ∀(d k:Nat) (G:aA),msk (nx3+d) [k] G 10=G 10:=fun d k G=>mk1 (by omega)
 have hM2: ∀(d k:Nat) (G:aA),msk (nx3+d) [k] G (nx2+12)=G (nx2+12):=fun d k G=>mk1 (by omega)
 by_cases hkn:k<n
 ·have hw:=hSw k hkn
  have hstep:=hSt k (by omega)
  repeat' (first| (with_reducible first| (refine hK _ _ _ ?_;clear hK K)| (refine hA ?_;clear hA hB A B)|refine Z1 ?_|refine Z2 ?_|refine Z3 fun KB hKB=> ?_|refine Z4 (by omega) ?_)| (with_reducible first|refine Y2 fun K hK=> ?_|refine Y3 fun A B hA hB=> ?_)<;>(simp only[go_sem,Nat.add_assoc,Nat.left_eq_add,Nat.add_eq_left,q10,q12,hA,hM1,hM2])|refine⟨by omega,?_⟩|fail)
  refine aWU hb hcf hok ?_
  simp only[go_sem]
  generalize aU3:dT (nx3+3) [10] _ (msk (nx3+3) [10] H3)=U
  have k10:U 10=some ⟨3,1,[cU c]⟩:=by rw[←aU3,um1 (by omega),mk1 (by omega)];exact q10
  have k7:U (nx1+7)=some ⟨6,1,[eSt (S n)]⟩:=by rw[←aU3,um1 (by omega),mk1 (by omega)];exact q7
  have k12:U (nx2+12)=some ⟨6,1,[eSt (S k)]⟩:=by rw[←aU3,um1 (by omega),mk1 (by omega)];exact q12
  have kz:U (nx3+13)=some ⟨6,1,[[.osl 0 0 0 0 0,.osl 0 0 0 0 0,.osl 0 0 0 0 0,.osl 0 0 0 0 0,.osl 0 0 0 0 0,.osl 0 0 0 0 0]]⟩:=by rw[show nx3+13=nx3+3+10 from rfl,←aU3,aH6];exact aA.bH
  clear aU3 q10 q7 q12
  (try simp only[go_sem,Nat.add_assoc,Nat.left_eq_add,Nat.add_eq_left,k10,k7,k12,kz,hA,eq_true hw]);repeat' (first| (with_reducible first| (refine hK _ _ _ ?_;clear hK K)| (refine hB ?_;clear hA hB A B)|refine Z1 ?_|refine Z2 ?_)| (with_reducible first|refine Y2 fun K hK=> ?_|refine Y3 fun A B hA hB=> ?_)<;>(simp only[go_sem,Nat.add_assoc,Nat.left_eq_add,Nat.add_eq_left,k10,k7,k12,kz,hA,eq_true hw];try simp (disch:=omega) only[Iw])| ((with_reducible refine Y0 ?_);simp only[AQ.then,AQ.blk])| (with_reducible refine hKB _ _ _ ?_)|fail)
  exact hKL _ _ _ (k+1) noF _ (by omega) (by omega) (by repeat' (first| (with_reducible first|exact C1|refine C2 ?_ ?_)| ((with_reducible refine C0 ?_);exact CE (by omega) rfl)| ((with_reducible refine D0 ?_);first|exact CA rfl|refine CJ ?_)|fail)) aK ⟨hkn,(by simp only[aA.set,aA.del,Nat.add_assoc,Nat.reduceAdd,Nat.add_left_cancel_iff,Nat.reduceEqDiff,Nat.left_eq_add,Nat.add_eq_left,if_true,if_false,hA,k10];done),(by simp only[aA.set,aA.del,Nat.add_assoc,Nat.reduceAdd,Nat.add_left_cancel_iff,Nat.reduceEqDiff,Nat.left_eq_add,Nat.add_eq_left,if_true,if_false,hA,k7];done),by rw[hstep];exact(by simp only[aA.set,aA.del,Nat.add_assoc,Nat.reduceAdd,Nat.add_left_cancel_iff,Nat.reduceEqDiff,Nat.left_eq_add,Nat.add_eq_left,if_true,if_false,hA];done)⟩
 ·obtain rfl:k=n:=by omega
  repeat' (first| (with_reducible first| (refine hK _ _ _ ?_;clear hK K)| (refine hA ?_;clear hA hB A B)| (refine hB ?_;clear hA hB A B)|refine Z1 ?_|refine Z2 ?_|refine Z5 (by omega) ?_|refine Z6 (fun h=> ?_) fun h=> ?_|refine hKX _ _ _ ?_)| (with_reducible first|refine Y2 fun K hK=> ?_|refine Y3 fun A B hA hB=> ?_)<;>(simp only[go_sem,Nat.add_assoc,Nat.left_eq_add,Nat.add_eq_left,q10,q12,hA,hM1,hM2])| ((with_reducible refine Y9 ?_);try simp only[AQ.then,AQ.blk,reduceIte,Nat.reduceEqDiff])|refine⟨by omega,?_⟩|fail)
  ·have hbad:=hSb (by omega)
   refine aWU hb hcf hok ?_
   simp only[go_sem]
   generalize aU3:dT (nx3+7) [10] _ (msk (nx3+7) [10] H3)=U
   have k10:U 10=some ⟨3,1,[cU c]⟩:=by rw[←aU3,um1 (by omega),mk1 (by omega)];exact q10
   have k7:U (nx1+7)=some ⟨6,1,[eSt (S k)]⟩:=by rw[←aU3,um1 (by omega),mk1 (by omega)];exact q7
   have k12:U (nx2+12)=some ⟨6,1,[eSt (S k)]⟩:=by rw[←aU3,um1 (by omega),mk1 (by omega)];exact q12
   have kz:U (nx3+17)=some ⟨6,1,[[.osl 0 0 0 0 0,.osl 0 0 0 0 0,.osl 0 0 0 0 0,.osl 0 0 0 0 0,.osl 0 0 0 0 0,.osl 0 0 0 0 0]]⟩:=by rw[show nx3+17=nx3+7+10 from rfl,←aU3,aH6];exact aA.bH
   clear aU3 q10 q7 q12
   (try simp only[go_sem,Nat.add_assoc,Nat.left_eq_add,Nat.add_eq_left,k10,k7,k12,kz,hA,eq_false hbad]);repeat' (first| (with_reducible first| (refine hK _ _ _ ?_;clear hK K)| (refine hB ?_;clear hA hB A B)|refine Z1 ?_|refine Z2 ?_)| (first| (with_reducible first|refine Y2 fun K hK=> ?_|refine Y3 fun A B hA hB=> ?_)| (refine aYX hfn ?_))<;>(simp only[go_sem,Nat.add_assoc,Nat.left_eq_add,Nat.add_eq_left,k10,k7,k12,kz,hA,eq_false hbad])| ((with_reducible refine Y8 ?_);try simp only[AQ.then,AQ.blk,reduceIte,Nat.reduceEqDiff])|fail)
   exact hQ _ _ _ _ _ (.inr rfl) rfl ⟨rfl,rfl⟩
  ·simp only[go_sem,q7]
   (try simp only[go_sem,Nat.add_assoc,Nat.left_eq_add,Nat.add_eq_left,q7]);repeat' (first| (with_reducible (refine hK _ _ _ ?_;clear hK K))| (refine aYX hfn ?_)<;>(simp only[go_sem,Nat.add_assoc,Nat.left_eq_add,Nat.add_eq_left,q7])| ((with_reducible refine Y8 ?_);try simp only[AQ.then,AQ.blk,reduceIte,Nat.reduceEqDiff])|fail)
   exact hQ _ _ _ _ _ (.inr rfl) rfl ⟨rfl,rfl⟩
end Go.Proofs.YtegiblhkjfiooaaGreat
end
