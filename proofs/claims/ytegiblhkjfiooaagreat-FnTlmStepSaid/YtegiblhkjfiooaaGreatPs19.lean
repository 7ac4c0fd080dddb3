/- Texts laid together by a program: rules, contracts and the walk that leads to the law. -/
import Derived.Test.YtegiblhkjfiooaaGreatPs17
import Derived.Test.YtegiblhkjfiooaaGreatPs18
import Derived.Test.YtegiblhkjfiooaaGreatPs16
set_option linter.unusedVariables false
set_option linter.unusedSimpArgs false
set_option linter.unusedSectionVars false
section
namespace Go.Proofs.YtegiblhkjfiooaaGreat
open Go Go.AM
set_option maxRecDepth 100000
set_option maxHeartbeats 8000000
section
variable {H : aA} {nx : Nat} {K : D → aA → Nat → Prop}
theorem aOZ (l:List Int) (p:Nat) (c:Cfg) (s:TSt) (hal:s.asked.length=3) (hw:s.wait.length<2^20) (hd:s.done.length<2^20) (hl:kZ l) (hp50:p+5<2^50):aB Tryz.prog b7 [dP 2 0,dA (cU c),dA (eSt s)] (hp [(0,rdO l p)]) 1
 fun rr H' n'=>n'=1∧ ∃o',H'=hp [(0,o')]∧C7 o'∧ ∃(p':Nat) (e:Ev),o'=rdO l p'∧p≤p'∧p'≤p+5∧rr=dA (eEv e)∧(True):=by
 refine aNM rfl fun Q hQ=> ?_
 unfold c8
 repeat' (first| (with_reducible first| (refine hK _ _ _ ?_;clear hK K)| (refine hA ?_;clear hA hB A B)| (refine hB ?_;clear hA hB A B)|refine Z1 ?_|refine Z2 ?_|refine Z3 fun KB hKB=> ?_|refine Z6 (fun h=> ?_) fun h=> ?_)| (first| (with_reducible first|refine Y2 fun K hK=> ?_|refine Y3 fun A B hA hB=> ?_)| (refine aX hl (by omega) (by omega) (by omega) rfl (fun x h1 h2=> ?_)))<;>(simp only[go_sem];try simp (disch:=omega) only[Iw])| ((with_reducible refine Y8 ?_);try simp only[AQ.then,AQ.blk,reduceIte,Nat.reduceEqDiff])| ((with_reducible refine Y0 ?_);simp only[AQ.then,AQ.blk])|refine⟨by omega,?_⟩| (with_reducible refine hKB _ _ _ ?_)|fail)
 all_goals exact lA hQ (dA (eEv ⟨_,_,_⟩)) _ _ rfl (aH (bB rfl) (aH (bB rfl) (aH (bB rfl) eP))) rfl (aV _ _) ⟨_,⟨_,_,_⟩,rfl,by omega,by omega,rfl,trivial⟩
theorem aOX {l:List Int} {p i:Nat} {c:Cfg} {s:TSt} (hal:s.asked.length=3) (hw:s.wait.length<2^20) (hd:s.done.length<2^20) (hl:kZ l) (hp50:p+5<2^50) (hi:i<nx) (ho:H i=some (rdO l p)) (h: ∀(p':Nat) (e:Ev),p≤p'→p'≤p+5→(True)→K (dA (eEv e)) (H.set i (rdO l p')) nx):
 aB Tryz.prog b7 [dP 2 i,dA (cU c),dA (eSt s)] H nx K:=
 (aOZ l p c s hal hw hd hl hp50).OU i rfl (gW ⟨DG (by omega) rfl,aE rfl,aE rfl,trivial⟩) hi ho (aV l p) fun r o' ⟨p',e,h1,h2,h3,h4,h5⟩=>by
  subst h1;subst h4;exact EW (A:=fun d=>K d (H.set i (rdO l p')) nx) rfl (h p' e h2 h3 h5)
theorem aQ2:cJ Tryz.prog aNG Tryz.f95 aNR aOM:=cJ.mk Tryz.func95 (by kernel_rfl) aQ9
def aU4 (b0 b1 b2 b3 b4 b5 c0 c1 c2 c3 c4 c5:Nat) (s:TSt):List D1:=[.osl 1 b0 0 s.words.length c0,.osl 1 b1 0 s.holds.length c1,.osl 1 b2 0 s.asked.length c2,.osl 5 b3 0 s.wait.length c3,.osl 5 b4 0 s.done.length c4,.osl 5 b5 0 s.told.length c5]
def aUO (H:aA) (b0 b1 b2 b3 b4 b5 c0 c1 c2 c3 c4 c5:Nat) (s:TSt):Prop:=Own aJ 1 H b0 c0 s.words∧Own aJ 1 H b1 c1 s.holds∧Own aJ 1 H b2 c2 s.asked∧Own aS 5 H b3 c3 s.wait∧Own aS 5 H b4 c4 s.done∧Own aS 5 H b5 c5 s.told
theorem aUK {H:aA} {e:Env} {t1 n1 id1 m1 t2 n2 id2 m2 t3:Nat} {cs1 cs2:List D1} {d:DV} (he1:e t1= .one (.c (.ptr n1 id1 0 0))) (ho1:H id1=some ⟨n1,m1,[cs1]⟩) (hl1:cs1.length=n1) (he2:e t2= .one (.c (.ptr n2 id2 0 0))) (ho2:H id2=some ⟨n2,m2,[cs2]⟩) (hl2:cs2.length=n2) (he3:e t3= .one d):
 yT H e [.cell t1 n1 true,.cell t2 n2 true,.tm t3]=some (.tup [.agg cs1,.agg cs2,d]):=by
 subst hl1;subst hl2
 simp[yT,VP,he1,he2,he3,tT,ho1,ho2,mkV,asI]
theorem aRH {l:List Int} {p i:Nat} {n:Int} (hl:kZ l) (hp50:p+10000<2^50) (hn:0≤n∧n≤1000) (hi:i<nx) (ho:H i=some (rdO l p))
 (h: ∀H' nx' p' (c:Cfg) (es:List Ev) b0 b1 b2 b3 b4 b5 c0 c1 c2 c3 c4 c5 be ce,aQ c→jO c→F9 c st0 es→(es.length=0∨(es.length:Int)<n)→p≤p'→p'≤p+10000→H' i=some (rdO l p')→nx≤be→be<b2→b2<b1→b1<b0→b0<b3→b3<b4→b4<b5→b5<nx'→
  aUO H' b0 b1 b2 b3 b4 b5 c0 c1 c2 c3 c4 c5 (runM c st0 es)→Own eEv 3 H' be ce es→(∀id,id<nx→id≠i→H' id=H id)→
  K (.tup [.agg (cU c),.agg (aU4 b0 b1 b2 b3 b4 b5 c0 c1 c2 c3 c4 c5 (runM c st0 es)),.c (.osl 3 be 0 es.length ce)]) H' nx'):
 aB Tryz.prog aNG [dP 2 i,dI n] H nx K:=by
 refine aQ2 rfl fun Q hQ=> ?_
 unfold aNR
 generalize hs0:st0=s0 at h
 have htn: ∀{H:aA} {nx:Nat} {K:D→aA→Nat→Prop},(∀hc,6≤hc→K (dA (oSt nx (nx+1) (nx+2) (nx+3) 64 hc 3 0 s0)) ((((H.set nx ⟨1,64,s0.words.map aJ⟩).set (nx+1) ⟨1,hc,s0.holds.map aJ⟩).set (nx+2) ⟨1,3,s0.asked.map aJ⟩).set (nx+3) ⟨5,0,s0.told.map aS⟩) (nx+4))→aB Tryz.prog c7 [] H nx K:=fun h=>by subst hs0;exact aO9 h
 have hst0: ∀c,BA c s0:=fun c=>by subst hs0;exact arF c
 have htold:s0.told=[]:=by subst hs0;rfl
 clear hs0
 have hA:bQ nx [i]:=AM.apart (by simp) (by simp;omega)
 simp only[bQ,eZ] at hA
 have gi: ∀(G:aA) (o1 o2:bA),G i=some (rdO l p)→((G.set nx o1).set (nx+1) o2) i=some (rdO l p):=fun G o1 o2 h=>by rw[aA.aC (by omega),aA.aC (by omega)];exact h
 repeat' (first| (with_reducible first| (refine hK _ _ _ ?_;clear hK K)|refine Z1 ?_|refine Z3 fun KB hKB=> ?_)| (first| (with_reducible refine Y2 fun K hK=> ?_)| (refine IG hl (by omega) (by omega) (gi _ _ _ ho) (fun pb c hb1 hb2 ⟨hbok,hbfit⟩=> ?_))| (refine htn fun hc hhc=> ?_)| (refine aX (p:=pb) hl (by omega) (by omega) (by omega) (by simp only[aA.set,hA,if_false,if_true,show ∀k,(i=nx+k)=False from hA.1.1]) (fun x h1 h2=> ?_)))<;>(simp only[go_sem,Nat.add_assoc,Nat.left_eq_add,Nat.add_eq_left,hA])|fail)
 (have hKX:=hKB;clear hKB)
 refine aM.aTJ fun G0 hG0=> ?_
 have q0:G0 i=some (rdO l (pb+1)):=(by rw[hG0];simp only[aA.set,hA,Nat.add_left_cancel_iff,Nat.reduceEqDiff,Nat.left_eq_add,Nat.add_eq_left,if_true,if_false])
 have q1:G0 nx=some ⟨3,1,[[.osl 0 0 0 0 0,.osl 0 0 0 0 0,.osl 0 0 0 0 0]]⟩:=(by rw[hG0];simp only[aA.set,hA,Nat.add_left_cancel_iff,Nat.reduceEqDiff,Nat.left_eq_add,Nat.add_eq_left,if_true,if_false])
 have q2:G0 (nx+1)=some ⟨6,1,[[.osl 0 0 0 0 0,.osl 0 0 0 0 0,.osl 0 0 0 0 0,.osl 0 0 0 0 0,.osl 0 0 0 0 0,.osl 0 0 0 0 0]]⟩:=(by rw[hG0];simp only[aA.set,hA,Nat.add_left_cancel_iff,Nat.reduceEqDiff,Nat.left_eq_add,Nat.add_eq_left,if_true,if_false])
 have q3:G0 (nx+5)=some ⟨3,1,[cU c]⟩:=(by rw[hG0];simp only[aA.set,hA,Nat.add_left_cancel_iff,Nat.reduceEqDiff,Nat.left_eq_add,Nat.add_eq_left,if_true,if_false])
 have q4:G0 (nx+8)=some ⟨6,1,[oSt (nx+10) (nx+11) (nx+12) (nx+13) 64 hc 3 0 s0]⟩:=(by rw[hG0];simp only[aA.set,hA,Nat.add_left_cancel_iff,Nat.reduceEqDiff,Nat.left_eq_add,Nat.add_eq_left,if_true,if_false])
 have q5:G0 (nx+10)=some ⟨1,64,s0.words.map aJ⟩:=(by rw[hG0];simp only[aA.set,hA,Nat.add_left_cancel_iff,Nat.reduceEqDiff,Nat.left_eq_add,Nat.add_eq_left,if_true,if_false])
 have q6:G0 (nx+11)=some ⟨1,hc,s0.holds.map aJ⟩:=(by rw[hG0];simp only[aA.set,hA,Nat.add_left_cancel_iff,Nat.reduceEqDiff,Nat.left_eq_add,Nat.add_eq_left,if_true,if_false])
 have q7:G0 (nx+12)=some ⟨1,3,s0.asked.map aJ⟩:=(by rw[hG0];simp only[aA.set,hA,Nat.add_left_cancel_iff,Nat.reduceEqDiff,Nat.left_eq_add,Nat.add_eq_left,if_true,if_false])
 have aEM:G0 (nx+13)=some ⟨5,0,s0.told.map aS⟩:=(by rw[hG0];simp only[aA.set,hA,Nat.add_left_cancel_iff,Nat.reduceEqDiff,Nat.left_eq_add,Nat.add_eq_left,if_true,if_false])
 have a7:G0 (nx+14)=some ⟨3,0,[]⟩:=(by rw[hG0];simp only[aA.set,hA,Nat.add_left_cancel_iff,Nat.reduceEqDiff,Nat.left_eq_add,Nat.add_eq_left,if_true,if_false])
 have qf: ∀id,id<nx→id≠i→G0 id=H id:=fun id h1 h2=>by
  rw[hG0];simp only[aA.set,h2,show ∀k,id≠nx+k from fun k=>by omega,show ¬id=nx by omega,if_false]
 clear hG0
 refine aM.gP (β:=Nat×Nat×List Ev×(Nat×Nat)×(Nat×Nat×Nat))
  (fun u=>en [(10,dI u.1),(9,.one (.c (.osl 3 u.2.2.2.1.1 0 u.2.2.1.length u.2.2.2.1.2))),(8,dP 6 (nx+8)),(7,dP 3 (nx+5)),(5,dP 6 (nx+1)),(4,dP 3 nx),(0,dP 2 i)])
  (fun u H1 nx1=>((u.1+u.2.2.1.length≤x.toNat∧u.2.1+5*u.1≤pb+1+5*x.toNat∧p≤u.2.1)∧F9 c s0 u.2.2.1∧(runM c s0 u.2.2.1).told.length≤u.2.2.2.2.2.1∧u.2.2.2.2.2.1≤u.2.2.2.2.2.2∧(nx+13≤u.2.2.2.2.1∧u.2.2.2.2.1<nx1)∧(nx+13≤u.2.2.2.1.1∧u.2.2.2.1.1<nx1)∧u.2.2.2.2.1≠u.2.2.2.1.1)∧
   (H1 i=some (rdO l u.2.1)∧H1 nx=some ⟨3,1,[[.osl 0 0 0 0 0,.osl 0 0 0 0 0,.osl 0 0 0 0 0]]⟩∧H1 (nx+1)=some ⟨6,1,[[.osl 0 0 0 0 0,.osl 0 0 0 0 0,.osl 0 0 0 0 0,.osl 0 0 0 0 0,.osl 0 0 0 0 0,.osl 0 0 0 0 0]]⟩∧H1 (nx+5)=some ⟨3,1,[cU c]⟩∧H1 (nx+8)=some ⟨6,1,[oSt (nx+10) (nx+11) (nx+12) u.2.2.2.2.1 64 hc 3 u.2.2.2.2.2.1 (runM c s0 u.2.2.1)]⟩∧
   H1 (nx+10)=some ⟨1,64,(runM c s0 u.2.2.1).words.map aJ⟩∧H1 (nx+11)=some ⟨1,hc,(runM c s0 u.2.2.1).holds.map aJ⟩∧H1 (nx+12)=some ⟨1,3,(runM c s0 u.2.2.1).asked.map aJ⟩∧H1 u.2.2.2.2.1=some ⟨5,u.2.2.2.2.2.2,(runM c s0 u.2.2.1).told.map aS⟩)∧Own eEv 3 H1 u.2.2.2.1.1 u.2.2.2.1.2 u.2.2.1∧ ∀id,id<nx→id≠i→H1 id=H id)
  (fun u=>u.1) (x.toNat,pb+1,[],(nx+14,0),(nx+13,0,0)) ⟨noF,_,by repeat' (first| (with_reducible first|exact C1|refine C2 ?_ ?_)| ((with_reducible refine C0 ?_);first|exact CC|exact CE (by omega) rfl| (exact CG (by(congr 2;omega)) rfl))| ((with_reducible refine D0 ?_);refine CJ ?_)|fail),aK,⟨by simp;omega,pV,by simp[runM,htold],by simp,by dsimp only;omega,by dsimp only;omega,by dsimp only;omega⟩,⟨q0,q1,q2,q3,q4,q5,q6,q7,aEM⟩,⟨0,a7,Nat.le_refl _,Nat.le_refl _⟩,qf⟩ ?_
 clear q0 q1 q2 q3 q4 q5 q6 q7 aEM a7 qf
 rintro⟨j,pj,es,⟨be,ce⟩,⟨b,tc,tm⟩⟩ H1 nx1 hnx1 ⟨⟨⟨f1,f2,f3⟩,f4,f5,f6,⟨f7,f8⟩,⟨f9,f10⟩,f11⟩,⟨q0,q1,q2,q3,q4,q5,q6,q7,aEM⟩,⟨me,a7,e1,e2⟩,qf⟩ KL hKL
 dsimp only at f1 f2 f3 f4 f5 f6 f7 f8 f9 f10 f11 q0 q1 q2 q3 q4 q5 q6 q7 aEM a7 e1 e2
 have hs:=azI hbok (hst0 c) f4
 have hpe:=fun e=>aTH (e:=e) f4
 have hre:=fun e=>azF (c:=c) (s:=s0) (l:=es) (e:=e)
 have hlen:=hs.lens hbok
 have hA1:bQ nx1 [i,nx,nx+1,nx+5,nx+8,nx+10,nx+11,nx+12,b,be]:=AM.apart (by simp;omega) (by simp;omega)
 simp only[bQ,eZ] at hA1
 have hte:es.take es.length=es:=List.take_length
 by_cases hj:0<j
 ·generalize hrun:runM c s0 es=s at*
  repeat' (first| (with_reducible first| (refine hK _ _ _ ?_;clear hK K)| (refine hA ?_;clear hA hB A B)|refine Z1 ?_|refine Z2 ?_|refine Z3 fun KB hKB=> ?_|refine Z4 (by omega) ?_)| (first| (with_reducible first|refine Y2 fun K hK=> ?_|refine Y3 fun A B hA hB=> ?_)| (refine aPC (p:=pj) (j:=nx+12) (am:=3) hl (by omega) hs.JI (by omega) (by omega) (by omega) (by omega) (by omega) q0 q7 (fun pe e he1 he2=> ?_)))<;>(simp only[go_sem,Nat.add_assoc,q0,q1,q2,q3,q4,q5,q6,q7,aEM,a7,hA1])|fail)
  generalize hG:((H1.set i (rdO l pe)).set (nx+12) ⟨1,3,s.asked.map aJ⟩).set (nx1+6) ⟨3,1,[eEv e]⟩=G
  have r0:G i=some (rdO l pe):=(by rw[←hG];simp only[aA.set,aA.del,Nat.add_assoc,Nat.reduceAdd,Nat.add_left_cancel_iff,Nat.reduceEqDiff,Nat.left_eq_add,Nat.add_eq_left,if_true,if_false,hA1])
  have r1:G nx=some ⟨3,1,[[.osl 0 0 0 0 0,.osl 0 0 0 0 0,.osl 0 0 0 0 0]]⟩:=(by rw[←hG];simp only[aA.set,aA.del,Nat.add_assoc,Nat.reduceAdd,Nat.add_left_cancel_iff,Nat.reduceEqDiff,Nat.left_eq_add,Nat.add_eq_left,if_true,if_false,hA1,q1])
  have r2:G (nx+1)=some ⟨6,1,[[.osl 0 0 0 0 0,.osl 0 0 0 0 0,.osl 0 0 0 0 0,.osl 0 0 0 0 0,.osl 0 0 0 0 0,.osl 0 0 0 0 0]]⟩:=(by rw[←hG];simp only[aA.set,aA.del,Nat.add_assoc,Nat.reduceAdd,Nat.add_left_cancel_iff,Nat.reduceEqDiff,Nat.left_eq_add,Nat.add_eq_left,if_true,if_false,hA1,q2])
  have r3:G (nx+5)=some ⟨3,1,[cU c]⟩:=(by rw[←hG];simp only[aA.set,aA.del,Nat.add_assoc,Nat.reduceAdd,Nat.add_left_cancel_iff,Nat.reduceEqDiff,Nat.left_eq_add,Nat.add_eq_left,if_true,if_false,hA1,q3])
  have r4:G (nx+8)=some ⟨6,1,[oSt (nx+10) (nx+11) (nx+12) b 64 hc 3 tc s]⟩:=(by rw[←hG];simp only[aA.set,aA.del,Nat.add_assoc,Nat.reduceAdd,Nat.add_left_cancel_iff,Nat.reduceEqDiff,Nat.left_eq_add,Nat.add_eq_left,if_true,if_false,hA1,q4])
  have r5:G (nx+10)=some ⟨1,64,s.words.map aJ⟩:=(by rw[←hG];simp only[aA.set,aA.del,Nat.add_assoc,Nat.reduceAdd,Nat.add_left_cancel_iff,Nat.reduceEqDiff,Nat.left_eq_add,Nat.add_eq_left,if_true,if_false,hA1,q5])
  have aET:G (nx+11)=some ⟨1,hc,s.holds.map aJ⟩:=(by rw[←hG];simp only[aA.set,aA.del,Nat.add_assoc,Nat.reduceAdd,Nat.add_left_cancel_iff,Nat.reduceEqDiff,Nat.left_eq_add,Nat.add_eq_left,if_true,if_false,hA1,q6])
  have aU5:G (nx+12)=some ⟨1,3,s.asked.map aJ⟩:=(by rw[←hG];simp only[aA.set,aA.del,Nat.add_assoc,Nat.reduceAdd,Nat.add_left_cancel_iff,Nat.reduceEqDiff,Nat.left_eq_add,Nat.add_eq_left,if_true,if_false,hA1])
  have aU6:G b=some ⟨5,tm,s.told.map aS⟩:=(by rw[←hG];simp only[aA.set,aA.del,Nat.add_assoc,Nat.reduceAdd,Nat.add_left_cancel_iff,Nat.reduceEqDiff,Nat.left_eq_add,Nat.add_eq_left,if_true,if_false,hA1,aEM])
  have a8:G be=some ⟨3,me,es.map eEv⟩:=(by rw[←hG];simp only[aA.set,aA.del,Nat.add_assoc,Nat.reduceAdd,Nat.add_left_cancel_iff,Nat.reduceEqDiff,Nat.left_eq_add,Nat.add_eq_left,if_true,if_false,hA1,a7])
  have r10:G (nx1+6)=some ⟨3,1,[eEv e]⟩:=(by rw[←hG];simp only[aA.set,aA.del,Nat.add_assoc,Nat.reduceAdd,Nat.add_left_cancel_iff,Nat.reduceEqDiff,Nat.left_eq_add,Nat.add_eq_left,if_true,if_false,hA1])
  have rf: ∀id,id<nx→id≠i→G id=H id:=fun id h1 h2=>by
   rw[←hG,aA.aC (by omega),aA.aC (by omega),aA.aC h2];exact qf id h1 h2
  clear hG q0 q1 q2 q3 q4 q5 q6 q7 aEM a7 qf
  refine aO4 hbok hs (by omega) (by omega) (by omega) f5 f6 (by omega) (by omega) (by omega) (by omega) (by simp;omega) r5 aET aU5 aU6 (fun hw tc' tm' ht1 ht2=> ?_) (fun hw=> ?_)
  ·have hst:=hre e
   generalize hG:(((((G.set (nx+10) ⟨1,64,(lS c s e).words.map aJ⟩).set (nx+11) ⟨1,hc,(lS c s e).holds.map aJ⟩).set (nx+12) ⟨1,3,(lS c s e).asked.map aJ⟩).del b).set (nx1+18) ⟨5,tm',(lS c s e).told.map aS⟩)=aID
   have p0:aID i=some (rdO l pe):=(by rw[←hG];simp only[aA.set,aA.del,Nat.add_assoc,Nat.reduceAdd,Nat.add_left_cancel_iff,Nat.reduceEqDiff,Nat.left_eq_add,Nat.add_eq_left,if_true,if_false,hA1,r0])
   have p1:aID nx=some ⟨3,1,[[.osl 0 0 0 0 0,.osl 0 0 0 0 0,.osl 0 0 0 0 0]]⟩:=(by rw[←hG];simp only[aA.set,aA.del,Nat.add_assoc,Nat.reduceAdd,Nat.add_left_cancel_iff,Nat.reduceEqDiff,Nat.left_eq_add,Nat.add_eq_left,if_true,if_false,hA1,r1])
   have p2:aID (nx+1)=some ⟨6,1,[[.osl 0 0 0 0 0,.osl 0 0 0 0 0,.osl 0 0 0 0 0,.osl 0 0 0 0 0,.osl 0 0 0 0 0,.osl 0 0 0 0 0]]⟩:=(by rw[←hG];simp only[aA.set,aA.del,Nat.add_assoc,Nat.reduceAdd,Nat.add_left_cancel_iff,Nat.reduceEqDiff,Nat.left_eq_add,Nat.add_eq_left,if_true,if_false,hA1,r2])
   have p3:aID (nx+5)=some ⟨3,1,[cU c]⟩:=(by rw[←hG];simp only[aA.set,aA.del,Nat.add_assoc,Nat.reduceAdd,Nat.add_left_cancel_iff,Nat.reduceEqDiff,Nat.left_eq_add,Nat.add_eq_left,if_true,if_false,hA1,r3])
   have p4:aID (nx+8)=some ⟨6,1,[oSt (nx+10) (nx+11) (nx+12) b 64 hc 3 tc s]⟩:=(by rw[←hG];simp only[aA.set,aA.del,Nat.add_assoc,Nat.reduceAdd,Nat.add_left_cancel_iff,Nat.reduceEqDiff,Nat.left_eq_add,Nat.add_eq_left,if_true,if_false,hA1,r4])
   have p5:aID (nx+10)=some ⟨1,64,(lS c s e).words.map aJ⟩:=(by rw[←hG];simp only[aA.set,aA.del,Nat.add_assoc,Nat.reduceAdd,Nat.add_left_cancel_iff,Nat.reduceEqDiff,Nat.left_eq_add,Nat.add_eq_left,if_true,if_false,hA1])
   have p6:aID (nx+11)=some ⟨1,hc,(lS c s e).holds.map aJ⟩:=(by rw[←hG];simp only[aA.set,aA.del,Nat.add_assoc,Nat.reduceAdd,Nat.add_left_cancel_iff,Nat.reduceEqDiff,Nat.left_eq_add,Nat.add_eq_left,if_true,if_false,hA1])
   have p7:aID (nx+12)=some ⟨1,3,(lS c s e).asked.map aJ⟩:=(by rw[←hG];simp only[aA.set,aA.del,Nat.add_assoc,Nat.reduceAdd,Nat.add_left_cancel_iff,Nat.reduceEqDiff,Nat.left_eq_add,Nat.add_eq_left,if_true,if_false,hA1])
   have p8:aID (nx1+18)=some ⟨5,tm',(lS c s e).told.map aS⟩:=(by rw[←hG];simp only[aA.set,aA.del,Nat.add_assoc,Nat.reduceAdd,Nat.add_left_cancel_iff,Nat.reduceEqDiff,Nat.left_eq_add,Nat.add_eq_left,if_true,if_false,hA1])
   have aHL:aID be=some ⟨3,me,es.map eEv⟩:=(by rw[←hG];simp only[aA.set,aA.del,Nat.add_assoc,Nat.reduceAdd,Nat.add_left_cancel_iff,Nat.reduceEqDiff,Nat.left_eq_add,Nat.add_eq_left,if_true,if_false,hA1,a8])
   have p10:aID (nx1+6)=some ⟨3,1,[eEv e]⟩:=(by rw[←hG];simp only[aA.set,aA.del,Nat.add_assoc,Nat.reduceAdd,Nat.add_left_cancel_iff,Nat.reduceEqDiff,Nat.left_eq_add,Nat.add_eq_left,if_true,if_false,hA1,r10])
   have pf: ∀id,id<nx→id≠i→aID id=H id:=fun id h1 h2=>by
    rw[←hG,aA.aC (by omega),aA.jG (by omega),aA.aC (by omega),aA.aC (by omega),aA.aC (by omega)];exact rf id h1 h2
   clear hG r0 r1 r2 r3 r4 r5 aET aU5 aU6 a8 r10 rf
   (try simp only[go_sem,Nat.add_assoc,Nat.left_eq_add,Nat.add_eq_left,p0,p1,p2,p3,p4,p5,p6,p7,p8,aHL,p10,hA1,hte,akB]);repeat' (first| (with_reducible first| (refine hK _ _ _ ?_;clear hK K)| (refine hA ?_;clear hA hB A B)|refine Z1 ?_|refine fun(cap:Nat) (hcap:_≤cap)=> ?_|refine fun(hcp:_≤cap)=> ?_)| (with_reducible first|refine Y2 fun K hK=> ?_|refine Y3 fun A B hA hB=> ?_)<;>(simp only[go_sem,Nat.add_assoc,Nat.left_eq_add,Nat.add_eq_left,p0,p1,p2,p3,p4,p5,p6,p7,p8,aHL,p10,hA1,hte,akB];try simp (disch:=omega) only[Iw])| ((with_reducible refine Y0 ?_);simp only[AQ.then,AQ.blk])|refine⟨by omega,?_⟩| (with_reducible refine hKB _ _ _ ?_)|fail)
   exact hKL _ _ _ (j-1,pe,es++[e],(nx1+23,cap),(nx1+18,tc',tm')) noF _ (by omega) (by dsimp only;omega) (by dsimp only;rw[List.length_append,List.length_singleton];repeat' (first| (with_reducible first|exact C1|refine C2 ?_ ?_)| ((with_reducible refine C0 ?_);first|exact CQ (by omega) rfl rfl (by rfl) rfl|exact CE (by omega) rfl| (exact CG (by(congr 2;omega)) rfl))| ((with_reducible refine D0 ?_);refine CJ ?_)|fail)) aK ⟨⟨by simp;omega,hpe e hw,by dsimp only;rw[hre e];exact ht1,ht2,by dsimp only;omega,by dsimp only;omega,by dsimp only;omega⟩,⟨(by simp only[aA.set,aA.del,Nat.add_assoc,Nat.reduceAdd,Nat.add_left_cancel_iff,Nat.reduceEqDiff,Nat.left_eq_add,Nat.add_eq_left,if_true,if_false,hA1,p0];done),(by simp only[aA.set,aA.del,Nat.add_assoc,Nat.reduceAdd,Nat.add_left_cancel_iff,Nat.reduceEqDiff,Nat.left_eq_add,Nat.add_eq_left,if_true,if_false,hA1,p1];done),(by simp only[aA.set,aA.del,Nat.add_assoc,Nat.reduceAdd,Nat.add_left_cancel_iff,Nat.reduceEqDiff,Nat.left_eq_add,Nat.add_eq_left,if_true,if_false,hA1,p2];done),(by simp only[aA.set,aA.del,Nat.add_assoc,Nat.reduceAdd,Nat.add_left_cancel_iff,Nat.reduceEqDiff,Nat.left_eq_add,Nat.add_eq_left,if_true,if_false,hA1,p3];done),by dsimp only;rw[hre e];exact(by simp only[aA.set,aA.del,Nat.add_assoc,Nat.reduceAdd,Nat.add_left_cancel_iff,Nat.reduceEqDiff,Nat.left_eq_add,Nat.add_eq_left,if_true,if_false,hA1];done),by dsimp only;rw[hre e];exact(by simp only[aA.set,aA.del,Nat.add_assoc,Nat.reduceAdd,Nat.add_left_cancel_iff,Nat.reduceEqDiff,Nat.left_eq_add,Nat.add_eq_left,if_true,if_false,hA1,p5];done),by dsimp only;rw[hre e];exact(by simp only[aA.set,aA.del,Nat.add_assoc,Nat.reduceAdd,Nat.add_left_cancel_iff,Nat.reduceEqDiff,Nat.left_eq_add,Nat.add_eq_left,if_true,if_false,hA1,p6];done),by dsimp only;rw[hre e];exact(by simp only[aA.set,aA.del,Nat.add_assoc,Nat.reduceAdd,Nat.add_left_cancel_iff,Nat.reduceEqDiff,Nat.left_eq_add,Nat.add_eq_left,if_true,if_false,hA1,p7];done),by dsimp only;rw[hre e];exact(by simp only[aA.set,aA.del,Nat.add_assoc,Nat.reduceAdd,Nat.add_left_cancel_iff,Nat.reduceEqDiff,Nat.left_eq_add,Nat.add_eq_left,if_true,if_false,hA1,p8];done)⟩,⟨cap,(by simp only[aA.set,aA.del,Nat.add_assoc,Nat.reduceAdd,Nat.add_left_cancel_iff,Nat.reduceEqDiff,Nat.left_eq_add,Nat.add_eq_left,if_true,if_false,hA1];done),by simpa using hcap,Nat.le_refl _⟩,fun id h1 h2=>by rw[aA.aC (by omega),aA.aC (by omega),aA.aC (by omega),aA.aC (by omega),aA.jG (by omega)];exact pf id h1 h2⟩
  ·generalize hG:(((G.set (nx+10) ⟨1,64,s.words.map aJ⟩).set (nx+11) ⟨1,hc,s.holds.map aJ⟩).set (nx+12) ⟨1,3,s.asked.map aJ⟩).set b ⟨5,tm,s.told.map aS⟩=aID
   have p0:aID i=some (rdO l pe):=(by rw[←hG];simp only[aA.set,aA.del,Nat.add_assoc,Nat.reduceAdd,Nat.add_left_cancel_iff,Nat.reduceEqDiff,Nat.left_eq_add,Nat.add_eq_left,if_true,if_false,hA1,r0])
   have p1:aID nx=some ⟨3,1,[[.osl 0 0 0 0 0,.osl 0 0 0 0 0,.osl 0 0 0 0 0]]⟩:=(by rw[←hG];simp only[aA.set,aA.del,Nat.add_assoc,Nat.reduceAdd,Nat.add_left_cancel_iff,Nat.reduceEqDiff,Nat.left_eq_add,Nat.add_eq_left,if_true,if_false,hA1,r1])
   have p2:aID (nx+1)=some ⟨6,1,[[.osl 0 0 0 0 0,.osl 0 0 0 0 0,.osl 0 0 0 0 0,.osl 0 0 0 0 0,.osl 0 0 0 0 0,.osl 0 0 0 0 0]]⟩:=(by rw[←hG];simp only[aA.set,aA.del,Nat.add_assoc,Nat.reduceAdd,Nat.add_left_cancel_iff,Nat.reduceEqDiff,Nat.left_eq_add,Nat.add_eq_left,if_true,if_false,hA1,r2])
   have p3:aID (nx+5)=some ⟨3,1,[cU c]⟩:=(by rw[←hG];simp only[aA.set,aA.del,Nat.add_assoc,Nat.reduceAdd,Nat.add_left_cancel_iff,Nat.reduceEqDiff,Nat.left_eq_add,Nat.add_eq_left,if_true,if_false,hA1,r3])
   have p4:aID (nx+8)=some ⟨6,1,[oSt (nx+10) (nx+11) (nx+12) b 64 hc 3 tc s]⟩:=(by rw[←hG];simp only[aA.set,aA.del,Nat.add_assoc,Nat.reduceAdd,Nat.add_left_cancel_iff,Nat.reduceEqDiff,Nat.left_eq_add,Nat.add_eq_left,if_true,if_false,hA1,r4])
   have p5:aID (nx+10)=some ⟨1,64,s.words.map aJ⟩:=(by rw[←hG];simp only[aA.set,aA.del,Nat.add_assoc,Nat.reduceAdd,Nat.add_left_cancel_iff,Nat.reduceEqDiff,Nat.left_eq_add,Nat.add_eq_left,if_true,if_false,hA1])
   have p6:aID (nx+11)=some ⟨1,hc,s.holds.map aJ⟩:=(by rw[←hG];simp only[aA.set,aA.del,Nat.add_assoc,Nat.reduceAdd,Nat.add_left_cancel_iff,Nat.reduceEqDiff,Nat.left_eq_add,Nat.add_eq_left,if_true,if_false,hA1])
   have p7:aID (nx+12)=some ⟨1,3,s.asked.map aJ⟩:=(by rw[←hG];simp only[aA.set,aA.del,Nat.add_assoc,Nat.reduceAdd,Nat.add_left_cancel_iff,Nat.reduceEqDiff,Nat.left_eq_add,Nat.add_eq_left,if_true,if_false,hA1])
   have p8:aID b=some ⟨5,tm,s.told.map aS⟩:=(by rw[←hG];simp only[aA.set,aA.del,Nat.add_assoc,Nat.reduceAdd,Nat.add_left_cancel_iff,Nat.reduceEqDiff,Nat.left_eq_add,Nat.add_eq_left,if_true,if_false,hA1])
   have aHL:aID be=some ⟨3,me,es.map eEv⟩:=(by rw[←hG];simp only[aA.set,aA.del,Nat.add_assoc,Nat.reduceAdd,Nat.add_left_cancel_iff,Nat.reduceEqDiff,Nat.left_eq_add,Nat.add_eq_left,if_true,if_false,hA1,a8])
   have pf: ∀id,id<nx→id≠i→aID id=H id:=fun id h1 h2=>by
    rw[←hG,aA.aC (by omega),aA.aC (by omega),aA.aC (by omega),aA.aC (by omega)];exact rf id h1 h2
   clear hG r0 r1 r2 r3 r4 r5 aET aU5 aU6 a8 r10 rf
   (try simp only[go_sem,Nat.add_assoc,Nat.left_eq_add,Nat.add_eq_left,p0,p1,p2,p3,p4,p5,p6,p7,p8,aHL,hA1,hte,akB]);repeat' (first| (with_reducible first| (refine hK _ _ _ ?_;clear hK K)| (refine hB ?_;clear hA hB A B)|refine Z1 ?_|refine Z2 ?_)| (with_reducible first|refine Y2 fun K hK=> ?_|refine Y3 fun A B hA hB=> ?_)<;>(simp only[go_sem,Nat.add_assoc,Nat.left_eq_add,Nat.add_eq_left,p0,p1,p2,p3,p4,p5,p6,p7,p8,aHL,hA1,hte,akB];try simp (disch:=omega) only[Iw])| ((with_reducible refine Y0 ?_);simp only[AQ.then,AQ.blk])| (with_reducible refine hKB _ _ _ ?_)|fail)
   exact hKL _ _ _ (j-1,pe,es,(be,ce),(b,tc,tm)) noF _ (by omega) (by dsimp only;omega) (by dsimp only;repeat' (first| (with_reducible first|exact C1|refine C2 ?_ ?_)| ((with_reducible refine C0 ?_);first|exact CQ (by omega) rfl rfl (by rfl) rfl|exact CE (by omega) rfl| (exact CG (by(congr 2;omega)) rfl))| ((with_reducible refine D0 ?_);refine CJ ?_)|fail)) aK ⟨⟨by dsimp only;omega,f4,by dsimp only;rw[hrun];exact f5,f6,by dsimp only;omega,by dsimp only;omega,f11⟩,⟨(by rw[aA.aC (by omega)];exact p0),(by rw[aA.aC (by omega)];exact p1),(by rw[aA.aC (by omega)];exact p2),(by rw[aA.aC (by omega)];exact p3),by dsimp only;rw[hrun,aA.aC (by omega)];exact p4,by dsimp only;rw[hrun,aA.aC (by omega)];exact p5,by dsimp only;rw[hrun,aA.aC (by omega)];exact p6,by dsimp only;rw[hrun,aA.aC (by omega)];exact p7,by dsimp only;rw[hrun,aA.aC (by omega)];exact p8⟩,⟨me,(by dsimp only;rw[aA.aC (by omega)];exact aHL),e1,e2⟩,fun id h1 h2=>by rw[aA.aC (by omega)];exact pf id h1 h2⟩
 ·repeat' (first| (with_reducible first| (refine hK _ _ _ ?_;clear hK K)| (refine hB ?_;clear hA hB A B)|refine Z1 ?_|refine Z5 (by omega) ?_|refine hKX _ _ _ ?_)| (with_reducible first|refine Y2 fun K hK=> ?_|refine Y3 fun A B hA hB=> ?_)<;>(simp only[go_sem])| ((with_reducible refine Y9 ?_);try simp only[AQ.then,AQ.blk,reduceIte,Nat.reduceEqDiff])|fail)
  generalize hrun:runM c s0 es=s at*
  simp only[go_sem,q3,q4,Nat.add_assoc]
  have hwl:=hs.atm.wl
  have hhl:=hs.atm.hl
  have hal:=hs.JI
  refine aB.ao4 (args':=[dA (eSt s)]) (without (fun k=>k=nx+10∨k=nx+11∨k=nx+12∨k=b) H1) (fun k=>k=nx+10∨k=nx+11∨k=nx+12∨k=b) rfl (fun k d0 d h1 h2=> ?_) kS ?_
  ·match k with
   |0=>
    simp only[List.getElem?_cons_zero,Option.some.injEq] at h1 h2
    subst h1;subst h2
    exact lY (aH (bW bF q5 (by omega) (by omega) (by simp)) (aH (bW bF q6 (by omega) (by omega) (by simp)) (aH (bW bF q7 (by omega) (by omega) (by simp)) (aH (bB rfl) (aH (bB rfl) (aH (bW dZ aEM (by omega) (by omega) (by simp)) eP))))))
   |k+1=>simp at h1
  generalize hG:without (fun k=>k=nx+10∨k=nx+11∨k=nx+12∨k=b) H1=G
  have r0:G i=some (rdO l pj):=by rw[←hG,iI (by omega)];exact q0
  have r1:G nx=some ⟨3,1,[[.osl 0 0 0 0 0,.osl 0 0 0 0 0,.osl 0 0 0 0 0]]⟩:=by rw[←hG,iI (by omega)];exact q1
  have r2:G (nx+1)=some ⟨6,1,[[.osl 0 0 0 0 0,.osl 0 0 0 0 0,.osl 0 0 0 0 0,.osl 0 0 0 0 0,.osl 0 0 0 0 0,.osl 0 0 0 0 0]]⟩:=by rw[←hG,iI (by omega)];exact q2
  have r3:G (nx+5)=some ⟨3,1,[cU c]⟩:=by rw[←hG,iI (by omega)];exact q3
  have a8:G be=some ⟨3,me,es.map eEv⟩:=by rw[←hG,iI (by omega)];exact a7
  have rf: ∀id,id<nx→id≠i→G id=H id:=fun id h1 h2=>by rw[←hG,iI (by omega)];exact qf id h1 h2
  clear hG q0 q1 q2 q3 q4 q5 q6 q7 aEM a7 qf
  refine aQR (hs.aUG hbok) fun H2 nx2 b0 b1 b2 b3 b4 b5 c0 c1 c2 c3 c4 c5 g1 g2 g3 g4 g5 g6 g7 o0 o1 o2 o3 o4 o5 fr=> ?_
  have aU0:=(fr i (by omega)).trans r0
  have t1:=(fr nx (by omega)).trans r1
  have t2:=(fr (nx+1) (by omega)).trans r2
  have t3:=(fr (nx+5) (by omega)).trans r3
  have aU7:=(fr be (by omega)).trans a8
  have hA2:bQ nx2 [i,nx,nx+1,be]:=AM.apart (by simp;omega) (by simp;omega)
  simp only[bQ,eZ] at hA2
  (try simp only[go_sem,Nat.add_assoc,Nat.left_eq_add,Nat.add_eq_left,aU0,t1,t2,t3,aU7,hA2]);repeat' (first| (with_reducible (refine hK _ _ _ ?_;clear hK K))| ((with_reducible refine Y8 ?_);try simp only[AQ.then,AQ.blk,reduceIte,Nat.reduceEqDiff])|fail)
  have hh:=fun H'=>h H' nx2 pj c es b0 b1 b2 b3 b4 b5 c0 c1 c2 c3 c4 c5 be ce hbok hbfit f4 (by omega) f3 (by omega)
  simp only[hrun] at hh
  exact hQ _ _ _ _ _ (.inr rfl) (aUK (m1:=1) (m2:=1) (cs2:=aU4 b0 b1 b2 b3 b4 b5 c0 c1 c2 c3 c4 c5 s) rfl (by simp only[aA.set,aA.del,Nat.add_assoc,Nat.reduceAdd,Nat.add_left_cancel_iff,Nat.reduceEqDiff,Nat.left_eq_add,Nat.add_eq_left,if_true,if_false,hA2];done) rfl rfl (by simp only[aA.set,aA.del,Nat.add_assoc,Nat.reduceAdd,Nat.add_left_cancel_iff,Nat.reduceEqDiff,Nat.left_eq_add,Nat.add_eq_left,if_true,if_false,hA2,aU4];done) rfl rfl) (hh _ (by simp only[aA.set,aA.del,Nat.add_assoc,Nat.reduceAdd,Nat.add_left_cancel_iff,Nat.reduceEqDiff,Nat.left_eq_add,Nat.add_eq_left,if_true,if_false,hA2,aU0];done) (by omega) (by omega) g2 g3 g4 g5 g6 g7
   ⟨o0.of (by rw[aA.aC (by omega),aA.aC (by omega)]),o1.of (by rw[aA.aC (by omega),aA.aC (by omega)]),o2.of (by rw[aA.aC (by omega),aA.aC (by omega)]),o3.of (by rw[aA.aC (by omega),aA.aC (by omega)]),o4.of (by rw[aA.aC (by omega),aA.aC (by omega)]),o5.of (by rw[aA.aC (by omega),aA.aC (by omega)])⟩ ⟨me,(by simp only[aA.set,aA.del,Nat.add_assoc,Nat.reduceAdd,Nat.add_left_cancel_iff,Nat.reduceEqDiff,Nat.left_eq_add,Nat.add_eq_left,if_true,if_false,hA2,aU7];done),e1,e2⟩ fun id h1 h2=>by rw[aA.aC (by omega),aA.aC (by omega),fr id (by omega)];exact rf id h1 h2)
theorem aRT {l:List Int} {p i:Nat} {n:Int} (hl:kZ l) (hp50:p+10000<2^50) (hn:0≤n∧n≤1000) (hi:i<nx) (ho:H i=some (rdO l p))
 (h: ∀H' nx' p' (c:Cfg) (es:List Ev) be ce,aQ c→jO c→F9 c st0 es→(es.length=0∨(es.length:Int)<n)→p≤p'→p'≤p+10000→H' i=some (rdO l p')→nx≤be→be<nx'→Own eEv 3 H' be ce es→(∀id,id<nx→id≠i→H' id=H id)→
  K (.tup [.agg (cU c),.agg (eSt (runM c st0 es)),.c (.osl 3 be 0 es.length ce)]) H' nx'):
 aB Tryz.prog aNG [dP 2 i,dI n] H nx K:=by
 refine aB.tW (aRH hl hp50 hn hi ho fun H' nx' p' c es b0 b1 b2 b3 b4 b5 c0 c1 c2 c3 c4 c5 be ce h1 h2 h3 h4 h5 h6 h7 g1 g2 g3 g4 g5 g6 g7 g8 ⟨o0,o1,o2,o3,o4,o5⟩ o6 fr=> ?_)
 refine⟨_,without (fun k=>k=b0∨k=b1∨k=b2∨k=b3∨k=b4∨k=b5) H',fun k=>k=b0∨k=b1∨k=b2∨k=b3∨k=b4∨k=b5,?_,kS,h _ nx' p' c es be ce h1 h2 h3 h4 h5 h6 (by rw[iI (by omega)];exact h7) g1 (by omega) (o6.of (iI (by omega))) fun id q1 q2=>by rw[iI (by omega)];exact fr id q1 q2⟩
 exact aUJ (ayY (GW fun x hx=>List.all_eq_true.1 (azD c).2 x hx)) (ayY (aH (o0.frz bF (by simp)) (aH (o1.frz bF (by simp)) (aH (o2.frz bF (by simp)) (aH (o3.frz dZ (by simp)) (aH (o4.frz dZ (by simp)) (aH (o5.frz dZ (by simp)) eP))))))) (azN (aaF (by omega) rfl rfl rfl rfl))
end
end Go.Proofs.YtegiblhkjfiooaaGreat
end
section
namespace Go.Proofs.YtegiblhkjfiooaaGreat
open Go Go.AM
set_option maxRecDepth 100000
set_option maxHeartbeats 8000000
section
variable {H : aA} {nx : Nat} {K : D → aA → Nat → Prop}
theorem aX9 {c:Cfg} {s:TSt} (hb:aQ c) (hs:BA c s)
 (h: ∀H' nx' i0 i1 i2 i3 wc hc ac tc wm hm am tm,64≤wc→6≤hc→3≤ac→s.told.length≤tc→tc≤tm→nx≤i2→i2<i1→i1<i0→i0<i3→i3<nx'→H' i0=some ⟨1,wm,s.words.map aJ⟩→H' i1=some ⟨1,hm,s.holds.map aJ⟩→H' i2=some ⟨1,am,s.asked.map aJ⟩→H' i3=some ⟨5,tm,s.told.map aS⟩→(∀id,id<nx→H' id=H id)→
  K (dA (oSt i0 i1 i2 i3 wc hc ac tc s)) H' nx'):aB Tryz.prog aI0 [dA (eSt s)] H nx K:=by
 have hwl:=hs.atm.wl
 have hhl:=hs.atm.hl
 have hal:=hs.JI
 refine aB.tW (aQR (hs.aUG hb) fun H' nx' b0 b1 b2 b3 b4 b5 c0 c1 c2 c3 c4 c5 aUV aUW aIG aII aUX aIH aUY ⟨m0,o0,e0,_⟩ ⟨m1,o1,e1,_⟩ ⟨m2,o2,e2,_⟩ o3 o4 ⟨m5,o5,e5,d5⟩ fr=> ?_)
 refine⟨_,without (fun k=>k=b3∨k=b4) H',fun k=>k=b3∨k=b4,?_,kS,h _ nx' b0 b1 b2 b5 c0 c1 c2 c5 m0 m1 m2 m5 (by omega) (by omega) (by omega) e5 d5 aUV aUW aIG (by omega) aUY (by rw[iI (by omega)];exact o0) (by rw[iI (by omega)];exact o1) (by rw[iI (by omega)];exact o2) (by rw[iI (by omega)];exact o5) fun id hid=>by rw[iI (by omega)];exact fr id hid⟩
 exact lY (aH (aaF (by omega) rfl rfl hwl.symm rfl) (aH (aaF (by omega) rfl rfl hhl.symm rfl) (aH (aaF (by omega) rfl rfl hal.symm rfl) (aH (o3.frz dZ (by simp)) (aH (o4.frz dZ (by simp)) (aH (aaF (by omega) rfl rfl rfl rfl) eP))))))
theorem aXX {c:Cfg} {s:TSt} {i0 i1 i2 i3 wc hc ac tc wm hm am tm:Nat} (hb:aQ c) (hs:BA c s) (h1:64≤wc) (h2:6≤hc) (h3:3≤ac) (h4:s.told.length≤tc) (o0:H i0=some ⟨1,wm,s.words.map aJ⟩) (o1:H i1=some ⟨1,hm,s.holds.map aJ⟩) (o2:H i2=some ⟨1,am,s.asked.map aJ⟩) (o3:H i3=some ⟨5,tm,s.told.map aS⟩)
 (h:K (dA (eSt s)) (without (fun k=>k=i0∨k=i1∨k=i2∨k=i3) H) nx):aB Tryz.prog aI0 [dA (oSt i0 i1 i2 i3 wc hc ac tc s)] H nx K:=by
 have hwl:=hs.atm.wl
 have hhl:=hs.atm.hl
 have hal:=hs.JI
 refine aB.ao4 (args':=[dA (eSt s)]) (without (fun k=>k=i0∨k=i1∨k=i2∨k=i3) H) (fun k=>k=i0∨k=i1∨k=i2∨k=i3) rfl (fun k d0 d h1 h2=> ?_) kS (aLV hb hs hs.ar7 h)
 match k with
 |0=>
  simp only[List.getElem?_cons_zero,Option.some.injEq] at h1 h2
  subst h1;subst h2
  exact lY (aH (bW bF o0 (by omega) (by omega) (by simp)) (aH (bW bF o1 (by omega) (by omega) (by simp)) (aH (bW bF o2 (by omega) (by omega) (by simp)) (aH (bB rfl) (aH (bB rfl) (aH (bW dZ o3 (by omega) (by omega) (by simp)) eP))))))
 |k+1=>simp at h1
theorem aYE {H:aA} {e:Env} {t1 n1 id1 m1 t3:Nat} {cs1:List D1} {d:DV} (he1:e t1= .one (.c (.ptr n1 id1 0 0))) (ho1:H id1=some ⟨n1,m1,[cs1]⟩) (hl1:cs1.length=n1) (he3:e t3= .one d):
 yT H e [.cell t1 n1 true,.tm t3]=some (.tup [.agg cs1,d]):=by
 subst hl1
 simp[yT,VP,he1,he3,tT,ho1,mkV,as1]
theorem aX4:cJ Tryz.prog aXQ Tryz.f48 aXR aXT:=cJ.mk Tryz.func48 (by kernel_rfl) aXW
theorem aX5 (c:Cfg) (s:TSt) (e:Ev) (hcf:jO c) (hf:aTQ s) (hno: ¬(aQ c∧BA c s)):aB Tryz.prog aXQ [dA (cU c),dA (eSt s),dA (eEv e)] .nil 0 fun rr _ nn=>nn=0∧rr.imm=true∧rr= .tup [.agg (eSt stN),.c (cB false)]:=by
 refine aX7 rfl fun Q hQ=> ?_
 unfold aXR
 have e1:=aOH hno
 repeat' (first| (with_reducible first| (refine hK _ _ _ ?_;clear hK K)| (refine hA ?_;clear hA hB A B)|refine Z1 ?_)| (first| (with_reducible first|refine Y2 fun K hK=> ?_|refine Y3 fun A B hA hB=> ?_)| (refine aMQ hcf hf ?_))<;>(simp only[go_sem,e1])| ((with_reducible refine Y8 ?_);try simp only[AQ.then,AQ.blk,reduceIte,Nat.reduceEqDiff])|fail)
 exact V4 hQ (.tup [.agg (eSt stN),.c (cB false)]) _ rfl (ay7 (ayY (aH xG (aH xG (aH xG (aH xG (aH xG (aH xG eP))))))) (azN (bB rfl))) rfl rfl
theorem aX2 {c:Cfg} {s:TSt} {e:Ev} (hcf:jO c) (hf:aTQ s) (hno: ¬(aQ c∧BA c s)) (h:K (.tup [.agg (eSt stN),.c (cB false)]) H nx):aB Tryz.prog aXQ [dA (cU c),dA (eSt s),dA (eEv e)] H nx K:=
 (aX5 c s e hcf hf hno).fresh rfl (fun r hr=>hr▸h)
theorem aX1 {c:Cfg} {s:TSt} {e:Ev} (hb:aQ c) (hcf:jO c) (hs:BA c s)
 (h: ∀H' nx',nx≤nx'→(∀id,id<nx→H' id=H id)→K (.tup [.agg (eSt (if X6 c s e=0 then lS c s e else s)),.c (cB (decide (X6 c s e=0)))]) H' nx'):aB Tryz.prog aXQ [dA (cU c),dA (eSt s),dA (eEv e)] H nx K:=by
 refine aX4 rfl fun Q hQ=> ?_
 unfold aXR
 have e1:=aTX hb hs
 have hM: ∀(d k:Nat) (G:aA),d=nx+9→msk d [k] G nx=G nx∧msk d [k] G (nx+1)=G (nx+1)∧msk d [k] G (nx+2)=G (nx+2):=fun d k G hd=>⟨mk1 (by omega),mk1 (by omega),mk1 (by omega)⟩
 have hM1: ∀(k:Nat) (G:aA),msk (nx+9) [k] G nx=G nx:=fun k G=>mk1 (by omega)
 have hM2: ∀(k:Nat) (G:aA),msk (nx+9) [k] G (nx+1)=G (nx+1):=fun k G=>mk1 (by omega)
 have hM3: ∀(k:Nat) (G:aA),msk (nx+9) [k] G (nx+2)=G (nx+2):=fun k G=>mk1 (by omega)
 repeat' (first| (with_reducible first| (refine hK _ _ _ ?_;clear hK K)| (refine hB ?_;clear hA hB A B)|refine Z1 ?_|refine Z2 ?_)| (first| (with_reducible first|refine Y2 fun K hK=> ?_|refine Y3 fun A B hA hB=> ?_)| (refine aMQ hcf (hs.aUG hb) ?_))<;>(simp only[go_sem,Nat.add_assoc,Nat.left_eq_add,Nat.add_eq_left,e1,hM1,hM2,hM3])|fail)
 refine aX9 hb hs fun H1 nx1 i0 i1 i2 i3 wc hc ac tc wm hm am tm k1 k2 k3 k4 k5 k6 k7 k8 k9 k10 o0 o1 o2 o3 fr=> ?_
 simp only[go_sem]
 generalize aU3:dT (nx+9) [8] _ H1=U
 have aXL:U nx=some ⟨3,1,[cU c]⟩:=by rw[←aU3,um1 (by omega),fr _ (by omega)];exact(by simp only[aA.set,aA.del,Nat.add_assoc,Nat.reduceAdd,Nat.add_left_cancel_iff,Nat.reduceEqDiff,Nat.left_eq_add,Nat.add_eq_left,if_true,if_false];done)
 have aUV:U (nx+2)=some ⟨3,1,[eEv e]⟩:=by rw[←aU3,um1 (by omega),fr _ (by omega)];exact(by simp only[aA.set,aA.del,Nat.add_assoc,Nat.reduceAdd,Nat.add_left_cancel_iff,Nat.reduceEqDiff,Nat.left_eq_add,Nat.add_eq_left,if_true,if_false];done)
 have aUW:U (nx+3)=some ⟨6,1,[[.osl 0 0 0 0 0,.osl 0 0 0 0 0,.osl 0 0 0 0 0,.osl 0 0 0 0 0,.osl 0 0 0 0 0,.osl 0 0 0 0 0]]⟩:=by rw[←aU3,um1 (by omega),fr _ (by omega)];exact(by simp only[aA.set,aA.del,Nat.add_assoc,Nat.reduceAdd,Nat.add_left_cancel_iff,Nat.reduceEqDiff,Nat.left_eq_add,Nat.add_eq_left,if_true,if_false];done)
 have aIG:U (nx+17)=some ⟨6,1,[[.osl 0 0 0 0 0,.osl 0 0 0 0 0,.osl 0 0 0 0 0,.osl 0 0 0 0 0,.osl 0 0 0 0 0,.osl 0 0 0 0 0]]⟩:=by rw[show nx+17=nx+9+8 from rfl,←aU3,aH6];exact aA.bH
 have aII:U i0=some ⟨1,wm,s.words.map aJ⟩:=by rw[←aU3,um1 (by omega)];exact o0
 have aUX:U i1=some ⟨1,hm,s.holds.map aJ⟩:=by rw[←aU3,um1 (by omega)];exact o1
 have aIH:U i2=some ⟨1,am,s.asked.map aJ⟩:=by rw[←aU3,um1 (by omega)];exact o2
 have aUY:U i3=some ⟨5,tm,s.told.map aS⟩:=by rw[←aU3,um1 (by omega)];exact o3
 have uf: ∀id,id<nx→U id=H id:=fun id hid=>by rw[←aU3,um1 (by omega),fr _ (by omega),aA.aC (by omega),aA.aC (by omega),aA.aC (by omega),aA.aC (by omega),mk1 (by omega)]
 clear aU3 o0 o1 o2 o3 fr
 simp only[aXL,aUV]
 refine⟨⟨fun _=>rfl,fun _=>rfl⟩,?_⟩
 have m4:msk (nx+9) [8] U i0=_:=(mk1 (by omega)).trans aII
 have m5:msk (nx+9) [8] U i1=_:=(mk1 (by omega)).trans aUX
 have aHI:msk (nx+9) [8] U i2=_:=(mk1 (by omega)).trans aIH
 have aHJ:msk (nx+9) [8] U i3=_:=(mk1 (by omega)).trans aUY
 refine aO4 hb hs k1 k2 k3 k4 k5 (by omega) (by omega) (by omega) (by omega) (by simp;omega) m4 m5 aHI aHJ (fun hw tc' tm' ht1 ht2=> ?_) (fun hw=> ?_)
 ·generalize hV:aA.set _ nx1 _=V
  simp only[go_sem]
  generalize aYL:dT (nx+9) [8] U V=W
  have hA:bQ nx1 [nx,nx+3,nx+17,i0,i1,i2,i3]:=AM.apart (by simp;omega) (by simp;omega)
  simp only[bQ,eZ] at hA
  have w2:W (nx+3)=some ⟨6,1,[[.osl 0 0 0 0 0,.osl 0 0 0 0 0,.osl 0 0 0 0 0,.osl 0 0 0 0 0,.osl 0 0 0 0 0,.osl 0 0 0 0 0]]⟩:=by rw[←aYL,um1 (by omega),←hV,aA.aC (by omega),aA.jG (by omega),aA.aC (by omega),aA.aC (by omega),aA.aC (by omega),mk1 (by omega)];exact aUW
  have w3:W (nx+17)=some ⟨6,1,[[.osl 0 0 0 0 0,.osl 0 0 0 0 0,.osl 0 0 0 0 0,.osl 0 0 0 0 0,.osl 0 0 0 0 0,.osl 0 0 0 0 0]]⟩:=by rw[show nx+17=nx+9+8 from rfl,←aYL,aH6];exact aIG
  have w4:W i0=some ⟨1,wm,(lS c s e).words.map aJ⟩:=by rw[←aYL,um1 (by omega),←hV];exact(by simp only[aA.set,aA.del,Nat.add_assoc,Nat.reduceAdd,Nat.add_left_cancel_iff,Nat.reduceEqDiff,Nat.left_eq_add,Nat.add_eq_left,if_true,if_false,hA];done)
  have w5:W i1=some ⟨1,hm,(lS c s e).holds.map aJ⟩:=by rw[←aYL,um1 (by omega),←hV];exact(by simp only[aA.set,aA.del,Nat.add_assoc,Nat.reduceAdd,Nat.add_left_cancel_iff,Nat.reduceEqDiff,Nat.left_eq_add,Nat.add_eq_left,if_true,if_false,hA];done)
  have w6:W i2=some ⟨1,am,(lS c s e).asked.map aJ⟩:=by rw[←aYL,um1 (by omega),←hV];exact(by simp only[aA.set,aA.del,Nat.add_assoc,Nat.reduceAdd,Nat.add_left_cancel_iff,Nat.reduceEqDiff,Nat.left_eq_add,Nat.add_eq_left,if_true,if_false,hA];done)
  have aXP:W nx1=some ⟨5,tm',(lS c s e).told.map aS⟩:=by rw[←aYL,um1 (by omega),←hV];exact(by simp only[aA.set,aA.del,Nat.add_assoc,Nat.reduceAdd,Nat.add_left_cancel_iff,Nat.reduceEqDiff,Nat.left_eq_add,Nat.add_eq_left,if_true,if_false,hA];done)
  have wf: ∀id,id<nx→W id=H id:=fun id hid=>by rw[←aYL,um1 (by omega),←hV,aA.aC (by omega),aA.jG (by omega),aA.aC (by omega),aA.aC (by omega),aA.aC (by omega),mk1 (by omega)];exact uf id hid
  clear aYL hV aXL aUV aUW aIG aII aUX aIH aUY uf m4 m5 aHI aHJ
  have hA2:bQ (nx1+1) [nx,nx+3,nx+17,i0,i1,i2,nx1]:=AM.apart (by simp;omega) (by simp;omega)
  simp only[bQ,eZ] at hA2
  (try simp only[go_sem,Nat.add_assoc,Nat.left_eq_add,Nat.add_eq_left,w2,w3,hA,akB]);repeat' (first| (with_reducible first| (refine hK _ _ _ ?_;clear hK K)|refine Z1 ?_)| (with_reducible refine Y2 fun K hK=> ?_)<;>(simp only[go_sem,Nat.add_assoc,Nat.left_eq_add,Nat.add_eq_left,w2,w3,hA,akB])|fail)
  refine aXX (wm:=wm) (hm:=hm) (am:=am) (tm:=tm') hb (G9 hb hs hw) k1 k2 k3 ht1 (by simp only[aA.set,aA.del,Nat.add_assoc,Nat.reduceAdd,Nat.add_left_cancel_iff,Nat.reduceEqDiff,Nat.left_eq_add,Nat.add_eq_left,if_true,if_false,hA2,w4];done) (by simp only[aA.set,aA.del,Nat.add_assoc,Nat.reduceAdd,Nat.add_left_cancel_iff,Nat.reduceEqDiff,Nat.left_eq_add,Nat.add_eq_left,if_true,if_false,hA2,w5];done) (by simp only[aA.set,aA.del,Nat.add_assoc,Nat.reduceAdd,Nat.add_left_cancel_iff,Nat.reduceEqDiff,Nat.left_eq_add,Nat.add_eq_left,if_true,if_false,hA2,w6];done) (by simp only[aA.set,aA.del,Nat.add_assoc,Nat.reduceAdd,Nat.add_left_cancel_iff,Nat.reduceEqDiff,Nat.left_eq_add,Nat.add_eq_left,if_true,if_false,hA2,aXP];done) ?_
  generalize hX:without _ _=X
  have x2:X (nx+3)=some ⟨6,1,[[.osl 0 0 0 0 0,.osl 0 0 0 0 0,.osl 0 0 0 0 0,.osl 0 0 0 0 0,.osl 0 0 0 0 0,.osl 0 0 0 0 0]]⟩:=by rw[←hX,iI (by omega),aA.aC (by omega)];exact w2
  have xf: ∀id,id<nx→X id=H id:=fun id hid=>by rw[←hX,iI (by omega),aA.aC (by omega)];exact wf id hid
  clear hX
  (try simp only[go_sem,Nat.add_assoc,Nat.left_eq_add,Nat.add_eq_left,x2]);repeat' (first| (with_reducible (refine hK _ _ _ ?_;clear hK K))| ((with_reducible refine Y8 ?_);try simp only[AQ.then,AQ.blk,reduceIte,Nat.reduceEqDiff])|fail)
  have hh:=fun H' nx'=>h H' nx'
  rw[if_pos hw,decide_eq_true hw] at hh
  exact hQ _ _ _ _ _ (.inr rfl) (aYE (m1:=1) rfl aA.bH rfl rfl) (hh _ _ (by omega) fun id hid=>by rw[aA.aC (by omega)];exact xf id hid)
 ·generalize hV:aA.set _ i3 _=V
  simp only[go_sem]
  generalize aYL:dT (nx+9) [8] U V=W
  have hA:bQ nx1 [nx,nx+3,nx+17,i0,i1,i2,i3]:=AM.apart (by simp;omega) (by simp;omega)
  simp only[bQ,eZ] at hA
  have w2:W (nx+3)=some ⟨6,1,[[.osl 0 0 0 0 0,.osl 0 0 0 0 0,.osl 0 0 0 0 0,.osl 0 0 0 0 0,.osl 0 0 0 0 0,.osl 0 0 0 0 0]]⟩:=by rw[←aYL,um1 (by omega),←hV,aA.aC (by omega),aA.aC (by omega),aA.aC (by omega),aA.aC (by omega),mk1 (by omega)];exact aUW
  have w3:W (nx+17)=some ⟨6,1,[[.osl 0 0 0 0 0,.osl 0 0 0 0 0,.osl 0 0 0 0 0,.osl 0 0 0 0 0,.osl 0 0 0 0 0,.osl 0 0 0 0 0]]⟩:=by rw[show nx+17=nx+9+8 from rfl,←aYL,aH6];exact aIG
  have w4:W i0=some ⟨1,wm,s.words.map aJ⟩:=by rw[←aYL,um1 (by omega),←hV];exact(by simp only[aA.set,aA.del,Nat.add_assoc,Nat.reduceAdd,Nat.add_left_cancel_iff,Nat.reduceEqDiff,Nat.left_eq_add,Nat.add_eq_left,if_true,if_false,hA];done)
  have w5:W i1=some ⟨1,hm,s.holds.map aJ⟩:=by rw[←aYL,um1 (by omega),←hV];exact(by simp only[aA.set,aA.del,Nat.add_assoc,Nat.reduceAdd,Nat.add_left_cancel_iff,Nat.reduceEqDiff,Nat.left_eq_add,Nat.add_eq_left,if_true,if_false,hA];done)
  have w6:W i2=some ⟨1,am,s.asked.map aJ⟩:=by rw[←aYL,um1 (by omega),←hV];exact(by simp only[aA.set,aA.del,Nat.add_assoc,Nat.reduceAdd,Nat.add_left_cancel_iff,Nat.reduceEqDiff,Nat.left_eq_add,Nat.add_eq_left,if_true,if_false,hA];done)
  have aXP:W i3=some ⟨5,tm,s.told.map aS⟩:=by rw[←aYL,um1 (by omega),←hV];exact(by simp only[aA.set,aA.del,Nat.add_assoc,Nat.reduceAdd,Nat.add_left_cancel_iff,Nat.reduceEqDiff,Nat.left_eq_add,Nat.add_eq_left,if_true,if_false,hA];done)
  have wf: ∀id,id<nx→W id=H id:=fun id hid=>by rw[←aYL,um1 (by omega),←hV,aA.aC (by omega),aA.aC (by omega),aA.aC (by omega),aA.aC (by omega),mk1 (by omega)];exact uf id hid
  clear aYL hV aXL aUV aUW aIG aII aUX aIH aUY uf m4 m5 aHI aHJ
  have hA2:bQ (nx1) [nx,nx+3,nx+17,i0,i1,i2,i3]:=AM.apart (by simp;omega) (by simp;omega)
  simp only[bQ,eZ] at hA2
  (try simp only[go_sem,Nat.add_assoc,Nat.left_eq_add,Nat.add_eq_left,w2,w3,hA,akB]);repeat' (first| (with_reducible first| (refine hK _ _ _ ?_;clear hK K)|refine Z1 ?_)| (with_reducible refine Y2 fun K hK=> ?_)<;>(simp only[go_sem,Nat.add_assoc,Nat.left_eq_add,Nat.add_eq_left,w2,w3,hA,akB])|fail)
  refine aXX (wm:=wm) (hm:=hm) (am:=am) (tm:=tm) hb hs k1 k2 k3 k4 (by simp only[aA.set,aA.del,Nat.add_assoc,Nat.reduceAdd,Nat.add_left_cancel_iff,Nat.reduceEqDiff,Nat.left_eq_add,Nat.add_eq_left,if_true,if_false,hA2,w4];done) (by simp only[aA.set,aA.del,Nat.add_assoc,Nat.reduceAdd,Nat.add_left_cancel_iff,Nat.reduceEqDiff,Nat.left_eq_add,Nat.add_eq_left,if_true,if_false,hA2,w5];done) (by simp only[aA.set,aA.del,Nat.add_assoc,Nat.reduceAdd,Nat.add_left_cancel_iff,Nat.reduceEqDiff,Nat.left_eq_add,Nat.add_eq_left,if_true,if_false,hA2,w6];done) (by simp only[aA.set,aA.del,Nat.add_assoc,Nat.reduceAdd,Nat.add_left_cancel_iff,Nat.reduceEqDiff,Nat.left_eq_add,Nat.add_eq_left,if_true,if_false,hA2,aXP];done) ?_
  generalize hX:without _ _=X
  have x2:X (nx+3)=some ⟨6,1,[[.osl 0 0 0 0 0,.osl 0 0 0 0 0,.osl 0 0 0 0 0,.osl 0 0 0 0 0,.osl 0 0 0 0 0,.osl 0 0 0 0 0]]⟩:=by rw[←hX,iI (by omega),aA.aC (by omega)];exact w2
  have xf: ∀id,id<nx→X id=H id:=fun id hid=>by rw[←hX,iI (by omega),aA.aC (by omega)];exact wf id hid
  clear hX
  (try simp only[go_sem,Nat.add_assoc,Nat.left_eq_add,Nat.add_eq_left,x2]);repeat' (first| (with_reducible (refine hK _ _ _ ?_;clear hK K))| ((with_reducible refine Y8 ?_);try simp only[AQ.then,AQ.blk,reduceIte,Nat.reduceEqDiff])|fail)
  have hh:=fun H' nx'=>h H' nx'
  rw[if_neg hw,decide_eq_false hw] at hh
  exact hQ _ _ _ _ _ (.inr rfl) (aYE (m1:=1) rfl aA.bH rfl rfl) (hh _ _ (by omega) fun id hid=>by rw[aA.aC (by omega)];exact xf id hid)
theorem aX3 {c:Cfg} {s:TSt} {e:Ev} (hcf:jO c) (hf:aTQ s)
 (h: ∀H' nx',nx≤nx'→(∀id,id<nx→H' id=H id)→K (.tup [.agg (eSt (stT c s e)),.c (cB (decide (aTD c s e=0)))]) H' nx'):aB Tryz.prog aXQ [dA (cU c),dA (eSt s),dA (eEv e)] H nx K:=by
 by_cases hb:aQ c∧BA c s
 ·have e1:stT c s e=if X6 c s e=0 then lS c s e else s:=by unfold stT;rw[if_pos (aTX hb.1 hb.2)]
  rw[aT5 hb.1 hb.2,e1] at h
  exact aX1 hb.1 hcf hb.2 h
 ·have e1:aTD c s e=1:=by unfold aTD;rw[aOH hb];rfl
  have e2:stT c s e=stN:=by unfold stT;rw[aOH hb];rfl
  rw[e1,e2] at h
  exact aX2 hcf hf hb (h H nx (Nat.le_refl _) fun _ _=>rfl)
end
end Go.Proofs.YtegiblhkjfiooaaGreat
end
