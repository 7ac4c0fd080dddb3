/- Texts laid together by a program: rules, contracts and the walk that leads to the law. -/
import Derived.Test.YtdkfhdmagdaceaaGreatPE21
import Derived.Test.YtdkfhdmagdaceaaGreatPE23
set_option linter.unusedVariables false
set_option linter.unusedSimpArgs false
set_option linter.unusedSectionVars false
set_option maxRecDepth 100000
set_option maxHeartbeats 8000000
namespace Go.Proofs.YtdkfhdmagdaceaaGreat
open Go Go.AM
section
variable {H : aA} {nx : Nat} {K : D → aA → Nat → Prop}
theorem aX9 {c:Cfg} {s:TSt} (o:aQ c) (b:BA c s)
 (h: ∀H' a i0 i1 d e m n ac f wm hm am tm,64≤m→6≤n→3≤ac→s.told.length≤f→f≤tm→nx≤d→d<i1→i1<i0→i0<e→e<a→H' i0=some ⟨1,wm,s.words.map aJ⟩→H' i1=some ⟨1,hm,s.holds.map aJ⟩→H' d=some ⟨1,am,s.asked.map aJ⟩→H' e=some ⟨5,tm,s.told.map aS⟩→(∀id,id<nx→H' id=H id)→
  K (boR (oSt i0 i1 d e m n ac f s)) H' a):aB Tryz.prog aI0 [boR (eSt s)] H nx K:=by
 have g:=b.atm.wl
 have i:=b.atm.hl
 have j:=b.JI
 refine aB.tW (aQR (b.aUG o) fun H' a boW p q boX boY boZ c0 c1 c2 c3 c4 c5 aUV aUW aIG aII aUX aIH aUY ⟨r,t,boU,_⟩ ⟨m1,u,y,_⟩ ⟨bp3,v,z,_⟩ bqD bqE ⟨bqQ,bqF,w,bk2⟩ x=> ?_)
 refine⟨_,without (fun k=>k=boX∨k=boY) H',fun k=>k=boX∨k=boY,?_,kS,h _ a boW p q boZ c0 c1 c2 c5 r m1 bp3 bqQ (by omega) (by omega) (by omega) w bk2 aUV aUW aIG (by omega) aUY (by rw[iI (by omega)];exact t) (by rw[iI (by omega)];exact u) (by rw[iI (by omega)];exact v) (by rw[iI (by omega)];exact bqF) fun id l=>by rw[iI (by omega)];exact x id l⟩
 exact lY (aH (aaF (by omega) rfl rfl g.symm rfl) (aH (aaF (by omega) rfl rfl i.symm rfl) (aH (aaF (by omega) rfl rfl j.symm rfl) (aH (bqD.frz dZ (by simp)) (aH (bqE.frz dZ (by simp)) (aH (aaF (by omega) rfl rfl rfl rfl) eP))))))
theorem aXX {c:Cfg} {s:TSt} {i0 i1 a b i j ac l wm hm am tm:Nat} (m:aQ c) (e:BA c s) (f:64≤i) (g:6≤j) (u:3≤ac) (v:s.told.length≤l) (n:H i0=some ⟨1,wm,s.words.map aJ⟩) (o:H i1=some ⟨1,hm,s.holds.map aJ⟩) (p:H a=some ⟨1,am,s.asked.map aJ⟩) (bqD:H b=some ⟨5,tm,s.told.map aS⟩)
 (h:K (boR (eSt s)) (without (fun k=>k=i0∨k=i1∨k=a∨k=b) H) nx):aB Tryz.prog aI0 [boR (oSt i0 i1 a b i j ac l s)] H nx K:=by
 have q:=e.atm.wl
 have r:=e.atm.hl
 have t:=e.JI
 refine aB.ao4 (args':=[boR (eSt s)]) (without (fun k=>k=i0∨k=i1∨k=a∨k=b) H) (fun k=>k=i0∨k=i1∨k=a∨k=b) rfl (fun k w d f g=> ?_) kS (aLV m e e.ar7 h)
 match k with
 |0=>simp only[List.getElem?_cons_zero,Option.some.injEq] at f g;subst f;subst g;exact lY (aH (bW bF n (by omega) (by omega) (by simp)) (aH (bW bF o (by omega) (by omega) (by simp)) (aH (bW bF p (by omega) (by omega) (by simp)) (aH (bB rfl) (aH (bB rfl) (aH (bW dZ bqD (by omega) (by omega) (by simp)) eP))))))
 |k+1=>simp at f
theorem aYE {H:aA} {e:Env} {bpN bp0 b m1 bpP:Nat} {a:List D1} {d:DV} (f:e bpN= .one (.c (.ptr bp0 b 0 0))) (g:H b=some ⟨bp0,m1,[a]⟩) (h:a.length=bp0) (i:e bpP= .one d):
 yT H e [.cell bpN bp0 true,.tm bpP]=some (.tup [.agg a,d]):=by
 subst h
 simp[yT,VP,f,i,tT,g,mkV,as1]
theorem aX4:cJ Tryz.prog aXQ Tryz.f12 aXR aXT:=cJ.mk Tryz.func12 (by kernel_rfl) aXW
theorem aX5 (c:Cfg) (s:TSt) (e:Ev) (a:jO c) (h:aTQ s) (b: ¬(aQ c∧BA c s)):aB Tryz.prog aXQ [boR (cU c),boR (eSt s),boR (eEv e)] .nil 0 fun d _ i=>i=0∧d.imm=true∧d= .tup [.agg (eSt stN),.c (cB false)]:=by
 refine aX7 rfl fun Q j=> ?_;unfold aXR;have k:=aOH b;repeat' first| (with_reducible first| (apply f _ _ _;clear f K)| (apply g;clear g hB A B)|apply btD)| (first| (with_reducible first|refine btI fun K f=> ?_|refine btJ fun A B g hB=> ?_)| (apply aMQ a h))<;>(simp only[go_sem,k])| ((with_reducible apply btK);try simp only[AQ.then,AQ.blk,reduceIte,Nat.reduceEqDiff])|fail
 exact V4 j (.tup [.agg (eSt stN),.c (cB false)]) _ rfl (ay7 (ayY (aH xG (aH xG (aH xG (aH xG (aH xG (aH xG eP))))))) (azN (bB rfl))) rfl rfl
theorem aX2 {c:Cfg} {s:TSt} {e:Ev} (a:jO c) (d:aTQ s) (b: ¬(aQ c∧BA c s)) (h:K (.tup [.agg (eSt stN),.c (cB false)]) H nx):aB Tryz.prog aXQ [boR (cU c),boR (eSt s),boR (eEv e)] H nx K:=(aX5 c s e a d b).fresh rfl (fun r hr=>hr▸h)
theorem aX1 {c:Cfg} {s:TSt} {e:Ev} (n:aQ c) (w:jO c) (q:BA c s)
 (h: ∀H' j,nx≤j→(∀id,id<nx→H' id=H id)→K (.tup [.agg (eSt (if X6 c s e=0 then lS c s e else s)),.c (cB (decide (X6 c s e=0)))]) H' j):aB Tryz.prog aXQ [boR (cU c),boR (eSt s),boR (eEv e)] H nx K:=by
 refine aX4 rfl fun Q J=> ?_
 unfold aXR
 have P:=aTX n q
 have Z: ∀(d k:Nat) (G:aA),d=nx+9→msk d [k] G nx=G nx∧msk d [k] G (nx+1)=G (nx+1)∧msk d [k] G (nx+2)=G (nx+2):=fun d k G hd=>⟨mk1 (by omega),mk1 (by omega),mk1 (by omega)⟩
 have x: ∀(k:Nat) (G:aA),msk (nx+9) [k] G nx=G nx:=fun k G=>mk1 (by omega)
 have y: ∀(k:Nat) (G:aA),msk (nx+9) [k] G (nx+1)=G (nx+1):=fun k G=>mk1 (by omega)
 have z: ∀(k:Nat) (G:aA),msk (nx+9) [k] G (nx+2)=G (nx+2):=fun k G=>mk1 (by omega)
 repeat' first| (with_reducible first| (apply l _ _ _;clear l K)| (apply hB;clear f hB A B)|apply btD|apply btE)| (first| (with_reducible first|refine btI fun K l=> ?_|refine btJ fun A B f hB=> ?_)| (apply aMQ w (q.aUG n)))<;>(simp only[go_sem,boC,P,x,y,z])|fail
 refine aX9 n q fun H1 g i0 i1 m o wc hc ac tc wm hm am tm C D E L R k6 k7 k8 k9 S M N O bqD r=> ?_
 simp only[go_sem]
 generalize aU3:dT (nx+9) [8] _ H1=U
 have aXL:U nx=some ⟨3,1,[cU c]⟩:=by rw[←aU3,um1 (by omega),r _ (by omega)];exact(by simp only[aA.set,aA.del,t1,Nat.reduceAdd,bqU,Nat.reduceEqDiff,bqT,bqV,if_true,if_false];done)
 have aUV:U (nx+2)=some ⟨3,1,[eEv e]⟩:=by rw[←aU3,um1 (by omega),r _ (by omega)];exact(by simp only[aA.set,aA.del,t1,Nat.reduceAdd,bqU,Nat.reduceEqDiff,bqT,bqV,if_true,if_false];done)
 have aUW:U (nx+3)=some ⟨6,1,[[.osl 0 0 0 0 0,.osl 0 0 0 0 0,.osl 0 0 0 0 0,.osl 0 0 0 0 0,.osl 0 0 0 0 0,.osl 0 0 0 0 0]]⟩:=by rw[←aU3,um1 (by omega),r _ (by omega)];exact(by simp only[aA.set,aA.del,t1,Nat.reduceAdd,bqU,Nat.reduceEqDiff,bqT,bqV,if_true,if_false];done)
 have aIG:U (nx+17)=some ⟨6,1,[[.osl 0 0 0 0 0,.osl 0 0 0 0 0,.osl 0 0 0 0 0,.osl 0 0 0 0 0,.osl 0 0 0 0 0,.osl 0 0 0 0 0]]⟩:=by rw[show nx+17=nx+9+8 from rfl,←aU3,aH6];exact aA.bH
 have aII:U i0=some ⟨1,wm,s.words.map aJ⟩:=by rw[←aU3,um1 (by omega)];exact M
 have aUX:U i1=some ⟨1,hm,s.holds.map aJ⟩:=by rw[←aU3,um1 (by omega)];exact N
 have aIH:U m=some ⟨1,am,s.asked.map aJ⟩:=by rw[←aU3,um1 (by omega)];exact O
 have aUY:U o=some ⟨5,tm,s.told.map aS⟩:=by rw[←aU3,um1 (by omega)];exact bqD
 have v: ∀id,id<nx→U id=H id:=fun id a=>by rw[←aU3,um1 (by omega),r _ (by omega),aA.aC (by omega),aA.aC (by omega),aA.aC (by omega),aA.aC (by omega),mk1 (by omega)]
 clear aU3 M N O bqD r
 simp only[aXL,aUV]
 refine⟨⟨fun _=>rfl,fun _=>rfl⟩,?_⟩
 have bqN:msk (nx+9) [8] U i0=_:=(mk1 (by omega)).trans aII
 have bqQ:msk (nx+9) [8] U i1=_:=(mk1 (by omega)).trans aUX
 have aHI:msk (nx+9) [8] U m=_:=(mk1 (by omega)).trans aIH
 have aHJ:msk (nx+9) [8] U o=_:=(mk1 (by omega)).trans aUY
 refine aO4 n q C D E L R (by omega) (by omega) (by omega) (by omega) (by simp;omega) bqN bqQ aHI aHJ (fun hw T t F Y=> ?_) (fun hw=> ?_)
 ·generalize i:aA.set _ g _=V;simp only[go_sem];generalize aYL:dT (nx+9) [8] U V=W;have f:bQ g [nx,nx+3,nx+17,i0,i1,m,o]:=AM.apart (by simp;omega) (by simp;omega);simp only[bQ,eZ] at f;have bqI:W (nx+3)=some ⟨6,1,[[.osl 0 0 0 0 0,.osl 0 0 0 0 0,.osl 0 0 0 0 0,.osl 0 0 0 0 0,.osl 0 0 0 0 0,.osl 0 0 0 0 0]]⟩:=by rw[←aYL,um1 (by omega),←i,aA.aC (by omega),aA.jG (by omega),aA.aC (by omega),aA.aC (by omega),aA.aC (by omega),mk1 (by omega)];exact aUW
  have bk6:W (nx+17)=some ⟨6,1,[[.osl 0 0 0 0 0,.osl 0 0 0 0 0,.osl 0 0 0 0 0,.osl 0 0 0 0 0,.osl 0 0 0 0 0,.osl 0 0 0 0 0]]⟩:=by rw[show nx+17=nx+9+8 from rfl,←aYL,aH6];exact aIG
  have bk5:W i0=some ⟨1,wm,(lS c s e).words.map aJ⟩:=by rw[←aYL,um1 (by omega),←i];exact(by simp only[aA.set,aA.del,t1,Nat.reduceAdd,bqU,Nat.reduceEqDiff,bqT,bqV,if_true,if_false,f];done)
  have bk7:W i1=some ⟨1,hm,(lS c s e).holds.map aJ⟩:=by rw[←aYL,um1 (by omega),←i];exact(by simp only[aA.set,aA.del,t1,Nat.reduceAdd,bqU,Nat.reduceEqDiff,bqT,bqV,if_true,if_false,f];done)
  have bk8:W m=some ⟨1,am,(lS c s e).asked.map aJ⟩:=by rw[←aYL,um1 (by omega),←i];exact(by simp only[aA.set,aA.del,t1,Nat.reduceAdd,bqU,Nat.reduceEqDiff,bqT,bqV,if_true,if_false,f];done)
  have aXP:W g=some ⟨5,t,(lS c s e).told.map aS⟩:=by rw[←aYL,um1 (by omega),←i];exact(by simp only[aA.set,aA.del,t1,Nat.reduceAdd,bqU,Nat.reduceEqDiff,bqT,bqV,if_true,if_false,f];done)
  have wf: ∀id,id<nx→W id=H id:=fun id a=>by rw[←aYL,um1 (by omega),←i,aA.aC (by omega),aA.jG (by omega),aA.aC (by omega),aA.aC (by omega),aA.aC (by omega),mk1 (by omega)];exact v id a
  clear aYL i aXL aUV aUW aIG aII aUX aIH aUY v bqN bqQ aHI aHJ;have b:bQ (g+1) [nx,nx+3,nx+17,i0,i1,m,g]:=AM.apart (by simp;omega) (by simp;omega);simp only[bQ,eZ] at b;(try simp only[go_sem,boC,bqI,bk6,f,akB]);repeat' first| (with_reducible first| (apply l _ _ _;clear l K)|apply btD)| (with_reducible refine btI fun K l=> ?_)<;>(simp only[go_sem,boC,bqI,bk6,f,akB])|fail
  apply aXX (wm:=wm) (hm:=hm) (am:=am) (tm:=t) n (G9 n q hw) C D E F (by simp only[aA.set,aA.del,t1,Nat.reduceAdd,bqU,Nat.reduceEqDiff,bqT,bqV,if_true,if_false,b,bk5];done) (by simp only[aA.set,aA.del,t1,Nat.reduceAdd,bqU,Nat.reduceEqDiff,bqT,bqV,if_true,if_false,b,bk7];done) (by simp only[aA.set,aA.del,t1,Nat.reduceAdd,bqU,Nat.reduceEqDiff,bqT,bqV,if_true,if_false,b,bk8];done) (by simp only[aA.set,aA.del,t1,Nat.reduceAdd,bqU,Nat.reduceEqDiff,bqT,bqV,if_true,if_false,b,aXP];done);generalize p:without _ _=X;have bpZ:X (nx+3)=some ⟨6,1,[[.osl 0 0 0 0 0,.osl 0 0 0 0 0,.osl 0 0 0 0 0,.osl 0 0 0 0 0,.osl 0 0 0 0 0,.osl 0 0 0 0 0]]⟩:=by rw[←p,iI (by omega),aA.aC (by omega)];exact bqI
  have I: ∀id,id<nx→X id=H id:=fun id a=>by rw[←p,iI (by omega),aA.aC (by omega)];exact wf id a
  clear p;(try simp only[go_sem,boC,bpZ]);repeat' first| (with_reducible (apply l _ _ _;clear l K))| ((with_reducible apply btK);try simp only[AQ.then,AQ.blk,reduceIte,Nat.reduceEqDiff])|fail
  have u:=fun H' j=>h H' j;rw[if_pos hw,decide_eq_true hw] at u;exact J _ _ _ _ _ (.inr rfl) (aYE (m1:=1) rfl aA.bH rfl rfl) (u _ _ (by omega) fun id a=>by rw[aA.aC (by omega)];exact I id a)
 ·generalize i:aA.set _ o _=V;simp only[go_sem];generalize aYL:dT (nx+9) [8] U V=W;have f:bQ g [nx,nx+3,nx+17,i0,i1,m,o]:=AM.apart (by simp;omega) (by simp;omega);simp only[bQ,eZ] at f;have bqI:W (nx+3)=some ⟨6,1,[[.osl 0 0 0 0 0,.osl 0 0 0 0 0,.osl 0 0 0 0 0,.osl 0 0 0 0 0,.osl 0 0 0 0 0,.osl 0 0 0 0 0]]⟩:=by rw[←aYL,um1 (by omega),←i,aA.aC (by omega),aA.aC (by omega),aA.aC (by omega),aA.aC (by omega),mk1 (by omega)];exact aUW
  have bk6:W (nx+17)=some ⟨6,1,[[.osl 0 0 0 0 0,.osl 0 0 0 0 0,.osl 0 0 0 0 0,.osl 0 0 0 0 0,.osl 0 0 0 0 0,.osl 0 0 0 0 0]]⟩:=by rw[show nx+17=nx+9+8 from rfl,←aYL,aH6];exact aIG
  have bk5:W i0=some ⟨1,wm,s.words.map aJ⟩:=by rw[←aYL,um1 (by omega),←i];exact(by simp only[aA.set,aA.del,t1,Nat.reduceAdd,bqU,Nat.reduceEqDiff,bqT,bqV,if_true,if_false,f];done)
  have bk7:W i1=some ⟨1,hm,s.holds.map aJ⟩:=by rw[←aYL,um1 (by omega),←i];exact(by simp only[aA.set,aA.del,t1,Nat.reduceAdd,bqU,Nat.reduceEqDiff,bqT,bqV,if_true,if_false,f];done)
  have bk8:W m=some ⟨1,am,s.asked.map aJ⟩:=by rw[←aYL,um1 (by omega),←i];exact(by simp only[aA.set,aA.del,t1,Nat.reduceAdd,bqU,Nat.reduceEqDiff,bqT,bqV,if_true,if_false,f];done)
  have aXP:W o=some ⟨5,tm,s.told.map aS⟩:=by rw[←aYL,um1 (by omega),←i];exact(by simp only[aA.set,aA.del,t1,Nat.reduceAdd,bqU,Nat.reduceEqDiff,bqT,bqV,if_true,if_false,f];done)
  have wf: ∀id,id<nx→W id=H id:=fun id a=>by rw[←aYL,um1 (by omega),←i,aA.aC (by omega),aA.aC (by omega),aA.aC (by omega),aA.aC (by omega),mk1 (by omega)];exact v id a
  clear aYL i aXL aUV aUW aIG aII aUX aIH aUY v bqN bqQ aHI aHJ;have b:bQ (g) [nx,nx+3,nx+17,i0,i1,m,o]:=AM.apart (by simp;omega) (by simp;omega);simp only[bQ,eZ] at b;(try simp only[go_sem,boC,bqI,bk6,f,akB]);repeat' first| (with_reducible first| (apply l _ _ _;clear l K)|apply btD)| (with_reducible refine btI fun K l=> ?_)<;>(simp only[go_sem,boC,bqI,bk6,f,akB])|fail
  apply aXX (wm:=wm) (hm:=hm) (am:=am) (tm:=tm) n q C D E L (by simp only[aA.set,aA.del,t1,Nat.reduceAdd,bqU,Nat.reduceEqDiff,bqT,bqV,if_true,if_false,b,bk5];done) (by simp only[aA.set,aA.del,t1,Nat.reduceAdd,bqU,Nat.reduceEqDiff,bqT,bqV,if_true,if_false,b,bk7];done) (by simp only[aA.set,aA.del,t1,Nat.reduceAdd,bqU,Nat.reduceEqDiff,bqT,bqV,if_true,if_false,b,bk8];done) (by simp only[aA.set,aA.del,t1,Nat.reduceAdd,bqU,Nat.reduceEqDiff,bqT,bqV,if_true,if_false,b,aXP];done);generalize p:without _ _=X;have bpZ:X (nx+3)=some ⟨6,1,[[.osl 0 0 0 0 0,.osl 0 0 0 0 0,.osl 0 0 0 0 0,.osl 0 0 0 0 0,.osl 0 0 0 0 0,.osl 0 0 0 0 0]]⟩:=by rw[←p,iI (by omega),aA.aC (by omega)];exact bqI
  have I: ∀id,id<nx→X id=H id:=fun id a=>by rw[←p,iI (by omega),aA.aC (by omega)];exact wf id a
  clear p;(try simp only[go_sem,boC,bpZ]);repeat' first| (with_reducible (apply l _ _ _;clear l K))| ((with_reducible apply btK);try simp only[AQ.then,AQ.blk,reduceIte,Nat.reduceEqDiff])|fail
  have u:=fun H' j=>h H' j;rw[if_neg hw,decide_eq_false hw] at u;exact J _ _ _ _ _ (.inr rfl) (aYE (m1:=1) rfl aA.bH rfl rfl) (u _ _ (by omega) fun id a=>by rw[aA.aC (by omega)];exact I id a)
theorem aX3 {c:Cfg} {s:TSt} {e:Ev} (b:jO c) (g:aTQ s)
 (h: ∀H' d,nx≤d→(∀id,id<nx→H' id=H id)→K (.tup [.agg (eSt (stT c s e)),.c (cB (decide (aTD c s e=0)))]) H' d):aB Tryz.prog aXQ [boR (cU c),boR (eSt s),boR (eEv e)] H nx K:=by
 by_cases a:aQ c∧BA c s
 ·have f:stT c s e=if X6 c s e=0 then lS c s e else s:=by unfold stT;rw[if_pos (aTX a.1 a.2)]
  rw[aT5 a.1 a.2,f] at h;exact aX1 a.1 b a.2 h
 ·have f:aTD c s e=1:=by unfold aTD;rw[aOH a];rfl
  have i:stT c s e=stN:=by unfold stT;rw[aOH a];rfl
  rw[f,i] at h;exact aX2 b g a (h H nx (m5 _) fun _ _=>rfl)
end
end Go.Proofs.YtdkfhdmagdaceaaGreat
