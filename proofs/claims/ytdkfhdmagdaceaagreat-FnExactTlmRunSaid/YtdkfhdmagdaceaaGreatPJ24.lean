/- Texts laid together by a program: rules, contracts and the walk that leads to the law. -/
import Derived.Test.YtdkfhdmagdaceaaGreatPJ21
import Derived.Test.YtdkfhdmagdaceaaGreatPJ23
set_option linter.unusedVariables false
set_option linter.unusedSimpArgs false
set_option linter.unusedSectionVars false
set_option maxRecDepth 100000
set_option maxHeartbeats 8000000
namespace Go.Proofs.YtdkfhdmagdaceaaGreat
open Go Go.AM
section
variable {H : aA} {nx : Nat} {K : D → aA → Nat → Prop}
theorem aX9 {c:Cfg} {s:TSt} (o:aQ c) (b:BA c s)
 (h: ∀H' a i0 i1 d e m n ac f wm hm am tm,64≤m→6≤n→3≤ac→s.told.length≤f→f≤tm→nx≤d→d<i1→i1<i0→i0<e→e<a→H' i0=some ⟨1,wm,s.words.map aJ⟩→H' i1=some ⟨1,hm,s.holds.map aJ⟩→H' d=some ⟨1,am,s.asked.map aJ⟩→H' e=some ⟨5,tm,s.told.map aS⟩→(∀id,id<nx→H' id=H id)→
  K (boR (oSt i0 i1 d e m n ac f s)) H' a):aB Tryz.prog aI0 [boR (eSt s)] H nx K:=by
 have g:=b.atm.wl
 have i:=b.atm.hl
 have j:=b.JI
 refine aB.tW (aQR (b.aUG o) fun H' a boW p q boX boY boZ c0 c1 c2 c3 c4 c5 aUV aUW aIG aII aUX aIH aUY ⟨r,t,boU,_⟩ ⟨m1,u,y,_⟩ ⟨bp3,v,z,_⟩ bqD bqE ⟨bqQ,bqF,w,bk2⟩ x=> ?_)
 refine⟨_,without (fun k=>k=boX∨k=boY) H',fun k=>k=boX∨k=boY,?_,kS,h _ a boW p q boZ c0 c1 c2 c5 r m1 bp3 bqQ (by omega) (by omega) (by omega) w bk2 aUV aUW aIG (by omega) aUY (by rw[iI (by omega)];exact t) (by rw[iI (by omega)];exact u) (by rw[iI (by omega)];exact v) (by rw[iI (by omega)];exact bqF) fun id l=>by rw[iI (by omega)];exact x id l⟩
 exact lY (aH (aaF (by omega) rfl rfl g.symm rfl) (aH (aaF (by omega) rfl rfl i.symm rfl) (aH (aaF (by omega) rfl rfl j.symm rfl) (aH (bqD.frz dZ (by simp)) (aH (bqE.frz dZ (by simp)) (aH (aaF (by omega) rfl rfl rfl rfl) eP))))))
theorem aXX {c:Cfg} {s:TSt} {i0 i1 a b i j ac l wm hm am tm:Nat} (m:aQ c) (e:BA c s) (f:64≤i) (g:6≤j) (u:3≤ac) (v:s.told.length≤l) (n:H i0=some ⟨1,wm,s.words.map aJ⟩) (o:H i1=some ⟨1,hm,s.holds.map aJ⟩) (p:H a=some ⟨1,am,s.asked.map aJ⟩) (bqD:H b=some ⟨5,tm,s.told.map aS⟩)
 (h:K (boR (eSt s)) (without (fun k=>k=i0∨k=i1∨k=a∨k=b) H) nx):aB Tryz.prog aI0 [boR (oSt i0 i1 a b i j ac l s)] H nx K:=by
 have q:=e.atm.wl
 have r:=e.atm.hl
 have t:=e.JI
 refine aB.ao4 (args':=[boR (eSt s)]) (without (fun k=>k=i0∨k=i1∨k=a∨k=b) H) (fun k=>k=i0∨k=i1∨k=a∨k=b) rfl (fun k w d f g=> ?_) kS (aLV m e e.ar7 h)
 match k with
 |0=>simp only[List.getElem?_cons_zero,Option.some.injEq] at f g;subst f;subst g;exact lY (aH (bW bF n (by omega) (by omega) (by simp)) (aH (bW bF o (by omega) (by omega) (by simp)) (aH (bW bF p (by omega) (by omega) (by simp)) (aH (bB rfl) (aH (bB rfl) (aH (bW dZ bqD (by omega) (by omega) (by simp)) eP))))))
 |k+1=>simp at f
theorem aYE {H:aA} {e:Env} {bpN bp0 b m1 bpP:Nat} {a:List D1} {d:DV} (f:e bpN= .one (.c (.ptr bp0 b 0 0))) (g:H b=some ⟨bp0,m1,[a]⟩) (h:a.length=bp0) (i:e bpP= .one d):
 yT H e [.cell bpN bp0 true,.tm bpP]=some (.tup [.agg a,d]):=by
 subst h
 simp[yT,VP,f,i,tT,g,mkV,as1]
theorem aZD (c:Cfg) (s:TSt) (es:List Ev) (a:jO c) (i:aTQ s) (hl:es.length<2^40) (f: ¬((aQ c∧BA c s)∧es.length≤200)):aB Tryz.prog aYN [boR (cU c),boR (eSt s),dS (es.map eEv)] .nil 0 fun j _ l=>l=0∧j.imm=true∧j= .tup [.agg (eSt stN),.c (cI (-1))]:=by
 refine aZC rfl fun Q k=> ?_;unfold aYO;by_cases e:aQ c∧BA c s
 ·have g:=aTX e.1 e.2;have m: ¬es.length≤200:=fun h=>f ⟨e,h⟩;repeat' first| (with_reducible first| (apply b _ _ _;clear b K)| (apply d;clear d hB A B)|apply btD|apply btG (by omega))| (first| (with_reducible first|refine btI fun K b=> ?_|refine btJ fun A B d hB=> ?_)| (apply aMQ a i))<;>(simp only[go_sem,g])| ((with_reducible apply btK);try simp only[AQ.then,AQ.blk,reduceIte,Nat.reduceEqDiff])|fail
  all_goals first| (exfalso;omega)|exact V4 k (.tup [.agg (eSt stN),.c (cI (-1))]) _ rfl (ay7 (ayY (aH xG (aH xG (aH xG (aH xG (aH xG (aH xG eP))))))) (azN (bB rfl))) rfl rfl
 ·have g:=aOH e;repeat' first| (with_reducible first| (apply b _ _ _;clear b K)| (apply d;clear d hB A B)|apply btD)| (first| (with_reducible first|refine btI fun K b=> ?_|refine btJ fun A B d hB=> ?_)| (apply aMQ a i))<;>(simp only[go_sem,g])| ((with_reducible apply btK);try simp only[AQ.then,AQ.blk,reduceIte,Nat.reduceEqDiff])|fail
  exact V4 k (.tup [.agg (eSt stN),.c (cI (-1))]) _ rfl (ay7 (ayY (aH xG (aH xG (aH xG (aH xG (aH xG (aH xG eP))))))) (azN (bB rfl))) rfl rfl
theorem aY8 {c:Cfg} {s:TSt} {es:List Ev} (a:jO c) (d:aTQ s) (hl:es.length<2^40) (b: ¬((aQ c∧BA c s)∧es.length≤200)) (h:K (.tup [.agg (eSt stN),.c (cI (-1))]) H nx):aB Tryz.prog aYN [boR (cU c),boR (eSt s),dS (es.map eEv)] H nx K:=(aZD c s es a d hl b).fresh rfl (fun r hr=>hr▸h)
theorem aZB:cJ Tryz.prog aYN Tryz.f23 aYO aYT:=cJ.mk Tryz.func23 (by kernel_rfl) aYW
theorem aY5 {c:Cfg} {s:TSt} {es:List Ev} (E:aQ c) (aa:jO c) (Y:BA c s) (hlen:es.length≤200)
 (h: ∀H' L,nx≤L→(∀id,id<nx→H' id=H id)→K (.tup [.agg (eSt (runM c s (es.take (b9 c s es)))),.c (cI (b9 c s es))]) H' L):aB Tryz.prog aYN [boR (cU c),boR (eSt s),dS (es.map eEv)] H nx K:=by
 refine aZB rfl fun Q hQ=> ?_
 unfold aYO
 have e1:=aTX E Y
 have ab:=Y.aUG E
 have M:=fun k (v:k≤b9 c s es)=>aPL E Y v
 have ad:=fun k (v:k<b9 c s es)=>aS0 v
 have ae:=aN8 (c:=c) (s:=s) (l:=es)
 have hle:=aNZ (c:=c) (s:=s) (l:=es)
 have o:runM c s (es.take 0)=s:=rfl
 generalize b9 c s es=n at*
 have af:=fun k (v:k<es.length)=>av6 (c:=c) (s:=s) v
 repeat' first| (with_reducible first| (apply m _ _ _;clear m K)| (apply hB;clear a hB A B)|apply btD|apply btE|refine btF fun btO t=> ?_|apply btH (by omega))| (first| (with_reducible first|refine btI fun K m=> ?_|refine btJ fun A B a hB=> ?_)| (apply aMQ aa ab)| (refine aX9 E Y (fun H1 ag i0 i1 p Z wc J ac N wm hm am tm k1 k2 k3 w O k6 k7 k8 k9 au o0 o1 o2 bqD fr=> ?_)))<;>(simp only[go_sem,boC,e1])|fail
 (have ah:=t;clear t)
 obtain⟨S,hS⟩: ∃S:Nat→TSt,S=fun k=>runM c s (es.take k):=⟨_,rfl⟩
 have P: ∀k,runM c s (es.take k)=S k:=fun k=>by rw[hS]
 simp only[P] at*
 clear hS P
 refine aM.aTJ fun bqO i=> ?_
 have R:bQ ag [nx,nx+2,nx+15,i0,i1,p,Z]:=AM.apart (by simp;omega) (by simp;omega)
 simp only[bQ,eZ] at R
 have bqB:bqO nx=some ⟨3,1,[cU c]⟩:=by rw[i,aA.aC (by omega),fr _ (by omega)];exact(by simp only[aA.set,aA.del,t1,Nat.reduceAdd,bqU,Nat.reduceEqDiff,bqT,bqV,if_true,if_false];done)
 have q:bqO (nx+2)=some ⟨6,1,[[.osl 0 0 0 0 0,.osl 0 0 0 0 0,.osl 0 0 0 0 0,.osl 0 0 0 0 0,.osl 0 0 0 0 0,.osl 0 0 0 0 0]]⟩:=by rw[i,aA.aC (by omega),fr _ (by omega)];exact(by simp only[aA.set,aA.del,t1,Nat.reduceAdd,bqU,Nat.reduceEqDiff,bqT,bqV,if_true,if_false];done)
 have r:bqO (nx+15)=some ⟨6,1,[oSt i0 i1 p Z wc J ac N (S 0)]⟩:=by rw[i,o];exact(by simp only[aA.set,aA.del,t1,Nat.reduceAdd,bqU,Nat.reduceEqDiff,bqT,bqV,if_true,if_false];done)
 have x:bqO i0=some ⟨1,wm,(S 0).words.map aJ⟩:=by rw[i,o,aA.aC (by omega)];exact o0
 have y:bqO i1=some ⟨1,hm,(S 0).holds.map aJ⟩:=by rw[i,o,aA.aC (by omega)];exact o1
 have z:bqO p=some ⟨1,am,(S 0).asked.map aJ⟩:=by rw[i,o,aA.aC (by omega)];exact o2
 have C:bqO Z=some ⟨5,tm,(S 0).told.map aS⟩:=by rw[i,o,aA.aC (by omega)];exact bqD
 have D: ∀id,id<nx→bqO id=H id:=fun id f=>by rw[i,aA.aC (by omega),fr _ (by omega),aA.aC (by omega),aA.aC (by omega),aA.aC (by omega)]
 clear i o0 o1 o2 bqD fr
 rw[←o] at w
 refine aM.gP (β:=Nat×Nat×Nat×Nat) (fun u=>en [(9,boP u.1),(8,bkP 6 (nx+15)),(6,bkP 6 (nx+2)),(3,bkP 3 nx),(2,dS (es.map eEv))])
  (fun u H1 bp0=>u.1≤n∧(H1 nx=some ⟨3,1,[cU c]⟩∧H1 (nx+2)=some ⟨6,1,[[.osl 0 0 0 0 0,.osl 0 0 0 0 0,.osl 0 0 0 0 0,.osl 0 0 0 0 0,.osl 0 0 0 0 0,.osl 0 0 0 0 0]]⟩∧H1 (nx+15)=some ⟨6,1,[oSt i0 i1 p u.2.1 wc J ac u.2.2.1 (S u.1)]⟩∧H1 i0=some ⟨1,wm,(S u.1).words.map aJ⟩∧H1 i1=some ⟨1,hm,(S u.1).holds.map aJ⟩∧H1 p=some ⟨1,am,(S u.1).asked.map aJ⟩∧H1 u.2.1=some ⟨5,u.2.2.2,(S u.1).told.map aS⟩)∧((S u.1).told.length≤u.2.2.1∧u.2.2.1≤u.2.2.2∧i0<u.2.1∧u.2.1<bp0)∧ ∀id,id<nx→H1 id=H id) (fun u=>es.length-u.1) (0,Z,N,tm)
  ⟨noF,_,by repeat' first|exact bo2| (with_reducible first|exact bo2|apply bo3)| ((with_reducible apply bo0);exact bpC (by omega) rfl)| ((with_reducible apply bo1);first|exact bo8 rfl|apply bo7)|fail,aK,bxY _,⟨bqB,q,r,x,y,z,C⟩,⟨w,O,k9,by dsimp only;omega⟩,D⟩ ?_
 clear bqB q r x y z C D w O R
 rintro⟨k,b,N,tm⟩ H2 e ai ⟨v,⟨bqB,q,r,x,y,z,C⟩,⟨w,O,bpR,f2⟩,D⟩ bpQ aj
 dsimp only at v r x y z C w O bpR f2
 have F:=M k v
 have a:bQ e [nx,nx+2,nx+15,i0,i1,p,b]:=AM.apart (by simp;omega) (by simp;omega)
 simp only[bQ,eZ] at a
 have ak: ∀(d k:Nat) (G:aA),msk (e+d) [k] G nx=G nx:=fun d k G=>mk1 (by omega)
 have al: ∀(d k:Nat) (G:aA),msk (e+d) [k] G (nx+15)=G (nx+15):=fun d k G=>mk1 (by omega)
 by_cases T:k<es.length
 ·have g:=af k T;repeat' first| (with_reducible first| (apply m _ _ _;clear m K)| (apply a;clear a hB A B)|apply btD|apply btE|refine btF fun btO t=> ?_|apply btG (by omega))| (with_reducible first|refine btI fun K m=> ?_|refine btJ fun A B a hB=> ?_)<;>(simp only[go_sem,boC,bqB,q,r,a,ak,al,akB])|refine⟨by omega,?_⟩|fail
  have bqN:msk (e+4) [10] H2 i0=_:=(mk1 (by omega)).trans x;have bqQ:msk (e+4) [10] H2 i1=_:=(mk1 (by omega)).trans y;have aHI:msk (e+4) [10] H2 p=_:=(mk1 (by omega)).trans z;have aHJ:msk (e+4) [10] H2 b=_:=(mk1 (by omega)).trans C;refine aO4 E F k1 k2 k3 w O (by omega) (by omega) (by omega) (by omega) (by simp;omega) bqN bqQ aHI aHJ (fun hw an U ao aq=> ?_) (fun hw=> ?_)
  ·generalize j:aA.set _ (e+17) _=V;simp only[go_sem];generalize aYL:dT (e+4) [10] _ V=W;have bk1:W nx=some ⟨3,1,[cU c]⟩:=(by rw[←aYL,um1 (by omega),←j,aA.aC (by omega),aA.jG (by omega),aA.aC (by omega),aA.aC (by omega),aA.aC (by omega),mk1 (by omega)];exact bqB);have bqH:W (nx+2)=some ⟨6,1,[[.osl 0 0 0 0 0,.osl 0 0 0 0 0,.osl 0 0 0 0 0,.osl 0 0 0 0 0,.osl 0 0 0 0 0,.osl 0 0 0 0 0]]⟩:=(by rw[←aYL,um1 (by omega),←j,aA.aC (by omega),aA.jG (by omega),aA.aC (by omega),aA.aC (by omega),aA.aC (by omega),mk1 (by omega)];exact q);have bqI:W (nx+15)=some ⟨6,1,[oSt i0 i1 p b wc J ac N (S k)]⟩:=(by rw[←aYL,um1 (by omega),←j,aA.aC (by omega),aA.jG (by omega),aA.aC (by omega),aA.aC (by omega),aA.aC (by omega),mk1 (by omega)];exact r);have bk6:W (e+14)=some ⟨6,1,[[.osl 0 0 0 0 0,.osl 0 0 0 0 0,.osl 0 0 0 0 0,.osl 0 0 0 0 0,.osl 0 0 0 0 0,.osl 0 0 0 0 0]]⟩:=(by rw[show e+14=e+4+10 from rfl,←aYL,aH6];exact aA.bH);have bk5:W i0=some ⟨1,wm,(lS c (S k) (es.getD k default)).words.map aJ⟩:=(by rw[←aYL,um1 (by omega),←j];exact(by simp only[aA.set,aA.del,t1,Nat.reduceAdd,bqU,Nat.reduceEqDiff,bqT,bqV,if_true,if_false,a];done));have bk7:W i1=some ⟨1,hm,(lS c (S k) (es.getD k default)).holds.map aJ⟩:=(by rw[←aYL,um1 (by omega),←j];exact(by simp only[aA.set,aA.del,t1,Nat.reduceAdd,bqU,Nat.reduceEqDiff,bqT,bqV,if_true,if_false,a];done));have bk8:W p=some ⟨1,am,(lS c (S k) (es.getD k default)).asked.map aJ⟩:=(by rw[←aYL,um1 (by omega),←j];exact(by simp only[aA.set,aA.del,t1,Nat.reduceAdd,bqU,Nat.reduceEqDiff,bqT,bqV,if_true,if_false,a];done));have aXP:W (e+17)=some ⟨5,U,(lS c (S k) (es.getD k default)).told.map aS⟩:=(by rw[←aYL,um1 (by omega),←j];exact(by simp only[aA.set,aA.del,t1,Nat.reduceAdd,bqU,Nat.reduceEqDiff,bqT,bqV,if_true,if_false,a];done));have wf: ∀id,id<nx→W id=H id:=fun id f=>by rw[←aYL,um1 (by omega),←j,aA.aC (by omega),aA.jG (by omega),aA.aC (by omega),aA.aC (by omega),aA.aC (by omega),mk1 (by omega)];exact D id f
   clear aYL j bqB q r x y z C D;(try simp only[go_sem,boC,bk1,bqH,bqI,bk6,a,akB]);repeat' first| (with_reducible first| (apply m _ _ _;clear m K)| (apply hB;clear a hB A B)|apply btD|apply btE)| (with_reducible first|refine btI fun K m=> ?_|refine btJ fun A B a hB=> ?_)<;>(simp only[go_sem,boC,bk1,bqH,bqI,bk6,a,akB];try simp (disch:=omega) only[Iw])| ((with_reducible apply btM);simp only[AQ.then,AQ.blk])| (with_reducible apply t _ _ _)|fail
   have ar:k<n:=Classical.byContradiction fun J=>by
    obtain rfl:k=n:=by omega
    exact ae T hw
   exact aj _ _ _ (k+1,e+17,an,U) noF _ (by omega) (by dsimp only;omega) (by dsimp only;repeat' first|exact bo2| (with_reducible first|exact bo2|apply bo3)| ((with_reducible apply bo0);exact bpC (by omega) rfl)| ((with_reducible apply bo1);first|exact bo8 rfl|apply bo7)|fail) aK ⟨ar,⟨(by simp only[aA.set,aA.del,t1,Nat.reduceAdd,bqU,Nat.reduceEqDiff,bqT,bqV,if_true,if_false,a,bk1];done),(by simp only[aA.set,aA.del,t1,Nat.reduceAdd,bqU,Nat.reduceEqDiff,bqT,bqV,if_true,if_false,a,bqH];done),by dsimp only;rw[g];exact(by simp only[aA.set,aA.del,t1,Nat.reduceAdd,bqU,Nat.reduceEqDiff,bqT,bqV,if_true,if_false,a];done),by dsimp only;rw[g];exact(by simp only[aA.set,aA.del,t1,Nat.reduceAdd,bqU,Nat.reduceEqDiff,bqT,bqV,if_true,if_false,a,bk5];done),by dsimp only;rw[g];exact(by simp only[aA.set,aA.del,t1,Nat.reduceAdd,bqU,Nat.reduceEqDiff,bqT,bqV,if_true,if_false,a,bk7];done),by dsimp only;rw[g];exact(by simp only[aA.set,aA.del,t1,Nat.reduceAdd,bqU,Nat.reduceEqDiff,bqT,bqV,if_true,if_false,a,bk8];done),by dsimp only;rw[g];exact(by simp only[aA.set,aA.del,t1,Nat.reduceAdd,bqU,Nat.reduceEqDiff,bqT,bqV,if_true,if_false,a,aXP];done)⟩,⟨by dsimp only;rw[g];exact ao,aq,by dsimp only;omega,by dsimp only;omega⟩,fun id f=>by rw[aA.aC (by omega),aA.aC (by omega)];exact wf id f⟩
  ·generalize j:aA.set _ b _=V;simp only[go_sem];generalize aYL:dT (e+4) [10] _ V=W;have bk1:W nx=some ⟨3,1,[cU c]⟩:=(by rw[←aYL,um1 (by omega),←j,aA.aC (by omega),aA.aC (by omega),aA.aC (by omega),aA.aC (by omega),mk1 (by omega)];exact bqB);have bqH:W (nx+2)=some ⟨6,1,[[.osl 0 0 0 0 0,.osl 0 0 0 0 0,.osl 0 0 0 0 0,.osl 0 0 0 0 0,.osl 0 0 0 0 0,.osl 0 0 0 0 0]]⟩:=(by rw[←aYL,um1 (by omega),←j,aA.aC (by omega),aA.aC (by omega),aA.aC (by omega),aA.aC (by omega),mk1 (by omega)];exact q);have bqI:W (nx+15)=some ⟨6,1,[oSt i0 i1 p b wc J ac N (S k)]⟩:=(by rw[←aYL,um1 (by omega),←j,aA.aC (by omega),aA.aC (by omega),aA.aC (by omega),aA.aC (by omega),mk1 (by omega)];exact r);have bk6:W (e+14)=some ⟨6,1,[[.osl 0 0 0 0 0,.osl 0 0 0 0 0,.osl 0 0 0 0 0,.osl 0 0 0 0 0,.osl 0 0 0 0 0,.osl 0 0 0 0 0]]⟩:=(by rw[show e+14=e+4+10 from rfl,←aYL,aH6];exact aA.bH);have bk5:W i0=some ⟨1,wm,(S k).words.map aJ⟩:=(by rw[←aYL,um1 (by omega),←j];exact(by simp only[aA.set,aA.del,t1,Nat.reduceAdd,bqU,Nat.reduceEqDiff,bqT,bqV,if_true,if_false,a];done));have bk7:W i1=some ⟨1,hm,(S k).holds.map aJ⟩:=(by rw[←aYL,um1 (by omega),←j];exact(by simp only[aA.set,aA.del,t1,Nat.reduceAdd,bqU,Nat.reduceEqDiff,bqT,bqV,if_true,if_false,a];done));have bk8:W p=some ⟨1,am,(S k).asked.map aJ⟩:=(by rw[←aYL,um1 (by omega),←j];exact(by simp only[aA.set,aA.del,t1,Nat.reduceAdd,bqU,Nat.reduceEqDiff,bqT,bqV,if_true,if_false,a];done));have aXP:W b=some ⟨5,tm,(S k).told.map aS⟩:=(by rw[←aYL,um1 (by omega),←j];exact(by simp only[aA.set,aA.del,t1,Nat.reduceAdd,bqU,Nat.reduceEqDiff,bqT,bqV,if_true,if_false,a];done));have wf: ∀id,id<nx→W id=H id:=fun id f=>by rw[←aYL,um1 (by omega),←j,aA.aC (by omega),aA.aC (by omega),aA.aC (by omega),aA.aC (by omega),mk1 (by omega)];exact D id f
   clear aYL j bqB q r x y z C D;(try simp only[go_sem,boC,bk1,bqH,bqI,bk6,a,akB]);repeat' first| (with_reducible first| (apply m _ _ _;clear m K)| (apply a;clear a hB A B)|apply btD)| (with_reducible first|refine btI fun K m=> ?_|refine btJ fun A B a hB=> ?_)<;>(simp only[go_sem,boC,bk1,bqH,bqI,bk6,a,akB])|fail
   obtain rfl:k=n:=Classical.byContradiction fun J=>hw (ad k (by omega));apply aXX (wm:=wm) (hm:=hm) (am:=am) (tm:=tm) E F k1 k2 k3 w (by simp only[aA.set,aA.del,t1,Nat.reduceAdd,bqU,Nat.reduceEqDiff,bqT,bqV,if_true,if_false,a,bk5];done) (by simp only[aA.set,aA.del,t1,Nat.reduceAdd,bqU,Nat.reduceEqDiff,bqT,bqV,if_true,if_false,a,bk7];done) (by simp only[aA.set,aA.del,t1,Nat.reduceAdd,bqU,Nat.reduceEqDiff,bqT,bqV,if_true,if_false,a,bk8];done) (by simp only[aA.set,aA.del,t1,Nat.reduceAdd,bqU,Nat.reduceEqDiff,bqT,bqV,if_true,if_false,a,aXP];done);generalize I:without _ _=X;have bpZ:X (nx+2)=some ⟨6,1,[[.osl 0 0 0 0 0,.osl 0 0 0 0 0,.osl 0 0 0 0 0,.osl 0 0 0 0 0,.osl 0 0 0 0 0,.osl 0 0 0 0 0]]⟩:=(by rw[←I,iI (by omega),aA.aC (by omega)];exact bqH);have xf: ∀id,id<nx→X id=H id:=fun id f=>by rw[←I,iI (by omega),aA.aC (by omega)];exact wf id f
   clear I;(try simp only[go_sem,boC,bpZ]);repeat' first| (with_reducible (apply m _ _ _;clear m K))| ((with_reducible apply btK);try simp only[AQ.then,AQ.blk,reduceIte,Nat.reduceEqDiff])|fail
   exact hQ _ _ _ _ _ (.inr rfl) (aYE (m1:=1) rfl aA.bH rfl rfl) (h _ _ (by omega) fun id f=>by rw[aA.aC (by omega)];exact xf id f)
 ·obtain rfl:n=es.length:=by omega
  obtain rfl:k=es.length:=by omega
  repeat' first| (with_reducible first| (apply m _ _ _;clear m K)| (apply hB;clear a hB A B)|apply btD|apply btH (by omega)|apply ah _ _ _)| (with_reducible first|refine btI fun K m=> ?_|refine btJ fun A B a hB=> ?_)<;>(simp only[go_sem,boC,bqB,q,r,a,akB])| ((with_reducible apply btL);try simp only[AQ.then,AQ.blk,reduceIte,Nat.reduceEqDiff])|fail
  apply aXX E F k1 k2 k3 w x y z C;generalize I:without _ _=X;have bpZ:X (nx+2)=some ⟨6,1,[[.osl 0 0 0 0 0,.osl 0 0 0 0 0,.osl 0 0 0 0 0,.osl 0 0 0 0 0,.osl 0 0 0 0 0,.osl 0 0 0 0 0]]⟩:=by rw[←I,iI (by omega)];exact q
  have xf: ∀id,id<nx→X id=H id:=fun id f=>by rw[←I,iI (by omega)];exact D id f
  clear I;(try simp only[go_sem,boC,bpZ]);repeat' first| (with_reducible (apply m _ _ _;clear m K))| ((with_reducible apply btK);try simp only[AQ.then,AQ.blk,reduceIte,Nat.reduceEqDiff])|fail
  exact hQ _ _ _ _ _ (.inr rfl) (aYE (m1:=1) rfl aA.bH rfl rfl) (h _ _ (by omega) fun id f=>by rw[aA.aC (by omega)];exact xf id f)
end
end Go.Proofs.YtdkfhdmagdaceaaGreat
