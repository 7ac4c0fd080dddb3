/- Texts laid together by a program: rules, contracts and the walk that leads to the law. -/
import Derived.Test.YtmccpdapaccnoaaGreatPT18
import Derived.Test.YtmccpdapaccnoaaGreatPT9
import Derived.Test.YtmccpdapaccnoaaGreatPT15
import Derived.Test.YtmccpdapaccnoaaGreatPT3
import Derived.Test.YtmccpdapaccnoaaGreatPT11
import Derived.Test.YtmccpdapaccnoaaGreatPT8
set_option linter.unusedVariables false
set_option linter.unusedSimpArgs false
set_option linter.unusedSectionVars false
set_option maxRecDepth 100000
set_option maxHeartbeats 8000000
namespace Go.Proofs.YtmccpdapaccnoaaGreat
open Go Go.AM
attribute [local irreducible] aM wv aB vd wvH
section
variable {H : aA} {nx : Nat} {K : D → aA → Nat → Prop}
theorem aP3:cJ Tryz.prog aNJ Tryz.f210 at4 aOA:=cJ.mk Tryz.func210 (by kernel_rfl) aPQ
theorem aS9 {F:Nat→Prop} {bp mp boW c0 cp len0:Nat} {aUU:Prog} {Ps:List Prog} (h:H bp=some ⟨1,mp,[.osl 7 boW 0 len0 c0]::Ps.map jR⟩) (h0:len0=aUU.length) (o:Own eB 7 H boW c0 aUU) (h1:F bp) (h2:F boW) (hc:Ps.length+1≤cp):Frz H F (.isl ((aUU::Ps).map jR)) (.osl 1 bp 0 (Ps.length+1) cp):=by
 subst h0
 obtain⟨m,o1,o2,bqD⟩:=o
 refine QM h1 h rfl (by simp) (by simp) hc fun i r' hr=> ?_
 rw[Y4]
 match i with
 |0=>
  simp only[n3,List.getElem?_cons_zero,Option.some.injEq] at hr
  subst hr
  exact⟨rfl,_,rfl,fO (ay5 (σ:=id) (nh:=0) rfl (bW rL o1 rfl o2 h2)) LH⟩
 |i+1=>
  rw[n3,List.getElem?_cons_succ] at hr
  have:=aG iR _ _ (s3 hr)
  exact⟨this.1,r',hr,amO this.2⟩
theorem aT7 {F:Nat→Prop} {bp mp cp:Nat} {r:List D1} {Ps:List Prog} (h:H bp=some ⟨1,mp,r::Ps.map jR⟩) (h1:F bp) {len:Nat} (hl:len=Ps.length) (hc:len≤cp):Frz H F (.isl (Ps.map jR)) (.osl 1 bp 1 len cp):=by
 subst hl
 refine QM h1 h rfl (by simp) (by simp;omega) hc fun i r' hr=> ?_
 have:=aG iR _ _ (s3 hr)
 exact⟨this.1,r',by rw[Y3];exact hr,amO this.2⟩
theorem aT9 {m:List Rng} {la:List Int} {P:List Prog} (h1:m.length≤8) (h2:la.length≤4) (h3:P.length≤3) (h4: ∀pr∈P,pr.length≤13∧ ∀q∈pr,q.data.length≤8∧q.g6.length≤8):jO ⟨m,la,P⟩:=
 ⟨by dsimp only;omega,by dsimp only;omega,by dsimp only;omega,fun pr hpr=>by have:=(h4 pr hpr).1;omega,fun pr hpr q hq=>by have:=(h4 pr hpr).2 q hq;omega⟩
theorem aTR {q:Req} (h:dH q):q.data.length≤8∧q.g6.length≤8:=by
 obtain⟨_,_,⟨h1,_⟩,h2,h3,_⟩:=h
 unfold n5 at h2 h3
 split at h2<;>omega
theorem aQA {l:List Int} {p i:Nat} {n:Int} (hn:0<n∧n<9000) (hl:kZ l) (hp50:p+1200<2^50) (hi:i<nx) (ho:H i=some (rdO l p))
 (h: ∀H' nx' p' (c:Cfg),nx≤nx'→jO c→p≤p'→p'≤p+1200→H' i=some (rdO l p')→(∀id,id<nx→id≠i→H' id=H id)→K (boR (cU c)) H' nx'):aB Tryz.prog aNJ [bkP 2 i,boP n] H nx K:=by
 apply aB.tW
 refine aP3 rfl fun Q hQ=> ?_
 unfold at4
 have hA:bQ nx [i]:=AM.apart (by simp) (by simp;omega)
 simp only[bQ,eZ] at hA
 repeat' first| (first|apply bn1| (refine aQN (p:=p) hl (by omega) (by omega) (by rw[aA.aC (by omega)];exact ho) (fun H1 nx1 pb m la aUU Ps bl cl bp cp mp boW c0 h1 h2 h3 h4 h5 h6 bqB q3 q5 q4 e1 e2 aUV aUW aIG aII aUX aIH hnd qf=> ?_)))<;>(simp only[go_sem,boC,hA])|fail
 have h3:=h3.1
 have h4:=h4.1
 have h6: ∀pr∈aUU::Ps,pr.length≤12∧ ∀q∈pr,q.data.length≤8∧q.g6.length≤8:=fun pr hpr=>⟨(h6 pr hpr).1,fun q hq=>aTR ((h6 pr hpr).2 q hq)⟩
 have q1:H1 nx=some ⟨3,1,[[.osl 0 0 0 0 0,.osl 0 0 0 0 0,.osl 0 0 0 0 0]]⟩:=by rw[qf _ (by omega) (by omega)];exact aA.bH
 have qf: ∀id,id<nx→id≠i→H1 id=H id:=fun id h1 h2=>by rw[qf id (by omega) h2,aA.aC (by omega)]
 have hbl: ¬bl=bp∧ ¬bl=boW∧ ¬bp=boW:=by simp at hnd;omega
 generalize bqK:H1.set (nx+3) _=G
 have bqK:=bqK.symm
 have r0:G i=some (rdO l pb):=by rw[bqK,aA.aC (by omega)];exact bqB
 have r1:G nx=some ⟨3,1,[[.osl 0 0 0 0 0,.osl 0 0 0 0 0,.osl 0 0 0 0 0]]⟩:=by rw[bqK,aA.aC (by omega)];exact q1
 have r2:G (nx+3)=some ⟨3,1,[[.isl (m.map eN),.osl 1 bl 0 4 cl,.osl 1 bp 0 3 cp]]⟩:=by rw[bqK];exact aA.bH
 obtain⟨ml,r3,d1,d2⟩:Own aJ 1 G bl cl la:=q3.of (by rw[bqK,aA.aC (by omega)])
 have r4:G bp=some ⟨1,mp,[.osl 7 boW 0 aUU.length c0]::Ps.map jR⟩:=by rw[bqK,aA.aC (by omega)];exact q4
 obtain⟨mr,r5,d3,bkS⟩:Own eB 7 G boW c0 aUU:=q5.of (by rw[bqK,aA.aC (by omega)])
 have rf: ∀id,id<nx→id≠i→G id=H id:=fun id h1 h2=>by rw[bqK,aA.aC (by omega)];exact qf id h1 h2
 clear bqK bqB q1 q3 q4 q5 qf
 have hA1:bQ nx1 [i,nx,nx+3,bl,bp,boW]:=AM.apart (by simp;omega) (by simp;omega)
 simp only[bQ,eZ] at hA1
 have endA: ∀(aID:aA) (nx2:Nat) (m':List Rng) (la':List Int) (P':List Prog) (d1 d2 d3:D1) (pb2:Nat) (F:Nat→Prop),nx1≤nx2→aID nx=some ⟨3,1,[[d1,d2,d3]]⟩→m'.length≤8→la'.length≤4→P'.length≤3→(∀pr∈P',pr.length≤13∧ ∀q∈pr,q.data.length≤8∧q.g6.length≤8)→p≤pb2→pb2≤p+1200→aID i=some (rdO l pb2)→(∀id,id<nx→id≠i→aID id=H id)→(∀j,F j→nx+5≤j)→Frz aID F (.isl (m'.map eN)) d1→Frz aID F (.isl (la'.map aJ)) d2→Frz aID F (.isl (P'.map jR)) d3→
  ∀{e2:Env},e2 4= .one (.c (.ptr 3 nx 0 0))→Q .ret e2 aID nx2:=fun aID nx2 m' la' P' d1 d2 d3 pb2 F g1 g2 g3 g4 g5 bkU bkV bp4 bp5 g10 g11 g12 g13 g14 e2 he=>by
  refine hQ _ _ _ _ _ (.inr rfl) (fZ (m:=1) he g2 rfl) ⟨boR (cU ⟨m',la',P'⟩),without F aID,F,A8 (fO g12 (fO g13 (fO g14 LH))),kS,h _ nx2 pb2 _ (by omega) (aT9 g3 g4 g5 bkU) bkV bp4 (by rw[iI fun hj=>by have:=g11 _ hj;omega];exact bp5) fun id h1 h2=>by rw[iI fun hj=>by have:=g11 _ hj;omega];exact g10 id h1 h2⟩
 have fl: ∀(aID:aA) (F:Nat→Prop) (L:List Int),L.length=4→aID bl=some ⟨1,ml,L.map aJ⟩→F bl→Frz aID F (.isl (L.map aJ)) (.osl 1 bl 0 4 cl):=fun aID F L h0 h1 h2=>ay5 (σ:=id) (nh:=0) rfl (bW bF h1 h0.symm (by omega) h2)
 have fp: ∀(aID:aA) (F:Nat→Prop),aID bp=some ⟨1,mp,[.osl 7 boW 0 aUU.length c0]::Ps.map jR⟩→aID boW=some ⟨7,mr,aUU.map eB⟩→F bp→F boW→Frz aID F (.isl ((aUU::Ps).map jR)) (.osl 1 bp 0 3 cp):=fun aID F h1 h2 h7 h8=>by
  have:=aS9 (F:=F) h1 rfl ⟨mr,h2,d3,bkS⟩ h7 h8 (show Ps.length+1≤cp by omega)
  rwa [show Ps.length+1=3 by omega] at this
 (try simp only[go_sem,boC,r0,r1,r2,r3,r4,r5,hA1]);repeat' first| (first|apply bn1|refine d6 (p:=pb) hn hl (by omega) (by omega) r0 (fun p1 bb hp1 hp2 _=> ?_))<;>(simp only[go_sem,boC,r0,r1,r2,r3,r4,r5,hA1])| ((refine bnF (fun h=> ?_) (fun h=> ?_))<;>try subst h)|fail
 case refine_2=>
  exact endA _ _ m la (aUU::Ps) _ _ _ p1 (fun j=>j=bl∨j=bp∨j=boW) (by omega) aA.bH (by omega) (by omega) (by simp;omega) (fun pr hpr=>by have:=h6 pr hpr;exact⟨by omega,this.2⟩) (by omega) (by omega) (by simp only[aA.set,aA.del,t1,Nat.reduceAdd,bqU,Nat.reduceEqDiff,bqT,bqV,if_true,if_false,hA1];done) (fun id h1 h2=>by rw[aA.aC (by omega),aA.aC h2];exact rf id h1 h2) (fun j hj=>by omega) (.same _ rfl) (fl _ _ _ h4 (by simp only[aA.set,aA.del,t1,Nat.reduceAdd,bqU,Nat.reduceEqDiff,bqT,bqV,if_true,if_false,hA1,r3];done) (.inl rfl)) (fp _ _ (by simp only[aA.set,aA.del,t1,Nat.reduceAdd,bqU,Nat.reduceEqDiff,bqT,bqV,if_true,if_false,hA1,r4];done) (by simp only[aA.set,aA.del,t1,Nat.reduceAdd,bqU,Nat.reduceEqDiff,bqT,bqV,if_true,if_false,hA1,r5];done) (.inr (.inl rfl)) (.inr (.inr rfl))) rfl
 generalize bqK:aA.set G i _=aID
 have bqK:=bqK.symm
 have bqB:aID i=some (rdO l p1):=by rw[bqK];exact aA.bH
 have q1:aID nx=some ⟨3,1,[[.osl 0 0 0 0 0,.osl 0 0 0 0 0,.osl 0 0 0 0 0]]⟩:=by rw[bqK,aA.aC (by omega)];exact r1
 have q2:aID (nx+3)=some ⟨3,1,[[.isl (m.map eN),.osl 1 bl 0 4 cl,.osl 1 bp 0 3 cp]]⟩:=by rw[bqK,aA.aC (by omega)];exact r2
 have q3:aID bl=some ⟨1,ml,la.map aJ⟩:=by rw[bqK,aA.aC (by omega)];exact r3
 have q4:aID bp=some ⟨1,mp,[.osl 7 boW 0 aUU.length c0]::Ps.map jR⟩:=by rw[bqK,aA.aC (by omega)];exact r4
 have q5:aID boW=some ⟨7,mr,aUU.map eB⟩:=by rw[bqK,aA.aC (by omega)];exact r5
 have qf: ∀id,id<nx→id≠i→aID id=H id:=fun id h1 h2=>by rw[bqK,aA.aC h2];exact rf id h1 h2
 clear bqK r0 r1 r2 r3 r4 r5 rf
 have hM: ∀(d k:Nat) (G:aA),msk (nx1+d) [k] G (nx+3)=G (nx+3):=fun d k G=>mk1 (by omega)
 refine aX (p:=p1) hl (by omega) (by omega) (by omega) bqB fun x h1 h2=> ?_
 (try simp only[go_sem,boC,bqB,q1,q2,q3,q4,q5,hA1,hM]);repeat' first| (first|apply bn1|refine aQQ (p:=p1+1) hl (by omega) (by omega) aA.bH (fun p2 bp3 hp1 hp2 hm2=> ?_))<;>(simp only[go_sem,boC,bqB,q1,q2,q3,q4,q5,hA1,hM])|refine bnE (fun h=> ?_) fun h=> ?_|refine⟨by omega,?_⟩|fail
 ·exact endA _ _ bp3 la (aUU::Ps) _ _ _ p2 (fun j=>j=bl∨j=bp∨j=boW) (by omega) aA.bH (by omega) (by omega) (by simp;omega) (fun pr hpr=>by have:=h6 pr hpr;exact⟨by omega,this.2⟩) (by omega) (by omega) (by simp only[aA.set,aA.del,t1,Nat.reduceAdd,bqU,Nat.reduceEqDiff,bqT,bqV,if_true,if_false,hA1];done) (fun id h1 h2=>by rw[aA.aC (by omega),aA.aC (by omega),aA.aC h2];exact qf id h1 h2) (fun j hj=>by omega) (.same _ rfl) (fl _ _ _ h4 (by simp only[aA.set,aA.del,t1,Nat.reduceAdd,bqU,Nat.reduceEqDiff,bqT,bqV,if_true,if_false,hA1,q3];done) (.inl rfl)) (fp _ _ (by simp only[aA.set,aA.del,t1,Nat.reduceAdd,bqU,Nat.reduceEqDiff,bqT,bqV,if_true,if_false,hA1,q4];done) (by simp only[aA.set,aA.del,t1,Nat.reduceAdd,bqU,Nat.reduceEqDiff,bqT,bqV,if_true,if_false,hA1,q5];done) (.inr (.inl rfl)) (.inr (.inr rfl))) rfl
 ·refine aX (p:=p1+1) hl (by omega) (by omega) (by omega) aA.bH fun y hy1 hy2=> ?_
  (try simp only[go_sem,boC,bqB,q1,q2,q3,q4,q5,hA1,hM]);repeat' first|apply bn1<;>(simp only[go_sem,boC,bqB,q1,q2,q3,q4,q5,hA1,hM])|fail
  generalize aU3:dT (nx1+9) [4] _ (msk (nx1+9) [4] aID)=U
  have k1:U nx=some ⟨3,1,[[.osl 0 0 0 0 0,.osl 0 0 0 0 0,.osl 0 0 0 0 0]]⟩:=by rw[←aU3,um1 (by omega),mk1 (by omega)];exact q1
  have k2:U (nx+3)=some ⟨3,1,[[.isl (m.map eN),.osl 1 bl 0 4 cl,.osl 1 bp 0 3 cp]]⟩:=by rw[←aU3,um1 (by omega),mk1 (by omega)];exact q2
  have k3:U bl=some ⟨1,ml,la.map aJ⟩:=by rw[←aU3,um1 (by omega),mk1 (by omega)];exact q3
  have k4:U bp=some ⟨1,mp,[.osl 7 boW 0 aUU.length c0]::Ps.map jR⟩:=by rw[←aU3,um1 (by omega),mk1 (by omega)];exact q4
  have k5:U boW=some ⟨7,mr,aUU.map eB⟩:=by rw[←aU3,um1 (by omega),mk1 (by omega)];exact q5
  have kf: ∀id,id<nx→id≠i→U id=H id:=fun id h1 h2=>by rw[←aU3,um1 (by omega),mk1 (by omega)];exact qf id h1 h2
  have k6:U (nx1+9+4)=some ⟨1,2,[[.v (.int .i64 (-1))],[.v (.int .i64 4)]]⟩:=by rw[←aU3,aH6];exact aA.bH
  clear aU3 bqB q1 q2 q3 q4 q5 qf
  refine⟨fun _=>by rw[k2];rfl,?_⟩
  refine aX (p:=p1+2) hl (by omega) (by omega) (by omega) aA.bH fun z hz1 hz2=> ?_
  (try simp only[go_sem,boC,k2,hA1,hM]);repeat' first|apply bn1<;>(simp only[go_sem,boC,k2,hA1,hM])|fail
  generalize aU3:dT (nx1+9) [4] _ (msk (nx1+9) [4] U)=V
  have bpN:V nx=some ⟨3,1,[[.osl 0 0 0 0 0,.osl 0 0 0 0 0,.osl 0 0 0 0 0]]⟩:=by rw[←aU3,um1 (by omega),mk1 (by omega)];exact k1
  have bpO:V (nx+3)=some ⟨3,1,[[.isl (m.map eN),.osl 1 bl 0 4 cl,.osl 1 bp 0 3 cp]]⟩:=by rw[←aU3,um1 (by omega),mk1 (by omega)];exact k2
  have bpP:V bl=some ⟨1,ml,la.map aJ⟩:=by rw[←aU3,um1 (by omega),mk1 (by omega)];exact k3
  have bpY:V bp=some ⟨1,mp,[.osl 7 boW 0 aUU.length c0]::Ps.map jR⟩:=by rw[←aU3,um1 (by omega),mk1 (by omega)];exact k4
  have aU1:V boW=some ⟨7,mr,aUU.map eB⟩:=by rw[←aU3,um1 (by omega),mk1 (by omega)];exact k5
  have tf: ∀id,id<nx→id≠i→V id=H id:=fun id h1 h2=>by rw[←aU3,um1 (by omega),mk1 (by omega)];exact kf id h1 h2
  have aU2:V (nx1+13)=some ⟨1,2,[[.v (.int .i64 (-1))],[.v (.int .i64 4)]]⟩:=by
   rw[show nx1+13=nx1+9+4 from rfl,←aU3,aH6,aA.aC (by omega)];exact k6
  clear aU3 k1 k2 k3 k4 k5 k6 kf
  refine⟨fun _=>by rw[bpO];rfl,by omega,?_⟩
  obtain⟨v,hv⟩:=aN1 (L:=[[.v (.int .i64 (-1))],[.v (.int .i64 4)]]) (by simp) hz1 (by simp;omega)
  (try simp only[go_sem,boC,bpN,bpO,bpP,bpY,aU1,aU2,hv,hA1,hM]);repeat' first|apply bn1<;>(simp only[go_sem,boC,bpN,bpO,bpP,bpY,aU1,aU2,hv,hA1,hM])|refine⟨by omega,?_⟩|fail
  exact endA _ _ m (la.set y.toNat v) (aUU::Ps) _ _ _ (p1+3) (fun j=>j=bl∨j=bp∨j=boW) (by omega) aA.bH (by omega) (by simp;omega) (by simp;omega) (fun pr hpr=>by have:=h6 pr hpr;exact⟨by omega,this.2⟩) (by omega) (by omega) (by simp only[aA.set,aA.del,t1,Nat.reduceAdd,bqU,Nat.reduceEqDiff,bqT,bqV,if_true,if_false,hA1];done) (fun id h1 h2=>by rw[aA.aC (by omega),aA.aC (by omega),aA.aC h2];exact tf id h1 h2) (fun j hj=>by omega) (.same _ rfl) (fl _ _ _ (by simp;omega) (by simp only[aA.set,aA.del,t1,Nat.reduceAdd,bqU,Nat.reduceEqDiff,bqT,bqV,if_true,if_false,hA1];done) (.inl rfl)) (fp _ _ (by simp only[aA.set,aA.del,t1,Nat.reduceAdd,bqU,Nat.reduceEqDiff,bqT,bqV,if_true,if_false,hA1,bpY];done) (by simp only[aA.set,aA.del,t1,Nat.reduceAdd,bqU,Nat.reduceEqDiff,bqT,bqV,if_true,if_false,hA1,aU1];done) (.inr (.inl rfl)) (.inr (.inr rfl))) rfl
 ·exact endA _ _ m (la.drop 1) (aUU::Ps) _ _ _ (p1+1) (fun j=>j=bl∨j=bp∨j=boW) (by omega) aA.bH (by omega) (by simp;omega) (by simp;omega) (fun pr hpr=>by have:=h6 pr hpr;exact⟨by omega,this.2⟩) (by omega) (by omega) (by simp only[aA.set,aA.del,t1,Nat.reduceAdd,bqU,Nat.reduceEqDiff,bqT,bqV,if_true,if_false,hA1,bqB];done) (fun id h1 h2=>by rw[aA.aC (by omega),aA.aC (by omega),aA.aC h2];exact qf id h1 h2) (fun j hj=>by omega) (.same _ rfl) (ay5 (σ:=id) (nh:=0) rfl (aTY (aG bF _) (by simp;omega) (.inl rfl) (show aA.set _ nx _ bl=some ⟨1,ml,la.map aJ⟩ from (by simp only[aA.set,aA.del,t1,Nat.reduceAdd,bqU,Nat.reduceEqDiff,bqT,bqV,if_true,if_false,hA1,q3];done)) rfl (by simp;omega) (by rw[boL (by simp),brE]) (by simp;omega))) (fp _ _ (by simp only[aA.set,aA.del,t1,Nat.reduceAdd,bqU,Nat.reduceEqDiff,bqT,bqV,if_true,if_false,hA1,q4];done) (by simp only[aA.set,aA.del,t1,Nat.reduceAdd,bqU,Nat.reduceEqDiff,bqT,bqV,if_true,if_false,hA1,q5];done) (.inr (.inl rfl)) (.inr (.inr rfl))) rfl
 ·exact endA _ _ m la Ps _ _ _ (p1+1) (fun j=>j=bl∨j=bp∨j=boW) (by omega) aA.bH (by omega) (by omega) (by omega) (fun pr hpr=>by have:=h6 pr (bq9 _ hpr);exact⟨by omega,this.2⟩) (by omega) (by omega) (by simp only[aA.set,aA.del,t1,Nat.reduceAdd,bqU,Nat.reduceEqDiff,bqT,bqV,if_true,if_false,hA1,bqB];done) (fun id h1 h2=>by rw[aA.aC (by omega),aA.aC (by omega),aA.aC h2];exact qf id h1 h2) (fun j hj=>by omega) (.same _ rfl) (fl _ _ _ h4 (by simp only[aA.set,aA.del,t1,Nat.reduceAdd,bqU,Nat.reduceEqDiff,bqT,bqV,if_true,if_false,hA1,q3];done) (.inl rfl)) (aT7 (Ps:=Ps) (mp:=mp) (r:=[.osl 7 boW 0 aUU.length c0]) (by simp only[aA.set,aA.del,t1,Nat.reduceAdd,bqU,Nat.reduceEqDiff,bqT,bqV,if_true,if_false,hA1,q4];done) (.inr (.inl rfl)) h5.symm (by omega)) rfl
 ·have hN: ∀(d k:Nat) (G:aA),msk (nx1+d) [k] G bp=G bp:=fun d k G=>mk1 (by omega)
  have htk:aUU.take aUU.length=aUU:=bq4
  (try simp only[go_sem,boC,bqB,q1,q2,q3,q4,q5,hA1,hM,hN]);repeat' first|apply bn1<;>(simp only[go_sem,boC,bqB,q1,q2,q3,q4,q5,hA1,hM,hN])|fail
  refine aRK (p:=p1+1) hl (by omega) (by omega) aA.bH fun p2 q hp1 hp2 hm2=> ?_
  (try simp only[go_sem,boC,bqB,q1,q2,q3,q4,q5,hA1,hM,hN,htk]);repeat' first|apply bn1<;>(simp only[go_sem,boC,bqB,q1,q2,q3,q4,q5,hA1,hM,hN,htk])|refine⟨by omega,?_⟩|fail
  have h60:=h6 aUU (by simp)
  refine⟨by omega,fun cap hcap _=>⟨by omega,?_⟩⟩
  try apply bn0
  repeat' first|apply bn1<;>(simp only[go_sem,bqB,q1,q2,q3,q4,q5,hA1])|fail
  refine endA _ _ m la ((aUU++[q])::Ps) _ _ _ p2 (fun j=>j=bl∨j=bp∨j=nx1+22) (by omega) aA.bH (by omega) (by omega) (by simp;omega) (fun pr hpr=> ?_) (by omega) (by omega) (by simp only[aA.set,aA.del,t1,Nat.reduceAdd,bqU,Nat.reduceEqDiff,bqT,bqV,if_true,if_false,hA1];done) (fun id h1 h2=>by rw[aA.aC (by omega),aA.aC (by omega),aA.aC (by omega),aA.aC (by omega),aA.aC h2,aA.jG (by omega)];exact qf id h1 h2) (fun j hj=>by omega) (.same _ rfl) (fl _ _ _ h4 (by simp only[aA.set,aA.del,t1,Nat.reduceAdd,bqU,Nat.reduceEqDiff,bqT,bqV,if_true,if_false,hA1,q3];done) (.inl rfl)) ?_ rfl
  ·rcases t3.1 hpr with hpr|hpr
   ·subst hpr
    refine⟨by rw[t2,List.length_singleton];omega,fun q' hq'=> ?_⟩
    rcases o3.1 hq' with hq'|hq'
    ·exact h60.2 q' hq'
    ·simp at hq';subst hq';exact hm2
   ·have:=h6 pr (bq9 _ hpr);exact⟨by omega,this.2⟩
  ·have e3:(3:Nat)=Ps.length+1:=by omega
   rw[e3]
   exact aS9 (mp:=mp) (boW:=nx1+22) (c0:=cap) (len0:=aUU.length+1) (by simp only[aA.set,aA.del,t1,Nat.reduceAdd,bqU,Nat.reduceEqDiff,bqT,bqV,if_true,if_false,hA1];done) (by simp) ⟨cap,(by simp only[aA.set,aA.del,t1,Nat.reduceAdd,bqU,Nat.reduceEqDiff,bqT,bqV,if_true,if_false,hA1];done),by simpa using hcap,m5 _⟩ (.inr (.inl rfl)) (.inr (.inr rfl)) (by omega)
end
end Go.Proofs.YtmccpdapaccnoaaGreat
namespace Go.AM
theorem bjT {H:aA} {e:Env} {t n id m bpO n2 id2 bp3:Nat} {cs cs2:List D1} (he:e t= .one (.c (.ptr n id 0 0))) (ho:H id=some ⟨n,m,[cs]⟩) (hl:cs.length=n) (he2:e bpO= .one (.c (.ptr n2 id2 0 0))) (ho2:H id2=some ⟨n2,bp3,[cs2]⟩) (hl2:cs2.length=n2):yT H e [.cell t n true,.cell bpO n2 true]=some (.tup [.agg cs,.agg cs2]):=by
 subst hl;subst hl2
 simp[yT,VP,he,he2,tT,ho,ho2,mkV,as1]
end Go.AM
namespace Go.Proofs.YtmccpdapaccnoaaGreat
open Go Go.AM
attribute [local irreducible] aM wv aB vd wvH
section
variable {H : aA} {nx : Nat} {K : D → aA → Nat → Prop}
variable{l:List Int}{p:Nat}
theorem boO{i:Nat} (hl:kZ l) (hp50:p+1000<2^50) (hi:i<nx) (ho:H i=some (rdO l p))
 (h: ∀H' nx' p' (c:Cfg),nx≤nx'→p'≤p+1000→aQ c→jO c→H' i=some (rdO l p')→(∀id,id<nx→id≠i→H' id=H id)→K (boR (cU c)) H' nx'):aB Tryz.prog lJ [bkP 2 i,boP 6] H nx K:=by
 apply aB.tW
 refine aQN hl hp50 hi ho fun H1 nx1 p' m la aUU Ps bl cl bp cp mp boW c0 h1 h2 h3 h4 h5 h6 bqB q3 q5 q4 e1 e2 aUV aUW aIG aII aUX aIH hnd qf=> ?_
 obtain⟨ml,r3,d1,d2⟩:=q3
 have hp:=aS9 (F:=fun j=>j=bl∨j=bp∨j=boW) q4 rfl q5 (.inr (.inl rfl)) (.inr (.inr rfl)) (show Ps.length+1≤cp by omega)
 rw[show Ps.length+1=3 by omega] at hp
 have hpo: ∀pr∈aUU::Ps,mV pr:=fun pr hpr=>by
  obtain⟨q1,q2⟩:=h6 pr hpr
  refine⟨by omega,fun hc=> ?_⟩
  obtain⟨x,hx,hx2⟩:=cH.1 hc
  exact of_decide_eq_true hx2 (q2 x hx)
 have hm:=h3.1
 refine⟨boR (cU ⟨m,la,aUU::Ps⟩),without _ H1,_,A8 (fO (.same _ rfl) (fO (ay5 (σ:=id) (nh:=0) rfl (bW bF r3 h4.1.symm (by omega) (.inl rfl))) (fO hp LH))),kS,h _ _ p' _ (by omega) h2 ⟨h3,by dsimp only;omega,h4.2,by dsimp only;rw[List.length_cons];omega,fun hc=> ?_⟩ ⟨by dsimp only;omega,by dsimp only;omega,by dsimp only;rw[List.length_cons];omega,fun pr hpr=>by have:=(h6 pr hpr).1;omega,fun pr hpr q hq=>bkX.L4 ((h6 pr hpr).2 q hq)⟩ (by rw[iI (by omega)];exact bqB) fun id d1 d2=>by rw[iI (by omega)];exact qf id d1 d2⟩
 obtain⟨x,hx,hx2⟩:=cH.1 hc
 exact of_decide_eq_true hx2 (hpo x hx)
theorem bi2:cJ Tryz.prog bhC Tryz.f207 bg6 bhQ:=cJ.mk Tryz.func207 (by kernel_rfl) bi0
theorem bjP{i:Nat} (hl:kZ l) (hp50:p+3000<2^50) (hi:i<nx) (ho:H i=some (rdO l p))
 (h: ∀H' nx' p' (c:Cfg) (s:CSt) nm cells,nx≤nx'→p'≤p+2500→aQ c→jO c→COk c s→abY H' nm s cells→Names (fun j=>j<nx) nx' nm→H' i=some (rdO l p')→(∀id,id<nx→id≠i→H' id=H id)→K (.tup [.agg (cU c),.agg cells]) H' nx'):aB Tryz.prog bhC [bkP 2 i] H nx K:=by
 refine bi2 rfl fun Q hQ=> ?_
 unfold bg6
 have hA:bQ nx [i]:=AM.apart (by simp) (by simp;omega)
 simp only[bQ,eZ] at hA
 repeat' first| (first|apply bn1| (refine boO (p:=p) hl (by omega) (by omega) (by rw[aA.aC (by omega),aA.aC (by omega)];exact ho) (fun H0 nx0 pb c hx0 hb2 hbok hbfit qb qf0=> ?_)))<;>(simp only[go_sem,boC,hA])|fail
 generalize bqK:aA.set _ (nx+4) _=G
 have g4:G (nx+4)=some ⟨3,1,[cU c]⟩:=by rw[←bqK];exact aA.bH
 have gi:G i=some (rdO l pb):=by rw[←bqK,aA.aC (by omega)];exact qb
 have bqC:G nx=some ⟨3,1,[[.osl 0 0 0 0 0,.osl 0 0 0 0 0,.osl 0 0 0 0 0]]⟩:=by rw[←bqK,aA.aC (by omega),qf0 _ (by omega) (by omega)];simp (disch:=omega) only[aA.aC,aA.bH]
 have g1:G (nx+1)=some ⟨5,1,[[.osl 0 0 0 0 0,.osl 0 0 0 0 0,.osl 0 0 0 0 0,.osl 0 0 0 0 0,.osl 0 0 0 0 0]]⟩:=by rw[←bqK,aA.aC (by omega),qf0 _ (by omega) (by omega)];simp (disch:=omega) only[aA.aC,aA.bH]
 have gf: ∀id,id<nx→id≠i→G id=H id:=fun id d1 d2=>by rw[←bqK,aA.aC (by omega),qf0 id (by omega) d2];simp (disch:=omega) only[aA.aC]
 clear bqK qb qf0
 refine bjL (X:=fun j=>j<nx0+3) (fun id hid=>hid) fun H1 nx1 nm cells hx1 hR1 hf1=> ?_
 have q4:H1 (nx+4)=some ⟨3,1,[cU c]⟩:=by rw[hf1 _ (by omega)];exact g4
 have qi:H1 i=some (rdO l pb):=by rw[hf1 _ (by omega)];exact gi
 have bqB:H1 nx=some ⟨3,1,[[.osl 0 0 0 0 0,.osl 0 0 0 0 0,.osl 0 0 0 0 0]]⟩:=by rw[hf1 _ (by omega)];exact bqC
 have q1:H1 (nx+1)=some ⟨5,1,[[.osl 0 0 0 0 0,.osl 0 0 0 0 0,.osl 0 0 0 0 0,.osl 0 0 0 0 0,.osl 0 0 0 0 0]]⟩:=by rw[hf1 _ (by omega)];exact g1
 have qf: ∀id,id<nx→id≠i→H1 id=H id:=fun id d1 d2=>by rw[hf1 _ (by omega)];exact gf id d1 d2
 clear g4 gi bqC g1 gf hf1
 have hcl:=hR1.len
 have hrow:cells++List.drop cells.length [D1.osl 0 0 0 0 0,.osl 0 0 0 0 0,.osl 0 0 0 0 0,.osl 0 0 0 0 0,.osl 0 0 0 0 0]=cells:=by rw[hcl];simp
 have hA1:bQ nx1 [i,nx,nx+1,nx+4,nx0+1]:=AM.apart (by simp;omega) (by simp;omega)
 simp only[bQ,eZ] at hA1
 (try simp only[go_sem,boC,q4,qi,bqB,q1,hcl,hrow,hA1,boC]);repeat' first|apply bn1<;>(simp only[go_sem,boC,q4,qi,bqB,q1,hcl,hrow,hA1,boC])|fail
 generalize bqK:H1.set (nx0+1) _=G
 have bp4:G (nx0+1)=some ⟨5,1,[cells]⟩:=by rw[←bqK];exact aA.bH
 have gf: ∀id,id≠nx0+1→G id=H1 id:=fun id d1=>by rw[←bqK,aA.aC d1]
 clear bqK
 have hRG:bgJ (fun j=>j<nx0+3) G (nx1+3) nm HY cells:=hR1.frame (by omega) fun id _ d2=>gf id (by omega)
 refine biZ (n:=40) (p:=pb) (by omega) hl (by omega) (by omega) (by rw[gf _ (by omega)];exact qi) fun H2 nx2 p2 xs hx2 hp2 hxl hxo hi2 hf2=> ?_
 have hR2:bgJ (fun j=>j<nx0+3) H2 nx2 nm HY cells:=hRG.frame hx2 fun id d1 d2=>hf2 id d1 (by omega)
 have aU6:H2 (nx0+1)=some ⟨5,1,[cells]⟩:=(hf2 _ (by omega) (by omega)).trans bp4
 have r4:=(hf2 (nx+4) (by omega) (by omega)).trans ((gf _ (by omega)).trans q4)
 have r0:=(hf2 nx (by omega) (by omega)).trans ((gf _ (by omega)).trans bqB)
 have r1:=(hf2 (nx+1) (by omega) (by omega)).trans ((gf _ (by omega)).trans q1)
 have rf: ∀id,id<nx→id≠i→H2 id=H id:=fun id d1 d2=>(hf2 id (by omega) d2).trans ((gf id (by omega)).trans (qf id d1 d2))
 clear hRG hR1 bp4 gf hf2 q4 bqB q1 qi qf
 (try simp only[go_sem,boC,boC]);repeat' first|apply bn1<;>(simp only[go_sem,boC,boC])|fail
 refine aM.gP (β:=Nat×CSt×(Nat→Nat)×List D1) (fun u=>en [(7,boP u.1),(6,dS (xs.map eIn)),(5,.one (.c (.ptr 5 (nx0+1) 0 0))),(4,.one (.c (.ptr 3 (nx+4) 0 0))),(3,.one (.c (.ptr 5 (nx+1) 0 0))),(2,.one (.c (.ptr 3 nx 0 0)))])
  (fun u H3 bqP=>u.1≤xs.length∧COk c u.2.1∧bgJ (fun j=>j<nx0+3) H3 bqP u.2.2.1 u.2.1 u.2.2.2∧H3 (nx0+1)=some ⟨5,1,[u.2.2.2]⟩∧ ∀id,id<nx0+1→H3 id=H2 id)
  (fun u=>xs.length-u.1) (0,HY,nm,cells) ⟨noF,_,by repeat' first|exact bo2|refine xqI rfl rfl ?_|refine xqP (by omega) rfl rfl ?_|fail,aK,by dsimp only;omega,anK c,hR2.frame (by omega) fun _ _ _=>rfl,aU6,fun _ _=>rfl⟩ ?_
 clear hR2 aU6 hcl hrow
 rintro⟨k,s,nm3,cells3⟩ H3 nx3 hx3 ⟨hk,hsk,hR3,blN,hf3⟩ bpQ hKL
 dsimp only at hk hsk hR3 blN
 have bp8:=(hf3 (nx+4) (by omega)).trans r4
 have s0:=(hf3 nx (by omega)).trans r0
 have s1:=(hf3 (nx+1) (by omega)).trans r1
 have hcl:=hR3.len
 have hA3:bQ nx3 [i,nx,nx+1,nx+4,nx0+1]:=AM.apart (by simp;omega) (by simp;omega)
 simp only[bQ,eZ] at hA3
 by_cases hlt:k<xs.length
 ·have hck:vZ (xs.getD k default):=by
   rw[List.getD,n1 hlt];exact hxo _ (Z5 hlt)
  obtain⟨x,hx⟩: ∃x,x=xs.getD k default:=⟨_,rfl⟩
  have hx':xs.getD k default=x:=hx.symm
  rw[hx'] at hck
  repeat' first|apply bn1<;>(simp only[go_sem,bp8,blN,hA3,hcl,hx',boC])|apply bn2 (by omega)|refine⟨by omega,?_⟩|fail
  refine bi3 hbok hsk hck (hR3.frame (by omega) fun _ _ _=>rfl) fun bqL nx4 nm4 cells4 hx4 hR4 hf4=> ?_
  have blO:=(hf4 (nx0+1) (by show nx0+1<nx0+3;omega)).trans blN
  have hcl4:=hR4.len
  have hrow:List.drop 5 cells3=[]:=by rw[←hcl];simp
  (try simp only[go_sem,boC,blO,hcl4,hrow,bq6,hA3,boC]);repeat' first|apply bn1<;>(simp only[go_sem,boC,blO,hcl4,hrow,bq6,hA3,boC];try simp (disch:=omega) only[Iw])|refine⟨by omega,?_⟩|fail
  refine hKL _ _ _ (k+1,vF c x s,nm4,cells4) noF _ (by omega) (by dsimp only;omega) (by repeat' first|exact bo2|refine xqI rfl rfl ?_|refine xqP (by omega) rfl rfl ?_|fail) aK ⟨by dsimp only;omega,PN hbok hsk,hR4.frame (by omega) fun id _ d2=>aA.aC (by omega),aA.bH,fun id hid=> ?_⟩
  rw[aA.aC (by omega),hf4 id (by show id<nx0+3;omega)];exact hf3 id hid
 ·repeat' first|apply bn1<;>(simp only[go_sem,bp8,blN,hA3,hcl,boC])|apply bn3 (by omega)|fail
  have hsz:=hsk.sz hbok
  have hav:=hR3.names.av
  refine aB.ao4 (args':=[boR (eI s)]) (without (fun j=>∃k,k<19∧j=nm3 k) H3) (fun j=>∃k,k<19∧j=nm3 k) rfl (fun i d0 d h1 h2=> ?_) kS ?_
  ·match i with
   |0=>
    simp only[List.getElem?_cons_zero,Option.some.injEq] at h1 h2
    subst h1;subst h2
    exact lY (A8 (hR3.rep.VI (fun k hk=>⟨k,hk,rfl⟩) hsz.pl hsz.sl))
   |i+1=>simp at h1
  refine bjQ hsz fun bqL nx4 nm4 cells4 hx4 hR4 hP4 hf4=> ?_
  have wo: ∀id,id<nx0+1→bqL id=H2 id:=fun id hid=>by
   rw[hf4 id (by omega),iI (fun⟨k,hk,he⟩=>hav k hk (by show nm3 k<nx0+3;omega))];exact hf3 id hid
  have bpY:=(wo (nx+4) (by omega)).trans r4
  have aU0:=(wo nx (by omega)).trans r0
  have bpN:=(wo (nx+1) (by omega)).trans r1
  have hcl4:cells4.length=5:=by obtain⟨_,_,_,_,_,rfl,_⟩:=hR4.ex;rfl
  have hrow:cells4++List.drop cells4.length [D1.osl 0 0 0 0 0,.osl 0 0 0 0 0,.osl 0 0 0 0 0,.osl 0 0 0 0 0,.osl 0 0 0 0 0]=cells4:=by rw[hcl4];simp
  (try simp only[go_sem,boC,bpY,aU0,bpN,hcl4,hrow,hA3,boC]);repeat' first|apply bn1<;>(simp only[go_sem,boC,bpY,aU0,bpN,hcl4,hrow,hA3,boC])|fail
  refine hQ _ _ _ _ _ (.inr rfl) (bjT rfl ((aA.aC (by omega)).trans aA.bH) rfl rfl aA.bH hcl4) (h _ _ p2 c s nm4 cells4 (by omega) (by omega) hbok hbfit hsk (hR4.frame fun k hk=> ?_) ⟨hP4.inj,fun k hk=>by have:=hP4.rng k hk;omega,fun k hk hj=>by have:=hP4.rng k hk;have hj:nm4 k<nx:=hj;omega⟩ ?_ fun id d1 d2=> ?_)
  ·have:=hP4.rng k hk
   rw[aA.aC (by omega),aA.aC (by omega)]
  ·rw[aA.aC (by omega),aA.aC (by omega),wo i (by omega)];exact hi2
  ·rw[aA.aC (by omega),aA.aC (by omega),wo id (by omega)];exact rf id d1 d2
theorem aXC{Q:AQ} (hQ: ∀ex e2 H2 nx2 d nh d2 H3 F σ,ex=AEx.normal∨ex=AEx.ret→yT H2 e2 aVF=some d→CvR 1 d H2 nh d2 H3 F σ→(nh=1∧ ∃o',H3=hp [(0,o')]∧C7 o'∧ ∃(p':Nat) (x:Rsp),o'=rdO l p'∧p≤p'∧p'≤p+12∧d2=boR (tG x)∧(x.data.length≤8))→Q ex e2 H2 nx2)
 {e2:Env} {H2:aA} {nx2 b bp0 c1 m1 p':Nat} {id code:Int} {D:List Int} (h1:yT H2 e2 aVF=some (boR [cI id,cI code,.osl 1 b 0 bp0 c1])) (h2:H2 0=some (rdO l p')) (h3:H2 b=some ⟨1,m1,D.map aJ⟩)
 (h5:p≤p'∧p'≤p+12) (h6:bp0=D.length) (h7:bp0≤c1∧b≠0∧bp0≤8):Q .ret e2 H2 nx2:=by
 obtain⟨h7,h8,h9⟩:=h7
 subst h6
 exact lA hQ (boR (tG ⟨id,code,D⟩)) _ _ h1 (aH (bB rfl) (aH (bB rfl) (aH (bW bF h3 rfl h7 (by simpa using h8)) eP))) h2 (aV _ _) ⟨p',_,rfl,h5.1,h5.2,rfl,h9⟩
theorem aW6 (l:List Int) (p:Nat) (n:Int) (hn:0<n∧n<9000) (hl:kZ l) (hp50:p+12<2^50):aB Tryz.prog aVA [bkP 2 0,boP n] (hp [(0,rdO l p)]) 1
 fun rr H' n'=>n'=1∧ ∃o',H'=hp [(0,o')]∧C7 o'∧ ∃(p':Nat) (x:Rsp),o'=rdO l p'∧p≤p'∧p'≤p+12∧rr=boR (tG x)∧(x.data.length≤8):=by
 refine aW2 rfl fun Q hQ=> ?_
 unfold aVP
 repeat' first| (first|apply bn1|refine aX hl (by omega) (by omega) (by omega) rfl (fun x h1 h2=> ?_))<;>(simp only[go_sem];try simp (disch:=omega) only[Iw])|fail
 rename_i id hid1 hid2 code hc1 hc2
 apply aM.EJ 1
 refine aM.sG 3 (β:=Nat×Nat×List Int×Nat)
  (fun b u=>en [(6,boP u.1),(5,bkP 3 (b+1)),(4,bkP 3 b),(1,boP n),(0,bkP 2 0)])
  (fun b u=>hp [(0,rdO l u.2.1),(b,⟨3,1,[[cI 0,cI 0,.osl 0 0 0 0 0]]⟩),(b+1,⟨3,1,[[cI id,cI (1+code),.osl 1 (b+2) 0 u.2.2.1.length u.2.2.2]]⟩),(b+2,⟨1,u.2.2.2,u.2.2.1.map aJ⟩)])
  (fun u=>u.1+u.2.2.1.length≤4∧p≤u.2.1∧u.2.1+u.1≤p+7∧u.2.2.1.length≤u.2.2.2)
  (fun u=>u.1) (x.toNat,p+3,[],0) ?_ ⟨by simp;omega,by dsimp only;omega,by dsimp only;omega,m5 _⟩ ?_
 · (refine cR [1,8,13,0] (by omega) (by repeat' first|exact bo2|refine xqI rfl rfl ?_|refine xqP (by omega) rfl rfl ?_|refine xqV rfl (by omega) ?_|fail) ⟨⟨by simp,by simp[sgL],_,rfl,bS (aV _ _)⟩,⟨by simp,by simp[sgL],_,rfl,aP (by repeat' first|exact bo2| (with_reducible first|exact bo4|apply bo5)| ((with_reducible apply bo0);first|exact bo9 rfl|exact bpA)|fail)⟩,⟨by simp,by simp[sgL],_,rfl,aP (by repeat' first|exact bo2| (with_reducible first|exact bo4|apply bo5)| ((with_reducible apply bo0);first|exact bo9 rfl|exact bpA)|fail)⟩,⟨by simp,by simp[sgL],_,rfl,bP (aG bF _) rfl rfl⟩,trivial⟩ (by simp[sgL]))
 rintro⟨k,pk,da,ca⟩ ⟨bpR,f2,bpS,bpT⟩ bpQ hKL
 dsimp only at bpR f2 bpS bpT
 have hta:da.take da.length=da:=bq4
 by_cases hk:0<k
 ·repeat' first| (first|apply bn1|refine aX hl (by omega) (by omega) (by omega) rfl (fun x h1 h2=> ?_))<;>(simp only[go_sem,hta];try simp (disch:=omega) only[Iw])|apply bn2 (by omega)| (with_reducible first|refine fun(cap:Nat) (hcap:_≤cap)=> ?_|refine fun(hcp:_≤cap)=> ?_)|refine⟨by omega,?_⟩|fail
  exact hKL _ _ _ (k-1,pk+1,da++[x],cap) (by omega) (by dsimp only;rw[t2,List.length_singleton];(refine cR [14,15,24,0] (by omega) (by repeat' first|exact bo2|refine xqI rfl rfl ?_|refine xqP (by omega) rfl rfl ?_|refine xqV rfl (by omega) ?_|fail) ⟨⟨by simp,by simp[sgL],_,rfl,bS (aV _ _)⟩,⟨by simp,by simp[sgL],_,rfl,aP (by repeat' first|exact bo2| (with_reducible first|exact bo4|apply bo5)| ((with_reducible apply bo0);first|exact bo9 rfl|exact bpA)|fail)⟩,⟨by simp,by simp[sgL],_,rfl,aP (by repeat' first|exact bo2| (with_reducible first|exact bo4|apply bo5)| ((with_reducible apply bo0);first|exact bo9 rfl|exact bpB (by omega) rfl rfl (by rfl) rfl)|fail)⟩,⟨by simp,by simp[sgL],_,rfl,bP (aG bF _) rfl rfl⟩,trivial⟩ (by simp[sgL]))) ⟨by simp;omega,by dsimp only;omega,by dsimp only;omega,by simpa using hcap⟩ (by dsimp only;omega)
 ·repeat' first| (first|apply bn1|refine d6 hn hl (by omega) (by omega) rfl (fun p1 bb hp1 hp2 _=> ?_)|refine aX hl (by omega) (by omega) (by omega) rfl (fun x h1 h2=> ?_))<;>(simp only[go_sem])|apply bn3 (by omega)|refine bnE (fun h=> ?_) fun h=> ?_| ((refine bnF (fun h=> ?_) (fun h=> ?_))<;>try subst h)|refine⟨by omega,?_⟩|fail
  all_goals first
   | (obtain⟨v,hv⟩:=aN1 (L:=[[.v (.int .i64 (-1))],[.v (.int .i64 2)]]) (by simp) h1 (by simp;omega);simp only[hv];simp only[go_sem];repeat' first|apply bn1<;>(simp only[go_sem])|fail)
   | (obtain⟨v,hv⟩:=aN1 (L:=[[.v (.int .i64 0)],[.v (.int .i64 5)]]) (by simp) h1 (by simp;omega);simp only[hv];simp only[go_sem];repeat' first|apply bn1<;>(simp only[go_sem])|fail)
   |skip
  all_goals first
   |exact aXC hQ rfl rfl rfl (by omega) rfl (by omega)
   |exact aXC hQ (D:=[-1]) rfl rfl rfl (by omega) rfl (by omega)
   |exact aXC hQ (D:=[1,2,3,4,5]) rfl rfl rfl (by omega) rfl (by omega)
theorem aV4{i:Nat}{n:Int} (hn:0<n∧n<9000) (hl:kZ l) (hp50:p+12<2^50) (hi:i<nx) (ho:H i=some (rdO l p)) (h: ∀(p':Nat) (x:Rsp),p≤p'→p'≤p+12→(x.data.length≤8)→K (boR (tG x)) (H.set i (rdO l p')) nx):
 aB Tryz.prog aVA [bkP 2 i,boP n] H nx K:=
 (aW6 l p n hn hl hp50).OU i rfl (gW ⟨DG (by omega) rfl,aE rfl,trivial⟩) hi ho (aV l p) fun r o' ⟨p',x,h1,h2,h3,h4,h5⟩=>by
  subst h1;subst h4;exact EW (A:=fun d=>K d (H.set i (rdO l p')) nx) rfl (h p' x h2 h3 h5)
theorem aW1{Q:AQ} (hQ: ∀ex e2 H2 nx2 d nh d2 H3 F σ,ex=AEx.normal∨ex=AEx.ret→yT H2 e2 aVH=some d→CvR 1 d H2 nh d2 H3 F σ→(nh=1∧ ∃o',H3=hp [(0,o')]∧C7 o'∧ ∃(p':Nat) (w:List Int),o'=rdO l p'∧p≤p'∧p'≤p+70∧d2=boR [.isl (w.map aJ)]∧(w.length≤65))→Q ex e2 H2 nx2)
 {e2:Env} {H2:aA} {nx2 b bp0 c1 m1 p' off:Nat} {W D:List Int} (h1:yT H2 e2 aVH=some (boR [.osl 1 b off bp0 c1])) (h2:H2 0=some (rdO l p')) (h3:H2 b=some ⟨1,m1,W.map aJ⟩)
 (h4:(W.drop off).take bp0=D) (h5:p≤p'∧p'≤p+70) (h6:bp0=D.length∧off+bp0≤W.length) (h7:bp0≤c1∧b≠0∧bp0≤65):Q .ret e2 H2 nx2:=by
 obtain⟨h7,h8,h9⟩:=h7
 obtain⟨h6,h10⟩:=h6
 exact lA hQ (boR [.isl (D.map aJ)]) _ _ h1 (aH (aTY (aG bF _) (by rw[bqW];exact h6) (by simpa using h8) h3 rfl (by simp;omega) (by rw[bqW,←h6,←brE,←br7,h4]) (by rw[bqW];omega)) eP) h2 (aV _ _) ⟨p',_,rfl,h5.1,h5.2,rfl,by omega⟩
theorem aW8 (l:List Int) (p:Nat) (n:Int) (hn:n=99999∨(0<n∧n<9000)) (hl:kZ l) (hp50:p+70<2^50):aB Tryz.prog aU9 [bkP 2 0,boP n] (hp [(0,rdO l p)]) 1
 fun rr H' n'=>n'=1∧ ∃o',H'=hp [(0,o')]∧C7 o'∧ ∃(p':Nat) (w:List Int),o'=rdO l p'∧p≤p'∧p'≤p+70∧rr=boR [.isl (w.map aJ)]∧(w.length≤65):=by
 refine aWR rfl fun Q hQ=> ?_
 unfold aVN
 have hw0:(List.replicate 64 (0:Int)).length=64:=rfl
 have hmn: ∀{H:aA} {nx:Nat} {K:D→aA→Nat→Prop},K (boR [.osl 1 nx 0 64 64]) (H.set nx ⟨1,64,(List.replicate 64 (0:Int)).map aJ⟩) (nx+1)→aB Tryz.prog v8 [] H nx K:=fun h=>aSB h
 generalize List.replicate 64 (0:Int)=bk1 at*
 repeat' first| (first|apply bn1|apply hmn|refine aX hl (by omega) (by omega) (by omega) rfl (fun x h1 h2=> ?_))<;>(simp only[go_sem])|fail
 refine aM.sG 3 (β:=Nat×Nat×List Int)
  (fun b u=>en [(6,boP u.1),(5,bkP 1 (b+1)),(4,bkP 1 b),(1,boP n),(0,bkP 2 0)])
  (fun b u=>hp [(0,rdO l u.2.1),(b,⟨1,1,[[.osl 0 0 0 0 0]]⟩),(b+1,⟨1,1,[[.osl 1 (b+2) 0 64 64]]⟩),(b+2,⟨1,64,u.2.2.map aJ⟩)])
  (fun u=>u.1≤7∧p≤u.2.1∧u.2.1+8*u.1≤p+57∧u.2.2.length=64)
  (fun u=>u.1) (x.toNat,p+1,bk1) ?_ ⟨by dsimp only;omega,by dsimp only;omega,by dsimp only;omega,hw0⟩ ?_
 · (refine cR [1,3,5,0] (by omega) (by repeat' first|exact bo2|refine xqI rfl rfl ?_|refine xqP (by omega) rfl rfl ?_|refine xqV rfl (by omega) ?_|fail) ⟨⟨by simp,by simp[sgL],_,rfl,bS (aV _ _)⟩,⟨by simp,by simp[sgL],_,rfl,aP (by repeat' first|exact bo2| (with_reducible first|exact bo4|apply bo5)| ((with_reducible apply bo0);exact bpA)|fail)⟩,⟨by simp,by simp[sgL],_,rfl,aP (by repeat' first|exact bo2| (with_reducible first|exact bo4|apply bo5)| ((with_reducible apply bo0);exact bpB (by omega) rfl rfl (by rfl) rfl)|fail)⟩,⟨by simp,by simp[sgL],_,rfl,bP (aG bF _) rfl rfl⟩,trivial⟩ (by simp[sgL]))
 rintro⟨k,pk,w⟩ ⟨bpR,f2,bpS,bpT⟩ bpQ hKL
 dsimp only at bpR f2 bpS bpT
 by_cases hk:0<k
 ·repeat' first| (first|apply bn1|refine SE hl (by omega) (by omega) rfl (fun pa xa ha1 ha2 ha3=> ?_)|refine aX hl (by omega) (by omega) (by omega) rfl (fun x h1 h2=> ?_))<;>(simp only[go_sem];try simp (disch:=omega) only[Iw])|apply bn2 (by omega)|refine⟨by omega,?_⟩|fail
  exact hKL _ _ _ (k-1,pa+1,w.set xa.toNat (x*257)) (by omega) (by(refine cR [9,10,11,0] (by omega) (by repeat' first|exact bo2|refine xqI rfl rfl ?_|refine xqP (by omega) rfl rfl ?_|refine xqV rfl (by omega) ?_|fail) ⟨⟨by simp,by simp[sgL],_,rfl,bS (aV _ _)⟩,⟨by simp,by simp[sgL],_,rfl,aP (by repeat' first|exact bo2| (with_reducible first|exact bo4|apply bo5)| ((with_reducible apply bo0);exact bpA)|fail)⟩,⟨by simp,by simp[sgL],_,rfl,aP (by repeat' first|exact bo2| (with_reducible first|exact bo4|apply bo5)| ((with_reducible apply bo0);exact bpB (by omega) rfl rfl (by rfl) rfl)|fail)⟩,⟨by simp,by simp[sgL],_,rfl,bP (aG bF _) rfl rfl⟩,trivial⟩ (by simp[sgL]))) ⟨by dsimp only;omega,by dsimp only;omega,by dsimp only;omega,by simp;omega⟩ (by dsimp only;omega)
 ·rcases hn with rfl|hn
  ·repeat' first| (first|apply bn1|refine uA (by omega) rfl ?_)<;>(simp only[go_sem])|apply bn3 (by omega)|fail
   exact aW1 hQ (D:=w) rfl rfl rfl (boL (by simp;omega)) (by omega) (by omega) (by omega)
  ·repeat' first| (first|apply bn1|refine d6 hn hl (by omega) (by omega) rfl (fun p1 bb hp1 hp2 _=> ?_)|refine aX hl (by omega) (by omega) (by omega) rfl (fun x h1 h2=> ?_))<;>(simp only[go_sem])|apply bn3 (by omega)|refine bnE (fun h=> ?_) fun h=> ?_| (with_reducible first|refine fun(cap:Nat) (hcap:_≤cap)=> ?_|refine fun(hcp:_≤cap)=> ?_)| ((refine bnF (fun h=> ?_) (fun h=> ?_))<;>try subst h)|refine⟨by omega,?_⟩|fail
   all_goals first
    | (obtain⟨v,hv⟩:=aN1 (L:=[[.v (.int .i64 (-1))],[.v (.int .i64 65536)]]) (by simp) h1 (by simp;omega);simp only[hv];simp only[go_sem];repeat' first|apply bn1<;>(simp only[go_sem])|refine⟨by omega,?_⟩|fail)
    |skip
   all_goals first
    |exact aW1 hQ (D:=w.drop 1) rfl rfl rfl (boL (by simp;omega)) (by omega) (by simp;omega) (by omega)
    |exact aW1 hQ (D:=w.set _ _) rfl rfl rfl (boL (by simp;omega)) (by omega) (by simp;omega) (by omega)
    |exact aW1 hQ (D:=w.take 64++[0]) rfl rfl rfl (boL (by simp;omega)) (by omega) (by simp;omega) (by omega)
    |exact aW1 hQ (D:=w) rfl rfl rfl (boL (by simp;omega)) (by omega) (by omega) (by omega)
    |fail
theorem aV3{i:Nat}{n:Int} (hn:n=99999∨(0<n∧n<9000)) (hl:kZ l) (hp50:p+70<2^50) (hi:i<nx) (ho:H i=some (rdO l p)) (h: ∀(p':Nat) (w:List Int),p≤p'→p'≤p+70→(w.length≤65)→K (boR [.isl (w.map aJ)]) (H.set i (rdO l p')) nx):
 aB Tryz.prog aU9 [bkP 2 i,boP n] H nx K:=
 (aW8 l p n hn hl hp50).OU i rfl (gW ⟨DG (by omega) rfl,aE rfl,trivial⟩) hi ho (aV l p) fun r o' ⟨p',w,h1,h2,h3,h4,h5⟩=>by
  subst h1;subst h4;exact EW (A:=fun d=>K d (H.set i (rdO l p')) nx) rfl (h p' w h2 h3 h5)
theorem aXA{Q:AQ} (hQ: ∀ex e2 H2 nx2 d nh d2 H3 F σ,ex=AEx.normal∨ex=AEx.ret→yT H2 e2 aVE=some d→CvR 1 d H2 nh d2 H3 F σ→(nh=1∧ ∃o',H3=hp [(0,o')]∧C7 o'∧ ∃(p':Nat) (w u:List Int),o'=rdO l p'∧p≤p'∧p'≤p+200∧d2=boR [.isl (w.map aJ),.isl (u.map aJ)]∧(w.length≤65∧u.length≤6))→Q ex e2 H2 nx2)
 {e2:Env} {H2:aA} {nx2 b bp0 c1 m1 p' off:Nat} {w W D:List Int} (h1:yT H2 e2 aVE=some (boR [.isl (w.map aJ),.osl 1 b off bp0 c1])) (h2:H2 0=some (rdO l p')) (h3:H2 b=some ⟨1,m1,W.map aJ⟩)
 (h4:(W.drop off).take bp0=D) (h5:p≤p'∧p'≤p+200) (h6:bp0=D.length∧off+bp0≤W.length) (h7:bp0≤c1∧b≠0∧bp0≤6∧w.length≤65):Q .ret e2 H2 nx2:=by
 obtain⟨h7,h8,h9,h11⟩:=h7
 obtain⟨h6,h10⟩:=h6
 exact lA hQ (boR [.isl (w.map aJ),.isl (D.map aJ)]) _ _ h1 (aH (bB rfl) (aH (aTY (aG bF _) (by rw[bqW];exact h6) (by simpa using h8) h3 rfl (by simp;omega) (by rw[bqW,←h6,←brE,←br7,h4]) (by rw[bqW];omega)) eP)) h2 (aV _ _) ⟨p',_,_,rfl,h5.1,h5.2,rfl,h11,by omega⟩
theorem aW7 (l:List Int) (p:Nat) (n:Int) (hn:0<n∧n<9000) (hl:kZ l) (hp50:p+200<2^50):aB Tryz.prog aVK [bkP 2 0,boP n] (hp [(0,rdO l p)]) 1
 fun rr H' n'=>n'=1∧ ∃o',H'=hp [(0,o')]∧C7 o'∧ ∃(p':Nat) (w:List Int) (u:List Int),o'=rdO l p'∧p≤p'∧p'≤p+200∧rr=boR [.isl (w.map aJ),.isl (u.map aJ)]∧(w.length≤65∧u.length≤6):=by
 refine aWW rfl fun Q hQ=> ?_
 unfold aVO
 have hu0:(List.replicate 6 (-1:Int)).length=6:=rfl
 have han: ∀{H:aA} {nx:Nat} {K:D→aA→Nat→Prop},(∀hc,6≤hc→K (boR [.osl 1 nx 0 64 64,.osl 1 (nx+1) 0 6 hc]) ((H.set nx ⟨1,64,(List.replicate 64 (0:Int)).map aJ⟩).set (nx+1) ⟨1,hc,(List.replicate 6 (-1:Int)).map aJ⟩) (nx+2))→aB Tryz.prog v7 [] H nx K:=fun h=>aR5 h
 generalize List.replicate 64 (0:Int)=bk1 at*
 generalize List.replicate 6 (-1:Int)=aXL at*
 repeat' first| (first|apply bn1|refine han fun hc hhc=> ?_|refine aV3 (n:=99999) (.inl rfl) hl (by omega) (by omega) rfl (fun pm w hm1 hm2 hm3=> ?_))<;>(simp only[go_sem])|fail
 refine aM.sG 3 (β:=Nat×Nat×List Int)
  (fun b u=>en [(6,boP u.1),(5,bkP 2 (b+1)),(4,bkP 2 b),(1,boP n),(0,bkP 2 0)])
  (fun b u=>hp [(0,rdO l u.2.1),(b,⟨2,1,[[.osl 0 0 0 0 0,.osl 0 0 0 0 0]]⟩),(b+1,⟨2,1,[[.isl (w.map aJ),.osl 1 (b+2) 0 6 hc]]⟩),(b+2,⟨1,hc,u.2.2.map aJ⟩)])
  (fun u=>u.1≤6∧p≤u.2.1∧u.2.1≤p+70+u.1∧u.2.2.length=6)
  (fun u=>6-u.1) (0,pm,aXL) ?_ ⟨by dsimp only;omega,by dsimp only;omega,by dsimp only;omega,hu0⟩ ?_
 · (refine cR [1,3,6,0] (by omega) (by repeat' first|exact bo2|refine xqI rfl rfl ?_|refine xqP (by omega) rfl rfl ?_|fail) ⟨⟨by simp,by simp[sgL],_,rfl,bS (aV _ _)⟩,⟨by simp,by simp[sgL],_,rfl,aP (by repeat' first|exact bo2| (with_reducible first|exact bo4|apply bo5)| ((with_reducible apply bo0);exact bpA)|fail)⟩,⟨by simp,by simp[sgL],_,rfl,aP (by repeat' first|exact bo2| (with_reducible first|exact bo4|apply bo5)| ((with_reducible apply bo0);first|exact bo9 rfl|exact bpB (by omega) rfl rfl (by rfl) rfl)|fail)⟩,⟨by simp,by simp[sgL],_,rfl,bP (aG bF _) rfl rfl⟩,trivial⟩ (by simp[sgL]))
 rintro⟨k,pk,u⟩ ⟨bpR,f2,bpS,bpT⟩ bpQ hKL
 dsimp only at bpR f2 bpS bpT
 by_cases hk:k<6
 ·repeat' first| (first|apply bn1|refine aX hl (by omega) (by omega) (by omega) rfl (fun x h1 h2=> ?_))<;>(simp only[go_sem])|apply bn2 (by omega)|refine⟨by omega,?_⟩|fail
  obtain⟨v,hv⟩:=aN1 (L:=[[.v (.int .i64 (-1))],[.v (.int .i64 0)],[.v (.int .i64 1)],[.v (.int .i64 16)],[.v (.int .i64 32)]]) (by simp) h1 (by simp;omega)
  simp only[go_sem,hv]
  repeat' first|apply bn1<;>(simp only[go_sem];try simp (disch:=omega) only[Iw])|refine⟨by omega,?_⟩|fail
  exact hKL _ _ _ (k+1,pk+1,u.set k v) (by omega) (by(refine cR [12,13,14,0] (by omega) (by repeat' first|exact bo2|refine xqI rfl rfl ?_|refine xqP (by omega) rfl rfl ?_|fail) ⟨⟨by simp,by simp[sgL],_,rfl,bS (aV _ _)⟩,⟨by simp,by simp[sgL],_,rfl,aP (by repeat' first|exact bo2| (with_reducible first|exact bo4|apply bo5)| ((with_reducible apply bo0);exact bpA)|fail)⟩,⟨by simp,by simp[sgL],_,rfl,aP (by repeat' first|exact bo2| (with_reducible first|exact bo4|apply bo5)| ((with_reducible apply bo0);first|exact bo9 rfl|exact bpB (by omega) rfl rfl (by rfl) rfl)|fail)⟩,⟨by simp,by simp[sgL],_,rfl,bP (aG bF _) rfl rfl⟩,trivial⟩ (by simp[sgL]))) ⟨by dsimp only;omega,by dsimp only;omega,by dsimp only;omega,by simp;omega⟩ (by dsimp only;omega)
 ·repeat' first| (first|apply bn1|refine d6 hn hl (by omega) (by omega) rfl (fun p1 bb hp1 hp2 _=> ?_)|refine aX hl (by omega) (by omega) (by omega) rfl (fun x h1 h2=> ?_)|refine aV3 (n:=1) (.inr (by omega)) hl (by omega) (by omega) rfl (fun p2 bqI hm1 hm2 hm3=> ?_))<;>(simp only[go_sem])|apply bn3 (by omega)|refine bnE (fun h=> ?_) fun h=> ?_| ((refine bnF (fun h=> ?_) (fun h=> ?_))<;>try subst h)|refine⟨by omega,?_⟩|fail
  all_goals first
   | (obtain⟨v,hv⟩:=aN1 (L:=[[.v (.int .i64 (-2))],[.v (.int .i64 64)]]) (by simp) h1 (by simp;omega);simp only[hv];simp only[go_sem];repeat' first|apply bn1<;>(simp only[go_sem])|refine⟨by omega,?_⟩|fail)
   |skip
  all_goals first
   |exact aXA hQ (D:=u.drop 1) rfl rfl rfl (boL (by simp;omega)) (by omega) (by simp;omega) (by omega)
   |exact aXA hQ (D:=u.set _ _) rfl rfl rfl (boL (by simp;omega)) (by omega) (by simp;omega) (by omega)
   |exact aXA hQ (D:=u) rfl rfl rfl (boL (by simp;omega)) (by omega) (by omega) (by omega)
   |fail
theorem aW5{i:Nat}{n:Int} (hn:0<n∧n<9000) (hl:kZ l) (hp50:p+200<2^50) (hi:i<nx) (ho:H i=some (rdO l p)) (h: ∀(p':Nat) (w:List Int) (u:List Int),p≤p'→p'≤p+200→(w.length≤65∧u.length≤6)→K (boR [.isl (w.map aJ),.isl (u.map aJ)]) (H.set i (rdO l p')) nx):
 aB Tryz.prog aVK [bkP 2 i,boP n] H nx K:=
 (aW7 l p n hn hl hp50).OU i rfl (gW ⟨DG (by omega) rfl,aE rfl,trivial⟩) hi ho (aV l p) fun r o' ⟨p',w,u,h1,h2,h3,h4,h5⟩=>by
  subst h1;subst h4;exact EW (A:=fun d=>K d (H.set i (rdO l p')) nx) rfl (h p' w u h2 h3 h5)
end
end Go.Proofs.YtmccpdapaccnoaaGreat
