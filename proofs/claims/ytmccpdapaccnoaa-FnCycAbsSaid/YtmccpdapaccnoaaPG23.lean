/- Texts laid together by a program: rules, contracts and the walk that leads to the law. -/
import Derived.Test.YtmccpdapaccnoaaPG22
import Derived.Test.YtmccpdapaccnoaaPG10
import Derived.Test.YtmccpdapaccnoaaPG21
import Derived.Test.YtmccpdapaccnoaaPG13
import Derived.Test.YtmccpdapaccnoaaPG8
import Derived.Test.YtmccpdapaccnoaaPG11
set_option linter.unusedVariables false
set_option linter.unusedSimpArgs false
set_option linter.unusedSectionVars false
section
namespace Go.Proofs.Ytmccpdapaccnoaa
open Go Go.AM
set_option maxRecDepth 100000
set_option maxHeartbeats 8000000
section
variable {H : aA} {nx : Nat} {K : D → aA → Nat → Prop}
theorem aP3:cJ Try.prog aNJ Try.f28 at4 aOA:=cJ.mk Try.func28 (by kernel_rfl) aPQ
theorem aS9 {F:Nat→Prop} {bp mp b0 c0 cp len0:Nat} {aUU:Prog} {Ps:List Prog} (h:H bp=some ⟨1,mp,[.osl 7 b0 0 len0 c0]::Ps.map jR⟩) (h0:len0=aUU.length) (o:Own eB 7 H b0 c0 aUU) (h1:F bp) (h2:F b0) (hc:Ps.length+1≤cp):Frz H F (.isl ((aUU::Ps).map jR)) (.osl 1 bp 0 (Ps.length+1) cp):=by
 subst h0
 obtain⟨m,o1,o2,o3⟩:=o
 refine QM h1 h rfl (by simp) (by simp) hc fun i r' hr=> ?_
 rw[Nat.zero_add]
 match i with
 |0=>
  simp only[List.map_cons,List.getElem?_cons_zero,Option.some.injEq] at hr
  subst hr
  exact⟨rfl,_,rfl,fO (ay5 (σ:=id) (nh:=0) rfl (bW rL o1 rfl o2 h2)) LH⟩
 |i+1=>
  rw[List.map_cons,List.getElem?_cons_succ] at hr
  have:=aG iR _ _ (List.mem_of_getElem? hr)
  exact⟨this.1,r',hr,amO this.2⟩
theorem aT7 {F:Nat→Prop} {bp mp cp:Nat} {r:List D1} {Ps:List Prog} (h:H bp=some ⟨1,mp,r::Ps.map jR⟩) (h1:F bp) {len:Nat} (hl:len=Ps.length) (hc:len≤cp):Frz H F (.isl (Ps.map jR)) (.osl 1 bp 1 len cp):=by
 subst hl
 refine QM h1 h rfl (by simp) (by simp;omega) hc fun i r' hr=> ?_
 have:=aG iR _ _ (List.mem_of_getElem? hr)
 exact⟨this.1,r',by rw[Nat.add_comm];exact hr,amO this.2⟩
theorem aT9 {m:List Rng} {la:List Int} {P:List Prog} (h1:m.length≤8) (h2:la.length≤4) (h3:P.length≤3) (h4: ∀pr∈P,pr.length≤13∧ ∀q∈pr,q.data.length≤8∧q.g6.length≤8):jO ⟨m,la,P⟩:=
 ⟨by dsimp only;omega,by dsimp only;omega,by dsimp only;omega,fun pr hpr=>by have:=(h4 pr hpr).1;omega,fun pr hpr q hq=>by have:=(h4 pr hpr).2 q hq;omega⟩
theorem aTR {q:Req} (h:dH q):q.data.length≤8∧q.g6.length≤8:=by
 obtain⟨_,_,⟨h1,_⟩,h2,h3,_⟩:=h
 unfold n5 at h2 h3
 split at h2<;>omega
theorem aQA {l:List Int} {p i:Nat} {n:Int} (hn:0<n∧n<9000) (hl:kZ l) (hp50:p+1200<2^50) (hi:i<nx) (ho:H i=some (rdO l p))
 (h: ∀H' nx' p' (c:Cfg),nx≤nx'→jO c→p≤p'→p'≤p+1200→H' i=some (rdO l p')→(∀id,id<nx→id≠i→H' id=H id)→K (dA (cU c)) H' nx'):aB Try.prog aNJ [bkP 2 i,dI n] H nx K:=by
 refine aB.tW ?_
 refine aP3 rfl fun Q hQ=> ?_
 unfold at4
 have hA:bQ nx [i]:=AM.apart (by simp) (by simp;omega)
 simp only[bQ,eZ] at hA
 repeat' (first| (with_reducible first| (refine hK _ _ _ ?_;clear hK K)|refine Z1 ?_)| (first| (with_reducible refine Y2 fun K hK=> ?_)| (refine aQN (p:=p) hl (by omega) (by omega) (by rw[aA.aC (by omega)];exact ho) (fun H1 nx1 pb m la aUU Ps bl cl bp cp mp b0 c0 h1 h2 h3 h4 h5 h6 q0 q3 q5 q4 e1 e2 aUV aUW aIG aII aUX aIH hnd qf=> ?_)))<;>(simp only[go_sem,Nat.add_assoc,Nat.left_eq_add,Nat.add_eq_left,hA])|fail)
 have h3:=h3.1
 have h6: ∀pr∈aUU::Ps,pr.length≤12∧ ∀q∈pr,q.data.length≤8∧q.g6.length≤8:=fun pr hpr=>⟨(h6 pr hpr).1,fun q hq=>aTR ((h6 pr hpr).2 q hq)⟩
 have q1:H1 nx=some ⟨3,1,[[.osl 0 0 0 0 0,.osl 0 0 0 0 0,.osl 0 0 0 0 0]]⟩:=by rw[qf _ (by omega) (by omega)];exact aA.bH
 have qf: ∀id,id<nx→id≠i→H1 id=H id:=fun id h1 h2=>by rw[qf id (by omega) h2,aA.aC (by omega)]
 have hbl: ¬bl=bp∧ ¬bl=b0∧ ¬bp=b0:=by simp at hnd;omega
 generalize hG:H1.set (nx+3) _=G
 have hG:=hG.symm
 have r0:G i=some (rdO l pb):=by rw[hG,aA.aC (by omega)];exact q0
 have r1:G nx=some ⟨3,1,[[.osl 0 0 0 0 0,.osl 0 0 0 0 0,.osl 0 0 0 0 0]]⟩:=by rw[hG,aA.aC (by omega)];exact q1
 have r2:G (nx+3)=some ⟨3,1,[[.isl (m.map eN),.osl 1 bl 0 4 cl,.osl 1 bp 0 3 cp]]⟩:=by rw[hG];exact aA.bH
 obtain⟨ml,r3,d1,d2⟩:Own aJ 1 G bl cl la:=q3.of (by rw[hG,aA.aC (by omega)])
 have r4:G bp=some ⟨1,mp,[.osl 7 b0 0 aUU.length c0]::Ps.map jR⟩:=by rw[hG,aA.aC (by omega)];exact q4
 obtain⟨mr,r5,d3,bkS⟩:Own eB 7 G b0 c0 aUU:=q5.of (by rw[hG,aA.aC (by omega)])
 have rf: ∀id,id<nx→id≠i→G id=H id:=fun id h1 h2=>by rw[hG,aA.aC (by omega)];exact qf id h1 h2
 clear hG q0 q1 q3 q4 q5 qf
 have hA1:bQ nx1 [i,nx,nx+3,bl,bp,b0]:=AM.apart (by simp;omega) (by simp;omega)
 simp only[bQ,eZ] at hA1
 have endA: ∀(aID:aA) (nx2:Nat) (m':List Rng) (la':List Int) (P':List Prog) (d1 d2 d3:D1) (pb2:Nat) (F:Nat→Prop),nx1≤nx2→aID nx=some ⟨3,1,[[d1,d2,d3]]⟩→m'.length≤8→la'.length≤4→P'.length≤3→(∀pr∈P',pr.length≤13∧ ∀q∈pr,q.data.length≤8∧q.g6.length≤8)→p≤pb2→pb2≤p+1200→aID i=some (rdO l pb2)→(∀id,id<nx→id≠i→aID id=H id)→(∀j,F j→nx+5≤j)→Frz aID F (.isl (m'.map eN)) d1→Frz aID F (.isl (la'.map aJ)) d2→Frz aID F (.isl (P'.map jR)) d3→
  ∀{e2:Env},e2 4= .one (.c (.ptr 3 nx 0 0))→Q .ret e2 aID nx2:=fun aID nx2 m' la' P' d1 d2 d3 pb2 F g1 g2 g3 g4 g5 bkU bkV g8 g9 g10 g11 g12 g13 g14 e2 he=>by
  refine hQ _ _ _ _ _ (.inr rfl) (fZ (m:=1) he g2 rfl) ⟨dA (cU ⟨m',la',P'⟩),without F aID,F,A8 (fO g12 (fO g13 (fO g14 LH))),kS,h _ nx2 pb2 _ (by omega) (aT9 g3 g4 g5 bkU) bkV g8 (by rw[iI fun hj=>by have:=g11 _ hj;omega];exact g9) fun id h1 h2=>by rw[iI fun hj=>by have:=g11 _ hj;omega];exact g10 id h1 h2⟩
 have fl: ∀(aID:aA) (F:Nat→Prop) (L:List Int),L.length=4→aID bl=some ⟨1,ml,L.map aJ⟩→F bl→Frz aID F (.isl (L.map aJ)) (.osl 1 bl 0 4 cl):=fun aID F L h0 h1 h2=>ay5 (σ:=id) (nh:=0) rfl (bW bF h1 h0.symm (by omega) h2)
 have fp: ∀(aID:aA) (F:Nat→Prop),aID bp=some ⟨1,mp,[.osl 7 b0 0 aUU.length c0]::Ps.map jR⟩→aID b0=some ⟨7,mr,aUU.map eB⟩→F bp→F b0→Frz aID F (.isl ((aUU::Ps).map jR)) (.osl 1 bp 0 3 cp):=fun aID F h1 h2 h7 h8=>by
  have:=aS9 (F:=F) h1 rfl ⟨mr,h2,d3,bkS⟩ h7 h8 (show Ps.length+1≤cp by omega)
  rwa [show Ps.length+1=3 by omega] at this
 (try simp only[go_sem,Nat.add_assoc,Nat.left_eq_add,Nat.add_eq_left,r0,r1,r2,r3,r4,r5,hA1]);repeat' (first| (with_reducible first| (refine hK _ _ _ ?_;clear hK K)| (refine hA ?_;clear hA hB A B)| (refine hB ?_;clear hA hB A B)|refine Z1 ?_|refine Z2 ?_)| (first| (with_reducible first|refine Y2 fun K hK=> ?_|refine Y3 fun A B hA hB=> ?_)| (refine d6 (p:=pb) hn hl (by omega) (by omega) r0 (fun p1 bb hp1 hp2 _=> ?_)))<;>(simp only[go_sem,Nat.add_assoc,Nat.left_eq_add,Nat.add_eq_left,r0,r1,r2,r3,r4,r5,hA1])| ((with_reducible refine Y8 ?_);try simp only[AQ.then,AQ.blk,reduceIte,Nat.reduceEqDiff])| ((with_reducible refine Z8 (fun h=> ?_) (fun h=> ?_))<;>try subst h)|fail)
 case refine_2=>
  exact endA _ _ m la (aUU::Ps) _ _ _ p1 (fun j=>j=bl∨j=bp∨j=b0) (by omega) aA.bH (by omega) (by omega) (by simp;omega) (fun pr hpr=>by have:=h6 pr hpr;exact⟨by omega,this.2⟩) (by omega) (by omega) (by simp only[aA.set,aA.del,Nat.add_assoc,Nat.reduceAdd,Nat.add_left_cancel_iff,Nat.reduceEqDiff,Nat.left_eq_add,Nat.add_eq_left,if_true,if_false,hA1];done) (fun id h1 h2=>by rw[aA.aC (by omega),aA.aC h2];exact rf id h1 h2) (fun j hj=>by omega) (.same _ rfl) (fl _ _ _ h4 (by simp only[aA.set,aA.del,Nat.add_assoc,Nat.reduceAdd,Nat.add_left_cancel_iff,Nat.reduceEqDiff,Nat.left_eq_add,Nat.add_eq_left,if_true,if_false,hA1,r3];done) (.inl rfl)) (fp _ _ (by simp only[aA.set,aA.del,Nat.add_assoc,Nat.reduceAdd,Nat.add_left_cancel_iff,Nat.reduceEqDiff,Nat.left_eq_add,Nat.add_eq_left,if_true,if_false,hA1,r4];done) (by simp only[aA.set,aA.del,Nat.add_assoc,Nat.reduceAdd,Nat.add_left_cancel_iff,Nat.reduceEqDiff,Nat.left_eq_add,Nat.add_eq_left,if_true,if_false,hA1,r5];done) (.inr (.inl rfl)) (.inr (.inr rfl))) rfl
 generalize hG:aA.set G i _=aID
 have hG:=hG.symm
 have q0:aID i=some (rdO l p1):=by rw[hG];exact aA.bH
 have q1:aID nx=some ⟨3,1,[[.osl 0 0 0 0 0,.osl 0 0 0 0 0,.osl 0 0 0 0 0]]⟩:=by rw[hG,aA.aC (by omega)];exact r1
 have q2:aID (nx+3)=some ⟨3,1,[[.isl (m.map eN),.osl 1 bl 0 4 cl,.osl 1 bp 0 3 cp]]⟩:=by rw[hG,aA.aC (by omega)];exact r2
 have q3:aID bl=some ⟨1,ml,la.map aJ⟩:=by rw[hG,aA.aC (by omega)];exact r3
 have q4:aID bp=some ⟨1,mp,[.osl 7 b0 0 aUU.length c0]::Ps.map jR⟩:=by rw[hG,aA.aC (by omega)];exact r4
 have q5:aID b0=some ⟨7,mr,aUU.map eB⟩:=by rw[hG,aA.aC (by omega)];exact r5
 have qf: ∀id,id<nx→id≠i→aID id=H id:=fun id h1 h2=>by rw[hG,aA.aC h2];exact rf id h1 h2
 clear hG r0 r1 r2 r3 r4 r5 rf
 have hM: ∀(d k:Nat) (G:aA),msk (nx1+d) [k] G (nx+3)=G (nx+3):=fun d k G=>mk1 (by omega)
 refine aX (p:=p1) hl (by omega) (by omega) (by omega) q0 fun x h1 h2=> ?_
 (try simp only[go_sem,Nat.add_assoc,Nat.left_eq_add,Nat.add_eq_left,q0,q1,q2,q3,q4,q5,hA1,hM]);repeat' (first| (with_reducible first| (refine hK _ _ _ ?_;clear hK K)| (refine hA ?_;clear hA hB A B)| (refine hB ?_;clear hA hB A B)|refine Z1 ?_|refine Z3 fun KB hKB=> ?_|refine Z6 (fun h=> ?_) fun h=> ?_)| (first| (with_reducible first|refine Y2 fun K hK=> ?_|refine Y3 fun A B hA hB=> ?_)| (refine aQQ (p:=p1+1) hl (by omega) (by omega) aA.bH (fun p2 m2 hp1 hp2 hm2=> ?_)))<;>(simp only[go_sem,Nat.add_assoc,Nat.left_eq_add,Nat.add_eq_left,q0,q1,q2,q3,q4,q5,hA1,hM])| ((with_reducible refine Y8 ?_);try simp only[AQ.then,AQ.blk,reduceIte,Nat.reduceEqDiff])| ((with_reducible refine Y0 ?_);simp only[AQ.then,AQ.blk])|refine⟨by omega,?_⟩| (with_reducible refine hKB _ _ _ ?_)|fail)
 ·exact endA _ _ m2 la (aUU::Ps) _ _ _ p2 (fun j=>j=bl∨j=bp∨j=b0) (by omega) aA.bH (by omega) (by omega) (by simp;omega) (fun pr hpr=>by have:=h6 pr hpr;exact⟨by omega,this.2⟩) (by omega) (by omega) (by simp only[aA.set,aA.del,Nat.add_assoc,Nat.reduceAdd,Nat.add_left_cancel_iff,Nat.reduceEqDiff,Nat.left_eq_add,Nat.add_eq_left,if_true,if_false,hA1];done) (fun id h1 h2=>by rw[aA.aC (by omega),aA.aC (by omega),aA.aC h2];exact qf id h1 h2) (fun j hj=>by omega) (.same _ rfl) (fl _ _ _ h4 (by simp only[aA.set,aA.del,Nat.add_assoc,Nat.reduceAdd,Nat.add_left_cancel_iff,Nat.reduceEqDiff,Nat.left_eq_add,Nat.add_eq_left,if_true,if_false,hA1,q3];done) (.inl rfl)) (fp _ _ (by simp only[aA.set,aA.del,Nat.add_assoc,Nat.reduceAdd,Nat.add_left_cancel_iff,Nat.reduceEqDiff,Nat.left_eq_add,Nat.add_eq_left,if_true,if_false,hA1,q4];done) (by simp only[aA.set,aA.del,Nat.add_assoc,Nat.reduceAdd,Nat.add_left_cancel_iff,Nat.reduceEqDiff,Nat.left_eq_add,Nat.add_eq_left,if_true,if_false,hA1,q5];done) (.inr (.inl rfl)) (.inr (.inr rfl))) rfl
 ·refine aX (p:=p1+1) hl (by omega) (by omega) (by omega) aA.bH fun y hy1 hy2=> ?_
  (try simp only[go_sem,Nat.add_assoc,Nat.left_eq_add,Nat.add_eq_left,q0,q1,q2,q3,q4,q5,hA1,hM]);skip
  generalize aU3:dT (nx1+9) [4] _ (msk (nx1+9) [4] aID)=U
  have k1:U nx=some ⟨3,1,[[.osl 0 0 0 0 0,.osl 0 0 0 0 0,.osl 0 0 0 0 0]]⟩:=by rw[←aU3,um1 (by omega),mk1 (by omega)];exact q1
  have k2:U (nx+3)=some ⟨3,1,[[.isl (m.map eN),.osl 1 bl 0 4 cl,.osl 1 bp 0 3 cp]]⟩:=by rw[←aU3,um1 (by omega),mk1 (by omega)];exact q2
  have k3:U bl=some ⟨1,ml,la.map aJ⟩:=by rw[←aU3,um1 (by omega),mk1 (by omega)];exact q3
  have k4:U bp=some ⟨1,mp,[.osl 7 b0 0 aUU.length c0]::Ps.map jR⟩:=by rw[←aU3,um1 (by omega),mk1 (by omega)];exact q4
  have k5:U b0=some ⟨7,mr,aUU.map eB⟩:=by rw[←aU3,um1 (by omega),mk1 (by omega)];exact q5
  have kf: ∀id,id<nx→id≠i→U id=H id:=fun id h1 h2=>by rw[←aU3,um1 (by omega),mk1 (by omega)];exact qf id h1 h2
  have k6:U (nx1+9+4)=some ⟨1,2,[[.v (.int .i64 (-1))],[.v (.int .i64 4)]]⟩:=by rw[←aU3,aH6];exact aA.bH
  clear aU3 q0 q1 q2 q3 q4 q5 qf
  refine⟨fun _=>by rw[k2];rfl,?_⟩
  refine aX (p:=p1+2) hl (by omega) (by omega) (by omega) aA.bH fun z hz1 hz2=> ?_
  (try simp only[go_sem,Nat.add_assoc,Nat.left_eq_add,Nat.add_eq_left,k2,hA1,hM]);skip
  generalize aU3:dT (nx1+9) [4] _ (msk (nx1+9) [4] U)=V
  have t1:V nx=some ⟨3,1,[[.osl 0 0 0 0 0,.osl 0 0 0 0 0,.osl 0 0 0 0 0]]⟩:=by rw[←aU3,um1 (by omega),mk1 (by omega)];exact k1
  have t2:V (nx+3)=some ⟨3,1,[[.isl (m.map eN),.osl 1 bl 0 4 cl,.osl 1 bp 0 3 cp]]⟩:=by rw[←aU3,um1 (by omega),mk1 (by omega)];exact k2
  have t3:V bl=some ⟨1,ml,la.map aJ⟩:=by rw[←aU3,um1 (by omega),mk1 (by omega)];exact k3
  have t4:V bp=some ⟨1,mp,[.osl 7 b0 0 aUU.length c0]::Ps.map jR⟩:=by rw[←aU3,um1 (by omega),mk1 (by omega)];exact k4
  have aU1:V b0=some ⟨7,mr,aUU.map eB⟩:=by rw[←aU3,um1 (by omega),mk1 (by omega)];exact k5
  have tf: ∀id,id<nx→id≠i→V id=H id:=fun id h1 h2=>by rw[←aU3,um1 (by omega),mk1 (by omega)];exact kf id h1 h2
  have aU2:V (nx1+13)=some ⟨1,2,[[.v (.int .i64 (-1))],[.v (.int .i64 4)]]⟩:=by
   rw[show nx1+13=nx1+9+4 from rfl,←aU3,aH6,aA.aC (by omega)];exact k6
  clear aU3 k1 k2 k3 k4 k5 k6 kf
  refine⟨fun _=>by rw[t2];rfl,by omega,?_⟩
  obtain⟨v,hv⟩:=aN1 (L:=[[.v (.int .i64 (-1))],[.v (.int .i64 4)]]) (by simp) hz1 (by simp;omega)
  (try simp only[go_sem,Nat.add_assoc,Nat.left_eq_add,Nat.add_eq_left,t1,t2,t3,t4,aU1,aU2,hv,hA1,hM]);repeat' (first| (with_reducible first| (refine hK _ _ _ ?_;clear hK K)|refine Z1 ?_)| (with_reducible refine Y2 fun K hK=> ?_)<;>(simp only[go_sem,Nat.add_assoc,Nat.left_eq_add,Nat.add_eq_left,t1,t2,t3,t4,aU1,aU2,hv,hA1,hM])| ((with_reducible refine Y8 ?_);try simp only[AQ.then,AQ.blk,reduceIte,Nat.reduceEqDiff])| ((with_reducible refine Y0 ?_);simp only[AQ.then,AQ.blk])|refine⟨by omega,?_⟩| (with_reducible refine hKB _ _ _ ?_)|fail)
  exact endA _ _ m (la.set y.toNat v) (aUU::Ps) _ _ _ (p1+3) (fun j=>j=bl∨j=bp∨j=b0) (by omega) aA.bH (by omega) (by simp;omega) (by simp;omega) (fun pr hpr=>by have:=h6 pr hpr;exact⟨by omega,this.2⟩) (by omega) (by omega) (by simp only[aA.set,aA.del,Nat.add_assoc,Nat.reduceAdd,Nat.add_left_cancel_iff,Nat.reduceEqDiff,Nat.left_eq_add,Nat.add_eq_left,if_true,if_false,hA1];done) (fun id h1 h2=>by rw[aA.aC (by omega),aA.aC (by omega),aA.aC h2];exact tf id h1 h2) (fun j hj=>by omega) (.same _ rfl) (fl _ _ _ (by simp;omega) (by simp only[aA.set,aA.del,Nat.add_assoc,Nat.reduceAdd,Nat.add_left_cancel_iff,Nat.reduceEqDiff,Nat.left_eq_add,Nat.add_eq_left,if_true,if_false,hA1];done) (.inl rfl)) (fp _ _ (by simp only[aA.set,aA.del,Nat.add_assoc,Nat.reduceAdd,Nat.add_left_cancel_iff,Nat.reduceEqDiff,Nat.left_eq_add,Nat.add_eq_left,if_true,if_false,hA1,t4];done) (by simp only[aA.set,aA.del,Nat.add_assoc,Nat.reduceAdd,Nat.add_left_cancel_iff,Nat.reduceEqDiff,Nat.left_eq_add,Nat.add_eq_left,if_true,if_false,hA1,aU1];done) (.inr (.inl rfl)) (.inr (.inr rfl))) rfl
 ·exact endA _ _ m (la.drop 1) (aUU::Ps) _ _ _ (p1+1) (fun j=>j=bl∨j=bp∨j=b0) (by omega) aA.bH (by omega) (by simp;omega) (by simp;omega) (fun pr hpr=>by have:=h6 pr hpr;exact⟨by omega,this.2⟩) (by omega) (by omega) (by simp only[aA.set,aA.del,Nat.add_assoc,Nat.reduceAdd,Nat.add_left_cancel_iff,Nat.reduceEqDiff,Nat.left_eq_add,Nat.add_eq_left,if_true,if_false,hA1,q0];done) (fun id h1 h2=>by rw[aA.aC (by omega),aA.aC (by omega),aA.aC h2];exact qf id h1 h2) (fun j hj=>by omega) (.same _ rfl) (ay5 (σ:=id) (nh:=0) rfl (aTY (aG bF _) (by simp;omega) (.inl rfl) (show aA.set _ nx _ bl=some ⟨1,ml,la.map aJ⟩ from (by simp only[aA.set,aA.del,Nat.add_assoc,Nat.reduceAdd,Nat.add_left_cancel_iff,Nat.reduceEqDiff,Nat.left_eq_add,Nat.add_eq_left,if_true,if_false,hA1,q3];done)) rfl (by simp;omega) (by rw[List.take_of_length_le (by simp),List.map_drop]) (by simp;omega))) (fp _ _ (by simp only[aA.set,aA.del,Nat.add_assoc,Nat.reduceAdd,Nat.add_left_cancel_iff,Nat.reduceEqDiff,Nat.left_eq_add,Nat.add_eq_left,if_true,if_false,hA1,q4];done) (by simp only[aA.set,aA.del,Nat.add_assoc,Nat.reduceAdd,Nat.add_left_cancel_iff,Nat.reduceEqDiff,Nat.left_eq_add,Nat.add_eq_left,if_true,if_false,hA1,q5];done) (.inr (.inl rfl)) (.inr (.inr rfl))) rfl
 ·exact endA _ _ m la Ps _ _ _ (p1+1) (fun j=>j=bl∨j=bp∨j=b0) (by omega) aA.bH (by omega) (by omega) (by omega) (fun pr hpr=>by have:=h6 pr (List.mem_cons_of_mem _ hpr);exact⟨by omega,this.2⟩) (by omega) (by omega) (by simp only[aA.set,aA.del,Nat.add_assoc,Nat.reduceAdd,Nat.add_left_cancel_iff,Nat.reduceEqDiff,Nat.left_eq_add,Nat.add_eq_left,if_true,if_false,hA1,q0];done) (fun id h1 h2=>by rw[aA.aC (by omega),aA.aC (by omega),aA.aC h2];exact qf id h1 h2) (fun j hj=>by omega) (.same _ rfl) (fl _ _ _ h4 (by simp only[aA.set,aA.del,Nat.add_assoc,Nat.reduceAdd,Nat.add_left_cancel_iff,Nat.reduceEqDiff,Nat.left_eq_add,Nat.add_eq_left,if_true,if_false,hA1,q3];done) (.inl rfl)) (aT7 (Ps:=Ps) (mp:=mp) (r:=[.osl 7 b0 0 aUU.length c0]) (by simp only[aA.set,aA.del,Nat.add_assoc,Nat.reduceAdd,Nat.add_left_cancel_iff,Nat.reduceEqDiff,Nat.left_eq_add,Nat.add_eq_left,if_true,if_false,hA1,q4];done) (.inr (.inl rfl)) h5.symm (by omega)) rfl
 ·have hN: ∀(d k:Nat) (G:aA),msk (nx1+d) [k] G bp=G bp:=fun d k G=>mk1 (by omega)
  have htk:aUU.take aUU.length=aUU:=List.take_length
  (try simp only[go_sem,Nat.add_assoc,Nat.left_eq_add,Nat.add_eq_left,q0,q1,q2,q3,q4,q5,hA1,hM,hN]);skip
  refine aRK (p:=p1+1) hl (by omega) (by omega) aA.bH fun p2 q hp1 hp2 hm2=> ?_
  (try simp only[go_sem,Nat.add_assoc,Nat.left_eq_add,Nat.add_eq_left,q0,q1,q2,q3,q4,q5,hA1,hM,hN,htk]);repeat' (first|refine⟨by omega,?_⟩|fail)
  have h60:=h6 aUU (by simp)
  refine⟨by omega,fun cap hcap _=>⟨by omega,?_⟩⟩
  refine hK _ _ _ ?_
  clear hK K
  repeat' (first| (with_reducible first| (refine hK _ _ _ ?_;clear hK K)|refine Z1 ?_)| (with_reducible refine Y2 fun K hK=> ?_)<;>(simp only[go_sem,q0,q1,q2,q3,q4,q5,hA1])| ((with_reducible refine Y8 ?_);try simp only[AQ.then,AQ.blk,reduceIte,Nat.reduceEqDiff])| ((with_reducible refine Y0 ?_);simp only[AQ.then,AQ.blk])| (with_reducible refine hKB _ _ _ ?_)|fail)
  refine endA _ _ m la ((aUU++[q])::Ps) _ _ _ p2 (fun j=>j=bl∨j=bp∨j=nx1+22) (by omega) aA.bH (by omega) (by omega) (by simp;omega) (fun pr hpr=> ?_) (by omega) (by omega) (by simp only[aA.set,aA.del,Nat.add_assoc,Nat.reduceAdd,Nat.add_left_cancel_iff,Nat.reduceEqDiff,Nat.left_eq_add,Nat.add_eq_left,if_true,if_false,hA1];done) (fun id h1 h2=>by rw[aA.aC (by omega),aA.aC (by omega),aA.aC (by omega),aA.aC (by omega),aA.aC h2,aA.jG (by omega)];exact qf id h1 h2) (fun j hj=>by omega) (.same _ rfl) (fl _ _ _ h4 (by simp only[aA.set,aA.del,Nat.add_assoc,Nat.reduceAdd,Nat.add_left_cancel_iff,Nat.reduceEqDiff,Nat.left_eq_add,Nat.add_eq_left,if_true,if_false,hA1,q3];done) (.inl rfl)) ?_ rfl
  ·rcases List.mem_cons.1 hpr with hpr|hpr
   ·subst hpr
    refine⟨by rw[List.length_append,List.length_singleton];omega,fun q' hq'=> ?_⟩
    rcases List.mem_append.1 hq' with hq'|hq'
    ·exact h60.2 q' hq'
    ·simp at hq';subst hq';exact hm2
   ·have:=h6 pr (List.mem_cons_of_mem _ hpr);exact⟨by omega,this.2⟩
  ·have e3:(3:Nat)=Ps.length+1:=by omega
   rw[e3]
   exact aS9 (mp:=mp) (b0:=nx1+22) (c0:=cap) (len0:=aUU.length+1) (by simp only[aA.set,aA.del,Nat.add_assoc,Nat.reduceAdd,Nat.add_left_cancel_iff,Nat.reduceEqDiff,Nat.left_eq_add,Nat.add_eq_left,if_true,if_false,hA1];done) (by simp) ⟨cap,(by simp only[aA.set,aA.del,Nat.add_assoc,Nat.reduceAdd,Nat.add_left_cancel_iff,Nat.reduceEqDiff,Nat.left_eq_add,Nat.add_eq_left,if_true,if_false,hA1];done),by simpa using hcap,Nat.le_refl _⟩ (.inr (.inl rfl)) (.inr (.inr rfl)) (by omega)
end
end Go.Proofs.Ytmccpdapaccnoaa
end
section
namespace Go.Proofs.Ytmccpdapaccnoaa
open Go Go.AM
set_option maxRecDepth 100000
set_option maxHeartbeats 8000000
section
variable {H : aA} {nx : Nat} {K : D → aA → Nat → Prop}
theorem aXC {l:List Int} {p:Nat} {Q:AQ} (hQ: ∀ex e2 H2 nx2 d nh d2 H3 F σ,ex=AEx.normal∨ex=AEx.ret→yT H2 e2 aVF=some d→CvR 1 d H2 nh d2 H3 F σ→(nh=1∧ ∃o',H3=hp [(0,o')]∧C7 o'∧ ∃(p':Nat) (x:Rsp),o'=rdO l p'∧p≤p'∧p'≤p+12∧d2=dA (tG x)∧(x.data.length≤8))→Q ex e2 H2 nx2)
 {e2:Env} {H2:aA} {nx2 b n1 c1 m1 p':Nat} {id code:Int} {D:List Int} (h1:yT H2 e2 aVF=some (dA [cI id,cI code,.osl 1 b 0 n1 c1])) (h2:H2 0=some (rdO l p')) (h3:H2 b=some ⟨1,m1,D.map aJ⟩)
 (h5:p≤p'∧p'≤p+12) (h6:n1=D.length) (h7:n1≤c1∧b≠0∧n1≤8):Q .ret e2 H2 nx2:=by
 obtain⟨h7,h8,h9⟩:=h7
 subst h6
 exact lA hQ (dA (tG ⟨id,code,D⟩)) _ _ h1 (aH (bB rfl) (aH (bB rfl) (aH (bW bF h3 rfl h7 (by simpa using h8)) eP))) h2 (aV _ _) ⟨p',_,rfl,h5.1,h5.2,rfl,h9⟩
theorem aW6 (l:List Int) (p:Nat) (n:Int) (hn:0<n∧n<9000) (hl:kZ l) (hp50:p+12<2^50):aB Try.prog aVA [bkP 2 0,dI n] (hp [(0,rdO l p)]) 1
 fun rr H' n'=>n'=1∧ ∃o',H'=hp [(0,o')]∧C7 o'∧ ∃(p':Nat) (x:Rsp),o'=rdO l p'∧p≤p'∧p'≤p+12∧rr=dA (tG x)∧(x.data.length≤8):=by
 refine aW2 rfl fun Q hQ=> ?_
 unfold aVP
 repeat' (first| (with_reducible first| (refine hK _ _ _ ?_;clear hK K)|refine Z1 ?_|refine Z3 fun KB hKB=> ?_)| (first| (with_reducible refine Y2 fun K hK=> ?_)| (refine aX hl (by omega) (by omega) (by omega) rfl (fun x h1 h2=> ?_)))<;>(simp only[go_sem];try simp (disch:=omega) only[Iw])|fail)
 rename_i id hid1 hid2 code hc1 hc2
 (have hKX:=hKB;clear hKB)
 refine aM.EJ 1 ?_
 refine aM.sG 3 (β:=Nat×Nat×List Int×Nat)
  (fun b u=>en [(6,dI u.1),(5,bkP 3 (b+1)),(4,bkP 3 b),(1,dI n),(0,bkP 2 0)])
  (fun b u=>hp [(0,rdO l u.2.1),(b,⟨3,1,[[cI 0,cI 0,.osl 0 0 0 0 0]]⟩),(b+1,⟨3,1,[[cI id,cI (1+code),.osl 1 (b+2) 0 u.2.2.1.length u.2.2.2]]⟩),(b+2,⟨1,u.2.2.2,u.2.2.1.map aJ⟩)])
  (fun u=>u.1+u.2.2.1.length≤4∧p≤u.2.1∧u.2.1+u.1≤p+7∧u.2.2.1.length≤u.2.2.2)
  (fun u=>u.1) (x.toNat,p+3,[],0) ?_ ⟨by simp;omega,by dsimp only;omega,by dsimp only;omega,Nat.le_refl _⟩ ?_
 · (refine cR [1,8,13,0] (by omega) (by repeat' (first| (with_reducible first|exact C1|refine C2 ?_ ?_)| ((with_reducible refine C0 ?_);first|exact CE (by omega) rfl| (exact CG (by(congr 2;omega)) rfl))| ((with_reducible refine D0 ?_);first|exact CA rfl|refine CJ ?_)|fail)) ⟨⟨by simp,by simp[sgL],_,rfl,bS (aV _ _)⟩,⟨by simp,by simp[sgL],_,rfl,aP (by repeat' (first| (with_reducible first|exact C3|refine C4 ?_ ?_)| ((with_reducible refine C0 ?_);first|exact CB rfl|exact CC)|fail))⟩,⟨by simp,by simp[sgL],_,rfl,aP (by repeat' (first| (with_reducible first|exact C3|refine C4 ?_ ?_)| ((with_reducible refine C0 ?_);first|exact CB rfl|exact CC)|fail))⟩,⟨by simp,by simp[sgL],_,rfl,bP (aG bF _) rfl rfl⟩,trivial⟩ (by simp[sgL]))
 rintro⟨k,pk,da,ca⟩ ⟨f1,f2,f3,f4⟩ KL hKL
 dsimp only at f1 f2 f3 f4
 have hta:da.take da.length=da:=List.take_length
 by_cases hk:0<k
 ·repeat' (first| (with_reducible first| (refine hK _ _ _ ?_;clear hK K)| (refine hA ?_;clear hA hB A B)|refine Z1 ?_|refine Z2 ?_|refine Z3 fun KB hKB=> ?_|refine Z4 (by omega) ?_|refine fun(cap:Nat) (hcap:_≤cap)=> ?_|refine fun(hcp:_≤cap)=> ?_)| (first| (with_reducible first|refine Y2 fun K hK=> ?_|refine Y3 fun A B hA hB=> ?_)| (refine aX hl (by omega) (by omega) (by omega) rfl (fun x h1 h2=> ?_)))<;>(simp only[go_sem,hta];try simp (disch:=omega) only[Iw])| ((with_reducible refine Y0 ?_);simp only[AQ.then,AQ.blk])|refine⟨by omega,?_⟩| (with_reducible refine hKB _ _ _ ?_)|fail)
  exact hKL _ _ _ (k-1,pk+1,da++[x],cap) (by omega) (by dsimp only;rw[List.length_append,List.length_singleton];(refine cR [14,15,24,0] (by omega) (by repeat' (first| (with_reducible first|exact C1|refine C2 ?_ ?_)| ((with_reducible refine C0 ?_);first|exact CE (by omega) rfl| (exact CG (by(congr 2;omega)) rfl))| ((with_reducible refine D0 ?_);first|exact CA rfl|refine CJ ?_)|fail)) ⟨⟨by simp,by simp[sgL],_,rfl,bS (aV _ _)⟩,⟨by simp,by simp[sgL],_,rfl,aP (by repeat' (first| (with_reducible first|exact C3|refine C4 ?_ ?_)| ((with_reducible refine C0 ?_);first|exact CB rfl|exact CC)|fail))⟩,⟨by simp,by simp[sgL],_,rfl,aP (by repeat' (first| (with_reducible first|exact C3|refine C4 ?_ ?_)| ((with_reducible refine C0 ?_);first|exact CB rfl|exact CQ (by omega) rfl rfl (by rfl) rfl)|fail))⟩,⟨by simp,by simp[sgL],_,rfl,bP (aG bF _) rfl rfl⟩,trivial⟩ (by simp[sgL]))) ⟨by simp;omega,by dsimp only;omega,by dsimp only;omega,by simpa using hcap⟩ (by dsimp only;omega)
 ·repeat' (first| (with_reducible first| (refine hK _ _ _ ?_;clear hK K)| (refine hA ?_;clear hA hB A B)| (refine hB ?_;clear hA hB A B)|refine Z1 ?_|refine Z2 ?_|refine Z3 fun KB hKB=> ?_|refine Z5 (by omega) ?_|refine Z6 (fun h=> ?_) fun h=> ?_|refine hKX _ _ _ ?_)| (first| (with_reducible first|refine Y2 fun K hK=> ?_|refine Y3 fun A B hA hB=> ?_)| (refine d6 hn hl (by omega) (by omega) rfl (fun p1 bb hp1 hp2 _=> ?_))| (refine aX hl (by omega) (by omega) (by omega) rfl (fun x h1 h2=> ?_)))<;>(simp only[go_sem])| ((with_reducible first|refine Y8 ?_|refine Y9 ?_);try simp only[AQ.then,AQ.blk,reduceIte,Nat.reduceEqDiff])| ((with_reducible refine Y0 ?_);simp only[AQ.then,AQ.blk])| ((with_reducible refine Z8 (fun h=> ?_) (fun h=> ?_))<;>try subst h)|refine⟨by omega,?_⟩| (with_reducible refine hKB _ _ _ ?_)|fail)
  all_goals first
   | (obtain⟨v,hv⟩:=aN1 (L:=[[.v (.int .i64 (-1))],[.v (.int .i64 2)]]) (by simp) h1 (by simp;omega);simp only[hv];simp only[go_sem];repeat' (first| (with_reducible first| (refine hK _ _ _ ?_;clear hK K)|refine Z1 ?_)| (with_reducible refine Y2 fun K hK=> ?_)<;>(simp only[go_sem])| ((with_reducible refine Y8 ?_);try simp only[AQ.then,AQ.blk,reduceIte,Nat.reduceEqDiff])| ((with_reducible refine Y0 ?_);simp only[AQ.then,AQ.blk])| (with_reducible refine hKB _ _ _ ?_)|fail))
   | (obtain⟨v,hv⟩:=aN1 (L:=[[.v (.int .i64 0)],[.v (.int .i64 5)]]) (by simp) h1 (by simp;omega);simp only[hv];simp only[go_sem];repeat' (first| (with_reducible first| (refine hK _ _ _ ?_;clear hK K)|refine Z1 ?_)| (with_reducible refine Y2 fun K hK=> ?_)<;>(simp only[go_sem])| ((with_reducible refine Y8 ?_);try simp only[AQ.then,AQ.blk,reduceIte,Nat.reduceEqDiff])| ((with_reducible refine Y0 ?_);simp only[AQ.then,AQ.blk])| (with_reducible refine hKB _ _ _ ?_)|fail))
   |skip
  all_goals first
   |exact aXC hQ rfl rfl rfl (by omega) rfl (by omega)
   |exact aXC hQ (D:=[-1]) rfl rfl rfl (by omega) rfl (by omega)
   |exact aXC hQ (D:=[1,2,3,4,5]) rfl rfl rfl (by omega) rfl (by omega)
theorem aV4 {l:List Int} {p i:Nat} {n:Int} (hn:0<n∧n<9000) (hl:kZ l) (hp50:p+12<2^50) (hi:i<nx) (ho:H i=some (rdO l p)) (h: ∀(p':Nat) (x:Rsp),p≤p'→p'≤p+12→(x.data.length≤8)→K (dA (tG x)) (H.set i (rdO l p')) nx):
 aB Try.prog aVA [bkP 2 i,dI n] H nx K:=
 (aW6 l p n hn hl hp50).OU i rfl (gW ⟨DG (by omega) rfl,aE rfl,trivial⟩) hi ho (aV l p) fun r o' ⟨p',x,h1,h2,h3,h4,h5⟩=>by
  subst h1;subst h4;exact EW (A:=fun d=>K d (H.set i (rdO l p')) nx) rfl (h p' x h2 h3 h5)
theorem aW1 {l:List Int} {p:Nat} {Q:AQ} (hQ: ∀ex e2 H2 nx2 d nh d2 H3 F σ,ex=AEx.normal∨ex=AEx.ret→yT H2 e2 aVH=some d→CvR 1 d H2 nh d2 H3 F σ→(nh=1∧ ∃o',H3=hp [(0,o')]∧C7 o'∧ ∃(p':Nat) (w:List Int),o'=rdO l p'∧p≤p'∧p'≤p+70∧d2=dA [.isl (w.map aJ)]∧(w.length≤65))→Q ex e2 H2 nx2)
 {e2:Env} {H2:aA} {nx2 b n1 c1 m1 p' off:Nat} {W D:List Int} (h1:yT H2 e2 aVH=some (dA [.osl 1 b off n1 c1])) (h2:H2 0=some (rdO l p')) (h3:H2 b=some ⟨1,m1,W.map aJ⟩)
 (h4:(W.drop off).take n1=D) (h5:p≤p'∧p'≤p+70) (h6:n1=D.length∧off+n1≤W.length) (h7:n1≤c1∧b≠0∧n1≤65):Q .ret e2 H2 nx2:=by
 obtain⟨h7,h8,h9⟩:=h7
 obtain⟨h6,h10⟩:=h6
 exact lA hQ (dA [.isl (D.map aJ)]) _ _ h1 (aH (aTY (aG bF _) (by rw[List.length_map];exact h6) (by simpa using h8) h3 rfl (by simp;omega) (by rw[List.length_map,←h6,←List.map_drop,←List.map_take,h4]) (by rw[List.length_map];omega)) eP) h2 (aV _ _) ⟨p',_,rfl,h5.1,h5.2,rfl,by omega⟩
theorem aW8 (l:List Int) (p:Nat) (n:Int) (hn:n=99999∨(0<n∧n<9000)) (hl:kZ l) (hp50:p+70<2^50):aB Try.prog aU9 [bkP 2 0,dI n] (hp [(0,rdO l p)]) 1
 fun rr H' n'=>n'=1∧ ∃o',H'=hp [(0,o')]∧C7 o'∧ ∃(p':Nat) (w:List Int),o'=rdO l p'∧p≤p'∧p'≤p+70∧rr=dA [.isl (w.map aJ)]∧(w.length≤65):=by
 refine aWR rfl fun Q hQ=> ?_
 unfold aVN
 have hw0:(List.replicate 64 (0:Int)).length=64:=rfl
 have hmn: ∀{H:aA} {nx:Nat} {K:D→aA→Nat→Prop},K (dA [.osl 1 nx 0 64 64]) (H.set nx ⟨1,64,(List.replicate 64 (0:Int)).map aJ⟩) (nx+1)→aB Try.prog v8 [] H nx K:=fun h=>aSB h
 generalize List.replicate 64 (0:Int)=bk1 at*
 repeat' (first| (with_reducible first| (refine hK _ _ _ ?_;clear hK K)|refine Z1 ?_|refine Z3 fun KB hKB=> ?_)| (first| (with_reducible refine Y2 fun K hK=> ?_)| (refine hmn ?_)| (refine aX hl (by omega) (by omega) (by omega) rfl (fun x h1 h2=> ?_)))<;>(simp only[go_sem])|fail)
 (have hKX:=hKB;clear hKB)
 refine aM.sG 3 (β:=Nat×Nat×List Int)
  (fun b u=>en [(6,dI u.1),(5,bkP 1 (b+1)),(4,bkP 1 b),(1,dI n),(0,bkP 2 0)])
  (fun b u=>hp [(0,rdO l u.2.1),(b,⟨1,1,[[.osl 0 0 0 0 0]]⟩),(b+1,⟨1,1,[[.osl 1 (b+2) 0 64 64]]⟩),(b+2,⟨1,64,u.2.2.map aJ⟩)])
  (fun u=>u.1≤7∧p≤u.2.1∧u.2.1+8*u.1≤p+57∧u.2.2.length=64)
  (fun u=>u.1) (x.toNat,p+1,bk1) ?_ ⟨by dsimp only;omega,by dsimp only;omega,by dsimp only;omega,hw0⟩ ?_
 · (refine cR [1,3,5,0] (by omega) (by repeat' (first| (with_reducible first|exact C1|refine C2 ?_ ?_)| ((with_reducible refine C0 ?_);first|exact CE (by omega) rfl| (exact CG (by(congr 2;omega)) rfl))| ((with_reducible refine D0 ?_);first|exact CA rfl|refine CJ ?_)|fail)) ⟨⟨by simp,by simp[sgL],_,rfl,bS (aV _ _)⟩,⟨by simp,by simp[sgL],_,rfl,aP (by repeat' (first| (with_reducible first|exact C3|refine C4 ?_ ?_)| ((with_reducible refine C0 ?_);exact CC)|fail))⟩,⟨by simp,by simp[sgL],_,rfl,aP (by repeat' (first| (with_reducible first|exact C3|refine C4 ?_ ?_)| ((with_reducible refine C0 ?_);exact CQ (by omega) rfl rfl (by rfl) rfl)|fail))⟩,⟨by simp,by simp[sgL],_,rfl,bP (aG bF _) rfl rfl⟩,trivial⟩ (by simp[sgL]))
 rintro⟨k,pk,w⟩ ⟨f1,f2,f3,f4⟩ KL hKL
 dsimp only at f1 f2 f3 f4
 by_cases hk:0<k
 ·repeat' (first| (with_reducible first| (refine hK _ _ _ ?_;clear hK K)| (refine hA ?_;clear hA hB A B)|refine Z1 ?_|refine Z2 ?_|refine Z3 fun KB hKB=> ?_|refine Z4 (by omega) ?_)| (first| (with_reducible first|refine Y2 fun K hK=> ?_|refine Y3 fun A B hA hB=> ?_)| (refine SE hl (by omega) (by omega) rfl (fun pa xa ha1 ha2 ha3=> ?_))| (refine aX hl (by omega) (by omega) (by omega) rfl (fun x h1 h2=> ?_)))<;>(simp only[go_sem];try simp (disch:=omega) only[Iw])| ((with_reducible refine Y0 ?_);simp only[AQ.then,AQ.blk])|refine⟨by omega,?_⟩| (with_reducible refine hKB _ _ _ ?_)|fail)
  exact hKL _ _ _ (k-1,pa+1,w.set xa.toNat (x*257)) (by omega) (by(refine cR [9,10,11,0] (by omega) (by repeat' (first| (with_reducible first|exact C1|refine C2 ?_ ?_)| ((with_reducible refine C0 ?_);first|exact CE (by omega) rfl| (exact CG (by(congr 2;omega)) rfl))| ((with_reducible refine D0 ?_);first|exact CA rfl|refine CJ ?_)|fail)) ⟨⟨by simp,by simp[sgL],_,rfl,bS (aV _ _)⟩,⟨by simp,by simp[sgL],_,rfl,aP (by repeat' (first| (with_reducible first|exact C3|refine C4 ?_ ?_)| ((with_reducible refine C0 ?_);exact CC)|fail))⟩,⟨by simp,by simp[sgL],_,rfl,aP (by repeat' (first| (with_reducible first|exact C3|refine C4 ?_ ?_)| ((with_reducible refine C0 ?_);exact CQ (by omega) rfl rfl (by rfl) rfl)|fail))⟩,⟨by simp,by simp[sgL],_,rfl,bP (aG bF _) rfl rfl⟩,trivial⟩ (by simp[sgL]))) ⟨by dsimp only;omega,by dsimp only;omega,by dsimp only;omega,by simp;omega⟩ (by dsimp only;omega)
 ·rcases hn with rfl|hn
  ·repeat' (first| (with_reducible first| (refine hK _ _ _ ?_;clear hK K)| (refine hB ?_;clear hA hB A B)|refine Z1 ?_|refine Z2 ?_|refine Z5 (by omega) ?_|refine hKX _ _ _ ?_)| (first| (with_reducible first|refine Y2 fun K hK=> ?_|refine Y3 fun A B hA hB=> ?_)| (refine uA (by omega) rfl ?_))<;>(simp only[go_sem])| ((with_reducible first|refine Y8 ?_|refine Y9 ?_);try simp only[AQ.then,AQ.blk,reduceIte,Nat.reduceEqDiff])|fail)
   exact aW1 hQ (D:=w) rfl rfl rfl (List.take_of_length_le (by simp;omega)) (by omega) (by omega) (by omega)
  ·repeat' (first| (with_reducible first| (refine hK _ _ _ ?_;clear hK K)| (refine hA ?_;clear hA hB A B)| (refine hB ?_;clear hA hB A B)|refine Z1 ?_|refine Z2 ?_|refine Z3 fun KB hKB=> ?_|refine Z5 (by omega) ?_|refine Z6 (fun h=> ?_) fun h=> ?_|refine fun(cap:Nat) (hcap:_≤cap)=> ?_|refine fun(hcp:_≤cap)=> ?_|refine hKX _ _ _ ?_)| (first| (with_reducible first|refine Y2 fun K hK=> ?_|refine Y3 fun A B hA hB=> ?_)| (refine d6 hn hl (by omega) (by omega) rfl (fun p1 bb hp1 hp2 _=> ?_))| (refine aX hl (by omega) (by omega) (by omega) rfl (fun x h1 h2=> ?_)))<;>(simp only[go_sem])| ((with_reducible first|refine Y8 ?_|refine Y9 ?_);try simp only[AQ.then,AQ.blk,reduceIte,Nat.reduceEqDiff])| ((with_reducible refine Y0 ?_);simp only[AQ.then,AQ.blk])| ((with_reducible refine Z8 (fun h=> ?_) (fun h=> ?_))<;>try subst h)|refine⟨by omega,?_⟩| (with_reducible refine hKB _ _ _ ?_)|fail)
   all_goals first
    | (obtain⟨v,hv⟩:=aN1 (L:=[[.v (.int .i64 (-1))],[.v (.int .i64 65536)]]) (by simp) h1 (by simp;omega);simp only[hv];simp only[go_sem];repeat' (first| (with_reducible first| (refine hK _ _ _ ?_;clear hK K)|refine Z1 ?_)| (with_reducible refine Y2 fun K hK=> ?_)<;>(simp only[go_sem])| ((with_reducible refine Y8 ?_);try simp only[AQ.then,AQ.blk,reduceIte,Nat.reduceEqDiff])| ((with_reducible refine Y0 ?_);simp only[AQ.then,AQ.blk])|refine⟨by omega,?_⟩| (with_reducible refine hKB _ _ _ ?_)|fail))
    |skip
   all_goals first
    |exact aW1 hQ (D:=w.drop 1) rfl rfl rfl (List.take_of_length_le (by simp;omega)) (by omega) (by simp;omega) (by omega)
    |exact aW1 hQ (D:=w.set _ _) rfl rfl rfl (List.take_of_length_le (by simp;omega)) (by omega) (by simp;omega) (by omega)
    |exact aW1 hQ (D:=w.take 64++[0]) rfl rfl rfl (List.take_of_length_le (by simp;omega)) (by omega) (by simp;omega) (by omega)
    |exact aW1 hQ (D:=w) rfl rfl rfl (List.take_of_length_le (by simp;omega)) (by omega) (by omega) (by omega)
    |fail
theorem aV3 {l:List Int} {p i:Nat} {n:Int} (hn:n=99999∨(0<n∧n<9000)) (hl:kZ l) (hp50:p+70<2^50) (hi:i<nx) (ho:H i=some (rdO l p)) (h: ∀(p':Nat) (w:List Int),p≤p'→p'≤p+70→(w.length≤65)→K (dA [.isl (w.map aJ)]) (H.set i (rdO l p')) nx):
 aB Try.prog aU9 [bkP 2 i,dI n] H nx K:=
 (aW8 l p n hn hl hp50).OU i rfl (gW ⟨DG (by omega) rfl,aE rfl,trivial⟩) hi ho (aV l p) fun r o' ⟨p',w,h1,h2,h3,h4,h5⟩=>by
  subst h1;subst h4;exact EW (A:=fun d=>K d (H.set i (rdO l p')) nx) rfl (h p' w h2 h3 h5)
theorem aXA {l:List Int} {p:Nat} {Q:AQ} (hQ: ∀ex e2 H2 nx2 d nh d2 H3 F σ,ex=AEx.normal∨ex=AEx.ret→yT H2 e2 aVE=some d→CvR 1 d H2 nh d2 H3 F σ→(nh=1∧ ∃o',H3=hp [(0,o')]∧C7 o'∧ ∃(p':Nat) (w u:List Int),o'=rdO l p'∧p≤p'∧p'≤p+200∧d2=dA [.isl (w.map aJ),.isl (u.map aJ)]∧(w.length≤65∧u.length≤6))→Q ex e2 H2 nx2)
 {e2:Env} {H2:aA} {nx2 b n1 c1 m1 p' off:Nat} {w W D:List Int} (h1:yT H2 e2 aVE=some (dA [.isl (w.map aJ),.osl 1 b off n1 c1])) (h2:H2 0=some (rdO l p')) (h3:H2 b=some ⟨1,m1,W.map aJ⟩)
 (h4:(W.drop off).take n1=D) (h5:p≤p'∧p'≤p+200) (h6:n1=D.length∧off+n1≤W.length) (h7:n1≤c1∧b≠0∧n1≤6∧w.length≤65):Q .ret e2 H2 nx2:=by
 obtain⟨h7,h8,h9,h11⟩:=h7
 obtain⟨h6,h10⟩:=h6
 exact lA hQ (dA [.isl (w.map aJ),.isl (D.map aJ)]) _ _ h1 (aH (bB rfl) (aH (aTY (aG bF _) (by rw[List.length_map];exact h6) (by simpa using h8) h3 rfl (by simp;omega) (by rw[List.length_map,←h6,←List.map_drop,←List.map_take,h4]) (by rw[List.length_map];omega)) eP)) h2 (aV _ _) ⟨p',_,_,rfl,h5.1,h5.2,rfl,h11,by omega⟩
theorem aW7 (l:List Int) (p:Nat) (n:Int) (hn:0<n∧n<9000) (hl:kZ l) (hp50:p+200<2^50):aB Try.prog aVK [bkP 2 0,dI n] (hp [(0,rdO l p)]) 1
 fun rr H' n'=>n'=1∧ ∃o',H'=hp [(0,o')]∧C7 o'∧ ∃(p':Nat) (w:List Int) (u:List Int),o'=rdO l p'∧p≤p'∧p'≤p+200∧rr=dA [.isl (w.map aJ),.isl (u.map aJ)]∧(w.length≤65∧u.length≤6):=by
 refine aWW rfl fun Q hQ=> ?_
 unfold aVO
 have hu0:(List.replicate 6 (-1:Int)).length=6:=rfl
 have han: ∀{H:aA} {nx:Nat} {K:D→aA→Nat→Prop},(∀hc,6≤hc→K (dA [.osl 1 nx 0 64 64,.osl 1 (nx+1) 0 6 hc]) ((H.set nx ⟨1,64,(List.replicate 64 (0:Int)).map aJ⟩).set (nx+1) ⟨1,hc,(List.replicate 6 (-1:Int)).map aJ⟩) (nx+2))→aB Try.prog v7 [] H nx K:=fun h=>aR5 h
 generalize List.replicate 64 (0:Int)=bk1 at*
 generalize List.replicate 6 (-1:Int)=aXL at*
 repeat' (first| (with_reducible first| (refine hK _ _ _ ?_;clear hK K)|refine Z1 ?_|refine Z3 fun KB hKB=> ?_)| (first| (with_reducible refine Y2 fun K hK=> ?_)| (refine han fun hc hhc=> ?_)| (refine aV3 (n:=99999) (.inl rfl) hl (by omega) (by omega) rfl (fun pm w hm1 hm2 hm3=> ?_)))<;>(simp only[go_sem])|fail)
 (have hKX:=hKB;clear hKB)
 refine aM.sG 3 (β:=Nat×Nat×List Int)
  (fun b u=>en [(6,dI u.1),(5,bkP 2 (b+1)),(4,bkP 2 b),(1,dI n),(0,bkP 2 0)])
  (fun b u=>hp [(0,rdO l u.2.1),(b,⟨2,1,[[.osl 0 0 0 0 0,.osl 0 0 0 0 0]]⟩),(b+1,⟨2,1,[[.isl (w.map aJ),.osl 1 (b+2) 0 6 hc]]⟩),(b+2,⟨1,hc,u.2.2.map aJ⟩)])
  (fun u=>u.1≤6∧p≤u.2.1∧u.2.1≤p+70+u.1∧u.2.2.length=6)
  (fun u=>6-u.1) (0,pm,aXL) ?_ ⟨by dsimp only;omega,by dsimp only;omega,by dsimp only;omega,hu0⟩ ?_
 · (refine cR [1,3,6,0] (by omega) (by repeat' (first| (with_reducible first|exact C1|refine C2 ?_ ?_)| ((with_reducible refine C0 ?_);exact CE (by omega) rfl)| ((with_reducible refine D0 ?_);first|exact CA rfl|refine CJ ?_)|fail)) ⟨⟨by simp,by simp[sgL],_,rfl,bS (aV _ _)⟩,⟨by simp,by simp[sgL],_,rfl,aP (by repeat' (first| (with_reducible first|exact C3|refine C4 ?_ ?_)| ((with_reducible refine C0 ?_);exact CC)|fail))⟩,⟨by simp,by simp[sgL],_,rfl,aP (by repeat' (first| (with_reducible first|exact C3|refine C4 ?_ ?_)| ((with_reducible refine C0 ?_);first|exact CB rfl|exact CQ (by omega) rfl rfl (by rfl) rfl)|fail))⟩,⟨by simp,by simp[sgL],_,rfl,bP (aG bF _) rfl rfl⟩,trivial⟩ (by simp[sgL]))
 rintro⟨k,pk,u⟩ ⟨f1,f2,f3,f4⟩ KL hKL
 dsimp only at f1 f2 f3 f4
 by_cases hk:k<6
 ·repeat' (first| (with_reducible first| (refine hK _ _ _ ?_;clear hK K)| (refine hA ?_;clear hA hB A B)|refine Z1 ?_|refine Z2 ?_|refine Z3 fun KB hKB=> ?_|refine Z4 (by omega) ?_)| (first| (with_reducible first|refine Y2 fun K hK=> ?_|refine Y3 fun A B hA hB=> ?_)| (refine aX hl (by omega) (by omega) (by omega) rfl (fun x h1 h2=> ?_)))<;>(simp only[go_sem])|refine⟨by omega,?_⟩|fail)
  obtain⟨v,hv⟩:=aN1 (L:=[[.v (.int .i64 (-1))],[.v (.int .i64 0)],[.v (.int .i64 1)],[.v (.int .i64 16)],[.v (.int .i64 32)]]) (by simp) h1 (by simp;omega)
  simp only[go_sem,hv]
  repeat' (first| (with_reducible (refine hK _ _ _ ?_;clear hK K))| (with_reducible refine Y2 fun K hK=> ?_)<;>(simp only[go_sem];try simp (disch:=omega) only[Iw])| ((with_reducible refine Y0 ?_);simp only[AQ.then,AQ.blk])|refine⟨by omega,?_⟩| (with_reducible refine hKB _ _ _ ?_)|fail)
  exact hKL _ _ _ (k+1,pk+1,u.set k v) (by omega) (by(refine cR [12,13,14,0] (by omega) (by repeat' (first| (with_reducible first|exact C1|refine C2 ?_ ?_)| ((with_reducible refine C0 ?_);exact CE (by omega) rfl)| ((with_reducible refine D0 ?_);first|exact CA rfl|refine CJ ?_)|fail)) ⟨⟨by simp,by simp[sgL],_,rfl,bS (aV _ _)⟩,⟨by simp,by simp[sgL],_,rfl,aP (by repeat' (first| (with_reducible first|exact C3|refine C4 ?_ ?_)| ((with_reducible refine C0 ?_);exact CC)|fail))⟩,⟨by simp,by simp[sgL],_,rfl,aP (by repeat' (first| (with_reducible first|exact C3|refine C4 ?_ ?_)| ((with_reducible refine C0 ?_);first|exact CB rfl|exact CQ (by omega) rfl rfl (by rfl) rfl)|fail))⟩,⟨by simp,by simp[sgL],_,rfl,bP (aG bF _) rfl rfl⟩,trivial⟩ (by simp[sgL]))) ⟨by dsimp only;omega,by dsimp only;omega,by dsimp only;omega,by simp;omega⟩ (by dsimp only;omega)
 ·repeat' (first| (with_reducible first| (refine hK _ _ _ ?_;clear hK K)| (refine hA ?_;clear hA hB A B)| (refine hB ?_;clear hA hB A B)|refine Z1 ?_|refine Z2 ?_|refine Z3 fun KB hKB=> ?_|refine Z5 (by omega) ?_|refine Z6 (fun h=> ?_) fun h=> ?_|refine hKX _ _ _ ?_)| (first| (with_reducible first|refine Y2 fun K hK=> ?_|refine Y3 fun A B hA hB=> ?_)| (refine d6 hn hl (by omega) (by omega) rfl (fun p1 bb hp1 hp2 _=> ?_))| (refine aX hl (by omega) (by omega) (by omega) rfl (fun x h1 h2=> ?_))| (refine aV3 (n:=1) (.inr (by omega)) hl (by omega) (by omega) rfl (fun p2 w2 hm1 hm2 hm3=> ?_)))<;>(simp only[go_sem])| ((with_reducible first|refine Y8 ?_|refine Y9 ?_);try simp only[AQ.then,AQ.blk,reduceIte,Nat.reduceEqDiff])| ((with_reducible refine Y0 ?_);simp only[AQ.then,AQ.blk])| ((with_reducible refine Z8 (fun h=> ?_) (fun h=> ?_))<;>try subst h)|refine⟨by omega,?_⟩| (with_reducible refine hKB _ _ _ ?_)|fail)
  all_goals first
   | (obtain⟨v,hv⟩:=aN1 (L:=[[.v (.int .i64 (-2))],[.v (.int .i64 64)]]) (by simp) h1 (by simp;omega);simp only[hv];simp only[go_sem];repeat' (first| (with_reducible first| (refine hK _ _ _ ?_;clear hK K)|refine Z1 ?_)| (with_reducible refine Y2 fun K hK=> ?_)<;>(simp only[go_sem])| ((with_reducible refine Y8 ?_);try simp only[AQ.then,AQ.blk,reduceIte,Nat.reduceEqDiff])| ((with_reducible refine Y0 ?_);simp only[AQ.then,AQ.blk])|refine⟨by omega,?_⟩| (with_reducible refine hKB _ _ _ ?_)|fail))
   |skip
  all_goals first
   |exact aXA hQ (D:=u.drop 1) rfl rfl rfl (List.take_of_length_le (by simp;omega)) (by omega) (by simp;omega) (by omega)
   |exact aXA hQ (D:=u.set _ _) rfl rfl rfl (List.take_of_length_le (by simp;omega)) (by omega) (by simp;omega) (by omega)
   |exact aXA hQ (D:=u) rfl rfl rfl (List.take_of_length_le (by simp;omega)) (by omega) (by omega) (by omega)
   |fail
theorem aW5 {l:List Int} {p i:Nat} {n:Int} (hn:0<n∧n<9000) (hl:kZ l) (hp50:p+200<2^50) (hi:i<nx) (ho:H i=some (rdO l p)) (h: ∀(p':Nat) (w:List Int) (u:List Int),p≤p'→p'≤p+200→(w.length≤65∧u.length≤6)→K (dA [.isl (w.map aJ),.isl (u.map aJ)]) (H.set i (rdO l p')) nx):
 aB Try.prog aVK [bkP 2 i,dI n] H nx K:=
 (aW7 l p n hn hl hp50).OU i rfl (gW ⟨DG (by omega) rfl,aE rfl,trivial⟩) hi ho (aV l p) fun r o' ⟨p',w,u,h1,h2,h3,h4,h5⟩=>by
  subst h1;subst h4;exact EW (A:=fun d=>K d (H.set i (rdO l p')) nx) rfl (h p' w u h2 h3 h5)
end
end Go.Proofs.Ytmccpdapaccnoaa
end
section
namespace Go.Proofs.Ytmccpdapaccnoaa
open Go Go.AM
set_option maxRecDepth 100000
set_option maxHeartbeats 8000000
section
variable {H : aA} {nx : Nat} {K : D → aA → Nat → Prop}
end
end Go.Proofs.Ytmccpdapaccnoaa
end
section
namespace Go.Proofs.Ytmccpdapaccnoaa
open Go Go.AM
set_option maxRecDepth 100000
set_option maxHeartbeats 8000000
section
variable {H : aA} {nx : Nat} {K : D → aA → Nat → Prop}
end
end Go.Proofs.Ytmccpdapaccnoaa
end
section
namespace Go.AM
end Go.AM
namespace Go.Proofs.Ytmccpdapaccnoaa
open Go Go.AM
set_option maxRecDepth 100000
set_option maxHeartbeats 16000000
section
variable {H : aA} {nx : Nat} {K : D → aA → Nat → Prop}
end
end Go.Proofs.Ytmccpdapaccnoaa
end
section
namespace Go.AM
def a5F (l:List Job):Prop:=l.Pairwise fun a b=>uL b a=false
theorem beB {a b:Job}:uL a b=false↔¬(a.who<b.who∨(a.who=b.who∧a.n<b.n)):=by
 rw[←Bool.not_eq_true,qL]
theorem beE {S:List Job} {x:Job} (hs:a5F S):a5F (BM S x):=by
 have hA: ∀a∈S.take (S.findIdx (uL x)),uL x a=false:=fun a ha=>by
  obtain⟨i,hi,rfl⟩:=List.mem_iff_getElem.1 ha
  rw[List.getElem_take]
  have:=List.not_of_lt_findIdx (p:=uL x) (xs:=S) (i:=i) (by simp at hi;omega)
  simpa using this
 have hB: ∀b∈S.drop (S.findIdx (uL x)),uL x b=true:=fun b hb=>by
  obtain⟨i,hi,rfl⟩:=List.mem_iff_getElem.1 hb
  rw[List.getElem_drop]
  simp only[List.length_drop] at hi
  have hlt:S.findIdx (uL x)<S.length:=by omega
  have h0:uL x S[S.findIdx (uL x)]=true:=List.findIdx_getElem (w:=hlt)
  by_cases h:i=0
  ·subst h;exact h0
  ·have h1:=List.pairwise_iff_getElem.1 hs (S.findIdx (uL x)) (S.findIdx (uL x)+i) (by omega) (by omega) (by omega)
   rw[beB] at h1
   rw[qL] at h0 ⊢
   omega
 have hs':(S.take (S.findIdx (uL x))++S.drop (S.findIdx (uL x))).Pairwise fun a b=>uL b a=false:=by rw[List.take_append_drop];exact hs
 unfold BM a5F
 rw[List.pairwise_append] at hs' ⊢
 obtain⟨h1,h2,h3⟩:=hs'
 refine⟨h1,List.pairwise_cons.2 ⟨fun b hb=> ?_,h2⟩,fun a ha b hb=> ?_⟩
 ·have:=hB b hb
  rw[qL] at this
  rw[beB];omega
 ·rcases List.mem_cons.1 hb with rfl|hb
  ·exact hA a ha
  ·exact h3 a ha b hb
theorem bd2 (l:List Job):a5F (jX l):=by
 have h: ∀(l acc:List Job),a5F acc→a5F (l.foldl BM acc):=by
  intro l
  induction l with
  |nil=>intro acc h;exact h
  |cons x l ih=>intro acc h;exact ih _ (beE h)
 exact h l [] List.Pairwise.nil
theorem beW {S:List Job} {x:Job} {j:Nat} (hj:j≤S.length) (hs:a5F S) (h0:j=0∨uL x (S.getD (j-1) default)=false) (hB: ∀i,j≤i→i<S.length→uL x (S.getD i default)=true):MS S x j=BM S x:=by
 have hl:(S.take j).length=j:=by simp;omega
 conv=>rhs;rw[←List.take_append_drop j S]
 refine(abS (fun a ha=> ?_) fun b hb=> ?_).symm
 ·rcases h0 with rfl|h0
  ·simp at ha
  ·obtain⟨i,hi,rfl⟩:=List.mem_iff_getElem.1 ha
   rw[List.getElem_take]
   by_cases he:i=j-1
   ·subst he
    have:S.getD (j-1) default=S[j-1]:=by simp[List.getD,show j-1<S.length by omega]
    rw[this] at h0;exact h0
   ·have h1:=List.pairwise_iff_getElem.1 hs i (j-1) (by omega) (by omega) (by omega)
    have h2:S.getD (j-1) default=S[j-1]:=by simp[List.getD,show j-1<S.length by omega]
    rw[h2] at h0
    rw[beB] at h0 h1 ⊢
    omega
 ·obtain⟨i,hi,rfl⟩:=List.mem_iff_getElem.1 hb
  rw[List.getElem_drop]
  have:=hB (j+i) (by omega) (by simp at hi;omega)
  simpa [List.getD,show j+i<S.length by simp at hi;omega] using this
end Go.AM
namespace Go.Proofs.Ytmccpdapaccnoaa
open Go Go.AM
set_option maxRecDepth 100000
set_option maxHeartbeats 8000000
section
variable {H : aA} {nx : Nat} {K : D → aA → Nat → Prop}
theorem a42 {l:List Job} {m cap i0:Nat} (hl:l.length<2^21) (hi:i0<nx) (o0:H i0=some ⟨5,m,l.map aS⟩)
 (h: ∀H' nx',nx≤nx'→H' i0=some ⟨5,m,(jX l).map aS⟩→(∀id,id<nx→id≠i0→H' id=H id)→K (.tup []) H' nx'):
 aB Try.prog cL [.one (.c (.osl 5 i0 0 l.length cap)),dI 0,dI l.length,.one (.c (.clo bJ []))] H nx K:=by
 refine mY rfl fun Q hQ=> ?_
 unfold dU
 repeat' (first| (with_reducible first| (refine hK _ _ _ ?_;clear hK K)|refine Z1 ?_|refine Z3 fun KB hKB=> ?_)| (with_reducible refine Y2 fun K hK=> ?_)<;>(simp only[go_sem];try simp (disch:=omega) only[Iw])|fail)
 (have hKX:=hKB;clear hKB)
 refine aM.gP (β:=Nat) (fun k=>en [(8,dI k),(3,.one (.c (.clo bJ []))),(2,dI l.length),(1,dI 0),(0,.one (.c (.osl 5 i0 0 l.length cap)))])
  (fun k H1 _=>1≤k∧(k≤1∨k≤l.length)∧H1 i0=some ⟨5,m,(A5 l k++l.drop k).map aS⟩∧ ∀id,id<nx→id≠i0→H1 id=H id) (fun k=>l.length+1-k) 1
  ⟨noF,_,by repeat' (first| (with_reducible first|exact C1|refine C2 ?_ ?_)| ((with_reducible refine C0 ?_);first|exact CQ (by omega) rfl rfl (by rfl) rfl|exact CH (by rfl))| ((with_reducible refine D0 ?_);first|exact CA rfl|refine CJ ?_)|fail),aK,by omega,.inl (by omega),by rw[ah3,List.take_append_drop];exact o0,fun _ _ _=>rfl⟩ ?_
 rintro k H1 nx1 hnx ⟨hk1,hk2,g0,hfr⟩ KL hKL
 by_cases hlt:k<l.length
 ·repeat' (first| (with_reducible first| (refine hK _ _ _ ?_;clear hK K)| (refine hA ?_;clear hA hB A B)|refine Z1 ?_|refine Z2 ?_|refine Z3 fun KB hKB=> ?_|refine Z4 (by omega) ?_)| (with_reducible first|refine Y2 fun K hK=> ?_|refine Y3 fun A B hA hB=> ?_)<;>(simp only[go_sem])|fail)
  (have hKY:=hKB;clear hKB)
  obtain⟨S,hS⟩: ∃S,S=A5 l k:=⟨_,rfl⟩
  have hSl:S.length=k:=by rw[hS];exact ahI (by omega)
  obtain⟨x,hx⟩: ∃x,x=l.getD k default:=⟨_,rfl⟩
  have hd:l.drop k=x::l.drop (k+1):=by
   rw[List.drop_eq_getElem_cons hlt,hx];simp[List.getD,hlt]
  refine aM.gP (β:=Nat) (fun j=>en [(9,dI j),(8,dI k),(3,.one (.c (.clo bJ []))),(2,dI l.length),(1,dI 0),(0,.one (.c (.osl 5 i0 0 l.length cap)))])
   (fun j H2 _=>j≤k∧H2 i0=some ⟨5,m,(MS S x j++l.drop (k+1)).map aS⟩∧(∀i,j≤i→i<S.length→uL x (S.getD i default)=true)∧ ∀id,id<nx→id≠i0→H2 id=H id) (fun j=>j) k
   ⟨noF,_,by repeat' (first| (with_reducible first|exact C1|refine C2 ?_ ?_)| ((with_reducible refine C0 ?_);first|exact CQ (by omega) rfl rfl (by rfl) rfl|exact CH (by rfl))| ((with_reducible refine D0 ?_);first|exact CA rfl|refine CJ ?_)|fail),aK,Nat.le_refl _,?_,fun i h1 h2=>by omega,hfr⟩ ?_
  ·rw[g0,←hS,hd]
   unfold MS
   rw[List.take_of_length_le (show S.length≤k by omega),show S.drop k=[] from List.drop_of_length_le (by omega)];simp
  rintro j H2 nx2 hnx2 ⟨hj,bfZ,hB,hfr2⟩ KM hKM
  have hLl:(MS S x j++l.drop (k+1)).length=l.length:=by rw[List.length_append,amF (by omega),List.length_drop];omega
  have hk0: ∀b,(i0=nx2+b)=False:=fun b=>eq_false (by omega)
  have hk0': ∀b,(nx2+b=i0)=False:=fun b=>eq_false (by omega)
  have hback: ∀{e:Env} {H':aA} {n':Nat},nx2≤n'→(j=0∨uL x (S.getD (j-1) default)=false)→H'=H2→CvE H' noF id n' (en [(8,dI (k+1)),(3,.one (.c (.clo bJ []))),(2,dI l.length),(1,dI 0),(0,.one (.c (.osl 5 i0 0 l.length cap)))]) e→KL e H' n':=fun h1 h2 h3 h4=>by
   subst h3
   refine hKL _ _ _ (k+1) noF _ (by omega) (by omega) h4 aK ⟨by omega,.inr (by omega),?_,hfr2⟩
   rw[bfZ,beW (by omega) (by rw[hS];exact bd2 _) h2 hB,hS,ac8 hlt,hx]
  by_cases hj0:0<j
  ·have hat:=anT (S:=S) (R:=l.drop (k+1)) (x:=x) (j:=j) (by omega)
   have hah:=adY (S:=S) (R:=l.drop (k+1)) (x:=x) hj0 (by omega)
   have hsw:=ah1 (S:=S) (R:=l.drop (k+1)) (x:=x) hj0 (by omega)
   have ej:((j:Int)-1).toNat=j-1:=by omega
   repeat' (first| (with_reducible first| (refine hK _ _ _ ?_;clear hK K)| (refine hA ?_;clear hA hB A B)| (refine hB ?_;clear hA hB A B)|refine Z1 ?_|refine Z2 ?_|refine Z3 fun KB hKB=> ?_|refine Z6 (fun h=> ?_) fun h=> ?_|refine hKY _ _ _ ?_)| (first| (with_reducible first|refine Y2 fun K hK=> ?_|refine Y3 fun A B hA hB=> ?_|refine Y4 (by omega) ?_)| (refine xM ?_))<;>(simp only[go_sem,bfZ,hat,hah,ej,hLl,hk0,hk0'];try simp (disch:=omega) only[Iw])| ((with_reducible refine Y9 ?_);try simp only[AQ.then,AQ.blk,reduceIte,Nat.reduceEqDiff])| ((with_reducible refine Y0 ?_);simp only[AQ.then,AQ.blk])|refine⟨by omega,?_⟩| (with_reducible refine hKB _ _ _ ?_)|fail)
   ·exact hKM _ _ _ (j-1) noF _ (by omega) (by omega) (by repeat' (first| (with_reducible first|exact C1|refine C2 ?_ ?_)| ((with_reducible refine C0 ?_);first|exact CQ (by omega) rfl rfl (by rfl) rfl|exact CH (by rfl)| (exact CG (by(congr 2;omega)) rfl))| ((with_reducible refine D0 ?_);first|exact CA rfl|refine CJ ?_)|fail)) aK ⟨by omega,by rw[hsw];exact aA.bH,fun i h1 h2=>by
     by_cases he:i=j-1
     ·subst he;exact E7.1 (by assumption)
     ·exact hB i (by omega) h2,fun id e0 e1=>by rw[aA.aC e1];exact hfr2 id e0 e1⟩
   ·exact hback (by omega) (.inr (by rw[←Bool.not_eq_true,←E7];assumption)) rfl (by repeat' (first| (with_reducible first|exact C1|refine C2 ?_ ?_)| ((with_reducible refine C0 ?_);first|exact CQ (by omega) rfl rfl (by rfl) rfl|exact CH (by rfl))| ((with_reducible refine D0 ?_);first|exact CA rfl|refine CJ ?_)|fail))
  ·repeat' (first| (with_reducible first| (refine hK _ _ _ ?_;clear hK K)| (refine hB ?_;clear hA hB A B)|refine Z1 ?_|refine hKY _ _ _ ?_)| (with_reducible first|refine Y2 fun K hK=> ?_|refine Y3 fun A B hA hB=> ?_|refine Y5 (by omega) ?_)<;>(simp only[go_sem];try simp (disch:=omega) only[Iw])| ((with_reducible refine Y9 ?_);try simp only[AQ.then,AQ.blk,reduceIte,Nat.reduceEqDiff])| ((with_reducible refine Y0 ?_);simp only[AQ.then,AQ.blk])| (with_reducible refine hKB _ _ _ ?_)|fail)
   exact hback (by omega) (.inl (by omega)) rfl (by repeat' (first| (with_reducible first|exact C1|refine C2 ?_ ?_)| ((with_reducible refine C0 ?_);first|exact CQ (by omega) rfl rfl (by rfl) rfl|exact CH (by rfl))| ((with_reducible refine D0 ?_);first|exact CA rfl|refine CJ ?_)|fail))
 ·repeat' (first| (with_reducible first| (refine hK _ _ _ ?_;clear hK K)| (refine hB ?_;clear hA hB A B)|refine Z1 ?_|refine Z5 (by omega) ?_|refine hKX _ _ _ ?_)| (with_reducible first|refine Y2 fun K hK=> ?_|refine Y3 fun A B hA hB=> ?_)<;>(simp only[go_sem])| ((with_reducible refine Y9 ?_);try simp only[AQ.then,AQ.blk,reduceIte,Nat.reduceEqDiff])| ((with_reducible refine Y0 ?_);simp only[AQ.then,AQ.blk])|fail)
  have hd:A5 l k++l.drop k=jX l:=by
   rw[List.drop_of_length_le (by omega),List.append_nil,←aiE]
   unfold A5
   rw[List.take_of_length_le (by omega),List.take_of_length_le (by omega)]
  rw[hd] at g0
  exact hQ _ _ _ _ _ (.inl rfl) rfl (h _ _ (by omega) g0 hfr)
theorem bb2 {l:List Job} {m cap i0:Nat} (hl:l.length<20) (hi:i0<nx) (o0:H i0=some ⟨5,m,l.map aS⟩)
 (h: ∀H' nx',nx≤nx'→H' i0=some ⟨5,m,(jX l).map aS⟩→(∀id,id<nx→id≠i0→H' id=H id)→K (.tup []) H' nx'):
 aB Try.prog gL [.one (.c (.osl 5 i0 0 l.length cap)),dI l.length,.one (.c (.clo bJ []))] H nx K:=by
 refine tL rfl fun Q hQ=> ?_
 unfold gA
 repeat' (first| (with_reducible first| (refine hK _ _ _ ?_;clear hK K)|refine Z1 ?_|refine Z3 fun KB hKB=> ?_)| (with_reducible refine Y2 fun K hK=> ?_)<;>(simp only[go_sem])|fail)
 (have hKX:=hKB;clear hKB)
 refine aM.gP (β:=Unit) (fun _=>en [(8,dI 20),(7,dI 0),(6,dI 20),(2,.one (.c (.clo bJ []))),(1,dI l.length),(0,.one (.c (.osl 5 i0 0 l.length cap)))]) (fun _ H1 _=>H1=H) (fun _=>0) () ⟨noF,_,by repeat' (first| (with_reducible first|exact C1|refine C2 ?_ ?_)| ((with_reducible refine C0 ?_);first|exact CQ (by omega) rfl rfl (by rfl) rfl|exact CH (by rfl))| ((with_reducible refine D0 ?_);first|exact CA rfl|refine CJ ?_)|fail),aK,rfl⟩ ?_
 rintro u H1 nx1 hnx rfl KL hKL
 repeat' (first| (with_reducible first| (refine hK _ _ _ ?_;clear hK K)| (refine hB ?_;clear hA hB A B)|refine Z1 ?_|refine Z3 fun KB hKB=> ?_|refine Z5 (by omega) ?_|refine hKX _ _ _ ?_)| (first| (with_reducible first|refine Y2 fun K hK=> ?_|refine Y3 fun A B hA hB=> ?_)| (refine a42 (by omega) (by omega) o0 (fun H' nx' hx' bfZ ffr=> ?_)))<;>(simp only[go_sem])| ((with_reducible refine Y9 ?_);try simp only[AQ.then,AQ.blk,reduceIte,Nat.reduceEqDiff])|fail)
 clear hKX
 (have hKX:=hKB;clear hKB)
 refine aM.gP (β:=Unit) (fun _=>en [(6,dI 20),(2,.one (.c (.clo bJ []))),(1,dI l.length),(0,.one (.c (.osl 5 i0 0 l.length cap)))]) (fun _ H2 _=>H2=H') (fun _=>0) () ⟨noF,_,by repeat' (first| (with_reducible first|exact C1|refine C2 ?_ ?_)| ((with_reducible refine C0 ?_);first|exact CQ (by omega) rfl rfl (by rfl) rfl|exact CH (by rfl))| ((with_reducible refine D0 ?_);first|exact CA rfl|refine CJ ?_)|fail),aK,rfl⟩ ?_
 rintro u H2 nx2 hnx2 rfl KM hKM
 repeat' (first| (with_reducible first| (refine hK _ _ _ ?_;clear hK K)| (refine hB ?_;clear hA hB A B)|refine Z1 ?_|refine Z5 (by omega) ?_|refine hKX _ _ _ ?_)| (with_reducible first|refine Y2 fun K hK=> ?_|refine Y3 fun A B hA hB=> ?_)<;>(simp only[go_sem])| ((with_reducible refine Y9 ?_);try simp only[AQ.then,AQ.blk,reduceIte,Nat.reduceEqDiff])| ((with_reducible refine Y0 ?_);simp only[AQ.then,AQ.blk])|fail)
 exact hQ _ _ _ _ _ (.inl rfl) rfl (h _ _ (by omega) bfZ fun id e0 e1=>ffr id (by omega) e1)
theorem a3D {l:List Job} {m cap i0:Nat} (hl:l.length<20) (hi:i0<nx) (o0:H i0=some ⟨5,m,l.map aS⟩)
 (h: ∀H' nx',nx≤nx'→H' i0=some ⟨5,m,(jX l).map aS⟩→(∀id,id<nx→id≠i0→H' id=H id)→K (.tup []) H' nx'):
 aB Try.prog cG [.one (.c (.osl 5 i0 0 l.length cap)),.one (.c (.clo bJ []))] H nx K:=by
 refine mA rfl fun Q hQ=> ?_
 unfold dF
 repeat' (first| (with_reducible (refine hK _ _ _ ?_;clear hK K))| (first| (with_reducible refine Y2 fun K hK=> ?_)| (refine bb2 hl (by omega) o0 (fun H' nx' hx' bfZ ffr=> ?_)))<;>(simp only[go_sem])| ((with_reducible refine Y0 ?_);simp only[AQ.then,AQ.blk])|fail)
 exact hQ _ _ _ _ _ (.inl rfl) rfl (h _ _ (by omega) bfZ fun id e0 e1=>ffr id (by omega) e1)
end
end Go.Proofs.Ytmccpdapaccnoaa
end
