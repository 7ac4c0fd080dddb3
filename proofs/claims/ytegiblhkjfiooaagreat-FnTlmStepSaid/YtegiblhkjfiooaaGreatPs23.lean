/- Texts laid together by a program: rules, contracts and the walk that leads to the law. -/
import Derived.Test.YtegiblhkjfiooaaGreatPs22
import Derived.Test.YtegiblhkjfiooaaGreatPs19
import Derived.Test.YtegiblhkjfiooaaGreatPs3
set_option linter.unusedVariables false
set_option linter.unusedSimpArgs false
set_option linter.unusedSectionVars false
section
namespace Go.AM
structure aVX (s:TSt):Prop where
 words:s.words.length≤65
 holds:s.holds.length≤6
 asked:s.asked.length≤3
 wait:s.wait.length≤40
 done:s.done.length≤40
 told:s.told.length≤40
 data: ∀j∈s.wait++s.done++s.told,j.rsp.data.length≤8
theorem aVY {s:TSt} (h1:s.words.length≤65) (h2:s.holds.length≤6) (h3:s.asked.length≤3) (h4:s.wait.length≤40) (h5:s.done.length≤40) (h6:s.told.length≤40) (d3: ∀j∈s.wait,j.rsp.data.length≤8) (d4: ∀j∈s.done,j.rsp.data.length≤8) (d5: ∀j∈s.told,j.rsp.data.length≤8):aVX s:=
 ⟨h1,h2,h3,h4,h5,h6,fun j hj=>by
  simp only[List.mem_append] at hj
  rcases hj with(hj|hj)|hj
  ·exact d3 j hj
  ·exact d4 j hj
  ·exact d5 j hj⟩
theorem aWQ {l:List Job} {j:Job} (h: ∀x∈l,x.rsp.data.length≤8) (hj:j.rsp.data.length≤8): ∀x∈l++[j],x.rsp.data.length≤8:=fun x hx=>by
 rcases List.mem_append.1 hx with hx|hx
 ·exact h x hx
 ·simp at hx;subst hx;exact hj
theorem aVX.fit {s:TSt} (h:aVX s):aTQ s:=by
 obtain⟨h1,h2,h3,h4,h5,h6,h7⟩:=h
 exact⟨by omega,by omega,by omega,by omega,by omega,by omega,fun j hj=>by have:=h7 j hj;omega⟩
theorem BA.small {c:Cfg} {s:TSt} (hb:aQ c) (hs:BA c s):aVX s:=by
 have h:=hs.lens hb
 refine⟨by rw[hs.atm.wl];decide,by rw[hs.atm.hl];decide,by rw[hs.JI];decide,by omega,by omega,by omega,fun j hj=> ?_⟩
 simp only[List.mem_append] at hj
 rcases hj with(hj|hj)|hj
 ·rw[hs.P4 j hj];decide
 ·have:=(hs.R8 j (by simp[hj])).1.2.2.1;omega
 ·have:=(hs.R8 j (by simp[hj])).1.2.2.1;omega
end Go.AM
namespace Go.Proofs.YtegiblhkjfiooaaGreat
open Go Go.AM
set_option maxRecDepth 100000
set_option maxHeartbeats 8000000
section
variable {H : aA} {nx : Nat} {K : D → aA → Nat → Prop}
theorem aXI {H:aA} {e:Env} {t1 n1 id1 m1 t2 n2 id2 m2:Nat} {cs1 cs2:List D1} (he1:e t1= .one (.c (.ptr n1 id1 0 0))) (ho1:H id1=some ⟨n1,m1,[cs1]⟩) (hl1:cs1.length=n1) (he2:e t2= .one (.c (.ptr n2 id2 0 0))) (ho2:H id2=some ⟨n2,m2,[cs2]⟩) (hl2:cs2.length=n2):
 yT H e [.cell t1 n1 true,.cell t2 n2 true]=some (.tup [.agg cs1,.agg cs2]):=by
 subst hl1;subst hl2
 simp[yT,VP,he1,he2,tT,ho1,ho2,mkV,as1]
theorem aW9 {F:Nat→Prop} {b m cap:Nat} {l:List Job} {j:Job} {row:List D1} (h:H b=some ⟨5,m,l.map aS++[row]⟩) (hr:VK H F (aS j) row) (hF:F b) (hc:l.length+1≤cap):Frz H F (.isl ((l++[j]).map aS)) (.osl 5 b 0 (l.length+1) cap):=by
 refine QM hF h rfl (by simp) (by simp) hc fun i r' hr'=> ?_
 rw[Nat.zero_add]
 rw[List.map_append,List.getElem?_append] at hr'
 dsimp only
 rw[List.getElem?_append]
 by_cases hi:i<(l.map aS).length
 ·rw[if_pos hi] at hr' ⊢
  have:=aG dZ _ _ (List.mem_of_getElem? hr')
  exact⟨this.1,r',hr',amO this.2⟩
 ·rw[if_neg hi] at hr' ⊢
  rw[List.map_cons,List.map_nil,List.getElem?_singleton] at hr'
  rw[List.getElem?_singleton]
  split at hr'
  ·rename_i h0
   simp only[Option.some.injEq] at hr'
   subst hr'
   exact⟨rfl,row,if_pos h0,hr⟩
  ·cases hr'
theorem aWF:cJ Tryz.prog aVL Tryz.f98 aVI aVR:=cJ.mk Tryz.func98 (by kernel_rfl) aWB
theorem aWK {l:List Int} {p i:Nat} {n:Int} (hn:0<n∧n<9000) (hl:kZ l) (hp50:p+12000<2^50) (hi:i<nx) (ho:H i=some (rdO l p))
 (h: ∀H' nx' p' (c:Cfg) (s:TSt),nx≤nx'→jO c→aVX s→p≤p'→p'≤p+12000→H' i=some (rdO l p')→(∀id,id<nx→id≠i→H' id=H id)→K (.tup [.agg (cU c),.agg (eSt s)]) H' nx'):aB Tryz.prog aVL [dP 2 i,dI n] H nx K:=by
 refine aB.tW ?_
 refine aWF rfl fun Q hQ=> ?_
 unfold aVI
 have hA:bQ nx [i]:=AM.apart (by simp) (by simp;omega)
 simp only[bQ,eZ] at hA
 repeat' (first| (with_reducible first| (refine hK _ _ _ ?_;clear hK K)|refine Z1 ?_)| (first| (with_reducible refine Y2 fun K hK=> ?_)| (refine aRH (p:=p) hl (by omega) (by omega) (by omega) (by rw[aA.aC (by omega),aA.aC (by omega)];exact ho) (fun H1 nx1 pb c es b0 b1 b2 b3 b4 b5 c0 c1 c2 c3 c4 c5 be ce h1 h2 h3 h4 h5 h6 q0 aUV aUW aIG aII aUX aIH aUY u8 ⟨o0,o1,o2,o3,o4,o5⟩ oe qf=> ?_)))<;>(simp only[go_sem,Nat.add_assoc,Nat.left_eq_add,Nat.add_eq_left,hA,aU4])|fail)
 have hcf:=h2
 have hl36:=(azI h1 (arF c) h3).lens h1
 have hs:=azI h1 (arF c) h3
 have hsm:=hs.small h1
 generalize runM c st0 es=s at*
 have r1:H1 nx=some ⟨3,1,[[.osl 0 0 0 0 0,.osl 0 0 0 0 0,.osl 0 0 0 0 0]]⟩:=by rw[qf _ (by omega) (by omega),aA.aC (by omega)];exact aA.bH
 have r2:H1 (nx+1)=some ⟨6,1,[[.osl 0 0 0 0 0,.osl 0 0 0 0 0,.osl 0 0 0 0 0,.osl 0 0 0 0 0,.osl 0 0 0 0 0,.osl 0 0 0 0 0]]⟩:=by rw[qf _ (by omega) (by omega)];exact aA.bH
 have rf: ∀id,id<nx→id≠i→H1 id=H id:=fun id h1 h2=>by rw[qf id (by omega) h2,aA.aC (by omega),aA.aC (by omega)]
 generalize hG:aA.set _ (nx+9) _=G
 have hG:=hG.symm
 have q0:G i=some (rdO l pb):=by rw[hG,aA.aC (by omega),aA.aC (by omega)];exact q0
 have q1:G nx=some ⟨3,1,[[.osl 0 0 0 0 0,.osl 0 0 0 0 0,.osl 0 0 0 0 0]]⟩:=by rw[hG,aA.aC (by omega),aA.aC (by omega)];exact r1
 have q2:G (nx+1)=some ⟨6,1,[[.osl 0 0 0 0 0,.osl 0 0 0 0 0,.osl 0 0 0 0 0,.osl 0 0 0 0 0,.osl 0 0 0 0 0,.osl 0 0 0 0 0]]⟩:=by rw[hG,aA.aC (by omega),aA.aC (by omega)];exact r2
 have q3:G (nx+8)=some ⟨3,1,[cU c]⟩:=by rw[hG,aA.aC (by omega)];exact aA.bH
 have q4:G (nx+9)=some ⟨6,1,[[.osl 1 b0 0 s.words.length c0,.osl 1 b1 0 s.holds.length c1,.osl 1 b2 0 s.asked.length c2,.osl 5 b3 0 s.wait.length c3,.osl 5 b4 0 s.done.length c4,.osl 5 b5 0 s.told.length c5]]⟩:=by rw[hG];exact aA.bH
 obtain⟨m0,p0,e0,d0⟩:=o0.of (H':=G) (by rw[hG,aA.aC (by omega),aA.aC (by omega)])
 obtain⟨m1,p1,e1,d1⟩:=o1.of (H':=G) (by rw[hG,aA.aC (by omega),aA.aC (by omega)])
 obtain⟨m2,p2,e2,d2⟩:=o2.of (H':=G) (by rw[hG,aA.aC (by omega),aA.aC (by omega)])
 obtain⟨m3,p3,e3,d3⟩:=o3.of (H':=G) (by rw[hG,aA.aC (by omega),aA.aC (by omega)])
 obtain⟨m4,p4,e4,d4⟩:=o4.of (H':=G) (by rw[hG,aA.aC (by omega),aA.aC (by omega)])
 obtain⟨m5,p5,e5,d5⟩:=o5.of (H':=G) (by rw[hG,aA.aC (by omega),aA.aC (by omega)])
 have qf: ∀id,id<nx→id≠i→G id=H id:=fun id h1 h2=>by rw[hG,aA.aC (by omega),aA.aC (by omega)];exact rf id h1 h2
 clear hG r1 r2 rf o0 o1 o2 o3 o4 o5 oe
 have hal:=hs.JI
 obtain⟨s1,s2,s3,s4,s5,aIE,aXM⟩:=hsm
 have t3:s.wait.take s.wait.length=s.wait:=List.take_length
 have t4:s.done.take s.done.length=s.done:=List.take_length
 have aU1:s.told.take s.told.length=s.told:=List.take_length
 have hA1:bQ nx1 [i,nx,nx+1,nx+8,nx+9,b0,b1,b2,b3,b4,b5]:=AM.apart (by simp;omega) (by simp;omega)
 simp only[bQ,eZ] at hA1
 have hM: ∀(d k:Nat) (G:aA),msk (nx1+d) [k] G (nx+9)=G (nx+9):=fun d k G=>mk1 (by omega)
 have endT: ∀(aID:aA) (nx2:Nat) (c':Cfg) (s':TSt) (cells:List D1) (pb2:Nat) (F:Nat→Prop),nx1≤nx2→aID nx=some ⟨3,1,[cU c']⟩→aID (nx+1)=some ⟨6,1,[cells]⟩→cells.length=6→jO c'→aVX s'→p≤pb2→pb2≤p+12000→aID i=some (rdO l pb2)→(∀id,id<nx→id≠i→aID id=H id)→(∀j,F j→nx+10≤j)→VK aID F (eSt s') cells→
  ∀{e2:Env},e2 4= .one (.c (.ptr 3 nx 0 0))→e2 5= .one (.c (.ptr 6 (nx+1) 0 0))→Q .ret e2 aID nx2:=fun aID nx2 c' s' cells pb2 F g1 g2 g3 g4 g5 g6 g7 g8 g9 g10 g11 g12 e2 he1 he2=>by
  have hh:=h (without F aID) nx2 pb2 c' s' (by omega) g5 g6 g7 g8 (by rw[iI fun hj=>by have:=g11 _ hj;omega];exact g9) fun id h1 h2=>by rw[iI fun hj=>by have:=g11 _ hj;omega];exact g10 id h1 h2
  exact hQ _ _ _ _ _ (.inr rfl) (aXI (m1:=1) (m2:=1) he1 g2 rfl he2 g3 g4) ⟨_,_,F,ay7 (ayY (GW fun x hx=>List.all_eq_true.1 (azD c').2 x hx)) (ayY (A8 g12)),kS,hh⟩
 have hd3: ∀j∈s.wait,j.rsp.data.length≤8:=fun j hj=>aXM j (by simp[hj])
 have hd4: ∀j∈s.done,j.rsp.data.length≤8:=fun j hj=>aXM j (by simp[hj])
 have hd5: ∀j∈s.told,j.rsp.data.length≤8:=fun j hj=>aXM j (by simp[hj])
 have w0: ∀(aID:aA) (F:Nat→Prop),aID b0=some ⟨1,m0,s.words.map aJ⟩→F b0→Frz aID F (.isl (s.words.map aJ)) (.osl 1 b0 0 s.words.length c0):=fun aID F h1 h2=>ay5 (σ:=id) (nh:=0) rfl (bW bF h1 rfl e0 h2)
 have w1: ∀(aID:aA) (F:Nat→Prop),aID b1=some ⟨1,m1,s.holds.map aJ⟩→F b1→Frz aID F (.isl (s.holds.map aJ)) (.osl 1 b1 0 s.holds.length c1):=fun aID F h1 h2=>ay5 (σ:=id) (nh:=0) rfl (bW bF h1 rfl e1 h2)
 have w2: ∀(aID:aA) (F:Nat→Prop) (L:List Int) (k:Nat),L.length=k→k=s.asked.length→aID b2=some ⟨1,m2,L.map aJ⟩→F b2→Frz aID F (.isl (L.map aJ)) (.osl 1 b2 0 k c2):=fun aID F L k h0 h00 h1 h2=>ay5 (σ:=id) (nh:=0) rfl (bW bF h1 h0.symm (by omega) h2)
 have w3: ∀(aID:aA) (F:Nat→Prop),aID b3=some ⟨5,m3,s.wait.map aS⟩→F b3→Frz aID F (.isl (s.wait.map aS)) (.osl 5 b3 0 s.wait.length c3):=fun aID F h1 h2=>ay5 (σ:=id) (nh:=0) rfl (bW dZ h1 rfl e3 h2)
 have w4: ∀(aID:aA) (F:Nat→Prop),aID b4=some ⟨5,m4,s.done.map aS⟩→F b4→Frz aID F (.isl (s.done.map aS)) (.osl 5 b4 0 s.done.length c4):=fun aID F h1 h2=>ay5 (σ:=id) (nh:=0) rfl (bW dZ h1 rfl e4 h2)
 have w5: ∀(aID:aA) (F:Nat→Prop),aID b5=some ⟨5,m5,s.told.map aS⟩→F b5→Frz aID F (.isl (s.told.map aS)) (.osl 5 b5 0 s.told.length c5):=fun aID F h1 h2=>ay5 (σ:=id) (nh:=0) rfl (bW dZ h1 rfl e5 h2)
 refine d6 (p:=pb) hn hl (by omega) (by omega) q0 fun pc bb hp1 hp2 _=> ?_
 (try simp only[go_sem,Nat.add_assoc,Nat.left_eq_add,Nat.add_eq_left,q0,q1,q2,q3,q4,p0,p1,p2,p3,p4,p5,t3,t4,aU1,hA1,hM]);repeat' (first| (with_reducible first| (refine hK _ _ _ ?_;clear hK K)| (refine hA ?_;clear hA hB A B)| (refine hB ?_;clear hA hB A B)|refine Z1 ?_|refine Z2 ?_|refine Z3 fun KB hKB=> ?_|refine Z6 (fun h=> ?_) fun h=> ?_)| (first| (with_reducible first|refine Y2 fun K hK=> ?_|refine Y3 fun A B hA hB=> ?_)| (refine aX (p:=pc) hl (by omega) (by omega) (by omega) aA.bH (fun x h1 h2=> ?_)))<;>(simp only[go_sem,Nat.add_assoc,Nat.left_eq_add,Nat.add_eq_left,q0,q1,q2,q3,q4,p0,p1,p2,p3,p4,p5,t3,t4,aU1,hA1,hM])| ((with_reducible refine Y8 ?_);try simp only[AQ.then,AQ.blk,reduceIte,Nat.reduceEqDiff])| ((with_reducible refine Y0 ?_);simp only[AQ.then,AQ.blk])| ((with_reducible refine Z8 (fun h=> ?_) (fun h=> ?_))<;>try subst h)|refine⟨by omega,?_⟩| (with_reducible refine hKB _ _ _ ?_)|fail)
 ·refine aW5 (p:=pc+1) (n:=2) (by omega) hl (by omega) (by omega) aA.bH fun p6 w u hp3 hp4 ⟨hw1,hw2⟩=> ?_
  (try simp only[go_sem,Nat.add_assoc,Nat.left_eq_add,Nat.add_eq_left,q0,q1,q2,q3,q4,hA1,hM]);repeat' (first| (with_reducible first| (refine hK _ _ _ ?_;clear hK K)|refine Z1 ?_)| (with_reducible refine Y2 fun K hK=> ?_)<;>(simp only[go_sem,Nat.add_assoc,Nat.left_eq_add,Nat.add_eq_left,q0,q1,q2,q3,q4,hA1,hM])| ((with_reducible refine Y8 ?_);try simp only[AQ.then,AQ.blk,reduceIte,Nat.reduceEqDiff])| ((with_reducible refine Y0 ?_);simp only[AQ.then,AQ.blk])| (with_reducible refine hKB _ _ _ ?_)|fail)
  exact endT _ _ c ⟨w,u,s.asked,s.wait,s.done,s.told⟩ _ p6 (fun j=>j=b0∨j=b1∨j=b2∨j=b3∨j=b4∨j=b5) (by omega) (by simp only[aA.set,aA.del,Nat.add_assoc,Nat.reduceAdd,Nat.add_left_cancel_iff,Nat.reduceEqDiff,Nat.left_eq_add,Nat.add_eq_left,if_true,if_false,hA1,q3];done) aA.bH rfl hcf (aVY hw1 hw2 s3 s4 s5 aIE hd3 hd4 hd5) (by omega) (by omega) (by simp only[aA.set,aA.del,Nat.add_assoc,Nat.reduceAdd,Nat.add_left_cancel_iff,Nat.reduceEqDiff,Nat.left_eq_add,Nat.add_eq_left,if_true,if_false,hA1];done) (fun id h1 h2=>by rw[aA.aC (by omega),aA.aC (by omega),aA.aC (by omega),aA.aC h2];exact qf id h1 h2) (fun j hj=>by omega) (fO (.same _ rfl) (fO (.same _ rfl) (fO (w2 _ _ s.asked _ rfl rfl (by simp only[aA.set,aA.del,Nat.add_assoc,Nat.reduceAdd,Nat.add_left_cancel_iff,Nat.reduceEqDiff,Nat.left_eq_add,Nat.add_eq_left,if_true,if_false,hA1,p2];done) (by simp)) (fO (w3 _ _ (by simp only[aA.set,aA.del,Nat.add_assoc,Nat.reduceAdd,Nat.add_left_cancel_iff,Nat.reduceEqDiff,Nat.left_eq_add,Nat.add_eq_left,if_true,if_false,hA1,p3];done) (by simp)) (fO (w4 _ _ (by simp only[aA.set,aA.del,Nat.add_assoc,Nat.reduceAdd,Nat.add_left_cancel_iff,Nat.reduceEqDiff,Nat.left_eq_add,Nat.add_eq_left,if_true,if_false,hA1,p4];done) (by simp)) (fO (w5 _ _ (by simp only[aA.set,aA.del,Nat.add_assoc,Nat.reduceAdd,Nat.add_left_cancel_iff,Nat.reduceEqDiff,Nat.left_eq_add,Nat.add_eq_left,if_true,if_false,hA1,p5];done) (by simp)) LH)))))) rfl rfl
 ·refine aX (p:=pc+1) hl (by omega) (by omega) (by omega) aA.bH fun y hy1 hy2=> ?_
  (try simp only[go_sem,Nat.add_assoc,Nat.left_eq_add,Nat.add_eq_left,q0,q1,q2,q3,q4,hA1,hM]);skip
  generalize aU3:dT (nx1+9) [4] _ (msk (nx1+9) [4] G)=U
  have kq1:U nx=some ⟨3,1,[[.osl 0 0 0 0 0,.osl 0 0 0 0 0,.osl 0 0 0 0 0]]⟩:=by rw[←aU3,um1 (by omega),mk1 (by omega)];exact q1
  have kq2:U (nx+1)=some ⟨6,1,[[.osl 0 0 0 0 0,.osl 0 0 0 0 0,.osl 0 0 0 0 0,.osl 0 0 0 0 0,.osl 0 0 0 0 0,.osl 0 0 0 0 0]]⟩:=by rw[←aU3,um1 (by omega),mk1 (by omega)];exact q2
  have kq3:U (nx+8)=some ⟨3,1,[cU c]⟩:=by rw[←aU3,um1 (by omega),mk1 (by omega)];exact q3
  have kq4:U (nx+9)=some ⟨6,1,[[.osl 1 b0 0 s.words.length c0,.osl 1 b1 0 s.holds.length c1,.osl 1 b2 0 s.asked.length c2,.osl 5 b3 0 s.wait.length c3,.osl 5 b4 0 s.done.length c4,.osl 5 b5 0 s.told.length c5]]⟩:=by rw[←aU3,um1 (by omega),mk1 (by omega)];exact q4
  have kp0:U b0=some ⟨1,m0,s.words.map aJ⟩:=by rw[←aU3,um1 (by omega),mk1 (by omega)];exact p0
  have kp1:U b1=some ⟨1,m1,s.holds.map aJ⟩:=by rw[←aU3,um1 (by omega),mk1 (by omega)];exact p1
  have kp2:U b2=some ⟨1,m2,s.asked.map aJ⟩:=by rw[←aU3,um1 (by omega),mk1 (by omega)];exact p2
  have kp3:U b3=some ⟨5,m3,s.wait.map aS⟩:=by rw[←aU3,um1 (by omega),mk1 (by omega)];exact p3
  have kp4:U b4=some ⟨5,m4,s.done.map aS⟩:=by rw[←aU3,um1 (by omega),mk1 (by omega)];exact p4
  have kp5:U b5=some ⟨5,m5,s.told.map aS⟩:=by rw[←aU3,um1 (by omega),mk1 (by omega)];exact p5
  have kqf: ∀id,id<nx→id≠i→U id=H id:=fun id h1 h2=>by rw[←aU3,um1 (by omega),mk1 (by omega)];exact qf id h1 h2
  have k6:U (nx1+9+4)=some ⟨1,3,[[.v (.int .i64 (-1))],[.v (.int .i64 13)],[.v (.int .i64 1)]]⟩:=by rw[←aU3,aH6];exact aA.bH
  clear aU3 q0 q1 q2 q3 q4 p0 p1 p2 p3 p4 p5 qf
  refine⟨fun _=>by rw[kq4];rfl,?_⟩
  refine aX (p:=pc+2) hl (by omega) (by omega) (by omega) aA.bH fun z hz1 hz2=> ?_
  (try simp only[go_sem,Nat.add_assoc,Nat.left_eq_add,Nat.add_eq_left,kq4,hA1,hM]);skip
  generalize aU3:dT (nx1+9) [4] _ (msk (nx1+9) [4] U)=V
  have tq1:V nx=some ⟨3,1,[[.osl 0 0 0 0 0,.osl 0 0 0 0 0,.osl 0 0 0 0 0]]⟩:=by rw[←aU3,um1 (by omega),mk1 (by omega)];exact kq1
  have tq2:V (nx+1)=some ⟨6,1,[[.osl 0 0 0 0 0,.osl 0 0 0 0 0,.osl 0 0 0 0 0,.osl 0 0 0 0 0,.osl 0 0 0 0 0,.osl 0 0 0 0 0]]⟩:=by rw[←aU3,um1 (by omega),mk1 (by omega)];exact kq2
  have tq3:V (nx+8)=some ⟨3,1,[cU c]⟩:=by rw[←aU3,um1 (by omega),mk1 (by omega)];exact kq3
  have tq4:V (nx+9)=some ⟨6,1,[[.osl 1 b0 0 s.words.length c0,.osl 1 b1 0 s.holds.length c1,.osl 1 b2 0 s.asked.length c2,.osl 5 b3 0 s.wait.length c3,.osl 5 b4 0 s.done.length c4,.osl 5 b5 0 s.told.length c5]]⟩:=by rw[←aU3,um1 (by omega),mk1 (by omega)];exact kq4
  have tp0:V b0=some ⟨1,m0,s.words.map aJ⟩:=by rw[←aU3,um1 (by omega),mk1 (by omega)];exact kp0
  have tp1:V b1=some ⟨1,m1,s.holds.map aJ⟩:=by rw[←aU3,um1 (by omega),mk1 (by omega)];exact kp1
  have tp2:V b2=some ⟨1,m2,s.asked.map aJ⟩:=by rw[←aU3,um1 (by omega),mk1 (by omega)];exact kp2
  have tp3:V b3=some ⟨5,m3,s.wait.map aS⟩:=by rw[←aU3,um1 (by omega),mk1 (by omega)];exact kp3
  have tp4:V b4=some ⟨5,m4,s.done.map aS⟩:=by rw[←aU3,um1 (by omega),mk1 (by omega)];exact kp4
  have tp5:V b5=some ⟨5,m5,s.told.map aS⟩:=by rw[←aU3,um1 (by omega),mk1 (by omega)];exact kp5
  have tqf: ∀id,id<nx→id≠i→V id=H id:=fun id h1 h2=>by rw[←aU3,um1 (by omega),mk1 (by omega)];exact kqf id h1 h2
  have aU2:V (nx1+13)=some ⟨1,3,[[.v (.int .i64 (-1))],[.v (.int .i64 13)],[.v (.int .i64 1)]]⟩:=by
   rw[show nx1+13=nx1+9+4 from rfl,←aU3,aH6,aA.aC (by omega)];exact k6
  clear aU3 kq1 kq2 kq3 kq4 kp0 kp1 kp2 kp3 kp4 kp5 k6 kqf
  refine⟨fun _=>by rw[tq4];rfl,by omega,?_⟩
  obtain⟨v,hv⟩:=aN1 (L:=[[.v (.int .i64 (-1))],[.v (.int .i64 13)],[.v (.int .i64 1)]]) (by simp) hz1 (by simp;omega)
  (try simp only[go_sem,Nat.add_assoc,Nat.left_eq_add,Nat.add_eq_left,tq1,tq2,tq3,tq4,tp2,aU2,hv,hA1,hM,hal]);repeat' (first| (with_reducible first| (refine hK _ _ _ ?_;clear hK K)|refine Z1 ?_)| (with_reducible refine Y2 fun K hK=> ?_)<;>(simp only[go_sem,Nat.add_assoc,Nat.left_eq_add,Nat.add_eq_left,tq1,tq2,tq3,tq4,tp2,aU2,hv,hA1,hM,hal])| ((with_reducible refine Y8 ?_);try simp only[AQ.then,AQ.blk,reduceIte,Nat.reduceEqDiff])| ((with_reducible refine Y0 ?_);simp only[AQ.then,AQ.blk])|refine⟨by omega,?_⟩| (with_reducible refine hKB _ _ _ ?_)|fail)
  exact endT _ _ c ⟨s.words,s.holds,s.asked.set y.toNat v,s.wait,s.done,s.told⟩ _ (pc+3) (fun j=>j=b0∨j=b1∨j=b2∨j=b3∨j=b4∨j=b5) (by omega) (by simp only[aA.set,aA.del,Nat.add_assoc,Nat.reduceAdd,Nat.add_left_cancel_iff,Nat.reduceEqDiff,Nat.left_eq_add,Nat.add_eq_left,if_true,if_false,hA1,tq3];done) aA.bH rfl hcf (aVY s1 s2 (by simp;omega) s4 s5 aIE hd3 hd4 hd5) (by omega) (by omega) (by simp only[aA.set,aA.del,Nat.add_assoc,Nat.reduceAdd,Nat.add_left_cancel_iff,Nat.reduceEqDiff,Nat.left_eq_add,Nat.add_eq_left,if_true,if_false,hA1];done) (fun id h1 h2=>by rw[aA.aC (by omega),aA.aC (by omega),aA.aC (by omega),aA.aC h2];exact tqf id h1 h2) (fun j hj=>by omega) (fO (w0 _ _ (by simp only[aA.set,aA.del,Nat.add_assoc,Nat.reduceAdd,Nat.add_left_cancel_iff,Nat.reduceEqDiff,Nat.left_eq_add,Nat.add_eq_left,if_true,if_false,hA1,tp0];done) (by simp)) (fO (w1 _ _ (by simp only[aA.set,aA.del,Nat.add_assoc,Nat.reduceAdd,Nat.add_left_cancel_iff,Nat.reduceEqDiff,Nat.left_eq_add,Nat.add_eq_left,if_true,if_false,hA1,tp1];done) (by simp)) (fO (w2 _ _ (s.asked.set y.toNat v) _ (by simp;omega) hal.symm (by simp only[aA.set,aA.del,Nat.add_assoc,Nat.reduceAdd,Nat.add_left_cancel_iff,Nat.reduceEqDiff,Nat.left_eq_add,Nat.add_eq_left,if_true,if_false,hA1];done) (by simp)) (fO (w3 _ _ (by simp only[aA.set,aA.del,Nat.add_assoc,Nat.reduceAdd,Nat.add_left_cancel_iff,Nat.reduceEqDiff,Nat.left_eq_add,Nat.add_eq_left,if_true,if_false,hA1,tp3];done) (by simp)) (fO (w4 _ _ (by simp only[aA.set,aA.del,Nat.add_assoc,Nat.reduceAdd,Nat.add_left_cancel_iff,Nat.reduceEqDiff,Nat.left_eq_add,Nat.add_eq_left,if_true,if_false,hA1,tp4];done) (by simp)) (fO (w5 _ _ (by simp only[aA.set,aA.del,Nat.add_assoc,Nat.reduceAdd,Nat.add_left_cancel_iff,Nat.reduceEqDiff,Nat.left_eq_add,Nat.add_eq_left,if_true,if_false,hA1,tp5];done) (by simp)) LH)))))) rfl rfl
 ·refine aX (p:=pc+1) hl (by omega) (by omega) (by omega) aA.bH fun y hy1 hy2=> ?_
  (try simp only[go_sem,Nat.add_assoc,Nat.left_eq_add,Nat.add_eq_left,q0,q1,q2,q3,q4,p3,t3,hA1,hM]);repeat' (first| (with_reducible first| (refine hK _ _ _ ?_;clear hK K)|refine Z1 ?_|refine fun(cap:Nat) (hcap:_≤cap)=> ?_|refine fun(hcp:_≤cap)=> ?_)| (first| (with_reducible refine Y2 fun K hK=> ?_)| (refine aX (p:=pc+2) hl (by omega) (by omega) (by omega) aA.bH (fun z hz1 hz2=> ?_)))<;>(simp only[go_sem,Nat.add_assoc,Nat.left_eq_add,Nat.add_eq_left,q0,q1,q2,q3,q4,p3,t3,hA1,hM];try simp (disch:=omega) only[Iw])| ((with_reducible refine Y8 ?_);try simp only[AQ.then,AQ.blk,reduceIte,Nat.reduceEqDiff])| ((with_reducible refine Y0 ?_);simp only[AQ.then,AQ.blk])|refine⟨by omega,?_⟩| (with_reducible refine hKB _ _ _ ?_)|fail)
  exact endT _ _ c ⟨s.words,s.holds,s.asked,s.wait++[⟨y-1,z,oW⟩],s.done,s.told⟩ _ (pc+3) (fun j=>j=b0∨j=b1∨j=b2∨j=b3∨j=b4∨j=b5∨j=nx1+20) (by omega) (by simp only[aA.set,aA.del,Nat.add_assoc,Nat.reduceAdd,Nat.add_left_cancel_iff,Nat.reduceEqDiff,Nat.left_eq_add,Nat.add_eq_left,if_true,if_false,hA1,q3];done) aA.bH rfl hcf (aVY s1 s2 s3 (by simp;omega) s5 aIE (aWQ hd3 (by simp[oW])) hd4 hd5) (by omega) (by omega) (by simp only[aA.set,aA.del,Nat.add_assoc,Nat.reduceAdd,Nat.add_left_cancel_iff,Nat.reduceEqDiff,Nat.left_eq_add,Nat.add_eq_left,if_true,if_false,hA1];done) (fun id h1 h2=>by rw[aA.aC (by omega),aA.aC (by omega),aA.aC (by omega),aA.aC (by omega),aA.aC (by omega),aA.aC h2,aA.jG (by omega)];exact qf id h1 h2) (fun j hj=>by omega) (fO (w0 _ _ (by simp only[aA.set,aA.del,Nat.add_assoc,Nat.reduceAdd,Nat.add_left_cancel_iff,Nat.reduceEqDiff,Nat.left_eq_add,Nat.add_eq_left,if_true,if_false,hA1,p0];done) (by simp)) (fO (w1 _ _ (by simp only[aA.set,aA.del,Nat.add_assoc,Nat.reduceAdd,Nat.add_left_cancel_iff,Nat.reduceEqDiff,Nat.left_eq_add,Nat.add_eq_left,if_true,if_false,hA1,p1];done) (by simp)) (fO (w2 _ _ s.asked _ rfl rfl (by simp only[aA.set,aA.del,Nat.add_assoc,Nat.reduceAdd,Nat.add_left_cancel_iff,Nat.reduceEqDiff,Nat.left_eq_add,Nat.add_eq_left,if_true,if_false,hA1,p2];done) (by simp)) (fO (aW9 (m:=cap) (row:=[cI (y-1),cI z,cI 0,cI 0,.osl 0 0 0 0 0]) (j:=⟨y-1,z,oW⟩) (by simp only[aA.set,aA.del,Nat.add_assoc,Nat.reduceAdd,Nat.add_left_cancel_iff,Nat.reduceEqDiff,Nat.left_eq_add,Nat.add_eq_left,if_true,if_false,hA1];done) (fO (.same _ rfl) (fO (.same _ rfl) (fO (.same _ rfl) (fO (.same _ rfl) (fO (.nil _ _ _) LH))))) (by simp) (by omega)) (fO (w4 _ _ (by simp only[aA.set,aA.del,Nat.add_assoc,Nat.reduceAdd,Nat.add_left_cancel_iff,Nat.reduceEqDiff,Nat.left_eq_add,Nat.add_eq_left,if_true,if_false,hA1,p4];done) (by simp)) (fO (w5 _ _ (by simp only[aA.set,aA.del,Nat.add_assoc,Nat.reduceAdd,Nat.add_left_cancel_iff,Nat.reduceEqDiff,Nat.left_eq_add,Nat.add_eq_left,if_true,if_false,hA1,p5];done) (by simp)) LH)))))) rfl rfl
 ·refine aX (p:=pc+1) hl (by omega) (by omega) (by omega) aA.bH fun y hy1 hy2=> ?_
  (try simp only[go_sem,Nat.add_assoc,Nat.left_eq_add,Nat.add_eq_left,q0,q1,q2,q3,q4,p4,t4,hA1,hM]);repeat' (first| (with_reducible first| (refine hK _ _ _ ?_;clear hK K)|refine Z1 ?_|refine fun(cap:Nat) (hcap:_≤cap)=> ?_|refine fun(hcp:_≤cap)=> ?_)| (first| (with_reducible refine Y2 fun K hK=> ?_)| (refine aX (p:=pc+2) hl (by omega) (by omega) (by omega) aA.bH (fun z hz1 hz2=> ?_))| (refine aV4 (n:=3) (p:=pc+3) (by omega) hl (by omega) (by omega) aA.bH (fun p6 rs hp3 hp4 hrs=> ?_)))<;>(simp only[go_sem,Nat.add_assoc,Nat.left_eq_add,Nat.add_eq_left,q0,q1,q2,q3,q4,p4,t4,hA1,hM];try simp (disch:=omega) only[Iw])| ((with_reducible refine Y8 ?_);try simp only[AQ.then,AQ.blk,reduceIte,Nat.reduceEqDiff])| ((with_reducible refine Y0 ?_);simp only[AQ.then,AQ.blk])|refine⟨by omega,?_⟩| (with_reducible refine hKB _ _ _ ?_)|fail)
  exact endT _ _ c ⟨s.words,s.holds,s.asked,s.wait,s.done++[⟨y-1,z,rs⟩],s.told⟩ _ p6 (fun j=>j=b0∨j=b1∨j=b2∨j=b3∨j=b4∨j=b5∨j=nx1+24) (by omega) (by simp only[aA.set,aA.del,Nat.add_assoc,Nat.reduceAdd,Nat.add_left_cancel_iff,Nat.reduceEqDiff,Nat.left_eq_add,Nat.add_eq_left,if_true,if_false,hA1,q3];done) aA.bH rfl hcf (aVY s1 s2 s3 s4 (by simp;omega) aIE hd3 (aWQ hd4 hrs) hd5) (by omega) (by omega) (by simp only[aA.set,aA.del,Nat.add_assoc,Nat.reduceAdd,Nat.add_left_cancel_iff,Nat.reduceEqDiff,Nat.left_eq_add,Nat.add_eq_left,if_true,if_false,hA1];done) (fun id h1 h2=>by rw[aA.aC (by omega),aA.aC (by omega),aA.aC (by omega),aA.aC (by omega),aA.aC (by omega),aA.aC h2,aA.jG (by omega)];exact qf id h1 h2) (fun j hj=>by omega) (fO (w0 _ _ (by simp only[aA.set,aA.del,Nat.add_assoc,Nat.reduceAdd,Nat.add_left_cancel_iff,Nat.reduceEqDiff,Nat.left_eq_add,Nat.add_eq_left,if_true,if_false,hA1,p0];done) (by simp)) (fO (w1 _ _ (by simp only[aA.set,aA.del,Nat.add_assoc,Nat.reduceAdd,Nat.add_left_cancel_iff,Nat.reduceEqDiff,Nat.left_eq_add,Nat.add_eq_left,if_true,if_false,hA1,p1];done) (by simp)) (fO (w2 _ _ s.asked _ rfl rfl (by simp only[aA.set,aA.del,Nat.add_assoc,Nat.reduceAdd,Nat.add_left_cancel_iff,Nat.reduceEqDiff,Nat.left_eq_add,Nat.add_eq_left,if_true,if_false,hA1,p2];done) (by simp)) (fO (w3 _ _ (by simp only[aA.set,aA.del,Nat.add_assoc,Nat.reduceAdd,Nat.add_left_cancel_iff,Nat.reduceEqDiff,Nat.left_eq_add,Nat.add_eq_left,if_true,if_false,hA1,p3];done) (by simp)) (fO (aW9 (m:=cap) (row:=cI (y-1)::cI z::tG rs) (j:=⟨y-1,z,rs⟩) (by simp only[aA.set,aA.del,Nat.add_assoc,Nat.reduceAdd,Nat.add_left_cancel_iff,Nat.reduceEqDiff,Nat.left_eq_add,Nat.add_eq_left,if_true,if_false,hA1];done) (amO fun x hx=>List.all_eq_true.1 (dZ (⟨y-1,z,rs⟩:Job)).2 x hx) (by simp) (by omega)) (fO (w5 _ _ (by simp only[aA.set,aA.del,Nat.add_assoc,Nat.reduceAdd,Nat.add_left_cancel_iff,Nat.reduceEqDiff,Nat.left_eq_add,Nat.add_eq_left,if_true,if_false,hA1,p5];done) (by simp)) LH)))))) rfl rfl
 ·refine aX (p:=pc+1) hl (by omega) (by omega) (by omega) aA.bH fun y hy1 hy2=> ?_
  (try simp only[go_sem,Nat.add_assoc,Nat.left_eq_add,Nat.add_eq_left,q0,q1,q2,q3,q4,p5,aU1,hA1,hM]);repeat' (first| (with_reducible first| (refine hK _ _ _ ?_;clear hK K)|refine Z1 ?_|refine fun(cap:Nat) (hcap:_≤cap)=> ?_|refine fun(hcp:_≤cap)=> ?_)| (first| (with_reducible refine Y2 fun K hK=> ?_)| (refine aX (p:=pc+2) hl (by omega) (by omega) (by omega) aA.bH (fun z hz1 hz2=> ?_))| (refine aV4 (n:=3) (p:=pc+3) (by omega) hl (by omega) (by omega) aA.bH (fun p6 rs hp3 hp4 hrs=> ?_)))<;>(simp only[go_sem,Nat.add_assoc,Nat.left_eq_add,Nat.add_eq_left,q0,q1,q2,q3,q4,p5,aU1,hA1,hM];try simp (disch:=omega) only[Iw])| ((with_reducible refine Y8 ?_);try simp only[AQ.then,AQ.blk,reduceIte,Nat.reduceEqDiff])| ((with_reducible refine Y0 ?_);simp only[AQ.then,AQ.blk])|refine⟨by omega,?_⟩| (with_reducible refine hKB _ _ _ ?_)|fail)
  exact endT _ _ c ⟨s.words,s.holds,s.asked,s.wait,s.done,s.told++[⟨y-1,z,rs⟩]⟩ _ p6 (fun j=>j=b0∨j=b1∨j=b2∨j=b3∨j=b4∨j=b5∨j=nx1+26) (by omega) (by simp only[aA.set,aA.del,Nat.add_assoc,Nat.reduceAdd,Nat.add_left_cancel_iff,Nat.reduceEqDiff,Nat.left_eq_add,Nat.add_eq_left,if_true,if_false,hA1,q3];done) aA.bH rfl hcf (aVY s1 s2 s3 s4 s5 (by simp;omega) hd3 hd4 (aWQ hd5 hrs)) (by omega) (by omega) (by simp only[aA.set,aA.del,Nat.add_assoc,Nat.reduceAdd,Nat.add_left_cancel_iff,Nat.reduceEqDiff,Nat.left_eq_add,Nat.add_eq_left,if_true,if_false,hA1];done) (fun id h1 h2=>by rw[aA.aC (by omega),aA.aC (by omega),aA.aC (by omega),aA.aC (by omega),aA.aC (by omega),aA.aC h2,aA.jG (by omega)];exact qf id h1 h2) (fun j hj=>by omega) (fO (w0 _ _ (by simp only[aA.set,aA.del,Nat.add_assoc,Nat.reduceAdd,Nat.add_left_cancel_iff,Nat.reduceEqDiff,Nat.left_eq_add,Nat.add_eq_left,if_true,if_false,hA1,p0];done) (by simp)) (fO (w1 _ _ (by simp only[aA.set,aA.del,Nat.add_assoc,Nat.reduceAdd,Nat.add_left_cancel_iff,Nat.reduceEqDiff,Nat.left_eq_add,Nat.add_eq_left,if_true,if_false,hA1,p1];done) (by simp)) (fO (w2 _ _ s.asked _ rfl rfl (by simp only[aA.set,aA.del,Nat.add_assoc,Nat.reduceAdd,Nat.add_left_cancel_iff,Nat.reduceEqDiff,Nat.left_eq_add,Nat.add_eq_left,if_true,if_false,hA1,p2];done) (by simp)) (fO (w3 _ _ (by simp only[aA.set,aA.del,Nat.add_assoc,Nat.reduceAdd,Nat.add_left_cancel_iff,Nat.reduceEqDiff,Nat.left_eq_add,Nat.add_eq_left,if_true,if_false,hA1,p3];done) (by simp)) (fO (w4 _ _ (by simp only[aA.set,aA.del,Nat.add_assoc,Nat.reduceAdd,Nat.add_left_cancel_iff,Nat.reduceEqDiff,Nat.left_eq_add,Nat.add_eq_left,if_true,if_false,hA1,p4];done) (by simp)) (fO (aW9 (m:=cap) (row:=cI (y-1)::cI z::tG rs) (j:=⟨y-1,z,rs⟩) (by simp only[aA.set,aA.del,Nat.add_assoc,Nat.reduceAdd,Nat.add_left_cancel_iff,Nat.reduceEqDiff,Nat.left_eq_add,Nat.add_eq_left,if_true,if_false,hA1];done) (amO fun x hx=>List.all_eq_true.1 (dZ (⟨y-1,z,rs⟩:Job)).2 x hx) (by simp) (by omega)) LH)))))) rfl rfl
 ·exact endT _ _ c ⟨s.words,s.holds,s.asked.drop 1,s.wait,s.done,s.told⟩ _ (pc+1) (fun j=>j=b0∨j=b1∨j=b2∨j=b3∨j=b4∨j=b5) (by omega) (by simp only[aA.set,aA.del,Nat.add_assoc,Nat.reduceAdd,Nat.add_left_cancel_iff,Nat.reduceEqDiff,Nat.left_eq_add,Nat.add_eq_left,if_true,if_false,hA1,q3];done) aA.bH rfl hcf (aVY s1 s2 (by simp;omega) s4 s5 aIE hd3 hd4 hd5) (by omega) (by omega) (by simp only[aA.set,aA.del,Nat.add_assoc,Nat.reduceAdd,Nat.add_left_cancel_iff,Nat.reduceEqDiff,Nat.left_eq_add,Nat.add_eq_left,if_true,if_false,hA1];done) (fun id h1 h2=>by rw[aA.aC (by omega),aA.aC (by omega),aA.aC (by omega),aA.aC h2];exact qf id h1 h2) (fun j hj=>by omega) (fO (w0 _ _ (by simp only[aA.set,aA.del,Nat.add_assoc,Nat.reduceAdd,Nat.add_left_cancel_iff,Nat.reduceEqDiff,Nat.left_eq_add,Nat.add_eq_left,if_true,if_false,hA1,p0];done) (by simp)) (fO (w1 _ _ (by simp only[aA.set,aA.del,Nat.add_assoc,Nat.reduceAdd,Nat.add_left_cancel_iff,Nat.reduceEqDiff,Nat.left_eq_add,Nat.add_eq_left,if_true,if_false,hA1,p1];done) (by simp)) (fO (ay5 (σ:=id) (nh:=0) rfl (aTY (aG bF _) (by simp) (by simp) (show aA.set _ (nx+1) _ b2=some ⟨1,m2,s.asked.map aJ⟩ from (by simp only[aA.set,aA.del,Nat.add_assoc,Nat.reduceAdd,Nat.add_left_cancel_iff,Nat.reduceEqDiff,Nat.left_eq_add,Nat.add_eq_left,if_true,if_false,hA1,p2];done)) rfl (by simp;omega) (by rw[List.take_of_length_le (by simp),List.map_drop]) (by simp;omega))) (fO (w3 _ _ (by simp only[aA.set,aA.del,Nat.add_assoc,Nat.reduceAdd,Nat.add_left_cancel_iff,Nat.reduceEqDiff,Nat.left_eq_add,Nat.add_eq_left,if_true,if_false,hA1,p3];done) (by simp)) (fO (w4 _ _ (by simp only[aA.set,aA.del,Nat.add_assoc,Nat.reduceAdd,Nat.add_left_cancel_iff,Nat.reduceEqDiff,Nat.left_eq_add,Nat.add_eq_left,if_true,if_false,hA1,p4];done) (by simp)) (fO (w5 _ _ (by simp only[aA.set,aA.del,Nat.add_assoc,Nat.reduceAdd,Nat.add_left_cancel_iff,Nat.reduceEqDiff,Nat.left_eq_add,Nat.add_eq_left,if_true,if_false,hA1,p5];done) (by simp)) LH)))))) rfl rfl
 ·refine aQA (n:=1) (p:=pc+1) (by omega) hl (by omega) (by omega) aA.bH fun H2 nx2 p6 c' v1 v2 aXN v4 aXO v6=> ?_
  have tq1:H2 nx=some ⟨3,1,[[.osl 0 0 0 0 0,.osl 0 0 0 0 0,.osl 0 0 0 0 0]]⟩:=by rw[v6 _ (by omega) (by omega),aA.aC (by omega)];exact q1
  have tq2:H2 (nx+1)=some ⟨6,1,[[.osl 0 0 0 0 0,.osl 0 0 0 0 0,.osl 0 0 0 0 0,.osl 0 0 0 0 0,.osl 0 0 0 0 0,.osl 0 0 0 0 0]]⟩:=by rw[v6 _ (by omega) (by omega),aA.aC (by omega)];exact q2
  have tq3:H2 (nx+8)=some ⟨3,1,[cU c]⟩:=by rw[v6 _ (by omega) (by omega),aA.aC (by omega)];exact q3
  have tq4:H2 (nx+9)=some ⟨6,1,[[.osl 1 b0 0 s.words.length c0,.osl 1 b1 0 s.holds.length c1,.osl 1 b2 0 s.asked.length c2,.osl 5 b3 0 s.wait.length c3,.osl 5 b4 0 s.done.length c4,.osl 5 b5 0 s.told.length c5]]⟩:=by rw[v6 _ (by omega) (by omega),aA.aC (by omega)];exact q4
  have tp0:H2 b0=some ⟨1,m0,s.words.map aJ⟩:=by rw[v6 _ (by omega) (by omega),aA.aC (by omega)];exact p0
  have tp1:H2 b1=some ⟨1,m1,s.holds.map aJ⟩:=by rw[v6 _ (by omega) (by omega),aA.aC (by omega)];exact p1
  have tp2:H2 b2=some ⟨1,m2,s.asked.map aJ⟩:=by rw[v6 _ (by omega) (by omega),aA.aC (by omega)];exact p2
  have tp3:H2 b3=some ⟨5,m3,s.wait.map aS⟩:=by rw[v6 _ (by omega) (by omega),aA.aC (by omega)];exact p3
  have tp4:H2 b4=some ⟨5,m4,s.done.map aS⟩:=by rw[v6 _ (by omega) (by omega),aA.aC (by omega)];exact p4
  have tp5:H2 b5=some ⟨5,m5,s.told.map aS⟩:=by rw[v6 _ (by omega) (by omega),aA.aC (by omega)];exact p5
  have tqf: ∀id,id<nx→id≠i→H2 id=H id:=fun id h1 h2=>by rw[v6 _ (by omega) h2,aA.aC h2];exact qf id h1 h2
  have hA2:bQ nx2 [i,nx,nx+1,nx+8,nx+9,b0,b1,b2,b3,b4,b5]:=AM.apart (by simp;omega) (by simp;omega)
  simp only[bQ,eZ] at hA2
  (try simp only[go_sem,Nat.add_assoc,Nat.left_eq_add,Nat.add_eq_left,tq1,tq2,tq3,tq4,hA2]);repeat' (first| (with_reducible first| (refine hK _ _ _ ?_;clear hK K)|refine Z1 ?_)| (with_reducible refine Y2 fun K hK=> ?_)<;>(simp only[go_sem,Nat.add_assoc,Nat.left_eq_add,Nat.add_eq_left,tq1,tq2,tq3,tq4,hA2])| ((with_reducible refine Y8 ?_);try simp only[AQ.then,AQ.blk,reduceIte,Nat.reduceEqDiff])| ((with_reducible refine Y0 ?_);simp only[AQ.then,AQ.blk])| (with_reducible refine hKB _ _ _ ?_)|fail)
  exact endT _ _ c' s _ p6 (fun j=>j=b0∨j=b1∨j=b2∨j=b3∨j=b4∨j=b5) (by omega) (by simp only[aA.set,aA.del,Nat.add_assoc,Nat.reduceAdd,Nat.add_left_cancel_iff,Nat.reduceEqDiff,Nat.left_eq_add,Nat.add_eq_left,if_true,if_false,hA2,tq3];done) aA.bH rfl v2 (aVY s1 s2 s3 s4 s5 aIE hd3 hd4 hd5) (by omega) (by omega) (by simp only[aA.set,aA.del,Nat.add_assoc,Nat.reduceAdd,Nat.add_left_cancel_iff,Nat.reduceEqDiff,Nat.left_eq_add,Nat.add_eq_left,if_true,if_false,hA2,aXO];done) (fun id h1 h2=>by rw[aA.aC (by omega),aA.aC (by omega),aA.aC (by omega)];exact tqf id h1 h2) (fun j hj=>by omega) (fO (w0 _ _ (by simp only[aA.set,aA.del,Nat.add_assoc,Nat.reduceAdd,Nat.add_left_cancel_iff,Nat.reduceEqDiff,Nat.left_eq_add,Nat.add_eq_left,if_true,if_false,hA2,tp0];done) (by simp)) (fO (w1 _ _ (by simp only[aA.set,aA.del,Nat.add_assoc,Nat.reduceAdd,Nat.add_left_cancel_iff,Nat.reduceEqDiff,Nat.left_eq_add,Nat.add_eq_left,if_true,if_false,hA2,tp1];done) (by simp)) (fO (w2 _ _ s.asked _ rfl rfl (by simp only[aA.set,aA.del,Nat.add_assoc,Nat.reduceAdd,Nat.add_left_cancel_iff,Nat.reduceEqDiff,Nat.left_eq_add,Nat.add_eq_left,if_true,if_false,hA2,tp2];done) (by simp)) (fO (w3 _ _ (by simp only[aA.set,aA.del,Nat.add_assoc,Nat.reduceAdd,Nat.add_left_cancel_iff,Nat.reduceEqDiff,Nat.left_eq_add,Nat.add_eq_left,if_true,if_false,hA2,tp3];done) (by simp)) (fO (w4 _ _ (by simp only[aA.set,aA.del,Nat.add_assoc,Nat.reduceAdd,Nat.add_left_cancel_iff,Nat.reduceEqDiff,Nat.left_eq_add,Nat.add_eq_left,if_true,if_false,hA2,tp4];done) (by simp)) (fO (w5 _ _ (by simp only[aA.set,aA.del,Nat.add_assoc,Nat.reduceAdd,Nat.add_left_cancel_iff,Nat.reduceEqDiff,Nat.left_eq_add,Nat.add_eq_left,if_true,if_false,hA2,tp5];done) (by simp)) LH)))))) rfl rfl
 ·exact endT _ _ c s _ pc (fun j=>j=b0∨j=b1∨j=b2∨j=b3∨j=b4∨j=b5) (by omega) (by simp only[aA.set,aA.del,Nat.add_assoc,Nat.reduceAdd,Nat.add_left_cancel_iff,Nat.reduceEqDiff,Nat.left_eq_add,Nat.add_eq_left,if_true,if_false,hA1,q3];done) aA.bH rfl hcf (aVY s1 s2 s3 s4 s5 aIE hd3 hd4 hd5) (by omega) (by omega) (by simp only[aA.set,aA.del,Nat.add_assoc,Nat.reduceAdd,Nat.add_left_cancel_iff,Nat.reduceEqDiff,Nat.left_eq_add,Nat.add_eq_left,if_true,if_false,hA1];done) (fun id h1 h2=>by rw[aA.aC (by omega),aA.aC (by omega),aA.aC h2];exact qf id h1 h2) (fun j hj=>by omega) (fO (w0 _ _ (by simp only[aA.set,aA.del,Nat.add_assoc,Nat.reduceAdd,Nat.add_left_cancel_iff,Nat.reduceEqDiff,Nat.left_eq_add,Nat.add_eq_left,if_true,if_false,hA1,p0];done) (by simp)) (fO (w1 _ _ (by simp only[aA.set,aA.del,Nat.add_assoc,Nat.reduceAdd,Nat.add_left_cancel_iff,Nat.reduceEqDiff,Nat.left_eq_add,Nat.add_eq_left,if_true,if_false,hA1,p1];done) (by simp)) (fO (w2 _ _ s.asked _ rfl rfl (by simp only[aA.set,aA.del,Nat.add_assoc,Nat.reduceAdd,Nat.add_left_cancel_iff,Nat.reduceEqDiff,Nat.left_eq_add,Nat.add_eq_left,if_true,if_false,hA1,p2];done) (by simp)) (fO (w3 _ _ (by simp only[aA.set,aA.del,Nat.add_assoc,Nat.reduceAdd,Nat.add_left_cancel_iff,Nat.reduceEqDiff,Nat.left_eq_add,Nat.add_eq_left,if_true,if_false,hA1,p3];done) (by simp)) (fO (w4 _ _ (by simp only[aA.set,aA.del,Nat.add_assoc,Nat.reduceAdd,Nat.add_left_cancel_iff,Nat.reduceEqDiff,Nat.left_eq_add,Nat.add_eq_left,if_true,if_false,hA1,p4];done) (by simp)) (fO (w5 _ _ (by simp only[aA.set,aA.del,Nat.add_assoc,Nat.reduceAdd,Nat.add_left_cancel_iff,Nat.reduceEqDiff,Nat.left_eq_add,Nat.add_eq_left,if_true,if_false,hA1,p5];done) (by simp)) LH)))))) rfl rfl
end
end Go.Proofs.YtegiblhkjfiooaaGreat
end
section
namespace Go.Proofs.YtegiblhkjfiooaaGreat
open Go Go.AM
set_option maxRecDepth 100000
set_option maxHeartbeats 8000000
section
variable {H : aA} {nx : Nat} {K : D → aA → Nat → Prop}
theorem aXD {H:aA} {e:Env} {t1 n1 id1 m1 t2 n2 id2 m2 t3 n3 id3 m3:Nat} {cs1 cs2 cs3:List D1} (he1:e t1= .one (.c (.ptr n1 id1 0 0))) (ho1:H id1=some ⟨n1,m1,[cs1]⟩) (hl1:cs1.length=n1) (he2:e t2= .one (.c (.ptr n2 id2 0 0))) (ho2:H id2=some ⟨n2,m2,[cs2]⟩) (hl2:cs2.length=n2)
 (he3:e t3= .one (.c (.ptr n3 id3 0 0))) (ho3:H id3=some ⟨n3,m3,[cs3]⟩) (hl3:cs3.length=n3):yT H e [.cell t1 n1 true,.cell t2 n2 true,.cell t3 n3 true]=some (.tup [.agg cs1,.agg cs2,.agg cs3]):=by
 subst hl1;subst hl2;subst hl3
 simp[yT,VP,he1,he2,he3,tT,ho1,ho2,ho3,mkV,asI]
theorem aV1:cJ Tryz.prog aVD Tryz.f47 aU8 aVM:=cJ.mk Tryz.func47 (by kernel_rfl) aV2
theorem aV9 {l:List Int} (hl:kZ l)
 (h: ∀H' nx' (c:Cfg) (s:TSt) (e:Ev),nx≤nx'→jO c→aVX s→(∀id,id<nx→H' id=H id)→K (.tup [.agg (cU c),.agg (eSt s),.agg (eEv e)]) H' nx'):aB Tryz.prog aVD [dS (l.map eU8)] H nx K:=by
 have hl2:kZ (l.take 2000):=⟨by simp;omega,fun x hx=>hl.byte x (List.take_subset _ _ hx)⟩
 obtain⟨L,hL⟩: ∃L,L=l.take 2000:=⟨_,rfl⟩
 rw[←hL] at hl2
 refine aV1 rfl fun Q hQ=> ?_
 unfold aU8
 repeat' (first| (with_reducible (refine hK _ _ _ ?_;clear hK K))| (first| (with_reducible refine Y1 fun K hK=> ?_)| (refine F2 ?_)| (refine aRT (p:=0) hl2 (by omega) (by omega) (by omega) (by rw[hL];exact aA.bH) (fun H1 nx1 p1 c es be ce h1 h2 h3 h4 h5 h6 q0 aUV aUW o0 qf=> ?_)))<;>(simp only[go_sem,Nat.add_assoc,Nat.left_eq_add,Nat.add_eq_left])|fail)
 have hs:=azI h1 (arF c) h3
 have hsm:=hs.small h1
 have hlen:=hs.lens h1
 have hal:=hs.JI
 generalize runM c st0 es=s at*
 have r0:H1 nx=some ⟨3,1,[[.osl 0 0 0 0 0,.osl 0 0 0 0 0,.osl 0 0 0 0 0]]⟩:=by rw[qf _ (by omega) (by omega)];exact(by simp only[aA.set,aA.del,Nat.add_assoc,Nat.reduceAdd,Nat.add_left_cancel_iff,Nat.reduceEqDiff,Nat.left_eq_add,Nat.add_eq_left,if_true,if_false];done)
 have r1:H1 (nx+1)=some ⟨6,1,[[.osl 0 0 0 0 0,.osl 0 0 0 0 0,.osl 0 0 0 0 0,.osl 0 0 0 0 0,.osl 0 0 0 0 0,.osl 0 0 0 0 0]]⟩:=by rw[qf _ (by omega) (by omega)];exact(by simp only[aA.set,aA.del,Nat.add_assoc,Nat.reduceAdd,Nat.add_left_cancel_iff,Nat.reduceEqDiff,Nat.left_eq_add,Nat.add_eq_left,if_true,if_false];done)
 have r2:H1 (nx+2)=some ⟨3,1,[[cI 0,cI 0,cI 0]]⟩:=by rw[qf _ (by omega) (by omega)];exact(by simp only[aA.set,aA.del,Nat.add_assoc,Nat.reduceAdd,Nat.add_left_cancel_iff,Nat.reduceEqDiff,Nat.left_eq_add,Nat.add_eq_left,if_true,if_false];done)
 have rf: ∀id,id<nx→H1 id=H id:=fun id hid=>by rw[qf id (by omega) (by omega),aA.aC (by omega),aA.aC (by omega),aA.aC (by omega),aA.aC (by omega)]
 generalize hG:aA.set _ (nx+14) _=G
 have hG:=hG.symm
 have q0:G (nx+6)=some (rdO L p1):=by rw[hG,aA.aC (by omega),aA.aC (by omega)];exact q0
 have q1:G nx=some ⟨3,1,[[.osl 0 0 0 0 0,.osl 0 0 0 0 0,.osl 0 0 0 0 0]]⟩:=by rw[hG,aA.aC (by omega),aA.aC (by omega)];exact r0
 have q2:G (nx+1)=some ⟨6,1,[[.osl 0 0 0 0 0,.osl 0 0 0 0 0,.osl 0 0 0 0 0,.osl 0 0 0 0 0,.osl 0 0 0 0 0,.osl 0 0 0 0 0]]⟩:=by rw[hG,aA.aC (by omega),aA.aC (by omega)];exact r1
 have q3:G (nx+2)=some ⟨3,1,[[cI 0,cI 0,cI 0]]⟩:=by rw[hG,aA.aC (by omega),aA.aC (by omega)];exact r2
 have q4:G (nx+13)=some ⟨3,1,[cU c]⟩:=by rw[hG,aA.aC (by omega)];exact aA.bH
 have q5:G (nx+14)=some ⟨6,1,[eSt s]⟩:=by rw[hG];exact aA.bH
 have qf: ∀id,id<nx→G id=H id:=fun id hid=>by rw[hG,aA.aC (by omega),aA.aC (by omega)];exact rf id hid
 clear hG o0 rf r0 r1 r2
 have hA1:bQ nx1 [nx,nx+1,nx+2,nx+6,nx+13,nx+14]:=AM.apart (by simp) (by simp;omega)
 simp only[bQ,eZ] at hA1
 refine aOX (p:=p1) hal (by omega) (by omega) hl2 (by omega) (by omega) q0 fun p2 e hp1 hp2 _=> ?_
 (try simp only[go_sem,Nat.add_assoc,Nat.left_eq_add,Nat.add_eq_left,q0,q1,q2,q3,q4,q5,hA1]);repeat' (first| (with_reducible first| (refine hK _ _ _ ?_;clear hK K)| (refine hA ?_;clear hA hB A B)| (refine hB ?_;clear hA hB A B)|refine Z1 ?_|refine Z2 ?_)| (first| (with_reducible first|refine Y2 fun K hK=> ?_|refine Y3 fun A B hA hB=> ?_)| (refine d6 (p:=p2) (n:=12) (by omega) hl2 (by omega) (by omega) (by simp only[aA.set,aA.del,Nat.add_assoc,Nat.reduceAdd,Nat.add_left_cancel_iff,Nat.reduceEqDiff,Nat.left_eq_add,Nat.add_eq_left,if_true,if_false,hA1];done) (fun p3 bb hp3 hp4 _=> ?_))| (refine aWK (p:=p3) (n:=1) (by omega) hl2 (by omega) (by omega) (by simp only[aA.set,aA.del,Nat.add_assoc,Nat.reduceAdd,Nat.add_left_cancel_iff,Nat.reduceEqDiff,Nat.left_eq_add,Nat.add_eq_left,if_true,if_false,hA1];done) (fun H2 nx2 p4 c' s' w1 w2 w3 w4 w5 w6 aXP=> ?_)))<;>(simp only[go_sem,Nat.add_assoc,Nat.left_eq_add,Nat.add_eq_left,q0,q1,q2,q3,q4,q5,hA1])| ((with_reducible refine Y8 ?_);try simp only[AQ.then,AQ.blk,reduceIte,Nat.reduceEqDiff])| ((with_reducible refine Z8 (fun h=> ?_) (fun h=> ?_))<;>try subst h)|fail)
 ·
  have tq1:H2 nx=some ⟨3,1,[[.osl 0 0 0 0 0,.osl 0 0 0 0 0,.osl 0 0 0 0 0]]⟩:=by rw[aXP _ (by omega) (by omega),aA.aC (by omega),aA.aC (by omega)];exact q1
  have tq2:H2 (nx+1)=some ⟨6,1,[[.osl 0 0 0 0 0,.osl 0 0 0 0 0,.osl 0 0 0 0 0,.osl 0 0 0 0 0,.osl 0 0 0 0 0,.osl 0 0 0 0 0]]⟩:=by rw[aXP _ (by omega) (by omega),aA.aC (by omega),aA.aC (by omega)];exact q2
  have tq3:H2 (nx+2)=some ⟨3,1,[[cI 0,cI 0,cI 0]]⟩:=by rw[aXP _ (by omega) (by omega),aA.aC (by omega),aA.aC (by omega)];exact q3
  have tq4:H2 (nx+13)=some ⟨3,1,[cU c]⟩:=by rw[aXP _ (by omega) (by omega),aA.aC (by omega),aA.aC (by omega)];exact q4
  have tq5:H2 (nx+14)=some ⟨6,1,[eSt s]⟩:=by rw[aXP _ (by omega) (by omega),aA.aC (by omega),aA.aC (by omega)];exact q5
  have te:H2 (nx1+4)=some ⟨3,1,[eEv e]⟩:=by rw[aXP _ (by omega) (by omega)];exact(by simp only[aA.set,aA.del,Nat.add_assoc,Nat.reduceAdd,Nat.add_left_cancel_iff,Nat.reduceEqDiff,Nat.left_eq_add,Nat.add_eq_left,if_true,if_false,hA1];done)
  have tf: ∀id,id<nx→H2 id=H id:=fun id hid=>by rw[aXP _ (by omega) (by omega),aA.aC (by omega),aA.aC (by omega)];exact qf id hid
  have hA2:bQ nx2 [nx,nx+1,nx+2,nx+13,nx+14,nx1+4]:=AM.apart (by simp;omega) (by simp;omega)
  simp only[bQ,eZ] at hA2
  (try simp only[go_sem,Nat.add_assoc,Nat.left_eq_add,Nat.add_eq_left,tq1,tq2,tq3,tq4,tq5,te,hA2]);repeat' (first| (with_reducible first| (refine hK _ _ _ ?_;clear hK K)|refine Z1 ?_)| (with_reducible refine Y2 fun K hK=> ?_)<;>(simp only[go_sem,Nat.add_assoc,Nat.left_eq_add,Nat.add_eq_left,tq1,tq2,tq3,tq4,tq5,te,hA2])| ((with_reducible refine Y8 ?_);try simp only[AQ.then,AQ.blk,reduceIte,Nat.reduceEqDiff])|fail)
  exact hQ _ _ _ _ _ (.inr rfl) (aXD (m1:=1) (m2:=1) (m3:=1) (cs1:=cU c') (cs2:=eSt s') (cs3:=eEv e) rfl (by simp only[aA.set,aA.del,Nat.add_assoc,Nat.reduceAdd,Nat.add_left_cancel_iff,Nat.reduceEqDiff,Nat.left_eq_add,Nat.add_eq_left,if_true,if_false,hA2];done) rfl rfl (by simp only[aA.set,aA.del,Nat.add_assoc,Nat.reduceAdd,Nat.add_left_cancel_iff,Nat.reduceEqDiff,Nat.left_eq_add,Nat.add_eq_left,if_true,if_false,hA2];done) rfl rfl (by simp only[aA.set,aA.del,Nat.add_assoc,Nat.reduceAdd,Nat.add_left_cancel_iff,Nat.reduceEqDiff,Nat.left_eq_add,Nat.add_eq_left,if_true,if_false,hA2];done) rfl) (h _ _ c' s' e (by omega) w2 w3 fun id hid=>by rw[aA.aC (by omega),aA.aC (by omega),aA.aC (by omega),aA.aC (by omega),aA.aC (by omega)];exact tf id hid)
 ·exact hQ _ _ _ _ _ (.inr rfl) (aXD (m1:=1) (m2:=1) (m3:=1) (cs1:=cU c) (cs2:=eSt s) (cs3:=eEv e) rfl (by simp only[aA.set,aA.del,Nat.add_assoc,Nat.reduceAdd,Nat.add_left_cancel_iff,Nat.reduceEqDiff,Nat.left_eq_add,Nat.add_eq_left,if_true,if_false,hA1];done) rfl rfl (by simp only[aA.set,aA.del,Nat.add_assoc,Nat.reduceAdd,Nat.add_left_cancel_iff,Nat.reduceEqDiff,Nat.left_eq_add,Nat.add_eq_left,if_true,if_false,hA1];done) rfl rfl (by simp only[aA.set,aA.del,Nat.add_assoc,Nat.reduceAdd,Nat.add_left_cancel_iff,Nat.reduceEqDiff,Nat.left_eq_add,Nat.add_eq_left,if_true,if_false,hA1];done) rfl) (h _ _ c s e (by omega) h2 hsm fun id hid=>by rw[aA.aC (by omega),aA.aC (by omega),aA.aC (by omega),aA.aC (by omega),aA.aC (by omega)];exact qf id hid)
end
end Go.Proofs.YtegiblhkjfiooaaGreat
end
section
namespace Go.Proofs.YtegiblhkjfiooaaGreat
open Go Go.AM
set_option maxRecDepth 100000
def av4:AC:=
 (.seq (.region [rq 0 2 (.box true (.tm 0)),
 rq 1 3 (.box true (.tm 1)),
 rq 2 4 (.move (.kv (.bool false)))] 3 [2,3])
 (.seq (.region [RF 0 5 0 2,
 rq 1 6 (.load 2 true (.tm 5)),
 RF 2 7 0 3,
 rq 3 8 (.load 2 true (.tm 7)),
 rq 4 9 (.call wK [(.tm 6),(.tm 8)]),
 RM 5 10 9,
 GQ 6 11 (.fld 2 (.tm 2)) 10 true,
 GQ 7 12 (.load 1 false (.tm 11)) 10 true,
 GQ 8 13 (.fld 2 (.tm 3)) 10 true,
 GQ 9 14 (.load 1 false (.tm 13)) 10 true,
 GQ 10 15 (.call jM [(.tm 12),(.tm 14)]) 10 true,
 rq 11 16 (.pick (.tm 10) (.tm 15) (.kv (.bool false))),
 RM 12 17 16,
 GQ 13 18 (.fld 3 (.tm 2)) 17 true,
 GQ 14 19 (.load 1 false (.tm 18)) 17 true,
 GQ 15 20 (.fld 3 (.tm 3)) 17 true,
 GQ 16 21 (.load 1 false (.tm 20)) 17 true,
 GQ 17 22 (.call jN [(.tm 19),(.tm 21)]) 17 true,
 rq 18 23 (.pick (.tm 17) (.tm 22) (.kv (.bool false))),
 RM 19 24 23,
 GQ 20 25 (.fld 4 (.tm 2)) 24 true,
 GQ 21 26 (.load 1 false (.tm 25)) 24 true,
 GQ 22 27 (.fld 4 (.tm 3)) 24 true,
 GQ 23 28 (.load 1 false (.tm 27)) 24 true,
 GQ 24 29 (.call jN [(.tm 26),(.tm 28)]) 24 true,
 rq 25 30 (.pick (.tm 24) (.tm 29) (.kv (.bool false))),
 RM 26 31 30,
 GQ 27 32 (.fld 5 (.tm 2)) 31 true,
 GQ 28 33 (.load 1 false (.tm 32)) 31 true,
 GQ 29 34 (.fld 5 (.tm 3)) 31 true,
 GQ 30 35 (.load 1 false (.tm 34)) 31 true,
 GQ 31 36 (.call jN [(.tm 33),(.tm 35)]) 31 true,
 rq 32 37 (.pick (.tm 31) (.tm 36) (.kv (.bool false))),
 RM 33 4 37] 34 [4])
 .ret))
def ayQ:List Cert:=[⟨[],[2,3]⟩,⟨[],[4]⟩]
def aw2:List aW:=[.tm 4]
theorem ayU:aO Tryz.prog Tryz.f38 ayQ=some (av4,aw2):=by kernel_rfl
theorem ayR:aN Tryz.prog au9 Tryz.f38 av4 aw2:=
 aN.mk Tryz.func38 (by kernel_rfl) ayU
end Go.Proofs.YtegiblhkjfiooaaGreat
end
section
namespace Go.Proofs.YtegiblhkjfiooaaGreat
open Go Go.AM
set_option maxRecDepth 100000
def xO:AC:=
 (.seq (.region [rq 0 4 (.move (.kv (.bool false)))] 1 [0,1])
 (.seq (.seq (.region [RM 0 6 0,
 rq 1 7 (.len false (.tm 6)),
 RM 2 8 1,
 rq 3 9 (.len false (.tm 8)),
 rq 4 10 (.bin .neq (.tm 7) (.tm 9))] 5 [0,1,10])
 (.cond (.tm 10)
 (.seq (.region [rq 0 4 (.move (.kv (.bool false)))] 1 [4])
 .ret)
 .skip))
 (.seq (.seq (.region [rq 0 5 (.move (ki 0))] 1 [0,1,5])
 (.block 0
 (.loop
 (.seq (.seq (.region [RM 0 11 5,
 RM 1 12 0,
 rq 2 13 (.len false (.tm 12)),
 rq 3 14 (.bin .lss (.tm 11) (.tm 13))] 4 [0,1,5,14])
 (.cond (.tm 14)
 .skip
 (.exit 0)))
 (.seq (.block 1
 (.seq (.region [RM 0 17 0,
 RM 1 18 5,
 rq 2 19 (.idx 1 (.tm 17) (.tm 18)),
 RL 3 20 19,
 RM 4 21 1,
 RM 5 22 5,
 rq 6 23 (.idx 1 (.tm 21) (.tm 22)),
 RL 7 24 23,
 rq 8 25 (.bin .neq (.tm 20) (.tm 24))] 9 [0,1,5,25])
 (.cond (.tm 25)
 (.seq (.region [rq 0 4 (.move (.kv (.bool false)))] 1 [4])
 .ret)
 .skip)))
 (.region [RM 0 15 5,
 rq 1 16 (.bin .add (.tm 15) (ki 1)),
 RM 2 5 16] 3 [0,1,5]))))))
 (.seq (.region [rq 0 4 (.move (.kv (.bool true)))] 1 [4])
 .ret))))
def P9:List Cert:=[⟨[],[0,1]⟩,⟨[],[0,1,10]⟩,⟨[],[4]⟩,⟨[],[0,1,5]⟩,⟨[],[0,1,5,14]⟩,⟨[cz 0,cz 1,cz 2,cz 3,cz 4,cz 5,cz 6,cz 7,cz 8],[0,1,5,25]⟩,⟨[],[4]⟩,⟨[],[0,1,5]⟩,⟨[],[4]⟩]
def GS:List aW:=[.tm 4]
theorem P1:aO Tryz.prog Tryz.f19 P9=some (xO,GS):=by kernel_rfl
theorem SU:aN Tryz.prog jM Tryz.f19 xO GS:=
 aN.mk Tryz.func19 (by kernel_rfl) P1
end Go.Proofs.YtegiblhkjfiooaaGreat
end
section
namespace Go.Proofs.YtegiblhkjfiooaaGreat
open Go Go.AM
set_option maxRecDepth 100000
def AT:AC:=
 (.seq (.region [rq 0 2 (.box true (.tm 0)),
 rq 1 3 (.box true (.tm 1)),
 rq 2 4 (.move (.kv (.bool false)))] 3 [2,3])
 (.seq (.region [RF 0 5 0 2,
 RL 1 6 5,
 RF 2 7 0 3,
 RL 3 8 7,
 rq 4 9 (.bin .eql (.tm 6) (.tm 8)),
 RM 5 10 9,
 GQ 6 11 (.fld 1 (.tm 2)) 10 true,
 GQ 7 12 (.load 1 false (.tm 11)) 10 true,
 GQ 8 13 (.fld 1 (.tm 3)) 10 true,
 GQ 9 14 (.load 1 false (.tm 13)) 10 true,
 GQ 10 15 (.bin .eql (.tm 12) (.tm 14)) 10 true,
 rq 11 16 (.pick (.tm 10) (.tm 15) (.kv (.bool false))),
 RM 12 17 16,
 GQ 13 18 (.fld 2 (.tm 2)) 17 true,
 GQ 14 19 (.load 1 false (.tm 18)) 17 true,
 GQ 15 20 (.fld 2 (.tm 3)) 17 true,
 GQ 16 21 (.load 1 false (.tm 20)) 17 true,
 GQ 17 22 (.call jM [(.tm 19),(.tm 21)]) 17 true,
 rq 18 23 (.pick (.tm 17) (.tm 22) (.kv (.bool false))),
 RM 19 4 23] 20 [4])
 .ret))
def T1:List Cert:=[⟨[],[2,3]⟩,⟨[],[4]⟩]
def II:List aW:=[.tm 4]
theorem U0:aO Tryz.prog Tryz.f84 T1=some (AT,II):=by kernel_rfl
theorem UL:aN Tryz.prog qO Tryz.f84 AT II:=
 aN.mk Tryz.func84 (by kernel_rfl) U0
end Go.Proofs.YtegiblhkjfiooaaGreat
end
section
namespace Go.Proofs.YtegiblhkjfiooaaGreat
open Go Go.AM
set_option maxRecDepth 100000
def xT:AC:=
 (.seq (.region [rq 0 4 (.move (.kv (.bool false)))] 1 [0,1])
 (.seq (.seq (.region [RM 0 6 0,
 rq 1 7 (.len false (.tm 6)),
 RM 2 8 1,
 rq 3 9 (.len false (.tm 8)),
 rq 4 10 (.bin .neq (.tm 7) (.tm 9))] 5 [0,1,10])
 (.cond (.tm 10)
 (.seq (.region [rq 0 4 (.move (.kv (.bool false)))] 1 [4])
 .ret)
 .skip))
 (.seq (.seq (.region [rq 0 5 (.move (ki 0))] 1 [0,1,5])
 (.block 0
 (.loop
 (.seq (.seq (.region [RM 0 11 5,
 RM 1 12 0,
 rq 2 13 (.len false (.tm 12)),
 rq 3 14 (.bin .lss (.tm 11) (.tm 13))] 4 [0,1,5,14])
 (.cond (.tm 14)
 .skip
 (.exit 0)))
 (.seq (.block 1
 (.seq (.region [RM 0 17 0,
 RM 1 18 5,
 rq 2 19 (.idx 5 (.tm 17) (.tm 18)),
 RF 3 20 0 19,
 RL 4 21 20,
 RM 5 22 1,
 RM 6 23 5,
 rq 7 24 (.idx 5 (.tm 22) (.tm 23)),
 RF 8 25 0 24,
 RL 9 26 25,
 rq 10 27 (.bin .neq (.tm 21) (.tm 26)),
 RM 11 28 27,
 GQ 12 29 (.move (.tm 0)) 28 false,
 GQ 13 30 (.move (.tm 5)) 28 false,
 GQ 14 31 (.idx 5 (.tm 29) (.tm 30)) 28 false,
 GQ 15 32 (.fld 1 (.tm 31)) 28 false,
 GQ 16 33 (.load 1 false (.tm 32)) 28 false,
 GQ 17 34 (.move (.tm 1)) 28 false,
 GQ 18 35 (.move (.tm 5)) 28 false,
 GQ 19 36 (.idx 5 (.tm 34) (.tm 35)) 28 false,
 GQ 20 37 (.fld 1 (.tm 36)) 28 false,
 GQ 21 38 (.load 1 false (.tm 37)) 28 false,
 GQ 22 39 (.bin .neq (.tm 33) (.tm 38)) 28 false,
 rq 23 40 (.pick (.tm 28) (.kv (.bool true)) (.tm 39)),
 RM 24 41 40,
 GQ 25 42 (.move (.tm 0)) 41 false,
 GQ 26 43 (.move (.tm 5)) 41 false,
 GQ 27 44 (.idx 5 (.tm 42) (.tm 43)) 41 false,
 GQ 28 45 (.fld 2 (.tm 44)) 41 false,
 GQ 29 46 (.load 3 true (.tm 45)) 41 false,
 GQ 30 47 (.move (.tm 1)) 41 false,
 GQ 31 48 (.move (.tm 5)) 41 false,
 GQ 32 49 (.idx 5 (.tm 47) (.tm 48)) 41 false,
 GQ 33 50 (.fld 2 (.tm 49)) 41 false,
 GQ 34 51 (.load 3 true (.tm 50)) 41 false,
 GQ 35 52 (.call qO [(.tm 46),(.tm 51)]) 41 false,
 GQ 36 53 (.un .not (.tm 52)) 41 false,
 rq 37 54 (.pick (.tm 41) (.kv (.bool true)) (.tm 53))] 38 [0,1,5,54])
 (.cond (.tm 54)
 (.seq (.region [rq 0 4 (.move (.kv (.bool false)))] 1 [4])
 .ret)
 .skip)))
 (.region [RM 0 15 5,
 rq 1 16 (.bin .add (.tm 15) (ki 1)),
 RM 2 5 16] 3 [0,1,5]))))))
 (.seq (.region [rq 0 4 (.move (.kv (.bool true)))] 1 [4])
 .ret))))
def R3:List Cert:=[⟨[],[0,1]⟩,⟨[],[0,1,10]⟩,⟨[],[4]⟩,⟨[],[0,1,5]⟩,⟨[],[0,1,5,14]⟩,⟨[cz 0,cz 1,cz 2,cz 3,cz 4,cz 5,cz 6,cz 7,cz 8,cz 9,cz 10,cz 11,cz 12,cz 13,cz 14,cz 15,cz 16,cz 17,cz 18,cz 19,cz 20,cz 21,cz 22,cz 23,cz 24,cz 25,cz 26,cz 27,cz 28,cz 29,cz 30,cz 31,cz 32,cz 33,cz 34,cz 35,cz 36,cz 37],[0,1,5,54]⟩,⟨[],[4]⟩,⟨[],[0,1,5]⟩,⟨[],[4]⟩]
def FA:List aW:=[.tm 4]
theorem RZ:aO Tryz.prog Tryz.f35 R3=some (xT,FA):=by kernel_rfl
theorem RW:aN Tryz.prog jN Tryz.f35 xT FA:=
 aN.mk Tryz.func35 (by kernel_rfl) RZ
end Go.Proofs.YtegiblhkjfiooaaGreat
end
section
namespace Go.Proofs.YtegiblhkjfiooaaGreat
open Go Go.AM
set_option maxRecDepth 100000
end Go.Proofs.YtegiblhkjfiooaaGreat
end
section
namespace Go.Proofs.YtegiblhkjfiooaaGreat
open Go Go.AM
set_option maxRecDepth 100000
def zY:AC:=
 (.seq (.region [rq 0 2 (.box true (.tm 0)),
 rq 1 3 (.box true (.tm 1)),
 rq 2 4 (.move (.kv (.bool false)))] 3 [2,3])
 (.seq (.region [RF 0 5 0 2,
 RF 1 6 0 5,
 RL 2 7 6,
 RF 3 8 0 3,
 RF 4 9 0 8,
 RL 5 10 9,
 rq 6 11 (.call jM [(.tm 7),(.tm 10)]),
 RM 7 12 11,
 GQ 8 13 (.fld 1 (.tm 2)) 12 true,
 GQ 9 14 (.load 1 false (.tm 13)) 12 true,
 GQ 10 15 (.fld 1 (.tm 3)) 12 true,
 GQ 11 16 (.load 1 false (.tm 15)) 12 true,
 GQ 12 17 (.call jM [(.tm 14),(.tm 16)]) 12 true,
 rq 13 18 (.pick (.tm 12) (.tm 17) (.kv (.bool false))),
 RM 14 4 18] 15 [4])
 .ret))
def UG:List Cert:=[⟨[],[2,3]⟩,⟨[],[4]⟩]
def I2:List aW:=[.tm 4]
theorem UP:aO Tryz.prog Tryz.f41 UG=some (zY,I2):=by kernel_rfl
theorem UZ:aN Tryz.prog wK Tryz.f41 zY I2:=
 aN.mk Tryz.func41 (by kernel_rfl) UP
end Go.Proofs.YtegiblhkjfiooaaGreat
end
