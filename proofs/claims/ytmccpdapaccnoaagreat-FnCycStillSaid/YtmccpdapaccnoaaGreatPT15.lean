/- Texts laid together by a program: rules, contracts and the walk that leads to the law. -/
import Derived.Test.YtmccpdapaccnoaaGreatPT14
import Derived.Test.YtmccpdapaccnoaaGreatPT8
import Derived.Test.YtmccpdapaccnoaaGreatPT3
import Derived.Test.YtmccpdapaccnoaaGreatPT9
import Derived.Test.YtmccpdapaccnoaaGreatPT11
import Derived.Test.YtmccpdapaccnoaaGreatPT10
set_option linter.unusedVariables false
set_option linter.unusedSimpArgs false
set_option linter.unusedSectionVars false
set_option maxRecDepth 100000
set_option maxHeartbeats 8000000
namespace Go.AM
theorem aM.aTJ {P:Program} {T:Nat} {e:Env} {H:aA} {nx:Nat} {Q:AQ} {zs:List AC} (h: ∀G,G=H→aM P T zs e G nx Q):aM P T zs e H nx Q:=h H rfl
def Own {α:Type} (enc:α→List D1) (n:Nat) (H:aA) (b cap:Nat) (l:List α):Prop:=∃m,H b=some ⟨n,m,l.map enc⟩∧l.length≤cap∧cap≤m
theorem Own.of {α:Type} {enc:α→List D1} {n b cap:Nat} {l:List α} {H H':aA} (h:Own enc n H b cap l) (he:H' b=H b):Own enc n H' b cap l:=by
 obtain⟨m,h1,h2⟩:=h
 exact⟨m,he.trans h1,h2⟩
theorem Own.frz {α:Type} {enc:α→List D1} {n b cap nh:Nat} {l:List α} {H:aA} {F:Nat→Prop} {σ:Nat→Nat} (h:Own enc n H b cap l) (he: ∀x,(enc x).length=n∧(enc x).all D1.dQ=true) (hF:F b):Cv1 H F σ nh (.isl (l.map enc)) (.osl n b 0 l.length cap):=by
 obtain⟨m,h1,h2,h3⟩:=h
 exact bW he h1 rfl h2 hF
theorem um1 {b k i:Nat} {A B:aA} (h:i≠b+k):dT b [k] A B i=B i:=by unfold dT;rw[if_neg (by simp;omega)]
theorem aH6 {b k:Nat} {A B:aA}:dT b [k] A B (b+k)=A (b+k):=by unfold dT;rw[if_pos (by simp)]
theorem mk1 {b k i:Nat} {A:aA} (h:i≠b+k):msk b [k] A i=A i:=by unfold msk;rw[if_neg (by simp;omega)]
theorem aTY {H:aA} {F:Nat→Prop} {σ:Nat→Nat} {nh:Nat} {rows:List (List D1)} {n id off len cap:Nat} {o:bA} (hi:alR n rows) (hl:len=rows.length) (hF:F id) (ho:H id=some o) (hn:o.n=n) (hlen:off+rows.length≤o.rows.length) (hr:(o.rows.drop off).take rows.length=rows) (hc:rows.length≤cap):Cv1 H F σ nh (.isl rows) (.osl n id off len cap):=by
 subst hl
 have hg: ∀i:Nat,∀r',rows[i]?=some r'→o.rows[off+i]?=some r':=by
  intro i r' h
  rw[←hr,s4] at h
  split at h
  ·rw[s5] at h;exact h
  ·cases h
 refine .frz (.frz rows n id off cap o (fun i j=>((rows[i]?.getD [])[j]?).getD .dead) hF ho hn hlen hc (fun i r' h=>(hi r' (s3 h)).1) (fun i j r' d' h1 h2=>⟨r',hg i r' h1,by rw[h1];simp[h2]⟩) fun i j r' d' h1 h2=> ?_)
 rw[h1]
 simp only[Option.getD_some,h2]
 exact .same d' ((hi r' (s3 h1)).2 d' (s3 h2))
end Go.AM
namespace Go.Proofs.YtmccpdapaccnoaaGreat
open Go Go.AM
attribute [local irreducible] aM wv aB vd wvH
section
variable {H : aA} {nx : Nat} {K : D → aA → Nat → Prop}
theorem aQ5:cJ Tryz.prog aIM Tryz.f158 aJF aJZ:=cJ.mk Tryz.func158 (by kernel_rfl) aLH
theorem aNQ {l:List Job} (hl:l.length<2^21) (hd: ∀j∈l,j.rsp.data.length<2^21)
 (h: ∀H' nx' b cap,nx≤b→b<nx'→Own aS 5 H' b cap l→(∀id,id<nx→H' id=H id)→K (.one (.c (.osl 5 b 0 l.length cap))) H' nx'):aB Tryz.prog aIM [dS (l.map aS)] H nx K:=by
 refine aQ5 rfl fun Q hQ=> ?_
 unfold aJF
 repeat' first|apply bn1<;>(simp only[go_sem,boC])|fail
 refine aM.gP (β:=Nat×Nat×Nat) (fun u=>en [(4,boP u.1),(3,.one (.c (.osl 5 u.2.1 0 u.1 u.2.2))),(0,dS (l.map aS))])
  (fun u H1 nx1=>u.1≤l.length∧(∃m,H1 u.2.1=some ⟨5,m,(l.take u.1).map aS⟩∧u.1≤u.2.2∧u.2.2≤m)∧(nx≤u.2.1∧u.2.1<nx1)∧ ∀id,id<nx→H1 id=H id)
  (fun u=>l.length-u.1) (0,nx+1,0) ⟨noF,_,by repeat' first|exact bo2|refine xqI rfl rfl ?_| (with_reducible apply bo3)| ((with_reducible apply bo0);exact bpA)| ((with_reducible apply bo1);apply bo7)|fail,aK,by dsimp only;omega,⟨0,by simp only[aA.set,if_true];rfl,by dsimp only;omega,by dsimp only;omega⟩,by dsimp only;omega,fun id hid=>by simp only[aA.set,show ¬id=nx+1 by omega,if_false]⟩ ?_
 rintro⟨k,b,cap⟩ H1 nx1 hnx ⟨hk,⟨m,g1,g2,g3⟩,⟨hb1,hb2⟩,hfr⟩ bpQ hKL
 dsimp only at hk g1 g2 g3 hb1 hb2
 have htt:(l.take k).take k=l.take k:=boL (by simp;omega)
 have hA:bQ nx1 [b]:=AM.apart (by simp) (by simp;omega)
 simp only[bQ,eZ] at hA
 by_cases hlt:k<l.length
 ·have hm:=hd _ (cC hlt)
  have hb3:b<nx1+(4+2):=by omega
  repeat' first| (first|apply bn1|apply aMW hm)<;>(simp only[go_sem,htt,aM8,g1,hA,boC];try simp (disch:=omega) only[Iw])|apply bn2 (by omega)| (with_reducible first|refine fun(cap:Nat) (hcap:_≤cap)=> ?_|refine fun(hcp:_≤cap)=> ?_)|refine⟨by omega,?_⟩| (refine⟨by(rw[CG];omega),?_⟩)|fail
  refine hKL _ _ _ (k+1,nx1+23,cap) noF _ (by omega) (by dsimp only;omega) (by dsimp only;repeat' first|exact bo2|refine xqI rfl rfl ?_|refine xqO (by omega) rfl rfl (by rfl) ?_|fail) aK ⟨by dsimp only;omega,⟨cap,by rw[nK hlt];exact aA.bH,by dsimp only;omega,m5 _⟩,by dsimp only;omega,fun id hid=> ?_⟩
  rw[aA.aC (by omega),aA.aC (by omega),aA.jG (by omega)]
  exact hfr id hid
 ·repeat' first|apply bn1<;>(simp only[go_sem])|apply bn3 (by omega)|fail
  have hk2:k=l.length:=by omega
  subst hk2
  refine hQ _ _ _ _ _ (.inr rfl) rfl (h _ _ b cap hb1 (by omega) ⟨m,?_,g2,g3⟩ hfr)
  rw[g1,bq4]
theorem aQ3:cJ Tryz.prog aIW Tryz.f243 aJE aJ3:=cJ.mk Tryz.func243 (by kernel_rfl) aK8
theorem aRC {w:List Int} (hl:w.length<2^21) (h: ∀H' nx' b cap,nx≤b→b<nx'→Own aJ 1 H' b cap w→(∀id,id<nx→H' id=H id)→K (boR [.osl 1 b 0 w.length cap]) H' nx'):aB Tryz.prog aIW [boR [.isl (w.map aJ)]] H nx K:=by
 refine aQ3 rfl fun Q hQ=> ?_
 unfold aJE
 repeat' first|apply bn1<;>(simp only[go_sem,boC])| (with_reducible first|refine fun(cap:Nat) (hcap:_≤cap)=> ?_|refine fun(hcp:_≤cap)=> ?_)|refine⟨by omega,?_⟩|fail
 refine hQ _ _ _ _ _ (.inr rfl) (fZ (m:=1) rfl (by simp only[aA.set,bqU,Nat.reduceEqDiff,if_false,if_true]) rfl) (h _ _ (nx+2+3) cap (by omega) (by omega) ⟨cap,by simp only[aA.set,t1,bqU,Nat.reduceEqDiff,Nat.reduceAdd,if_false,if_true],by assumption,m5 _⟩ fun id hid=> ?_)
 rw[aA.aC (by omega),aA.aC (by omega),aA.aC (by omega),aA.jG (by omega)]
theorem aQS:cJ Tryz.prog aIR Tryz.f157 aJH aJ4:=cJ.mk Tryz.func157 (by kernel_rfl) aLG
theorem aQE {w u:List Int} (hl:w.length<2^21) (hu:u.length<2^21) (h: ∀H' nx' boW b1 c0 c1,nx≤b1→b1<boW→boW<nx'→Own aJ 1 H' boW c0 w→Own aJ 1 H' b1 c1 u→(∀id,id<nx→H' id=H id)→K (boR [.osl 1 boW 0 w.length c0,.osl 1 b1 0 u.length c1]) H' nx'):aB Tryz.prog aIR [boR [.isl (w.map aJ),.isl (u.map aJ)]] H nx K:=by
 refine aQS rfl fun Q hQ=> ?_
 unfold aJH
 repeat' first| (first|apply bn1|refine aRC hl (fun H1 nx1 boW c0 hb1 hb2 ho hfr=> ?_))<;>(simp only[go_sem,boC])|fail
 obtain⟨G,bqK⟩: ∃G,G=dT (nx+2) [3] (((H.set nx ⟨2,1,[[.isl (w.map aJ),.isl (u.map aJ)]]⟩).set (nx+1) ⟨2,1,[[.osl 0 0 0 0 0,.osl 0 0 0 0 0]]⟩).set (nx+5) ⟨1,0,[]⟩) H1:=⟨_,rfl⟩
 rw[←bqK]
 have bqC:G nx=some ⟨2,1,[[.isl (w.map aJ),.isl (u.map aJ)]]⟩:=by rw[bqK,um1 (by omega),hfr _ (by omega),aA.aC (by omega)];exact aA.bH
 have g1:G (nx+1)=some ⟨2,1,[[.osl 0 0 0 0 0,.osl 0 0 0 0 0]]⟩:=by rw[bqK,um1 (by omega),hfr _ (by omega)];exact aA.bH
 have g5:G (nx+5)=some ⟨1,0,[]⟩:=by rw[bqK,aH6];exact aA.bH
 have gb:Own aJ 1 G boW c0 w:=ho.of (by rw[bqK,um1 (by omega)])
 have gf: ∀id,id<nx→G id=H id:=fun id hid=>by rw[bqK,um1 (by omega),hfr _ (by omega),aA.aC (by omega),aA.aC (by omega),mk1 (by omega)]
 clear bqK
 have m0: ∀G:aA,msk (nx+2) [3] G nx=G nx:=fun G=>mk1 (by omega)
 refine⟨fun _=>by rw[m0,bqC];rfl,?_⟩
 simp only[go_sem,bqC,g1,g5,m0,boC]
 repeat' first|apply bn1<;>(simp only[go_sem,bqC,g1,g5,m0,boC])| (with_reducible first|refine fun(cap:Nat) (hcap:_≤cap)=> ?_|refine fun(hcp:_≤cap)=> ?_)|refine⟨by omega,?_⟩|fail
 exact hQ _ _ _ _ _ (.inr rfl) (fZ (m:=1) rfl aA.bH rfl) (h _ _ boW (nx+8) c0 cap (by omega) (by omega) (by omega) (gb.of (by rw[aA.aC (by omega),aA.aC (by omega),aA.jG (by omega)])) ⟨cap,by rw[aA.aC (by omega)];exact aA.bH,by assumption,m5 _⟩ fun id hid=>by rw[aA.aC (by omega),aA.aC (by omega),aA.jG (by omega)];exact gf id hid)
theorem aRU:cJ Tryz.prog aI0 Tryz.f74 aJB aJW:=cJ.mk Tryz.func74 (by kernel_rfl) aLD
theorem aQR {s:TSt} (hf:aTQ s) (h: ∀H' nx' boW b1 b2 boX boY boZ c0 c1 c2 c3 c4 c5,nx≤b2→b2<b1→b1<boW→boW<boX→boX<boY→boY<boZ→boZ<nx'→Own aJ 1 H' boW c0 s.words→Own aJ 1 H' b1 c1 s.holds→Own aJ 1 H' b2 c2 s.asked→Own aS 5 H' boX c3 s.wait→Own aS 5 H' boY c4 s.done→Own aS 5 H' boZ c5 s.told→(∀id,id<nx→H' id=H id)→
 K (boR [.osl 1 boW 0 s.words.length c0,.osl 1 b1 0 s.holds.length c1,.osl 1 b2 0 s.asked.length c2,.osl 5 boX 0 s.wait.length c3,.osl 5 boY 0 s.done.length c4,.osl 5 boZ 0 s.told.length c5]) H' nx'):aB Tryz.prog aI0 [boR (eSt s)] H nx K:=by
 have hd3: ∀j∈s.wait,j.rsp.data.length<2^21:=fun j hj=>hf.data j (by simp[hj])
 have hd4: ∀j∈s.done,j.rsp.data.length<2^21:=fun j hj=>hf.data j (by simp[hj])
 have hd5: ∀j∈s.told,j.rsp.data.length<2^21:=fun j hj=>hf.data j (by simp[hj])
 have haf:=hf.asked
 refine aRU rfl fun Q hQ=> ?_
 unfold aJB
 repeat' first| (first|apply bn1|refine aQE hf.words hf.holds (fun H1 nx1 boW b1 c0 c1 hb1 hb2 hb3 ho0 ho1 hfr=> ?_))<;>(simp only[go_sem,boC])|fail
 obtain⟨G,bqK⟩: ∃G,G=dT (nx+2) [3] (((H.set nx ⟨6,1,[eSt s]⟩).set (nx+1) ⟨6,1,[[.osl 0 0 0 0 0,.osl 0 0 0 0 0,.osl 0 0 0 0 0,.osl 0 0 0 0 0,.osl 0 0 0 0 0,.osl 0 0 0 0 0]]⟩).set (nx+5) ⟨1,0,[]⟩) H1:=⟨_,rfl⟩
 rw[←bqK]
 have bqC:G nx=some ⟨6,1,[eSt s]⟩:=by rw[bqK,um1 (by omega),hfr _ (by omega),aA.aC (by omega)];exact aA.bH
 have g1:G (nx+1)=some ⟨6,1,[[.osl 0 0 0 0 0,.osl 0 0 0 0 0,.osl 0 0 0 0 0,.osl 0 0 0 0 0,.osl 0 0 0 0 0,.osl 0 0 0 0 0]]⟩:=by rw[bqK,um1 (by omega),hfr _ (by omega)];exact aA.bH
 have g5:G (nx+5)=some ⟨1,0,[]⟩:=by rw[bqK,aH6];exact aA.bH
 have go0:Own aJ 1 G boW c0 s.words:=ho0.of (by rw[bqK,um1 (by omega)])
 have go1:Own aJ 1 G b1 c1 s.holds:=ho1.of (by rw[bqK,um1 (by omega)])
 have gf: ∀id,id<nx→G id=H id:=fun id hid=>by rw[bqK,um1 (by omega),hfr _ (by omega),aA.aC (by omega),aA.aC (by omega),mk1 (by omega)]
 clear bqK ho0 ho1 hfr
 have m0: ∀G:aA,msk (nx+2) [3] G nx=G nx:=fun G=>mk1 (by omega)
 simp only[m0,bqC]
 refine⟨⟨fun _=>rfl,fun _=>rfl,fun _=>rfl,fun _=>rfl⟩,?_⟩
 simp only[go_sem,bqC,g1,g5,boC]
 refine⟨by omega,fun c2 hc2 _=> ?_⟩
 refine aNQ hf.wait hd3 fun H2 nx2 boX c3 p1 p2 bqD fr3=> ?_
 have k0:H2 nx=some ⟨6,1,[eSt s]⟩:=by rw[fr3 _ (by omega),aA.aC (by omega),aA.jG (by omega)];exact bqC
 have k1:H2 (nx+1)=some ⟨6,1,[[.osl 0 0 0 0 0,.osl 0 0 0 0 0,.osl 0 0 0 0 0,.osl 0 0 0 0 0,.osl 0 0 0 0 0,.osl 0 0 0 0 0]]⟩:=by rw[fr3 _ (by omega),aA.aC (by omega),aA.jG (by omega)];exact g1
 have ko0:Own aJ 1 H2 boW c0 s.words:=go0.of (by rw[fr3 _ (by omega),aA.aC (by omega),aA.jG (by omega)])
 have ko1:Own aJ 1 H2 b1 c1 s.holds:=go1.of (by rw[fr3 _ (by omega),aA.aC (by omega),aA.jG (by omega)])
 have ko2:Own aJ 1 H2 (nx+8) c2 s.asked:=⟨c2,by rw[fr3 _ (by omega)];exact aA.bH,hc2,m5 _⟩
 have kf: ∀id,id<nx→H2 id=H id:=fun id hid=>by rw[fr3 _ (by omega),aA.aC (by omega),aA.jG (by omega)];exact gf id hid
 clear bqC g1 g5 go0 go1 gf fr3
 simp only[go_sem,k0]
 refine aNQ hf.done hd4 fun H3 nx3 boY c4 p3 p4 bqE fr4=> ?_
 have l0:H3 nx=some ⟨6,1,[eSt s]⟩:=by rw[fr4 _ (by omega)];exact k0
 simp only[go_sem,l0]
 refine aNQ hf.told hd5 fun bqL nx4 boZ c5 p5 p6 bqF fr5=> ?_
 have n0:bqL nx=some ⟨6,1,[eSt s]⟩:=by rw[fr5 _ (by omega)];exact l0
 have bp0:bqL (nx+1)=some ⟨6,1,[[.osl 0 0 0 0 0,.osl 0 0 0 0 0,.osl 0 0 0 0 0,.osl 0 0 0 0 0,.osl 0 0 0 0 0,.osl 0 0 0 0 0]]⟩:=by rw[fr5 _ (by omega),fr4 _ (by omega)];exact k1
 have fr: ∀id,id<nx2→bqL id=H2 id:=fun id hid=>by rw[fr5 _ (by omega),fr4 _ (by omega)]
 simp only[go_sem,n0,bp0]
 repeat' first|apply bn1<;>(simp only[go_sem,n0,bp0])|fail
 exact hQ _ _ _ _ _ (.inr rfl) (fZ (m:=1) rfl aA.bH rfl) (h _ _ boW b1 (nx+8) boX boY boZ c0 c1 c2 c3 c4 c5 (by omega) (by omega) (by omega) (by omega) (by omega) (by omega) (by omega)
  (ko0.of (by rw[aA.aC (by omega),fr _ (by omega)])) (ko1.of (by rw[aA.aC (by omega),fr _ (by omega)])) (ko2.of (by rw[aA.aC (by omega),fr _ (by omega)])) (bqD.of (by rw[aA.aC (by omega),fr _ (by omega)])) (bqE.of (by rw[aA.aC (by omega),fr5 _ (by omega)])) (bqF.of (by rw[aA.aC (by omega)])) fun id hid=>by rw[aA.aC (by omega),fr _ (by omega)];exact kf id hid)
end
def aA7:AC:= (boG [f5 3 1,dO 4 (ki 0)] [0,3] (.seq (boG [RM 6 0,f6 7 aBG [6],f4 8 7,RM 9 8,GQ 10 (.load 7 true 3) 9 false,GQ 11 (.call aBF [10]) 9 false,hP 12 11 9 false,f3 13 9 boE 12] [0,3,13] (.cond 13 (boG [rq 4 (.move (.kv (.int .i64 (-1))))] [4] .ret) .skip)) (boG [RM 14 0,RF 15 2 3,RL 16 15,RF 17 3 3,RL 18 17,RF 19 4 3,RL 20 19,f6 21 aAY [16,18,20],f6 22 aA4 [14,21],RM 5 22] [0,5] (.seq (boG [RM 23 5,dI 24 .lss 23 (ki 0)] [0,5,24] (.cond 24 (boG [dO 4 (ki 3)] [4] .ret) .skip)) (boG [RM 25 0,RM 26 5,e0 27 4 25 26,RF 28 2 27,RL 29 28,RM 4 29] [4] .ret)))))
def aBU:List aW:=[.tm 4]
theorem aCT:aO Tryz.prog Tryz.f185 (bnD aA7)=some (aA7,aBU):=by kernel_rfl
theorem aCQ:aN Tryz.prog y3 Tryz.f185 aA7 aBU:=
 aN.mk Tryz.func185 (by kernel_rfl) aCT
def bg0:AC:= (boG [f5 1 0,f7 2 [OZ,OZ,OZ,OZ,OZ]] [1,2] (.seq (.region [RF 8 0 1 0,boF 9 (.load 2 true 8) [7] [] false 1,RF 11 4 1 3,g8 12 11 [7] [] true 4,f7 3 [OZ,OZ,OZ,OZ,OZ] 7,boF 10 (.call aIR [9]) [7] [4] false 2,boF 13 (.call aIM [12]) [7] [] false 5,rq 14 (.build [OZ,OZ,OZ,OZ,OZ] [(0,2,10),(4,1,13)]) 6,g0 5 true 3 14 8] 9 [1,2,3]) (.seq (boG [dO 4 (ki 0)] [1,2,3,4] (.block 0 (.loop (.seq (boG [RM 15 4,RF 16 2 1,RL 17 16,f1 18 17,dI 19 .lss 15 18] [1,2,3,4,19] (.cond 19 .skip (.exit 0))) (.seq (.block 1 (boG [RF 22 2 1,RL 23 22,RM 24 4,e0 25 4 23 24,f8 26 4 25,f7 5 [VZ,OZ,OZ,VZ],g0 4 true 5 26] [1,2,3,4,5] (.region [RF 27 2 3 0,g8 28 27 [4,8,15] [] true 1,RF 29 0 5 2,g8 30 29 [4,8,15] [] true 3,rq 31 (.bC 1 0 [VZ] []) 4,RF 32 1 5 5,g8 33 32 [4,8] [] false 6,rq 35 (.bC 3 0 [VZ,VZ,VZ] []) 8,RF 36 2 5 9,g8 37 36 [4,8,15] [] true 10,RF 39 3 5 12,g8 40 39 [4,8,15] [] true 13,boF 34 (.append 1 31 33) [8] [1,3,10,13] false 7,boF 38 (.append 3 35 37) [] [1,3,13] false 11,rq 41 (.build [VZ,OZ,OZ,VZ] [(0,1,30),(1,1,34),(2,1,38),(3,1,40)]) 14,rq 42 (.bC 4 1 [VZ,OZ,OZ,VZ] [(0,4,41)]) 15,rq 43 (.append 4 28 42) 16,RF 44 2 3 17,g0 1 false 44 43 18] 19 [1,2,3,4]))) (m2 [RM 20 4,dI 21 .add 20 (ki 1),RM 4 21] [1,2,3,4])))))) (.seq (boG [dO 6 (ki 0)] [1,2,3,6] (.block 2 (.loop (.seq (boG [RM 45 6,RF 46 3 1,RL 47 46,f1 48 47,dI 49 .lss 45 48] [1,2,3,6,49] (.cond 49 .skip (.exit 2))) (.seq (.block 3 (boG [RF 52 3 1,RL 53 52,RM 54 6,e0 55 3 53 54,f8 56 3 55,f7 7 [OZ,OZ,VZ],g0 3 true 7 56] [1,2,3,6,7] (.region [RF 57 3 3 0,g8 58 57 [2,12] [] true 1,rq 59 (.bC 3 0 [VZ,VZ,VZ] []) 2,RF 60 0 7 3,g8 61 60 [2] [] false 4,RF 63 1 7 6,g8 64 63 [2,12] [] true 7,RF 66 2 7 9,g8 67 66 [2,12] [] true 10,boF 62 (.append 3 59 61) [] [1,7,10] false 5,boF 65 (.call aIM [64]) [] [1,10] false 8,rq 68 (.build [OZ,OZ,VZ] [(0,1,62),(1,1,65),(2,1,67)]) 11,rq 69 (.bC 3 1 [OZ,OZ,VZ] [(0,3,68)]) 12,rq 70 (.append 3 58 69) 13,RF 71 3 3 14,g0 1 false 71 70 15] 16 [1,2,3,6]))) (m2 [RM 50 6,dI 51 .add 50 (ki 1),RM 6 51] [1,2,3,6])))))) (boG [f8 72 5 3,g0 5 true 2 72] [2] .ret)))))
def bhN:List aW:=[.cell 2 5 true]
theorem biR:aO Tryz.prog Tryz.f130 (bnD bg0)=some (bg0,bhN):=by kernel_rfl
def bgX:AC:= (boG [f5 2 0,dO 4 (ki 0)] [1,2] (.seq (boG [dO 5 (ki 1)] [1,2,5] (.block 0 (.loop (.seq (boG [RM 7 5,dI 8 .leq 7 (ki 4)] [1,2,5,8] (.cond 8 .skip (.exit 0))) (.seq (.block 1 (boG [RF 11 2 2,RL 12 11,RM 13 1,e0 14 4 12 13,RF 15 3 14,RL 16 15,RM 17 5,dI 18 .add 16 17,dI 19 .rem 18 (ki 4),RM 6 19] [1,2,5,6] (boG [RF 20 3 2,RL 21 20,RM 22 6,e0 23 3 21 22,RF 24 1 23,RL 25 24,f1 26 25,dI 27 .gtr 26 (ki 0),RM 28 27,g9 29 3 2 28 true,hD 30 29 28 true,hG 31 6 28 true,j0 32 3 30 31 28 true,g9 33 1 32 28 true,hD 34 33 28 true,j0 35 5 34 (ki 0) 28 true,g9 36 0 35 28 true,hD 37 36 28 true,hG 38 1 28 true,hO 39 .eql 37 38 28 true,f3 40 28 39 boD] [1,2,5,6,40] (.cond 40 (boG [RM 41 6,RM 4 41] [4] .ret) .skip)))) (m2 [RM 9 5,dI 10 .add 9 (ki 1),RM 5 10] [1,2,5])))))) (boG [rq 4 (.move (.kv (.int .i64 (-1))))] [4] .ret)))
def bhL:List aW:=[.tm 4]
theorem biQ:aO Tryz.prog Tryz.f131 (bnD bgX)=some (bgX,bhL):=by kernel_rfl
theorem biV:aN Tryz.prog bgR Tryz.f131 bgX bhL:=
 aN.mk Tryz.func131 (by kernel_rfl) biQ
def bg1:AC:= (boG [f5 2 0,f7 4 [OZ,OZ,OZ,OZ,OZ]] [1,2,4] (boG [f8 7 5 2,RM 8 1,f6 9 bgR [7,8],RM 5 9] [1,2,4,5] (.seq (boG [RM 10 5,dI 11 .lss 10 (ki 0)] [1,2,4,5,11] (.cond 11 (boG [f8 12 5 2,g0 5 true 4 12] [4] .ret) .skip)) (boG [RF 13 3 2,RL 14 13,RM 15 5,e0 16 3 14 15,RF 17 1 16,RL 18 17,e0 19 5 18 (ki 0),f8 20 5 19,f7 6 [VZ,VZ,VZ,VZ,OZ],g0 5 true 6 20] [1,2,4,5,6] (boG [RF 21 3 2,g8 22 21 [] [] true,RM 23 5,RF 24 3 2,RL 25 24,RM 26 5,e0 27 3 25 26,RF 28 1 27,RL 29 28,rq 30 (.slc 5 29 (some (ki 1)) none none),boF 31 (.call aIM [30]) [] [1] false,e0 32 3 22 23,RF 33 1 32,g0 1 false 33 31] [1,2,4,5,6] (boG [RF 34 2 2,g8 35 34 [] [] true,RM 36 1,RF 37 2 2,RL 38 37,RM 39 1,e0 40 4 38 39,RF 41 2 40,RL 42 41,RF 43 1 6,RL 44 43,boF 45 (.call bhB [42,44]) [] [1] false,e0 46 4 35 36,RF 47 2 46,g0 1 false 47 45] [1,2,4,5,6] (boG [RF 48 2 2,RL 49 48,RM 50 1,RM 51 5,e0 52 4 49 50,RF 53 3 52,g0 1 false 53 51] [2,4,6] (boG [RF 54 4 2,RL 55 54,f8 56 5 6,rq 57 (.bC 5 1 [VZ,VZ,VZ,VZ,OZ] [(0,5,56)]),rq 58 (.append 5 55 57),RF 59 4 2,g0 1 false 59 58] [2,4] (boG [f8 60 5 2,g0 5 true 4 60] [4] .ret)))))))))
def bhM:List aW:=[.cell 4 5 true]
theorem biT:aO Tryz.prog Tryz.f132 (bnD bg1)=some (bg1,bhM):=by kernel_rfl
def bgU:AC:= (boG [f5 2 0,dO 4 boD] [1,2] (boG [RF 6 3 2,RL 7 6,RM 8 1,e0 9 3 7 8,f8 10 3 9,f7 5 [OZ,OZ,VZ],g0 3 true 5 10] [5] (boG [RF 11 0 5,RL 12 11,f1 13 12,dI 14 .gtr 13 (ki 0),RM 15 14,g9 16 0 5 15 true,hD 17 16 15 true,j0 18 3 17 (ki 0) 15 true,g9 19 2 18 15 true,hD 20 19 15 true,hO 21 .eql 20 (ki 0) 15 true,f3 22 15 21 boD,RM 23 22,g9 24 1 5 23 true,hD 25 24 23 true,GQ 26 (.len false 25) 23 true,hO 27 .lss 26 (ki 2) 23 true,f3 28 23 27 boD,RM 4 28] [4] .ret)))
def bhH:List aW:=[.tm 4]
theorem biF:aO Tryz.prog Tryz.f133 (bnD bgU)=some (bgU,bhH):=by kernel_rfl
theorem biH:aN Tryz.prog bgN Tryz.f133 bgU bhH:=
 aN.mk Tryz.func133 (by kernel_rfl) biF
def bg2:AC:= (boG [f5 3 0,f5 4 1,f7 6 [OZ,OZ,OZ,OZ,OZ]] [2,3,4,6] (boG [RF 11 3 4,RL 12 11,RM 13 2,e0 14 3 12 13,f8 15 3 14,f7 7 [OZ,OZ,VZ],g0 3 true 7 15] [2,3,4,6,7] (.seq (boG [RF 16 0 7,RL 17 16,f1 18 17,dI 19 .eql 18 (ki 0)] [2,3,4,6,7,19] (.cond 19 (boG [f8 20 5 4,g0 5 true 6 20] [6] .ret) .skip)) (.seq (boG [f8 21 5 4,RM 22 2,f6 23 bgN [21,22],f4 24 23] [2,3,4,6,7,24] (.cond 24 (.seq (boG [RF 25 0 7,RL 26 25,e0 27 3 26 (ki 0),RF 28 2 27,RL 29 28,dI 30 .gtr 29 (ki 0)] [2,4,6,7,30] (.cond 30 (m2 [RF 31 3 4,RL 32 31,RM 33 2,e0 34 3 32 33,RF 35 0 34,RL 36 35,RF 37 0 7,RL 38 37,e0 39 3 38 (ki 0),RF 40 2 39,RL 41 40,dI 42 .sub 41 (ki 1),e0 43 3 36 (ki 0),RF 44 2 43,g0 1 false 44 42] [4,6]) .skip)) (boG [f8 45 5 4,g0 5 true 6 45] [6] .ret)) .skip)) (boG [RF 46 0 7,RL 47 46,e0 48 3 47 (ki 0),f8 49 3 48,f7 8 [VZ,VZ,VZ],g0 3 true 8 49] [2,3,4,6,7,8] (.seq (.region [RF 51 0 3 0,g8 52 51 [20,21] [] false 1,RF 53 0 4 2,boF 54 (.load 2 true 53) [20,21] [] false 3,RF 55 0 8 4,g8 56 55 [20,21] [] false 5,RF 57 2 3 6,g8 58 57 [20,21] [] false 7,RF 59 0 8 8,g8 60 59 [20,21] [] false 9,e0 61 1 58 60 10,g8 62 61 [20,21] [] false 11,RF 63 1 8 12,g8 64 63 [20,21] [] false 13,e0 65 7 62 64 14,boF 66 (.load 7 true 65) [20,21] [] false 15,f7 9 [OZ,OZ] 20,f7 10 [VZ,VZ,OZ] 21,boF 67 (.call aN2 [52,54,56,66]) [20,21] [] false 16,RM 50 67 17,rq 68 (.ext 50 0) 18,rq 69 (.ext 50 1) 19,g0 2 true 9 68 22,g0 3 true 10 69 23] 24 [2,4,6,7,8,9,10]) (boG [f8 70 2 9,RF 71 0 4,g0 2 true 71 70] [2,4,6,7,8,10] (boG [RF 72 3 4,g8 73 72 [3] [] true,RM 74 2,rq 75 (.bC 3 0 [VZ,VZ,VZ] []),RF 76 0 7,g8 77 76 [3] [] false,rq 78 (.slc 3 77 (some (ki 1)) none none),boF 79 (.append 3 75 78) [] [1] false,e0 80 3 73 74,RF 81 0 80,g0 1 false 81 79] [2,4,6,7,8,10] (boG [RF 82 3 4,g8 83 82 [11] [] true,RM 84 2,RF 85 1 7,g8 86 85 [11] [] false,RF 87 0 8,RL 88 87,RF 89 1 8,RL 90 89,f8 91 3 10,rq 92 (.build [VZ,VZ,VZ,VZ,OZ] [(0,1,88),(1,1,90),(2,3,91)]),rq 93 (.bC 5 1 [VZ,VZ,VZ,VZ,OZ] [(0,5,92)]),boF 94 (.append 5 86 93) [] [1] false,e0 95 3 83 84,RF 96 1 95,g0 1 false 96 94] [4,6] (boG [f8 97 5 4,g0 5 true 6 97] [6] .ret))))))))))
def bhS:List aW:=[.cell 6 5 true]
theorem bjA:aO Tryz.prog Tryz.f134 (bnD bg2)=some (bg2,bhS):=by kernel_rfl
def bhD:AC:= (boG [f5 4 0,f5 5 1,f7 8 [OZ,OZ,OZ,OZ,OZ]] [2,3,4,5,8] (.seq (boG [RF 13 3 5,RL 14 13,RM 15 2,e0 16 3 14 15,RF 17 0 16,RL 18 17,f1 19 18,dI 20 .eql 19 (ki 2)] [2,3,4,5,8,20] (.cond 20 (boG [f8 21 5 5,g0 5 true 8 21] [8] .ret) .skip)) (.seq (boG [dO 9 (ki 1)] [2,3,4,5,8,9] (.block 0 (.loop (.seq (boG [RM 22 9,dI 23 .leq 22 (ki 3)] [2,3,4,5,8,9,23] (.cond 23 .skip (.exit 0))) (.seq (.block 1 (boG [RF 26 3 5,RL 27 26,RM 28 2,e0 29 3 27 28,RF 30 2 29,RL 31 30,RM 32 9,dI 33 .add 31 32,dI 34 .rem 33 (ki 3),RM 10 34] [2,3,4,5,8,9,10] (boG [RM 35 3,RM 36 10,e0 37 1 35 36,RL 38 37,f4 39 38,RM 40 39,GQ 41 (.load 3 true 4) 40 true,GQ 42 (.load 5 true 5) 40 true,hG 43 10 40 true,hG 44 2 40 true,GQ 45 (.call bgQ [41,42,43,44]) 40 true,f3 46 40 45 boD] [2,3,4,5,8,9,10,46] (.cond 46 (boG [RM 47 3,RM 48 10,e0 49 1 47 48,g0 1 false 49 boE] [2,4,5,8,10] (boG [RF 50 2 5,RL 51 50,RM 52 10,e0 53 4 51 52,f8 54 4 53,f7 11 [VZ,OZ,OZ,VZ],g0 4 true 11 54] [2,4,5,8,10,11] (boG [RF 55 1 11,RL 56 55,e0 57 1 56 (ki 0),RL 58 57,RM 12 58] [2,4,5,8,10,11,12] (boG [RF 59 2 5,g8 60 59 [3] [] true,RM 61 10,rq 62 (.bC 1 0 [VZ] []),RF 63 1 11,g8 64 63 [3] [] false,rq 65 (.slc 1 64 (some (ki 1)) none none),boF 66 (.append 1 62 65) [] [1] false,e0 67 4 60 61,RF 68 1 67,g0 1 false 68 66] [2,4,5,8,10,11,12] (boG [RF 69 2 5,g8 70 69 [9] [] true,RM 71 10,RF 72 2 11,g8 73 72 [9] [] false,RM 74 10,RM 75 12,RM 76 2,rq 77 (.build [VZ,VZ,VZ] [(0,1,74),(1,1,75),(2,1,76)]),rq 78 (.bC 3 1 [VZ,VZ,VZ] [(0,3,77)]),boF 79 (.append 3 73 78) [] [1] false,e0 80 4 70 71,RF 81 2 80,g0 1 false 81 79] [2,4,5,8,10,12] (boG [RF 82 3 5,g8 83 82 [17] [] true,RM 84 2,RF 85 3 5,g8 86 85 [17] [] false,RM 87 2,e0 88 3 86 87,RF 89 0 88,g8 90 89 [17] [] false,RM 91 10,RM 92 12,RF 93 1 4,RL 94 93,RM 95 2,e0 96 1 94 95,RL 97 96,rq 98 (.build [VZ,VZ,VZ] [(0,1,91),(1,1,92),(2,1,97)]),rq 99 (.bC 3 1 [VZ,VZ,VZ] [(0,3,98)]),boF 100 (.append 3 90 99) [] [1] false,e0 101 3 83 84,RF 102 0 101,g0 1 false 102 100] [2,5,8,10] (boG [RF 103 3 5,RL 104 103,RM 105 2,RM 106 10,e0 107 3 104 105,RF 108 2 107,g0 1 false 108 106] [5,8] (boG [f8 109 5 5,g0 5 true 8 109] [8] .ret)))))))) .skip)))) (m2 [RM 24 9,dI 25 .add 24 (ki 1),RM 9 25] [2,3,4,5,8,9])))))) (boG [f8 110 5 5,g0 5 true 8 110] [8] .ret))))
def bhW:List aW:=[.cell 8 5 true]
theorem bjN:aO Tryz.prog Tryz.f135 (bnD bhD)=some (bhD,bhW):=by kernel_rfl
def bgV:AC:= (boG [f5 3 0,f5 4 1,dO 6 boD] [2,3,4] (boG [RF 7 2 4,RL 8 7,RM 9 2,e0 10 4 8 9,RF 11 0 10,RL 12 11,RF 13 2 3,RL 14 13,RM 15 2,e0 16 1 14 15,RL 17 16,f1 18 17,dI 19 .lss 12 18,RM 20 19,g9 21 2 4 20 true,hD 22 21 20 true,hG 23 2 20 true,j0 24 4 22 23 20 true,g9 25 1 24 20 true,hD 26 25 20 true,GQ 27 (.len false 26) 20 true,hO 28 .lss 27 (ki 2) 20 true,f3 29 20 28 boD,RM 6 29] [6] .ret))
def bhI:List aW:=[.tm 6]
theorem biE:aO Tryz.prog Tryz.f136 (bnD bgV)=some (bgV,bhI):=by kernel_rfl
theorem biC:aN Tryz.prog bgM Tryz.f136 bgV bhI:=
 aN.mk Tryz.func136 (by kernel_rfl) biE
def bgT:AC:= (boG [f5 3 0,f5 4 1,f5 5 2,f7 6 [OZ,OZ,OZ,OZ,OZ]] [3,4,5,6] (.seq (boG [dO 7 (ki 0)] [3,4,5,6,7] (.block 0 (.loop (.seq (boG [RM 12 7,dI 13 .lss 12 (ki 3)] [3,4,5,6,7,13] (.cond 13 .skip (.exit 0))) (.seq (.block 1 (boG [RF 16 0 5,RL 17 16,RM 18 7,e0 19 1 17 18,RL 20 19] [3,4,5,6,7,20] (.cond 20 (m2 [f8 21 5 4,RM 22 7,f6 23 bg8 [21,22],g0 5 true 4 23] [3,4,5,6,7]) .skip))) (m2 [RM 14 7,dI 15 .add 14 (ki 1),RM 7 15] [3,4,5,6,7])))))) (.seq (boG [dO 8 (ki 0)] [3,4,5,6,8] (.block 2 (.loop (.seq (boG [RM 24 8,dI 25 .leq 24 (ki 3)] [3,4,5,6,8,25] (.cond 25 .skip (.exit 2))) (.seq (.block 3 (boG [RF 28 1 5,RL 29 28,RM 30 8,e0 31 1 29 30,RL 32 31,f4 33 32] [3,4,5,6,8,33] (.cond 33 (m2 [f8 34 3 3,f8 35 5 4,RM 36 8,f6 37 bg7 [34,35,36],g0 5 true 4 37] [3,4,5,6,8]) .skip))) (m2 [RM 26 8,dI 27 .add 26 (ki 1),RM 8 27] [3,4,5,6,8])))))) (boG [rq 38 (.kY 1 [(.v (.bool false))] (ki 3) (ki 3)),RM 9 38] [3,4,5,6,9] (.seq (boG [dO 10 (ki 0)] [3,4,5,6,9,10] (.block 4 (.loop (.seq (boG [RM 39 10,dI 40 .leq 39 (ki 3)] [3,4,5,6,9,10,40] (.cond 40 .skip (.exit 4))) (.seq (.block 5 (m2 [f8 43 3 3,f8 44 5 4,RM 45 10,RM 46 9,f6 47 bhG [43,44,45,46],g0 5 true 4 47] [3,4,5,6,9,10])) (m2 [RM 41 10,dI 42 .add 41 (ki 1),RM 10 42] [3,4,5,6,9,10])))))) (.seq (boG [dO 11 (ki 0)] [3,4,5,6,11] (.block 6 (.loop (.seq (boG [RM 48 11,dI 49 .lss 48 (ki 3)] [3,4,5,6,11,49] (.cond 49 .skip (.exit 6))) (.seq (.block 7 (boG [RF 52 2 5,RL 53 52,RM 54 11,e0 55 1 53 54,RL 56 55,RM 57 56,GQ 58 (.load 3 true 3) 57 true,GQ 59 (.load 5 true 4) 57 true,hG 60 11 57 true,GQ 61 (.call bgM [58,59,60]) 57 true,f3 62 57 61 boD] [3,4,5,6,11,62] (.cond 62 (boG [RF 63 2 4,g8 64 63 [15] [] true,RM 65 11,RF 66 2 4,g8 67 66 [15] [] false,RM 68 11,e0 69 4 67 68,RF 70 1 69,g8 71 70 [15] [] false,RF 72 2 4,RL 73 72,RM 74 11,e0 75 4 73 74,RF 76 0 75,RL 77 76,rq 78 (.bC 1 1 [VZ] [(0,1,77)]),boF 79 (.append 1 71 78) [] [1] false,e0 80 4 64 65,RF 81 1 80,g0 1 false 81 79] [3,4,5,6,11] (m2 [RF 82 2 4,RL 83 82,RM 84 11,RF 85 2 4,RL 86 85,RM 87 11,e0 88 4 86 87,RF 89 0 88,RL 90 89,dI 91 .add 90 (ki 1),e0 92 4 83 84,RF 93 0 92,g0 1 false 93 91] [3,4,5,6,11])) .skip))) (m2 [RM 50 11,dI 51 .add 50 (ki 1),RM 11 51] [3,4,5,6,11])))))) (boG [f8 94 5 4,g0 5 true 6 94] [6] .ret)))))))
def bhK:List aW:=[.cell 6 5 true]
theorem biJ:aO Tryz.prog Tryz.f137 (bnD bgT)=some (bgT,bhK):=by kernel_rfl
def bg6:AC:= (boG [f7 2 [OZ,OZ,OZ],f7 3 [OZ,OZ,OZ,OZ,OZ]] [0,2,3] (boG [RM 8 0,f6 9 lJ [8,(ki 6)],f7 4 [OZ,OZ,OZ],g0 3 true 4 9] [0,2,3,4] (boG [f6 10 bhA [],f7 5 [OZ,OZ,OZ,OZ,OZ],g0 5 true 5 10] [0,2,3,4,5] (boG [RM 11 0,f6 12 AE [11,(ki 40)],RM 6 12] [2,3,4,5,6] (.seq (boG [dO 7 (ki 0)] [2,3,4,5,6,7] (.block 0 (.loop (.seq (boG [RM 13 7,RM 14 6,f1 15 14,dI 16 .lss 13 15] [2,3,4,5,6,7,16] (.cond 16 .skip (.exit 0))) (.seq (.block 1 (m2 [f8 19 3 4,f8 20 5 5,RM 21 6,RM 22 7,e0 23 3 21 22,f8 24 3 23,f6 25 bgZ [19,20,24],g0 5 true 5 25] [2,3,4,5,6,7])) (m2 [RM 17 7,dI 18 .add 17 (ki 1),RM 7 18] [2,3,4,5,6,7])))))) (boG [boF 26 (.load 3 true 4) [] [] true,f8 27 5 5,boF 28 (.call bg9 [27]) [] [0] false,g0 3 true 2 26,g0 5 true 3 28] [2,3] .ret))))))
def bhQ:List aW:=[.cell 2 3 true,.cell 3 5 true]
theorem bi0:aO Tryz.prog Tryz.f207 (bnD bg6)=some (bg6,bhQ):=by kernel_rfl
def bg4:AC:= (boG [dO 4 (.kv (.slice none 0 0))] [0,1] (boG [rq 7 (.bC 3 0 [VZ,VZ,VZ] []),RM 5 7] [0,1,5] (.seq (boG [dO 6 (ki 0)] [0,1,5,6] (.block 0 (.loop (.seq (boG [RM 8 6,RM 9 0,f1 10 9,dI 11 .lss 8 10] [0,1,5,6,11] (.cond 11 .skip (.exit 0))) (.seq (.block 1 (boG [RM 14 0,RM 15 6,e0 16 3 14 15,RF 17 1 16,RL 18 17,RM 19 1,dI 20 .neq 18 19] [0,1,5,6,20] (.cond 20 (m2 [RM 21 5,RM 22 0,RM 23 6,e0 24 3 22 23,f8 25 3 24,rq 26 (.bC 3 1 [VZ,VZ,VZ] [(0,3,25)]),rq 27 (.append 3 21 26),RM 5 27] [0,1,5,6]) .skip))) (m2 [RM 12 6,dI 13 .add 12 (ki 1),RM 6 13] [0,1,5,6])))))) (boG [RM 28 5,RM 4 28] [4] .ret))))
def bhR:List aW:=[.tm 4]
theorem biU:aO Tryz.prog Tryz.f229 (bnD bg4)=some (bg4,bhR):=by kernel_rfl
def bg5:AC:= (boG [f5 4 0,f5 5 1,dO 8 boD] [2,3,4,5] (boG [RF 12 2 5,RL 13 12,RM 14 2,e0 15 4 13 14,f8 16 4 15,f7 9 [VZ,OZ,OZ,VZ],g0 4 true 9 16] [2,3,4,9] (.seq (boG [RF 17 1 9,RL 18 17,f1 19 18,dI 20 .eql 19 (ki 0),RM 21 20,g9 22 2 9 21 false,hD 23 22 21 false,GQ 24 (.len false 23) 21 false,hO 25 .eql 24 (ki 4) 21 false,f3 26 21 boE 25] [2,3,4,9,26] (.cond 26 (boG [dO 8 boD] [8] .ret) .skip)) (boG [RF 27 2 4,g8 28 27 [11] [] false,RM 29 2,e0 30 1 28 29,g8 31 30 [11] [] false,RF 32 1 9,g8 33 32 [11] [] false,e0 34 1 33 (ki 0),g8 35 34 [11] [] false,e0 36 7 31 35,boF 37 (.load 7 true 36) [11] [] false,f7 10 [VZ,VZ,VZ,VZ,(.v (.bool false)),OZ,OZ],g0 7 true 10 37] [2,3,4,9,10] (.seq (boG [RF 38 0 4,RL 39 38,f8 40 7 10,f6 41 y3 [39,40],RM 42 3,dI 43 .neq 41 42] [2,3,4,9,10,43] (.cond 43 (boG [dO 8 boD] [8] .ret) .skip)) (.seq (boG [dO 11 (ki 0)] [2,3,4,9,10,11] (.block 0 (.loop (.seq (boG [RM 44 11,RF 45 2 9,RL 46 45,f1 47 46,dI 48 .lss 44 47] [2,3,4,9,10,11,48] (.cond 48 .skip (.exit 0))) (.seq (.block 1 (boG [RF 51 2 4,RL 52 51,RM 53 2,e0 54 1 52 53,RL 55 54,RF 56 2 9,RL 57 56,RM 58 11,e0 59 3 57 58,RF 60 1 59,RL 61 60,e0 62 7 55 61,RF 63 0 62,RL 64 63,RF 65 0 10,RL 66 65,dI 67 .eql 64 66,RM 68 67,g9 69 2 9 68 true,hD 70 69 68 true,hG 71 11 68 true,j0 72 3 70 71 68 true,g9 73 2 72 68 true,hD 74 73 68 true,hG 75 3 68 true,hO 76 .neq 74 75 68 true,f3 77 68 76 boD] [2,3,4,9,10,11,77] (.cond 77 (boG [dO 8 boD] [8] .ret) .skip))) (m2 [RM 49 11,dI 50 .add 49 (ki 1),RM 11 50] [2,3,4,9,10,11])))))) (boG [dO 8 boE] [8] .ret)))))))
def bhU:List aW:=[.tm 8]
theorem biW:aO Tryz.prog Tryz.f230 (bnD bg5)=some (bg5,bhU):=by kernel_rfl
theorem biY:aN Tryz.prog bgQ Tryz.f230 bg5 bhU:=
 aN.mk Tryz.func230 (by kernel_rfl) biW
def bgW:AC:= (boG [f7 0 [OZ,OZ,OZ,OZ,OZ]] [0] (boG [f6 4 v7 [],rq 5 (.build [OZ,OZ,OZ,OZ,OZ] [(0,2,4)]),f7 1 [OZ,OZ,OZ,OZ,OZ],g0 5 true 1 5] [0,1] (.seq (boG [dO 2 (ki 0)] [0,1,2] (.block 0 (.loop (.seq (boG [RM 6 2,dI 7 .lss 6 (ki 3)] [0,1,2,7] (.cond 7 .skip (.exit 0))) (.seq (.block 1 (m2 [RF 10 2 1,RL 11 10,rq 12 (.build [VZ,OZ,OZ,VZ] [(3,1,(ki 3))]),rq 13 (.bC 4 1 [VZ,OZ,OZ,VZ] [(0,4,12)]),rq 14 (.append 4 11 13),RF 15 2 1,g0 1 false 15 14] [0,1,2])) (m2 [RM 8 2,dI 9 .add 8 (ki 1),RM 2 9] [0,1,2])))))) (.seq (boG [dO 3 (ki 0)] [0,1,3] (.block 2 (.loop (.seq (boG [RM 16 3,dI 17 .leq 16 (ki 3)] [0,1,3,17] (.cond 17 .skip (.exit 2))) (.seq (.block 3 (m2 [RF 20 3 1,RL 21 20,rq 22 (.build [OZ,OZ,VZ] [(2,1,(ki 2))]),rq 23 (.bC 3 1 [OZ,OZ,VZ] [(0,3,22)]),rq 24 (.append 3 21 23),RF 25 3 1,g0 1 false 25 24] [0,1,3])) (m2 [RM 18 3,dI 19 .add 18 (ki 1),RM 3 19] [0,1,3])))))) (boG [f8 26 5 1,g0 5 true 0 26] [0] .ret)))))
def bhP:List aW:=[.cell 0 5 true]
theorem bi6:aO Tryz.prog Tryz.f271 (bnD bgW)=some (bgW,bhP):=by kernel_rfl
section
variable {H : aA} {nx : Nat} {K : D → aA → Nat → Prop}
theorem bjH {c:Cfg} {s:CSt} {i:CIn} {k:Nat} (hs:COk c s) (hk:k<3) (hr:i.ready.getD k default=true) {d0:D} (hd0:CvD H (fun _=>True) id 0 (boR (eI s)) d0) (h: ∀r,(fun r=>(vT i s k=none∧r=boP (-1))∨ ∃st:Nat,st<4∧vT i s k=some (.tell k st)∧r=boP st) r→K r H nx):aB Tryz.prog bgR [d0,boP k] H nx K:=by
 refine aB.pure (args0:=[boR (eI s),boP k]) (R:=fun r=>(vT i s k=none∧r=boP (-1))∨ ∃st:Nat,st<4∧vT i s k=some (.tell k st)∧r=boP st) ?_ rfl (aI ⟨hd0,aE rfl,trivial⟩) (h)
 clear h
 refine biV rfl fun Q hQ=> ?_
 unfold bgX
 have hpl:=hs.pl
 have hsl:=hs.sl
 obtain⟨hla,hlb⟩:=(hs.port k hk).last
 obtain⟨p,hp⟩: ∃p,s.bM.getD k default=p:=⟨_,rfl⟩
 have hp':aF s k=p:=hp
 rw[hp'] at hla hlb
 repeat' first|apply bn1<;>(simp only[go_sem])|fail
 refine aM.gP (β:=Nat) (fun j=>en [(5,boP j),(2,.one (.c (.ptr 5 0 0 0))),(1,boP k)]) (fun j H1 _=>H1 0=some ⟨5,1,[eI s]⟩∧1≤j∧j≤5∧ ∀j',1≤j'→j'<j→NN s k (pQ s k j')=false) (fun j=>5-j) 1 ⟨noF,_,by repeat' first|exact bo2|refine xqI rfl rfl ?_|refine xqP (by omega) rfl rfl ?_|fail,aK,rfl,by omega,by omega,fun j' h1 h2=>by omega⟩ ?_
 rintro j H1 nx1 hnx1 ⟨bqC,hj1,hj5,hinv⟩ bpQ hKL
 by_cases hj4:j≤4
 ·obtain⟨st,hst⟩: ∃st,st=pQ s k j:=⟨_,rfl⟩
  have hst':st=((p.last+(j:Int))%4).toNat:=by rw[hst,←hp'];rfl
  have hst4:st<4:=by omega
  have hmod:(p.last+(j:Int)).tmod 4=(st:Int):=by rw[brF (by omega)];omega
  obtain⟨v,hv⟩: ∃v,s.dD.getD st default=v:=⟨_,rfl⟩
  have hv':aL s st=v:=hv
  by_cases hd0:v.done.length=0
  ·have hlen:(0<(v.done.length:Int))=False:=eq_false (by omega)
   repeat' first|apply bn1<;>(simp only[go_sem,bqC,hpl,hsl,hp,hv,hmod,hlen];try simp (disch:=omega) only[Iw])|apply bn2 (by omega)|refine⟨by omega,?_⟩|fail
   exact hKL _ _ _ (j+1) noF _ (by omega) (by omega) (by repeat' first|exact bo2|refine xqI rfl rfl ?_|refine xqP (by omega) rfl rfl ?_|fail) aK ⟨bqC,by omega,by omega,fun j' h1 h2=>by
    by_cases hj:j'<j
    ·exact hinv j' h1 hj
    ·have:j'=j:=by omega
     subst this
     rw[←hst]
     exact decide_eq_false fun hc=>by rw[hv'] at hc;omega⟩
  have hlen:(0<(v.done.length:Int))=True:=eq_true (by omega)
  obtain⟨d,hd⟩: ∃d,v.done.getD 0 default=d:=⟨_,rfl⟩
  by_cases hwho:d.who=k
  ·have hwt:(d.who=(k:Int))=True:=eq_true hwho
   repeat' first|apply bn1<;>(simp only[go_sem,bqC,hpl,hsl,hp,hv,hmod,hlen,hd,hwt];try simp (disch:=omega) only[Iw])|apply bn2 (by omega)|refine⟨by omega,?_⟩|fail
   refine aZ hQ _ rfl rfl (.inr ⟨st,hst4,?_,rfl⟩)
   rw[hst]
   exact acB hr hj1 hj4 hinv (by rw[←hst];exact decide_eq_true ⟨by rw[hv'];omega,by rw[hv',hd];exact hwho⟩)
  ·have hwf:(d.who=(k:Int))=False:=eq_false hwho
   repeat' first|apply bn1<;>(simp only[go_sem,bqC,hpl,hsl,hp,hv,hmod,hlen,hd,hwf];try simp (disch:=omega) only[Iw])|apply bn2 (by omega)|refine⟨by omega,?_⟩|fail
   exact hKL _ _ _ (j+1) noF _ (by omega) (by omega) (by repeat' first|exact bo2|refine xqI rfl rfl ?_|refine xqP (by omega) rfl rfl ?_|fail) aK ⟨bqC,by omega,by omega,fun j' h1 h2=>by
    by_cases hj:j'<j
    ·exact hinv j' h1 hj
    ·have:j'=j:=by omega
     subst this
     rw[←hst]
     exact decide_eq_false fun hc=>hwho (by rw[←hd,←hv'];exact hc.2)⟩
 ·repeat' first|apply bn1<;>(simp only[go_sem])|apply bn3 (by omega)|fail
  exact aZ hQ _ rfl rfl (.inl ⟨acZ fun j' h1 h2=>hinv j' h1 (by omega),rfl⟩)
theorem bgY {c:Cfg} {s:CSt} {st:Nat} (hs:COk c s) (hst:st<4) {d0:D} (hd0:CvD H (fun _=>True) id 0 (boR (eI s)) d0) (h:K (dB (decide (0<(aL s st).pipe.length∧(bI s st).left=0∧(aL s st).done.length<2))) H nx):aB Tryz.prog bgN [d0,boP st] H nx K:=by
 refine aB.pure (args0:=[boR (eI s),boP st]) (R:=fun rr=>rr=dB (decide (0<(aL s st).pipe.length∧(bI s st).left=0∧(aL s st).done.length<2))) ?_ rfl (aI ⟨hd0,aE rfl,trivial⟩) (fun r hr=>hr▸h)
 clear h
 refine biH rfl fun Q hQ=> ?_
 unfold bgU
 have hsl:=hs.sl
 obtain⟨v,hv⟩: ∃v,s.dD.getD st default=v:=⟨_,rfl⟩
 have hv':aL s st=v:=hv
 obtain⟨d,hd⟩: ∃d,v.pipe.getD 0 default=d:=⟨_,rfl⟩
 have e:(0<(aL s st).pipe.length∧(bI s st).left=0∧(aL s st).done.length<2)↔(0<v.pipe.length∧d.left=0∧v.done.length<2):=by unfold bI;rw[hv',hd]
 repeat' first| (first|apply bn1|refine bpL (fun h=> ?_) fun h=> ?_)<;>(simp only[go_sem,hsl,hv,hd])|refine⟨by omega,?_⟩|fail
 all_goals first|exact aZ hQ _ rfl rfl (pD (by rw[e];omega))|exact aZ hQ _ rfl rfl (j7 (by rw[e];omega))|exact aZ hQ _ rfl rfl (q9 (by rw[e];omega))
theorem bhT {c:Cfg} {s:CSt} {k:Nat} (hb:aQ c) (hs:COk c s) (hk:k<3) {d1:D} (hd1:CvD H (fun _=>True) id 0 (boR (eI s)) d1) (h:K (dB (decide ((aF s k).queue.length<2∧(aF s k).next<(c.cP.getD k default).length))) H nx):aB Tryz.prog bgM [boR (cU c),d1,boP k] H nx K:=by
 refine aB.pure (args0:=[boR (cU c),boR (eI s),boP k]) (R:=fun rr=>rr=dB (decide ((aF s k).queue.length<2∧(aF s k).next<(c.cP.getD k default).length))) ?_ rfl (aI ⟨aE rfl,hd1,aE rfl,trivial⟩) (fun r hr=>hr▸h)
 clear h
 refine biC rfl fun Q hQ=> ?_
 unfold bgV
 have hpl:=hs.pl
 have hp3:=(hC hb).1
 obtain⟨p,hp⟩: ∃p,s.bM.getD k default=p:=⟨_,rfl⟩
 have hp':aF s k=p:=hp
 have e:((aF s k).queue.length<2∧(aF s k).next<(c.cP.getD k default).length)↔(p.queue.length<2∧p.next<(c.cP.getD k default).length):=by rw[hp']
 repeat' first| (first|apply bn1|refine bpL (fun h=> ?_) fun h=> ?_)<;>(simp only[go_sem,hpl,hp,hp3])|refine⟨by omega,?_⟩|fail
 all_goals first|exact aZ hQ _ rfl rfl (pD (by rw[e];omega))|exact aZ hQ _ rfl rfl (j7 (by rw[e];omega))|exact aZ hQ _ rfl rfl (q9 (by rw[e];omega))
end
def aJQ:AC:= (boG [f5 1 0,dO 2 boD] [1] (.seq (boG [RF 4 0 1,RL 5 4,f6 6 aBG [5],f4 7 6,RM 8 7,g9 9 1 1 8 false,hD 10 9 8 false,GQ 11 (.len false 10) 8 false,hO 12 .neq 11 (ki 4) 8 false,f3 13 8 boE 12,RM 14 13,g9 15 1 1 14 false,hD 16 15 14 false,GQ 17 (.call aA3 [16,(ki 0),(ki 3)]) 14 false,hP 18 17 14 false,f3 19 14 boE 18,RM 20 19,g9 21 2 1 20 false,hD 22 21 20 false,GQ 23 (.len false 22) 20 false,hO 24 .neq 23 (ki 3) 20 false,f3 25 20 boE 24] [1,25] (.cond 25 (boG [dO 2 boD] [2] .ret) .skip)) (.seq (boG [dO 3 (ki 0)] [1,3] (.block 0 (.loop (.seq (boG [RM 26 3,dI 27 .lss 26 (ki 3)] [1,3,27] (.cond 27 .skip (.exit 0))) (.seq (.block 1 (boG [RF 30 2 1,RL 31 30,RM 32 3,e0 33 1 31 32,RL 34 33,f1 35 34,dI 36 .gtr 35 (ki 12),RM 37 36,g9 38 2 1 37 false,hD 39 38 37 false,hG 40 3 37 false,j0 41 1 39 40 37 false,hD 42 41 37 false,GQ 43 (.call aI2 [42]) 37 false,hP 44 43 37 false,f3 45 37 boE 44] [1,3,45] (.cond 45 (boG [dO 2 boD] [2] .ret) .skip))) (m2 [RM 28 3,dI 29 .add 28 (ki 1),RM 3 29] [1,3])))))) (boG [dO 2 boE] [2] .ret))))
def aKB:List aW:=[.tm 2]
theorem aL8:aO Tryz.prog Tryz.f99 (bnD aJQ)=some (aJQ,aKB):=by kernel_rfl
theorem aLX:aN Tryz.prog aIV Tryz.f99 aJQ aKB:=
 aN.mk Tryz.func99 (by kernel_rfl) aL8
def aJM:AC:= (boG [f5 1 0,dO 2 boD] [1] (boG [RF 3 0 1,f8 4 1 3,f6 5 aI7 [4],RM 6 5,g9 7 1 1 6 true,hD 8 7 6 true,GQ 9 (.len false 8) 6 true,hO 10 .eql 9 (ki 6) 6 true,f3 11 6 10 boD,RM 12 11,g9 13 1 1 12 true,hD 14 13 12 true,GQ 15 (.call aA3 [14,(.kv (.int .i64 (-1))),(ki 63)]) 12 true,f3 16 12 15 boD,RM 2 16] [2] .ret))
def aJ7:List aW:=[.tm 2]
theorem aL9:aO Tryz.prog Tryz.f100 (bnD aJM)=some (aJM,aJ7):=by kernel_rfl
theorem aLR:aN Tryz.prog aIU Tryz.f100 aJM aJ7:=
 aN.mk Tryz.func100 (by kernel_rfl) aL9
def aBO:AC:= (boG [dO 2 boD] [0] (.seq (boG [RM 6 0,f1 7 6,dI 8 .gtr 7 (ki 4)] [0,8] (.cond 8 (boG [dO 2 boD] [2] .ret) .skip)) (.seq (boG [dO 3 (ki 0)] [0,3] (.block 0 (.loop (.seq (boG [RM 9 3,RM 10 0,f1 11 10,dI 12 .lss 9 11] [0,3,12] (.cond 12 .skip (.exit 0))) (.seq (.block 1 (boG [RM 15 0,RM 16 3,e0 17 4 15 16,f8 18 4 17,f7 4 [VZ,VZ,VZ,(.v (.bool false))],g0 4 true 4 18] [0,3,4] (.seq (boG [RF 19 0 4,RL 20 19,RF 21 1 4,RL 22 21,f6 23 y2 [20,(ki 0),22],f4 24 23,RM 25 24,g9 26 1 4 25 false,hD 27 26 25 false,hO 28 .gtr 27 (ki 63) 25 false,f3 29 25 boE 28,RM 30 29,g9 31 2 4 30 false,hD 32 31 30 false,GQ 33 (.call y2 [32,(ki 0),(ki 2)]) 30 false,hP 34 33 30 false,f3 35 30 boE 34] [0,3,4,35] (.cond 35 (boG [dO 2 boD] [2] .ret) .skip)) (boG [dO 5 (ki 0)] [0,3,4,5] (.block 2 (.loop (.seq (boG [RM 36 5,RM 37 3,dI 38 .lss 36 37] [0,3,4,5,38] (.cond 38 .skip (.exit 2))) (.seq (.block 3 (boG [RF 41 0 4,RL 42 41,RM 43 0,RM 44 5,e0 45 4 43 44,RF 46 1 45,RL 47 46,dI 48 .leq 42 47,RM 49 48,hG 50 0 49 true,hG 51 5 49 true,j0 52 4 50 51 49 true,g9 53 0 52 49 true,hD 54 53 49 true,g9 55 1 4 49 true,hD 56 55 49 true,hO 57 .leq 54 56 49 true,f3 58 49 57 boD] [0,3,4,5,58] (.cond 58 (boG [dO 2 boD] [2] .ret) .skip))) (m2 [RM 39 5,dI 40 .add 39 (ki 1),RM 5 40] [0,3,4,5]))))))))) (m2 [RM 13 3,dI 14 .add 13 (ki 1),RM 3 14] [0,3])))))) (boG [dO 2 boE] [2] .ret))))
def aB3:List aW:=[.tm 2]
theorem aDZ:aO Tryz.prog Tryz.f181 (bnD aBO)=some (aBO,aB3):=by kernel_rfl
theorem aDM:aN Tryz.prog aBG Tryz.f181 aBO aB3:=
 aN.mk Tryz.func181 (by kernel_rfl) aDZ
def aBP:AC:= (boG [dO 6 boD] [0,1,2] (.seq (boG [dO 7 (ki 0)] [0,1,2,7] (.block 0 (.loop (.seq (boG [RM 8 7,RM 9 0,f1 10 9,dI 11 .lss 8 10] [0,1,2,7,11] (.cond 11 .skip (.exit 0))) (.seq (.block 1 (boG [RM 14 0,RM 15 7,e0 16 1 14 15,RL 17 16,RM 18 1,RM 19 2,f6 20 y2 [17,18,19],f4 21 20] [0,1,2,7,21] (.cond 21 (boG [dO 6 boD] [6] .ret) .skip))) (m2 [RM 12 7,dI 13 .add 12 (ki 1),RM 7 13] [0,1,2,7])))))) (boG [dO 6 boE] [6] .ret)))
def aB1:List aW:=[.tm 6]
theorem aDO:aO Tryz.prog Tryz.f182 (bnD aBP)=some (aBP,aB1):=by kernel_rfl
theorem aDN:aN Tryz.prog aA3 Tryz.f182 aBP aB1:=
 aN.mk Tryz.func182 (by kernel_rfl) aDO
def aJC:AC:= (boG [dO 2 boD] [0] (.seq (boG [dO 3 (ki 0)] [0,3] (.block 0 (.loop (.seq (boG [RM 4 3,RM 5 0,f1 6 5,dI 7 .lss 4 6] [0,3,7] (.cond 7 .skip (.exit 0))) (.seq (.block 1 (boG [RM 10 0,RM 11 3,e0 12 7 10 11,f8 13 7 12,f6 14 aBF [13],f4 15 14] [0,3,15] (.cond 15 (boG [dO 2 boD] [2] .ret) .skip))) (m2 [RM 8 3,dI 9 .add 8 (ki 1),RM 3 9] [0,3])))))) (boG [dO 2 boE] [2] .ret)))
def aJ0:List aW:=[.tm 2]
theorem aK5:aO Tryz.prog Tryz.f183 (bnD aJC)=some (aJC,aJ0):=by kernel_rfl
theorem aLI:aN Tryz.prog aI2 Tryz.f183 aJC aJ0:=
 aN.mk Tryz.func183 (by kernel_rfl) aK5
def aJK:AC:= (boG [f5 1 0,dO 2 boD] [1] (.seq (boG [RF 4 0 1,RL 5 4,f1 6 5,dI 7 .neq 6 (ki 64)] [1,7] (.cond 7 (boG [dO 2 boD] [2] .ret) .skip)) (.seq (boG [dO 3 (ki 0)] [1,3] (.block 0 (.loop (.seq (boG [RM 8 3,RF 9 0 1,RL 10 9,f1 11 10,dI 12 .lss 8 11] [1,3,12] (.cond 12 .skip (.exit 0))) (.seq (.block 1 (boG [RF 15 0 1,RL 16 15,RM 17 3,e0 18 1 16 17,RL 19 18,f6 20 y2 [19,(ki 0),(ki 65535)],f4 21 20] [1,3,21] (.cond 21 (boG [dO 2 boD] [2] .ret) .skip))) (m2 [RM 13 3,dI 14 .add 13 (ki 1),RM 3 14] [1,3])))))) (boG [dO 2 boE] [2] .ret))))
def aJ8:List aW:=[.tm 2]
theorem aLU:aO Tryz.prog Tryz.f184 (bnD aJK)=some (aJK,aJ8):=by kernel_rfl
theorem aMO:aN Tryz.prog aI7 Tryz.f184 aJK aJ8:=
 aN.mk Tryz.func184 (by kernel_rfl) aLU
def aJL:AC:= (boG [f5 1 0,dO 2 boD] [1] (boG [RF 3 0 1,RL 4 3,f6 5 y2 [4,(ki 0),(ki 1)],RM 6 5,g9 7 1 1 6 true,hD 8 7 6 true,GQ 9 (.call y2 [8,(ki 1),(ki 4)]) 6 true,f3 10 6 9 boD,RM 11 10,g9 12 2 1 11 true,hD 13 12 11 true,GQ 14 (.len false 13) 11 true,hO 15 .leq 14 (ki 4) 11 true,f3 16 11 15 boD,RM 17 16,g9 18 2 1 17 true,hD 19 18 17 true,GQ 20 (.call aA3 [19,(ki 0),(ki 65535)]) 17 true,f3 21 17 20 boD,RM 2 21] [2] .ret))
def aJ6:List aW:=[.tm 2]
theorem aLS:aO Tryz.prog Tryz.f187 (bnD aJL)=some (aJL,aJ6):=by kernel_rfl
theorem aMN:aN Tryz.prog aIP Tryz.f187 aJL aJ6:=
 aN.mk Tryz.func187 (by kernel_rfl) aLS
def aBM:AC:= (boG [f5 1 0,dO 2 boD] [1] (.seq (boG [RF 3 0 1,RL 4 3,f6 5 y2 [4,(ki 0),(ki 1)],f4 6 5,RM 7 6,g9 8 1 1 7 false,hD 9 8 7 false,GQ 10 (.call y2 [9,(ki 1),(ki 4)]) 7 false,hP 11 10 7 false,f3 12 7 boE 11,RM 13 12,g9 14 2 1 13 false,hD 15 14 13 false,g9 16 3 1 13 false,hD 17 16 13 false,g9 18 4 1 13 false,hD 19 18 13 false,GQ 20 (.call aA6 [15,17,19]) 13 false,hP 21 20 13 false,f3 22 13 boE 21] [1,22] (.cond 22 (boG [dO 2 boD] [2] .ret) .skip)) (.seq (boG [RF 23 1 1,RL 24 23,dI 25 .geq 24 (ki 3),RM 26 25,g9 27 3 1 26 true,hD 28 27 26 true,hO 29 .neq 28 (ki 1) 26 true,f3 30 26 29 boD] [1,30] (.cond 30 (boG [dO 2 boD] [2] .ret) .skip)) (.seq (boG [f8 31 7 1,f6 32 aAZ [31],f4 33 32] [1,33] (.cond 33 (boG [RF 34 5 1,RL 35 34,f1 36 35,dI 37 .eql 36 (ki 0),RM 38 37,g9 39 6 1 38 true,hD 40 39 38 true,GQ 41 (.len false 40) 38 true,hO 42 .eql 41 (ki 0) 38 true,f3 43 38 42 boD,RM 2 43] [2] .ret) .skip)) (boG [RF 44 5 1,RL 45 44,f1 46 45,RF 47 3 1,RL 48 47,dI 49 .eql 46 48,RM 50 49,g9 51 6 1 50 true,hD 52 51 50 true,GQ 53 (.len false 52) 50 true,g9 54 3 1 50 true,hD 55 54 50 true,hO 56 .eql 53 55 50 true,f3 57 50 56 boD,RM 58 57,g9 59 5 1 58 true,hD 60 59 58 true,GQ 61 (.call aA3 [60,(ki 0),(ki 65535)]) 58 true,f3 62 58 61 boD,RM 63 62,g9 64 6 1 63 true,hD 65 64 63 true,GQ 66 (.call aA3 [65,(ki 0),(ki 3)]) 63 true,f3 67 63 66 boD,RM 2 67] [2] .ret)))))
def aB4:List aW:=[.tm 2]
theorem aDY:aO Tryz.prog Tryz.f262 (bnD aBM)=some (aBM,aB4):=by kernel_rfl
theorem aDW:aN Tryz.prog aBF Tryz.f262 aBM aB4:=
 aN.mk Tryz.func262 (by kernel_rfl) aDY
section
variable {H : aA} {nx : Nat} {K : D → aA → Nat → Prop}
theorem aD5 {l:List Rng} (hl:l.length<2^40) (h:K (dB (decide (DH l))) H nx):aB Tryz.prog aBG [dS (l.map eN)] H nx K:=by
 refine aB.pure (args0:=[dS (l.map eN)]) (R:=fun rr=>rr=dB (decide (DH l))) ?_ rfl (aI ⟨aE rfl,trivial⟩) (fun r hr=>hr▸h)
 clear h
 refine aDM rfl fun Q hQ=> ?_
 unfold aBO
 by_cases hl4:(l.length:Int)≤4
 ·repeat' first|apply bn1<;>(simp only[go_sem])|apply bn3 (by omega)|fail
  refine aM.gP (β:=Nat) (fun k=>en [(3,boP k),(0,dS (l.map eN))]) (fun k _ _=>k≤l.length∧ ∀i,i<k→V9 l i) (fun k=>l.length-k) 0 ⟨noF,_,by repeat' first|exact bo2|refine xqI rfl rfl ?_|fail,aK,by omega,fun i hi=>by omega⟩ ?_
  rintro k H1 nx1 hnx1 ⟨hk,hinv⟩ bpQ hKL
  by_cases hlt:k<l.length
  ·obtain⟨r,hr⟩: ∃r,r=l.getD k default:=⟨_,rfl⟩
   have hr':l.getD k default=r:=hr.symm
   have hbad: ¬SF r→¬DH l:=fun h hm=>h (by rw[hr];exact(hm.2 k hlt).1)
   repeat' first| (first|apply bn1|refine bpL (fun h=> ?_) fun h=> ?_|apply aBC)<;>(simp only[go_sem,hr',boC])|apply bn2 (by omega)|refine bnE (fun h=> ?_) fun h=> ?_|refine⟨by omega,?_⟩|fail
   ·exact aZ hQ (dB false) rfl rfl (j7 (hbad fun hm=>by unfold SF at hm;omega))
   ·exact aZ hQ (dB false) rfl rfl (j7 (hbad fun hm=>by unfold SF at hm;omega))
   ·exact aZ hQ (dB false) rfl rfl (j7 (hbad fun hm=>by unfold SF at hm;omega))
   have hro:SF r:=by unfold SF;omega
   refine aM.gP (β:=Nat) (fun j=>en [(5,boP j),(4,.one (.c (.ptr 4 (nx1+8) 0 0))),(3,boP k),(0,dS (l.map eN))]) (fun j H2 _=>(j≤k∧ ∀i,i<j→aaM (l.getD i default) r=false)∧H2 (nx1+8)=some ⟨4,1,[eN r]⟩) (fun j=>k-j) 0 ⟨noF,_,by repeat' first|exact bo2|refine xqI rfl rfl ?_|refine xqP (by omega) rfl rfl ?_|fail,aK,⟨by omega,fun i hi=>by omega⟩,by simp only[aA.set,if_true]⟩ ?_
   rintro j H2 nx2 hnx2 ⟨⟨hj,hinvj⟩,bp4⟩ bqG hKM
   by_cases hjl:j<k
   ·obtain⟨r2,hr2⟩: ∃r2,r2=l.getD j default:=⟨_,rfl⟩
    have hr2':l.getD j default=r2:=hr2.symm
    repeat' first| (first|apply bn1|refine bpL (fun h=> ?_) fun h=> ?_)<;>(simp only[go_sem,hr2',bp4];try simp (disch:=omega) only[Iw])|apply bn2 (by omega)|refine bnE (fun h=> ?_) fun h=> ?_|refine⟨by omega,?_⟩|fail
    ·refine aZ hQ (dB false) rfl rfl (j7 fun hm=> ?_)
     have h2:=(hm.2 k hlt).2
     refine h2 (cH.2 ⟨l.getD j default,bqY.2 ⟨j,by simp;omega,by simp[List.getD,show j<l.length by omega]⟩,decide_eq_true ?_⟩)
     rw[hr2',hr']
     omega
    all_goals exact hKM _ _ _ (j+1) noF _ (by omega) (by omega) (by repeat' first|exact bo2|refine xqI rfl rfl ?_|refine xqP (by omega) rfl rfl ?_|fail) aK ⟨⟨by omega,iS hinvj (by rw[hr2'];exact decide_eq_false (by omega))⟩,bp4⟩
   ·repeat' first|apply bn1<;>(simp only[go_sem];try simp (disch:=omega) only[Iw])|apply bn3 (by omega)|fail
    refine hKL _ _ _ (k+1) noF _ (by omega) (by omega) (by repeat' first|exact bo2|refine xqI rfl rfl ?_|fail) aK ⟨by omega,iS hinv ⟨by rw[hr'];exact hro,fun hc=> ?_⟩⟩
    obtain⟨x,hx,hx2⟩:=cH.1 hc
    obtain⟨i,hi,rfl⟩:=bqY.1 hx
    have hi':i<k:=by simp at hi;omega
    have:=hinvj i (by omega)
    simp only[List.getD,show i<l.length by omega,n1,Option.getD_some] at this
    rw[hr'] at hx2
    simp only[brU] at hx2
    rw[this] at hx2
    cases hx2
  ·repeat' first|apply bn1<;>(simp only[go_sem])|apply bn3 (by omega)|fail
   have hk2:k=l.length:=by omega
   subst hk2
   exact aZ hQ (dB true) rfl rfl (q9 ⟨hl4,hinv⟩)
 ·repeat' first|apply bn1<;>(simp only[go_sem])|apply bn2 (by omega)|fail
  exact aZ hQ (dB false) rfl rfl (j7 fun h=>hl4 h.1)
theorem aCC {l:List Int} {lo:Int} {up:Int} (hl:l.length<2^40) (h:K (dB (decide (All l lo up))) H nx):aB Tryz.prog aA3 [dS (l.map aJ),boP lo,boP up] H nx K:=by
 refine aB.pure (args0:=[dS (l.map aJ),boP lo,boP up]) (R:=fun rr=>rr=dB (decide (All l lo up))) ?_ rfl (aI ⟨aE rfl,aE rfl,aE rfl,trivial⟩) (fun r hr=>hr▸h)
 clear h
 refine aDN rfl fun Q hQ=> ?_
 unfold aBP
 repeat' first|apply bn1<;>(simp only[go_sem])|fail
 (refine aM.loop (α:={k:Nat//k≤l.length∧(∀i,i<k→lo≤l.getD i default∧l.getD i default≤up)}) (fun u=>en [(7,boP u.1),(2,boP up),(1,boP lo),(0,dS (l.map aJ))]) (fun _=>.nil) _ (fun u=>l.length-u.1) ⟨0,by omega,(by intros;first|trivial|omega)⟩ (bU (m5 _) (by repeat' first|exact bo2|refine xqI rfl rfl ?_|fail)) ?_);(rintro⟨k,hk,hinv⟩ bpQ hKL)
 by_cases hlt:k<l.length
 ·repeat' first| (first|apply bn1|apply aBC)<;>(simp only[go_sem];try simp (disch:=omega) only[Iw])|apply bn2 (by omega)|refine bnE (fun h=> ?_) fun h=> ?_|refine⟨by omega,?_⟩|fail
  ·exact aZ hQ (dB false) rfl rfl (j7 fun ha=>by have:=aj1 ha hlt;omega)
  · (refine hKL _ _ _ ⟨k+1,by omega,iS hinv (by omega)⟩ (by omega) (by(try dsimp only);omega) (bU (m5 _) (by repeat' first|exact bo2|refine xqI rfl rfl ?_|fail)))
 ·repeat' first|apply bn1<;>(simp only[go_sem])|apply bn3 (by omega)|fail
  exact aZ hQ (dB true) rfl rfl (q9 (aEA fun i hi=>hinv i (by omega)))
theorem aD8 {q:Req} (hd:q.data.length<2^40) (hl:q.g6.length<2^40) (h:K (dB (decide (dH q))) H nx):aB Tryz.prog aBF [boR (eB q)] H nx K:=by
 refine aB.pure (args0:=[boR (eB q)]) (R:=fun rr=>rr=dB (decide (dH q))) ?_ rfl (aI ⟨aE rfl,trivial⟩) (fun r hr=>hr▸h)
 clear h
 refine aDW rfl fun Q hQ=> ?_
 unfold aBM
 repeat' first| (first|apply bn1|refine bpL (fun h=> ?_) fun h=> ?_|apply aBC|apply aC2|apply aCI|apply aCC (l:=q.data) hd|apply aCC (l:=q.g6) hl)<;>(simp only[go_sem])|refine bnE (fun h=> ?_) fun h=> ?_| ((refine bnF (fun h=> ?_) (fun h=> ?_))<;>try subst h)|fail
 all_goals first|with_reducible refine aZ hQ _ rfl rfl ?_|skip
 all_goals
  have e2:wrM q=true↔(q.kind=2∨q.kind=4):=by simp[wrM]
  have e3:All ([]:List Int) 0 65535:=by simp[All]
  have e4:All ([]:List Int) 0 3:=by simp[All]
  have e5:q.data.length=0→q.data=[]:=H4.1
  have e6:q.g6.length=0→q.g6=[]:=H4.1
  clear hQ
  first|exact j7 (by unfold dH n5;grind)|exact q9 (by unfold dH n5;grind)|exact pD (by unfold dH n5;grind)
theorem aMP {r:Rsp} (hr:r.data.length<2^40) (h:K (dB (decide (pA r))) H nx):aB Tryz.prog aIP [boR (tG r)] H nx K:=by
 refine aB.pure (args0:=[boR (tG r)]) (R:=fun rr=>rr=dB (decide (pA r))) ?_ rfl (aI ⟨aE rfl,trivial⟩) (fun r hr=>hr▸h)
 clear h
 refine aMN rfl fun Q hQ=> ?_
 unfold aJL
 repeat' first| (first|apply bn1|refine bpL (fun h=> ?_) fun h=> ?_|apply aBC|apply aCC (l:=r.data) hr)<;>(simp only[go_sem])|fail
 all_goals first|with_reducible refine aZ hQ _ rfl rfl ?_|skip
 all_goals first|exact j7 (by unfold pA;grind)|exact pD (by unfold pA;grind)|exact q9 (by unfold pA;grind)
theorem aL2 {p:Prog} (hp:p.length<2^40) (hq: ∀q∈p,q.data.length<2^40∧q.g6.length<2^40) (h:K (dB (decide (∀q∈p,dH q))) H nx):aB Tryz.prog aI2 [dS (p.map eB)] H nx K:=by
 refine aB.pure (args0:=[dS (p.map eB)]) (R:=fun rr=>rr=dB (decide (∀q∈p,dH q))) ?_ rfl (aI ⟨aE rfl,trivial⟩) (fun r hr=>hr▸h)
 clear h
 refine aLI rfl fun Q hQ=> ?_
 unfold aJC
 repeat' first|apply bn1<;>(simp only[go_sem])|fail
 (refine aM.loop (α:={k:Nat//k≤p.length∧(∀i,i<k→dH (p.getD i default))}) (fun u=>en [(3,boP u.1),(0,dS (p.map eB))]) (fun _=>.nil) _ (fun u=>p.length-u.1) ⟨0,by omega,(by intros;first|trivial|omega)⟩ (bU (m5 _) (by repeat' first|exact bo2|refine xqI rfl rfl ?_|fail)) ?_);(rintro⟨k,hk,hinv⟩ bpQ hKL)
 by_cases hlt:k<p.length
 ·have hm:=hq _ (cC hlt)
  repeat' first| (first|apply bn1|apply aD8 hm.1 hm.2)<;>(simp only[go_sem];try simp (disch:=omega) only[Iw])|apply bn2 (by omega)|refine bnE (fun h=> ?_) fun h=> ?_|refine⟨by omega,?_⟩|fail
  ·exact aZ hQ (dB false) rfl rfl (j7 fun ha=>by have:=ha _ (cC hlt);simp_all)
  · (refine hKL _ _ _ ⟨k+1,by omega,iS hinv (by simp_all)⟩ (by omega) (by(try dsimp only);omega) (bU (m5 _) (by repeat' first|exact bo2|refine xqI rfl rfl ?_|fail)))
 ·repeat' first|apply bn1<;>(simp only[go_sem])|apply bn3 (by omega)|fail
  exact aZ hQ (dB true) rfl rfl (q9 (aKJ fun i hi=>hinv i (by omega)))
theorem aKG {c:Cfg} (hc:jO c) (h:K (dB (decide (aQ c))) H nx):aB Tryz.prog aIV [boR (cU c)] H nx K:=by
 refine aB.pure (args0:=[boR (cU c)]) (R:=fun rr=>rr=dB (decide (aQ c))) ?_ rfl (aI ⟨aE rfl,trivial⟩) (fun r hr=>hr▸h)
 clear h
 refine aLX rfl fun Q hQ=> ?_
 unfold aJQ
 have hbp:aQ c↔DH c.map∧(c.lat.length:Int)=4∧All c.lat 0 3∧(c.cP.length:Int)=3∧ ∀p∈c.cP,(p.length:Int)≤12∧ ∀q∈p,dH q:=by
  unfold aQ mV
  simp only[cH,not_exists,not_and,decide_eq_true_eq,Classical.not_imp,Classical.not_not]
 by_cases h0:DH c.map∧(c.lat.length:Int)=4∧All c.lat 0 3∧(c.cP.length:Int)=3
 ·obtain⟨h1,h2,h3,h4⟩:=h0
  repeat' first| (first|apply bn1|apply bpK (by omega)|apply aD5 hc.map|apply aCC (l:=c.lat) hc.lat)<;>(simp only[go_sem,eq_true h1,eq_true h3])|apply bn3 (by omega)|fail
  (refine aM.loop (α:={k:Nat//k≤3∧(∀i,i<k→((c.cP.getD i default).length:Int)≤12∧ ∀q∈c.cP.getD i default,dH q)}) (fun u=>en [(3,boP u.1),(1,.one (.c (.fQ (cU c))))]) (fun _=>.nil) _ (fun u=>3-u.1) ⟨0,by omega,(by intros;first|trivial|omega)⟩ (bU (m5 _) (by repeat' first|exact bo2|refine xqI rfl rfl ?_| (with_reducible apply bo3)| ((with_reducible apply bo1);exact bpH rfl (by simp) rfl rfl rfl)|fail)) ?_);(rintro⟨k,hk,hinv⟩ bpQ hKL)
  by_cases hlt:k<3
  ·have hm:c.cP.getD k default∈c.cP:=cC (by omega)
   have hm1:=hc.prog _ hm
   have hm2:=hc.req _ hm
   repeat' first| (first|apply bn1|refine bpL (fun h=> ?_) fun h=> ?_|apply aL2 hm1 hm2)<;>(simp only[go_sem];try simp (disch:=omega) only[Iw])|apply bn2 (by omega)|refine bnE (fun h=> ?_) fun h=> ?_|refine⟨by omega,?_⟩|fail
   ·exact aZ hQ (dB false) rfl rfl (j7 fun hB=>by have:=((hbp.1 hB).2.2.2.2 _ hm).1;omega)
   ·exact aZ hQ (dB false) rfl rfl (j7 fun hB=>by have:=((hbp.1 hB).2.2.2.2 _ hm).2;simp_all)
   · (refine hKL _ _ _ ⟨k+1,by omega,iS hinv ⟨by omega,by simp_all⟩⟩ (by omega) (by(try dsimp only);omega) (bU (m5 _) (by repeat' first|exact bo2|refine xqI rfl rfl ?_|fail)))
  ·repeat' first|apply bn1<;>(simp only[go_sem])|apply bn3 (by omega)|fail
   exact aZ hQ (dB true) rfl rfl (q9 (hbp.2 ⟨h1,h2,h3,h4,aKJ fun i hi=>hinv i (by omega)⟩))
 ·have hno: ¬aQ c:=fun hB=>h0 ⟨(hbp.1 hB).1,(hbp.1 hB).2.1,(hbp.1 hB).2.2.1,(hbp.1 hB).2.2.2.1⟩
  repeat' first| (first|apply bn1|refine bpL (fun h=> ?_) fun h=> ?_|apply aD5 hc.map|apply aCC (l:=c.lat) hc.lat)<;>(simp only[go_sem])|refine bnE (fun h=> ?_) fun h=> ?_|fail
  all_goals first|exact aZ hQ (dB false) rfl rfl (j7 hno)|exact absurd ⟨by simp_all,by omega,by simp_all,by omega⟩ h0
theorem aMS {l:List Int} (hl:l.length<2^40) (h:K (dB (decide ((l.length:Int)=64∧All l 0 65535))) H nx):aB Tryz.prog aI7 [boR [.isl (l.map aJ)]] H nx K:=by
 refine aB.pure (args0:=[boR [.isl (l.map aJ)]]) (R:=fun rr=>rr=dB (decide ((l.length:Int)=64∧All l 0 65535))) ?_ rfl (aI ⟨aE rfl,trivial⟩) (fun r hr=>hr▸h)
 clear h
 refine aMO rfl fun Q hQ=> ?_
 unfold aJK
 repeat' first|apply bn1<;>(simp only[go_sem])|refine bnE (fun h=> ?_) fun h=> ?_|fail
 ·exact aZ hQ (dB false) rfl rfl (j7 fun ha=>by omega)
 (refine aM.loop (α:={k:Nat//k≤l.length∧(∀i,i<k→0≤l.getD i default∧l.getD i default≤65535)}) (fun u=>en [(3,boP u.1),(1,.one (.c (.fQ [.isl (l.map aJ)])))]) (fun _=>.nil) _ (fun u=>l.length-u.1) ⟨0,by omega,(by intros;first|trivial|omega)⟩ (bU (m5 _) (by repeat' first|exact bo2|refine xqI rfl rfl ?_| (with_reducible apply bo3)| ((with_reducible apply bo1);exact bpH rfl (by simp) rfl rfl rfl)|fail)) ?_);(rintro⟨k,hk,hinv⟩ bpQ hKL)
 by_cases hlt:k<l.length
 ·repeat' first| (first|apply bn1|apply aBC)<;>(simp only[go_sem];try simp (disch:=omega) only[Iw])|apply bn2 (by omega)|refine bnE (fun h=> ?_) fun h=> ?_|refine⟨by omega,?_⟩|fail
  ·exact aZ hQ (dB false) rfl rfl (j7 fun ha=>by have:=aj1 ha.2 hlt;omega)
  · (refine hKL _ _ _ ⟨k+1,by omega,iS hinv (by omega)⟩ (by omega) (by(try dsimp only);omega) (bU (m5 _) (by repeat' first|exact bo2|refine xqI rfl rfl ?_|fail)))
 ·repeat' first|apply bn1<;>(simp only[go_sem])|apply bn3 (by omega)|fail
  exact aZ hQ (dB true) rfl rfl (q9 ⟨by omega,aEA fun i hi=>hinv i (by omega)⟩)
theorem aKH {w:List Int} {u:List Int} (hw:w.length<2^40) (hu:u.length<2^40) (h:K (dB (decide (JS w u))) H nx):aB Tryz.prog aIU [boR [.isl (w.map aJ),.isl (u.map aJ)]] H nx K:=by
 refine aB.pure (args0:=[boR [.isl (w.map aJ),.isl (u.map aJ)]]) (R:=fun rr=>rr=dB (decide (JS w u))) ?_ rfl (aI ⟨aE rfl,trivial⟩) (fun r hr=>hr▸h)
 clear h
 refine aLR rfl fun Q hQ=> ?_
 unfold aJM
 repeat' first| (first|apply bn1|refine bpL (fun h=> ?_) fun h=> ?_|apply aMS hw|apply aCC (l:=u) hu)<;>(simp only[go_sem])|fail
 all_goals first|with_reducible refine aZ hQ _ rfl rfl ?_|skip
 all_goals first|exact j7 (by unfold JS;grind)|exact pD (by unfold JS;grind)
end
end Go.Proofs.YtmccpdapaccnoaaGreat
