/- Texts laid together by a program: rules, contracts and the walk that leads to the law. -/
import Derived.Test.YtmccpdapaccnoaaPG23
import Derived.Test.YtmccpdapaccnoaaPG11
import Derived.Test.YtmccpdapaccnoaaPG10
import Derived.Test.YtmccpdapaccnoaaPG21
set_option linter.unusedVariables false
set_option linter.unusedSimpArgs false
set_option linter.unusedSectionVars false
section
namespace Go.AM
structure bdV (s:CSt):Prop where
 pl:s.bM.length=3
 sl:s.dD.length≤4
 q: ∀k,k<3→(aF s k).queue.length≤3
 v: ∀k,k<s.dD.length→(aL s k).pipe.length≤3∧(aL s k).done.length≤3
 wl:(qU s).length<20
 dl:(uQ s).length<20
 st:aTQ (cX s)
end Go.AM
namespace Go.Proofs.Ytmccpdapaccnoaa
open Go Go.AM
set_option maxRecDepth 100000
set_option maxHeartbeats 8000000
section
variable {H : aA} {nx : Nat} {K : D → aA → Nat → Prop}
theorem a4R (s:TSt) (hs:aTQ s):aB Try.prog iG [dA (eSt s)] (hp []) 0
 fun r H' n'=>∃m0 m1 m2 m3 m4 m5,(s.words.length≤m0∧s.holds.length≤m1∧s.asked.length≤m2∧s.wait.length≤m3∧s.done.length≤m4∧s.told.length≤m5)∧n'=6∧H'=hp [(0,⟨1,m0,s.words.map aJ⟩),(1,⟨1,m1,s.holds.map aJ⟩),(2,⟨1,m2,s.asked.map aJ⟩),(3,⟨5,m3,s.wait.map aS⟩),(4,⟨5,m4,s.done.map aS⟩),(5,⟨5,m5,s.told.map aS⟩)]∧
  r=dA (oIm 0 1 2 3 4 5 s.words.length s.holds.length s.asked.length s.wait.length s.done.length s.told.length s):=by
 obtain⟨hwl,hhl,hal,hl1,hl2,hl3,hd⟩:=hs
 refine AY rfl fun Q hQ=> ?_
 unfold kD
 repeat' (first| (with_reducible first| (refine hK _ _ _ ?_;clear hK K)|refine Z1 ?_)| (first| (with_reducible refine Y2 fun K hK=> ?_)| (refine qN (w:=s.words) (u:=s.holds) (by omega) (by omega) (fun m0 m1 hm0 hm1=> ?_))| (refine kH (l:=s.asked) (by omega) (fun m2 hm2=> ?_))| (refine gY (l:=s.wait) (by omega) (fun j hj=>hd j (by simp[hj])) (fun m3 hm3=> ?_))| (refine gY (l:=s.done) (by omega) (fun j hj=>hd j (by simp[hj])) (fun m4 hm4=> ?_))| (refine gY (l:=s.told) (by omega) (fun j hj=>hd j (by simp[hj])) (fun m5 hm5=> ?_)))<;>(simp only[go_sem])| ((with_reducible refine Y8 ?_);try simp only[AQ.then,AQ.blk,reduceIte,Nat.reduceEqDiff])|fail)
 (refine hQ _ _ _ _ _ 6 (dA (oIm 0 1 2 3 4 5 s.words.length s.holds.length s.asked.length s.wait.length s.done.length s.told.length s)) (hp [(0,⟨1,m0,s.words.map aJ⟩),(1,⟨1,m1,s.holds.map aJ⟩),(2,⟨1,m2,s.asked.map aJ⟩),(3,⟨5,m3,s.wait.map aS⟩),(4,⟨5,m4,s.done.map aS⟩),(5,⟨5,m5,s.told.map aS⟩)]) _ _ (.inr rfl) rfl (fU [19,20,21,22,23,24] (by omega) (by repeat' (first| ((with_reducible refine C0 ?_);exact CQ (by omega) rfl rfl (by rfl) rfl)| ((with_reducible refine D0 ?_);refine C9 ?_)|exact C3|refine C4 ?_ ?_|fail)) ⟨⟨by simp,by simp[sgL],_,rfl,bP (aG bF _) rfl rfl⟩,⟨by simp,by simp[sgL],_,rfl,bP (aG bF _) rfl rfl⟩,⟨by simp,by simp[sgL],_,rfl,bP (aG bF _) rfl rfl⟩,⟨by simp,by simp[sgL],_,rfl,bP (aG dZ _) rfl rfl⟩,⟨by simp,by simp[sgL],_,rfl,bP (aG dZ _) rfl rfl⟩,⟨by simp,by simp[sgL],_,rfl,bP (aG dZ _) rfl rfl⟩,trivial⟩ (by simp[sgL])) ?_)
 exact⟨m0,m1,m2,m3,m4,m5,⟨hm0,hm1,hm2,hm3,hm4,hm5⟩,rfl,rfl,rfl⟩
theorem a43 {s:TSt} (hs:aTQ s) (h: ∀m0 m1 m2 m3 m4 m5,(s.words.length≤m0∧s.holds.length≤m1∧s.asked.length≤m2∧s.wait.length≤m3∧s.done.length≤m4∧s.told.length≤m5)→K (dA (oIm nx (nx+1) (nx+2) (nx+3) (nx+4) (nx+5) s.words.length s.holds.length s.asked.length s.wait.length s.done.length s.told.length s)) ((((((H.set nx ⟨1,m0,s.words.map aJ⟩).set (nx+1) ⟨1,m1,s.holds.map aJ⟩).set (nx+2) ⟨1,m2,s.asked.map aJ⟩).set (nx+3) ⟨5,m3,s.wait.map aS⟩).set (nx+4) ⟨5,m4,s.done.map aS⟩).set (nx+5) ⟨5,m5,s.told.map aS⟩) (nx+6)):
 aB Try.prog iG [dA (eSt s)] H nx K:=by
 refine(a4R s hs).AF (l0:=[]) [] rfl ⟨aE rfl,trivial⟩ trivial (by simp) (by simp) (by simp) fun r H' n' _ ⟨m0,m1,m2,m3,m4,m5,q0,q1,q2,q3⟩=> ?_
 have h:=h m0 m1 m2 m3 m4 m5 q0
 subst q1;subst q2;subst q3
 have e1:back (tau 0 nx (nth [])) (hp [(0,⟨1,m0,s.words.map aJ⟩),(1,⟨1,m1,s.holds.map aJ⟩),(2,⟨1,m2,s.asked.map aJ⟩),(3,⟨5,m3,s.wait.map aS⟩),(4,⟨5,m4,s.done.map aS⟩),(5,⟨5,m5,s.told.map aS⟩)]) 6 H=((((((H.set nx ⟨1,m0,s.words.map aJ⟩).set (nx+1) ⟨1,m1,s.holds.map aJ⟩).set (nx+2) ⟨1,m2,s.asked.map aJ⟩).set (nx+3) ⟨5,m3,s.wait.map aS⟩).set (nx+4) ⟨5,m4,s.done.map aS⟩).set (nx+5) ⟨5,m5,s.told.map aS⟩):=by
  simp[back,hp,aA.set,aA.nil,tau,nth,uB,BB,aA.eL,aA.yI]
 rw[←e1] at h
 exact h
theorem bdE {s:CSt} (hs:bdV s) (h: ∀H' nx',nx≤nx'→(∀id,id<nx→H' id=H id)→K (dA (eSt (cX s))) H' nx'):aB Try.prog zX [dA (eI s)] H nx K:=by
 have hpl:=hs.pl
 have hsl:=hs.sl
 obtain⟨N,hN⟩: ∃N,N=s.dD.length:=⟨_,rfl⟩
 rw[←hN] at hsl
 refine aB.tW ?_
 refine RA rfl fun Q hQ=> ?_
 unfold yF
 repeat' (first| (with_reducible first| (refine hK _ _ _ ?_;clear hK K)|refine Z1 ?_|refine Z3 fun KB hKB=> ?_)| (with_reducible refine Y2 fun K hK=> ?_)<;>(simp only[go_sem,Nat.add_assoc,Nat.left_eq_add,Nat.add_eq_left,hpl])|fail)
 (have hKX:=hKB;clear hKB)
 refine aM.EJ 1 ?_
 refine aM.EJ 5 ?_
 refine aM.EJ 5 ?_
 refine aM.tW _ _ noF (fun t=>.inl rfl) (KO (i:=nx+7) (o:=⟨6,1,[[.isl (s.words.map aJ),.isl (s.holds.map aJ),.osl 0 0 0 0 0,.osl 0 0 0 0 0,.osl 0 0 0 0 0,.isl (s.told.map aS)]]⟩) (o':=⟨6,1,[[.isl (s.words.map aJ),.isl (s.holds.map aJ),.osl 1 (nx+13) 0 0 0,.osl 5 (nx+14) 0 0 0,.osl 5 (nx+15) 0 0 0,.isl (s.told.map aS)]]⟩) (by simp only[aA.set,Nat.add_assoc,Nat.add_left_cancel_iff,Nat.reduceEqDiff,Nat.reduceAdd,if_false,if_true]) (aP (aH (bB rfl) (aH (bB rfl) (aH (.VS ..) (aH (.VS ..) (aH (.VS ..) (aH (bB rfl) eP)))))))) ?_
 refine aM.TF fun G0 hG0=> ?_
 have c0:G0 nx=some ⟨5,1,[eI s]⟩:=by rw[hG0];simp only[aA.set,Nat.add_assoc,Nat.add_left_cancel_iff,Nat.reduceEqDiff,Nat.reduceAdd,Nat.left_eq_add,if_false,if_true]
 have c1:G0 (nx+1)=some ⟨6,1,[[.osl 0 0 0 0 0,.osl 0 0 0 0 0,.osl 0 0 0 0 0,.osl 0 0 0 0 0,.osl 0 0 0 0 0,.osl 0 0 0 0 0]]⟩:=by rw[hG0];simp only[aA.set,Nat.add_assoc,Nat.add_left_cancel_iff,Nat.reduceEqDiff,Nat.reduceAdd,Nat.left_eq_add,if_false,if_true]
 have bf3:IQ G0 (nx+13) (nx+16) (nx+7) s [] [] []:=by
  refine⟨nx+13,nx+14,nx+15,0,0,0,0,0,0,?_,⟨?_,by simp,by simp⟩,⟨?_,by simp,by simp⟩,⟨?_,by simp,by simp⟩,by omega,by omega,by omega,by omega⟩<;>rw[hG0]<;>simp only[aA.set,Nat.add_assoc,Nat.add_left_cancel_iff,Nat.reduceEqDiff,Nat.reduceAdd,Nat.left_eq_add,if_false,if_true]<;>rfl
 have cfr: ∀id,id<nx→G0 id=H id:=fun id hid=>by
  rw[hG0];simp only[aA.set,Nat.add_assoc,show ¬id=nx by omega,show ¬id=nx+1 by omega,show ¬id=nx+7 by omega,show ¬id=nx+13 by omega,show ¬id=nx+(13+1) by omega,show ¬id=nx+(13+(1+1)) by omega,Nat.reduceAdd,show ¬id=nx+14 by omega,show ¬id=nx+15 by omega,if_false]
 clear hG0
 refine aM.gP (β:=Nat) (fun k=>en [(20,dI k),(19,dI 3),(18,dS (s.bM.map cD)),(3,.one (.c (.ptr 6 (nx+7) 0 0))),(2,.one (.c (.ptr 6 (nx+1) 0 0))),(1,.one (.c (.ptr 5 nx 0 0)))])
  (fun k H1 nx1=>k≤3∧IQ H1 (nx+13) nx1 (nx+7) s ((s.bM.take k).map (·.next)) ((List.range k).flatMap (jJ s)) []∧ ∀id,id<nx+13→id≠nx+7→H1 id=G0 id)
  (fun k=>3-k) 0 ⟨noF,_,by repeat' (first| (with_reducible first|exact C1|refine C2 ?_ ?_)| ((with_reducible refine C0 ?_);exact CE (by omega) rfl)| ((with_reducible refine D0 ?_);first|exact CA rfl|refine CJ ?_)|fail),aK,by omega,bf3,fun _ _ _=>rfl⟩ ?_
 rintro k H1 nx1 hnx ⟨hk,hAt,hfr⟩ KL hKL
 have g0:H1 nx=some ⟨5,1,[eI s]⟩:=by rw[hfr _ (by omega) (by omega)];exact c0
 obtain⟨A,hAd⟩: ∃A,A=(s.bM.take k).map (·.next):=⟨_,rfl⟩
 obtain⟨W,hWd⟩: ∃W,W=(List.range k).flatMap (jJ s):=⟨_,rfl⟩
 have hAl:A.length=k:=by rw[hAd];simp;omega
 have hqs: ∀k,k<3→(jJ s k).length≤3:=fun k hk=>by have:=hs.q k hk;simpa [jJ] using this
 have hWl:W.length≤3*k:=by rw[hWd];exact QU k fun j hj=>hqs j (by omega)
 rw[←hAd,←hWd] at hAt
 obtain⟨ia,iw,id_,ca,cw,cd,ma,mw,md,az5,⟨az9,az2,aAD⟩,⟨aAE,aAA,aAF⟩,⟨aAC,aAB,aAG⟩,aa,ab,ac,ad⟩:=hAt
 have hA:bQ nx1 [nx,nx+1,nx+7,ia,iw,id_]:=AM.apart (by simp;omega) (by simp;omega)
 simp only[bQ,eZ] at hA
 by_cases hlt:k<3
 ·obtain⟨p,hpd⟩: ∃p,p=aF s k:=⟨_,rfl⟩
  have hpd':s.bM.getD k default=p:=hpd.symm
  have hql:=hs.q k hlt
  rw[←hpd] at hql
  repeat' (first| (with_reducible first| (refine hK _ _ _ ?_;clear hK K)| (refine hA ?_;clear hA hB A B)|refine Z1 ?_|refine Z2 ?_|refine Z3 fun KB hKB=> ?_|refine Z4 (by omega) ?_|refine fun(cap:Nat) (hcap:_≤cap)=> ?_|refine fun(hcp:_≤cap)=> ?_)| (with_reducible first|refine Y2 fun K hK=> ?_|refine Y3 fun A B hA hB=> ?_)<;>(simp only[go_sem,Nat.add_assoc,Nat.left_eq_add,Nat.add_eq_left,hpd',az5,az9,aAE,aAC,hA,List.set])|refine⟨by omega,?_⟩|fail)
  (have hKY:=hKB;clear hKB)
  obtain⟨A',hA'd⟩: ∃A',A'=A++[p.next]:=⟨_,rfl⟩
  have hA'l:A'.length=A.length+1:=by rw[hA'd];simp
  refine aM.gP (β:=Nat) (fun i=>en [(35,dI i),(34,dI p.queue.length),(33,dS (p.queue.map aJ)),(20,dI k),(19,dI 3),(18,dS (s.bM.map cD)),(4,dI k),(3,.one (.c (.ptr 6 (nx+7) 0 0))),(2,.one (.c (.ptr 6 (nx+1) 0 0))),(1,.one (.c (.ptr 5 nx 0 0)))])
   (fun i H2 nx2=>i≤p.queue.length∧IQ H2 (nx+13) nx2 (nx+7) s A' (W++(jJ s k).take i) []∧ ∀id,id<nx+13→id≠nx+7→H2 id=G0 id)
   (fun i=>p.queue.length-i) 0 ⟨noF,_,by repeat' (first| (with_reducible first|exact C1|refine C2 ?_ ?_)| ((with_reducible refine C0 ?_);exact CE (by omega) rfl)| ((with_reducible refine D0 ?_);first|exact CA rfl|refine CJ ?_)|fail),aK,by omega,?_,fun id e0 e1=> ?_⟩ ?_
  ·rw[List.take_zero,List.append_nil]
   refine⟨nx1+12,iw,id_,cap,cw,cd,cap,mw,md,?_,⟨?_,by omega,Nat.le_refl _⟩,⟨?_,aAA,aAF⟩,⟨?_,aAB,aAG⟩,by omega,by omega,by omega,by omega⟩
   ·rw[hA'l,aA.bH];rfl
   ·rw[hA'd];simp only[aA.set,aA.del,hA,if_false,if_true]
   ·simp only[aA.set,aA.del,hA,if_false];exact aAE
   ·simp only[aA.set,aA.del,hA,if_false];exact aAC
  ·rw[aA.aC e1,aA.aC (by omega),aA.aC (by omega),aA.aC (by omega),aA.jG (by omega)]
   exact hfr id e0 e1
  clear az5 az9 aAE aAC aa ab ac ad hA
  rintro i H2 nx2 hnx2 ⟨hi,hAt,hfr2⟩ KM hKM
  obtain⟨W',hW'd⟩: ∃W',W'=W++(jJ s k).take i:=⟨_,rfl⟩
  have hW'l:W'.length≤3*k+3:=by have:=hqs k hlt;rw[hW'd,List.length_append,List.length_take];omega
  rw[←hW'd] at hAt
  obtain⟨ia,iw,id_,ca,cw,cd,ma,mw,md,az5,⟨az9,az2,aAD⟩,⟨aAE,aAA,aAF⟩,⟨aAC,aAB,aAG⟩,aa,ab,ac,ad⟩:=hAt
  have hA:bQ nx2 [nx,nx+1,nx+7,ia,iw,id_]:=AM.apart (by simp;omega) (by simp;omega)
  simp only[bQ,eZ] at hA
  by_cases hlt2:i<p.queue.length
  ·repeat' (first| (with_reducible first| (refine hK _ _ _ ?_;clear hK K)| (refine hA ?_;clear hA hB A B)|refine Z1 ?_|refine Z2 ?_|refine Z3 fun KB hKB=> ?_|refine Z4 (by omega) ?_|refine fun(cap:Nat) (hcap:_≤cap)=> ?_|refine fun(hcp:_≤cap)=> ?_)| (with_reducible first|refine Y2 fun K hK=> ?_|refine Y3 fun A B hA hB=> ?_)<;>(simp only[go_sem,Nat.add_assoc,Nat.left_eq_add,Nat.add_eq_left,az5,az9,aAE,aAC,hA,List.set];try simp (disch:=omega) only[Iw])| ((with_reducible refine Y0 ?_);simp only[AQ.then,AQ.blk])|refine⟨by omega,?_⟩| (with_reducible refine hKB _ _ _ ?_)|fail)
   refine af0 (K:=KM) fun G hG=> ?_
   obtain⟨H',q1,q2,q3⟩:=as2 (H2:=H2) (G:=G) (hi:=nx2) (lo:=nx+13) (t:=nx+7) (s:=s) (W:=W') (D:=[]) (x2:=nx2+10) (nx':=nx2+15) (k:=k) (n:=p.queue.getD i default) az9 ⟨az2,aAD⟩ aAC ⟨aAB,aAG⟩ aa ab ac ad (by omega) (by omega) hcap (by rw[hG];exact aA.bH) (by rw[hG,aA.aC (by omega)];exact aA.bH) (fun id e0 e1 e2=>by rw[hG,aA.aC e2,aA.aC (by omega),aA.aC (by omega),aA.jG e1])
   have q4: ∀id,id<nx+13→id≠nx+7→H' id=H2 id:=fun id e0 e1=>by rw[q3 id (by omega),hG,aA.aC e1,aA.aC (by omega),aA.aC (by omega),aA.jG (by omega)]
   have hWe:W++(jJ s k).take (i+1)=W'++[(⟨k,p.queue.getD i default,oW⟩:Job)]:=by
    rw[nK (by simpa [jJ,←hpd] using hlt2),←List.append_assoc,←hW'd]
    congr 2
    simp[jJ,←hpd,List.getD,hlt2]
   exact hKM _ _ _ (i+1) noF H' (by omega) (by omega) (by repeat' (first| (with_reducible first|exact C1|refine C2 ?_ ?_)| ((with_reducible refine C0 ?_);exact CE (by omega) rfl)| ((with_reducible refine D0 ?_);first|exact CA rfl|refine CJ ?_)|fail)) q1 ⟨by omega,by rw[hWe];exact q2,fun id e0 e1=>(q4 id e0 e1).trans (hfr2 id e0 e1)⟩
  ·repeat' (first| (with_reducible first| (refine hK _ _ _ ?_;clear hK K)| (refine hB ?_;clear hA hB A B)|refine Z1 ?_|refine Z5 (by omega) ?_|refine hKY _ _ _ ?_)| (with_reducible first|refine Y2 fun K hK=> ?_|refine Y3 fun A B hA hB=> ?_)<;>(simp only[go_sem];try simp (disch:=omega) only[Iw])| ((with_reducible refine Y9 ?_);try simp only[AQ.then,AQ.blk,reduceIte,Nat.reduceEqDiff])| ((with_reducible refine Y0 ?_);simp only[AQ.then,AQ.blk])| (with_reducible refine hKB _ _ _ ?_)|fail)
   have hi2:i=p.queue.length:=by omega
   have hWe:W'=(List.range (k+1)).flatMap (jJ s):=by
    rw[hW'd,CL,←hWd,List.take_of_length_le (by simp[jJ,←hpd];omega)]
   have hAe:A'=(s.bM.take (k+1)).map (·.next):=by
    rw[hA'd,nK (by omega),List.map_append,←hAd];rw[←hpd'];rfl
   exact hKL _ _ _ (k+1) noF _ (by omega) (by omega) (by repeat' (first| (with_reducible first|exact C1|refine C2 ?_ ?_)| ((with_reducible refine C0 ?_);exact CE (by omega) rfl)| ((with_reducible refine D0 ?_);first|exact CA rfl|refine CJ ?_)|fail)) aK ⟨by omega,by rw[←hWe,←hAe];exact⟨ia,iw,id_,ca,cw,cd,ma,mw,md,az5,⟨az9,az2,aAD⟩,⟨aAE,aAA,aAF⟩,⟨aAC,aAB,aAG⟩,by omega,ab,ac,ad⟩,hfr2⟩
 ·repeat' (first| (with_reducible first| (refine hK _ _ _ ?_;clear hK K)| (refine hB ?_;clear hA hB A B)|refine Z1 ?_|refine Z3 fun KB hKB=> ?_|refine Z5 (by omega) ?_|refine hKX _ _ _ ?_)| (with_reducible first|refine Y2 fun K hK=> ?_|refine Y3 fun A B hA hB=> ?_)<;>(simp only[go_sem,g0])| ((with_reducible refine Y9 ?_);try simp only[AQ.then,AQ.blk,reduceIte,Nat.reduceEqDiff])|fail)
  have hk3:k=3:=by omega
  subst hk3
  (have hKY:=hKB;clear hKB)
  have hvs: ∀k,k<N→(hJ s k).length≤3∧(aL s k).done.length≤3:=fun k hk=>⟨by have:=(hs.v k (by omega)).1;simpa [hJ] using this,(hs.v k (by omega)).2⟩
  refine aM.gP (β:=Nat) (fun k=>en [(52,dI k),(51,dI N),(50,dS (s.dD.map gF)),(3,.one (.c (.ptr 6 (nx+7) 0 0))),(2,.one (.c (.ptr 6 (nx+1) 0 0)))])
   (fun k H1 nx1=>k≤N∧IQ H1 (nx+13) nx1 (nx+7) s A (W++(List.range k).flatMap (hJ s)) ((List.range k).flatMap fun k=>(aL s k).done)∧ ∀id,id<nx+13→id≠nx+7→H1 id=G0 id)
   (fun k=>N-k) 0 ⟨noF,_,by repeat' (first| (with_reducible first|exact C1|refine C2 ?_ ?_)| ((with_reducible refine C0 ?_);first|exact CE (by omega) rfl| (exact CG (by(congr 2;omega)) rfl))| ((with_reducible refine D0 ?_);first|exact CA rfl|refine CJ ?_)|fail),aK,by omega,?_,hfr⟩ ?_
  ·simp only[List.range_zero,List.flatMap_nil,List.append_nil]
   exact⟨ia,iw,id_,ca,cw,cd,ma,mw,md,az5,⟨az9,az2,aAD⟩,⟨aAE,aAA,aAF⟩,⟨aAC,aAB,aAG⟩,by omega,ab,ac,ad⟩
  clear az5 az9 aAE aAC aa ab ac ad hA hfr g0
  rintro k H2 nx2 hnx2 ⟨hk,hAt,hfr⟩ KM hKM
  obtain⟨W',hW'd⟩: ∃W',W'=W++(List.range k).flatMap (hJ s):=⟨_,rfl⟩
  obtain⟨D,hDd⟩: ∃D,D=(List.range k).flatMap fun k=>(aL s k).done:=⟨_,rfl⟩
  have hW'l:W'.length≤9+3*k:=by
   have:=QU (f:=hJ s) (m:=3) k fun j hj=>(hvs j (by omega)).1
   rw[hW'd,List.length_append];omega
  have hDl:D.length≤3*k:=by rw[hDd];exact QU k fun j hj=>(hvs j (by omega)).2
  rw[←hW'd,←hDd] at hAt
  obtain⟨ia,iw,id_,ca,cw,cd,ma,mw,md,az5,⟨az9,az2,aAD⟩,⟨aAE,aAA,aAF⟩,⟨aAC,aAB,aAG⟩,aa,ab,ac,ad⟩:=hAt
  by_cases hlt:k<N
  ·obtain⟨v,hvd⟩: ∃v,v=aL s k:=⟨_,rfl⟩
   have hvd':s.dD.getD k default=v:=hvd.symm
   obtain⟨hv1,hv2⟩:=hvs k hlt
   have hv1':v.pipe.length≤3:=by simpa [hJ,←hvd] using hv1
   rw[←hvd] at hv2
   repeat' (first| (with_reducible first| (refine hK _ _ _ ?_;clear hK K)| (refine hA ?_;clear hA hB A B)|refine Z1 ?_|refine Z2 ?_|refine Z3 fun KB hKB=> ?_|refine Z4 (by omega) ?_)| (with_reducible first|refine Y2 fun K hK=> ?_|refine Y3 fun A B hA hB=> ?_)<;>(simp only[go_sem,Nat.add_assoc,Nat.left_eq_add,Nat.add_eq_left,hvd',az5,List.set])|refine⟨by omega,?_⟩|fail)
   (have hKZ:=hKB;clear hKB)
   refine aM.gP (β:=Nat) (fun i=>en [(59,dI i),(58,dI v.pipe.length),(57,dS (v.pipe.map eCJ)),(52,dI k),(51,dI N),(50,dS (s.dD.map gF)),(9,.one (.c (.ptr 3 (nx2+3) 0 0))),(3,.one (.c (.ptr 6 (nx+7) 0 0))),(2,.one (.c (.ptr 6 (nx+1) 0 0)))])
    (fun i H3 nx3=>i≤v.pipe.length∧IQ H3 (nx+13) nx3 (nx+7) s A (W'++(hJ s k).take i) D∧H3 (nx2+3)=some ⟨3,1,[gF v]⟩∧ ∀id,id<nx+13→id≠nx+7→H3 id=G0 id)
    (fun i=>v.pipe.length-i) 0 ⟨noF,_,by repeat' (first| (with_reducible first|exact C1|refine C2 ?_ ?_)| ((with_reducible refine C0 ?_);exact CE (by omega) rfl)| ((with_reducible refine D0 ?_);first|exact CA rfl|refine CJ ?_)|fail),aK,by omega,?_,aA.bH,fun id e0 e1=>by rw[aA.aC (by omega)];exact hfr id e0 e1⟩ ?_
   ·rw[List.take_zero,List.append_nil]
    refine IQ.frame (hi:=nx2) ⟨ia,iw,id_,ca,cw,cd,ma,mw,md,az5,⟨az9,az2,aAD⟩,⟨aAE,aAA,aAF⟩,⟨aAC,aAB,aAG⟩,aa,ab,ac,ad⟩ (by omega) (by omega) fun id e0 _=>aA.aC (by omega)
   clear az5 az9 aAE aAC aa ab ac ad hfr
   rintro i H3 nx3 hnx3 ⟨hi,hAt,g9,hfr⟩ KN hKN
   obtain⟨bf4,hW3d⟩: ∃bf4,bf4=W'++(hJ s k).take i:=⟨_,rfl⟩
   have hW3l:bf4.length≤12+3*k:=by rw[hW3d,List.length_append,List.length_take];omega
   rw[←hW3d] at hAt
   obtain⟨ia,iw,id_,ca,cw,cd,ma,mw,md,az5,⟨az9,az2,aAD⟩,⟨aAE,aAA,aAF⟩,⟨aAC,aAB,aAG⟩,aa,ab,ac,ad⟩:=hAt
   have n1:nx2+3≠ia:=fun he=>by rw[←he,g9] at az9;simp at az9
   have n2:nx2+3≠iw:=fun he=>by rw[←he,g9] at aAE;simp at aAE
   have n3:nx2+3≠id_:=fun he=>by rw[←he,g9] at aAC;simp at aAC
   have hA:bQ nx3 [nx,nx+1,nx+7,nx2+3,ia,iw,id_]:=AM.apart (by simp;omega) (by simp;omega)
   simp only[bQ,eZ] at hA
   by_cases hlt2:i<v.pipe.length
   ·repeat' (first| (with_reducible first| (refine hK _ _ _ ?_;clear hK K)| (refine hA ?_;clear hA hB A B)|refine Z1 ?_|refine Z2 ?_|refine Z3 fun KB hKB=> ?_|refine Z4 (by omega) ?_|refine fun(cap:Nat) (hcap:_≤cap)=> ?_|refine fun(hcp:_≤cap)=> ?_)| (with_reducible first|refine Y2 fun K hK=> ?_|refine Y3 fun A B hA hB=> ?_)<;>(simp only[go_sem,Nat.add_assoc,Nat.left_eq_add,Nat.add_eq_left,az5,az9,aAE,aAC,g9,hA,List.set];try simp (disch:=omega) only[Iw])| ((with_reducible refine Y0 ?_);simp only[AQ.then,AQ.blk])|refine⟨by omega,?_⟩| (with_reducible refine hKB _ _ _ ?_)|fail)
    refine af0 (K:=KN) fun G hG=> ?_
    obtain⟨H',q1,q2,q3⟩:=as2 (H2:=H3) (G:=G) (hi:=nx3) (lo:=nx+13) (t:=nx+7) (s:=s) (W:=bf4) (D:=D) (x2:=nx3+13) (nx':=nx3+18) (k:=(v.pipe.getD i default).who) (n:=(v.pipe.getD i default).n) az9 ⟨az2,aAD⟩ aAC ⟨aAB,aAG⟩ aa ab ac ad (by omega) (by omega) hcap (by rw[hG];exact aA.bH) (by rw[hG,aA.aC (by omega)];exact aA.bH) (fun id e0 e1 e2=>by rw[hG,aA.aC e2,aA.aC (by omega),aA.aC (by omega),aA.aC (by omega),aA.jG e1])
    have q4: ∀id,id<nx+13→id≠nx+7→H' id=H3 id:=fun id e0 e1=>by rw[q3 id (by omega),hG,aA.aC e1,aA.aC (by omega),aA.aC (by omega),aA.aC (by omega),aA.jG (by omega)]
    have hWe:W'++(hJ s k).take (i+1)=bf4++[(⟨(v.pipe.getD i default).who,(v.pipe.getD i default).n,oW⟩:Job)]:=by
     rw[nK (by simpa [hJ,←hvd] using hlt2),←List.append_assoc,←hW3d]
     congr 2
     simp[hJ,←hvd,List.getD,hlt2]
    exact hKN _ _ _ (i+1) noF H' (by omega) (by omega) (by repeat' (first| (with_reducible first|exact C1|refine C2 ?_ ?_)| ((with_reducible refine C0 ?_);exact CE (by omega) rfl)| ((with_reducible refine D0 ?_);first|exact CA rfl|refine CJ ?_)|fail)) q1 ⟨by omega,by rw[hWe];exact q2,by rw[q3 _ (by omega),hG,aA.aC (by omega),aA.aC (by omega),aA.aC (by omega),aA.aC (by omega),aA.jG n2];exact g9,fun id e0 e1=>(q4 id e0 e1).trans (hfr id e0 e1)⟩
   ·have hi2:i=v.pipe.length:=by omega
    have hWe:bf4=W++(List.range (k+1)).flatMap (hJ s):=by
     rw[hW3d,CL,←List.append_assoc,←hW'd,List.take_of_length_le (by simp[hJ,←hvd];omega)]
    repeat' (first| (with_reducible first| (refine hK _ _ _ ?_;clear hK K)| (refine hB ?_;clear hA hB A B)|refine Z1 ?_|refine Z5 (by omega) ?_|refine fun(cap:Nat) (hcap:_≤cap)=> ?_|refine fun(hcp:_≤cap)=> ?_|refine hKZ _ _ _ ?_)| (with_reducible first|refine Y2 fun K hK=> ?_|refine Y3 fun A B hA hB=> ?_)<;>(simp only[go_sem,Nat.add_assoc,Nat.left_eq_add,Nat.add_eq_left,az5,az9,aAE,aAC,g9,hA,List.set];try simp (disch:=omega) only[Iw])| ((with_reducible refine Y9 ?_);try simp only[AQ.then,AQ.blk,reduceIte,Nat.reduceEqDiff])| ((with_reducible refine Y0 ?_);simp only[AQ.then,AQ.blk])|refine⟨by omega,?_⟩| (with_reducible refine hKB _ _ _ ?_)|fail)
    have hDe:D++v.done=(List.range (k+1)).flatMap fun k=>(aL s k).done:=by rw[CL,←hDd,hvd]
    have hcp:D.length+v.done.length≤cap:=by omega
    refine hKM _ _ _ (k+1) noF _ (by omega) (by omega) (by repeat' (first| (with_reducible first|exact C1|refine C2 ?_ ?_)| ((with_reducible refine C0 ?_);exact CE (by omega) rfl)| ((with_reducible refine D0 ?_);first|exact CA rfl|refine CJ ?_)|fail)) aK ⟨by omega,?_,fun id e0 e1=>by rw[aA.aC e1,aA.aC (by omega),aA.jG (by omega)];exact hfr id e0 e1⟩
    rw[←hWe,←hDe]
    refine⟨ia,iw,nx3+5,ca,cw,cap,ma,mw,cap,?_,⟨?_,az2,aAD⟩,⟨?_,aAA,aAF⟩,⟨?_,by simpa using hcp,Nat.le_refl _⟩,by omega,by omega,by omega,by omega⟩
    ·rw[aA.bH,List.length_append]
    ·rw[aA.aC (by omega),aA.aC (by omega),aA.jG ac];exact az9
    ·rw[aA.aC (by omega),aA.aC (by omega),aA.jG ad];exact aAE
    ·rw[aA.aC (by omega),aA.bH,List.map_append]
  ·repeat' (first| (with_reducible first| (refine hK _ _ _ ?_;clear hK K)| (refine hB ?_;clear hA hB A B)|refine Z1 ?_|refine Z5 (by omega) ?_|refine hKY _ _ _ ?_)| (with_reducible first|refine Y2 fun K hK=> ?_|refine Y3 fun A B hA hB=> ?_)<;>(simp only[go_sem,az5])| ((with_reducible refine Y9 ?_);try simp only[AQ.then,AQ.blk,reduceIte,Nat.reduceEqDiff])|fail)
   have hk4:k=N:=by omega
   subst hk4
   have hwt:W'=qU s:=by rw[hW'd,hWd];unfold qU;rw[hpl,←hN]
   have hdt:D=uQ s:=by rw[hDd];unfold uQ;rw[←hN]
   have hAt:A=s.bM.map (·.next):=by rw[hAd,List.take_of_length_le (by omega)]
   have hwl20:=hs.wl
   have hdl20:=hs.dl
   rw[←hwt] at hwl20
   rw[←hdt] at hdl20
   refine a3D (l:=W') (by omega) (by omega) aAE fun H3 nx3 hx3 f4 ffr=> ?_
   have bfZ:=(ffr (nx+7) (by omega) (by omega)).trans az5
   have f1:=(ffr ia (by omega) ab).trans az9
   have f7:=(ffr id_ (by omega) ad.symm).trans aAC
   simp only[go_sem]
   repeat' (first| (with_reducible first| (refine hK _ _ _ ?_;clear hK K)|refine Z1 ?_)| (with_reducible refine Y2 fun K hK=> ?_)<;>(simp only[go_sem,bfZ])|fail)
   refine a3D (l:=D) (by omega) (by omega) f7 fun H4 nx4 hx4 e7 efr=> ?_
   have e0:=(efr (nx+7) (by omega) (by omega)).trans bfZ
   have e1:=(efr ia (by omega) ac).trans f1
   have e4:=(efr iw (by omega) ad).trans f4
   have ex:=((efr (nx+1) (by omega) (by omega)).trans ((ffr (nx+1) (by omega) (by omega)).trans ((hfr _ (by omega) (by omega)).trans c1)))
   have elo: ∀id,id<nx→H4 id=H id:=fun id hid=>(efr id (by omega) (by omega)).trans ((ffr id (by omega) (by omega)).trans ((hfr id (by omega) (by omega)).trans (cfr id hid)))
   simp only[go_sem]
   refine hK _ _ _ ?_
   have hlw:(jX W').length=W'.length:=(fH _).length_eq
   have hld:(jX D).length=D.length:=(fH _).length_eq
   have heS:eSt (cX s)=[.isl (s.words.map aJ),.isl (s.holds.map aJ),.isl (A.map aJ),.isl ((jX W').map aS),.isl ((jX D).map aS),.isl (s.told.map aS)]:=by rw[hAt,hwt,hdt];rfl
   obtain⟨aZJ,hH5⟩: ∃aZJ:aA,aZJ=fun j=>if j=ia∨j=iw∨j=id_ then none else if j=nx+7 then some ⟨6,1,[eSt (cX s)]⟩ else H4 j:=⟨_,rfl⟩
   have q5: ∀j,j≠ia→j≠iw→j≠id_→j≠nx+7→aZJ j=H4 j:=fun j h1 h2 h3 h4=>by rw[hH5];simp only[h1,h2,h3,h4,or_self,if_false]
   have q7:aZJ (nx+7)=some ⟨6,1,[eSt (cX s)]⟩:=by rw[hH5];simp only[show ¬nx+7=ia by omega,show ¬nx+7=iw by omega,show ¬nx+7=id_ by omega,or_self,if_false,if_true]
   refine aM.tW _ aZJ (fun j=>j=ia∨j=iw∨j=id_) (fun t=>.inl rfl) (apO (t:=nx+7) (fun j hj=>by rw[hH5];simp only[hj,if_true]) q7 e0 (by omega) (aP ?_) fun j h1 h2=>q5 j (fun h=>h2 (.inl h)) (fun h=>h2 (.inr (.inl h))) (fun h=>h2 (.inr (.inr h))) h1) ?_
   ·rw[heS]
    exact aH (bB rfl) (aH (bB rfl) (aH (bW bF e1 rfl az2 (.inl rfl)) (aH (bW dZ e4 hlw.symm (by omega) (.inr (.inl rfl))) (aH (bW dZ e7 hld.symm (by omega) (.inr (.inr rfl))) (aH (bB rfl) eP)))))
   have qx:=(q5 (nx+1) (by omega) (by omega) (by omega) (by omega)).trans ex
   have qlo: ∀id,id<nx→aZJ id=H id:=fun id hid=>(q5 id (by omega) (by omega) (by omega) (by omega)).trans (elo id hid)
   clear hK
   have hst:=hs.st
   have hz: ∀k,(nx=nx4+k)=False:=fun k=>eq_false (by omega)
   generalize hS:cX s=S at*
   repeat' (first| (with_reducible first| (refine hK _ _ _ ?_;clear hK K)|refine Z1 ?_)| (first| (with_reducible refine Y2 fun K hK=> ?_)| (refine a43 (s:=S) hst (fun m0 m1 m2 m3 m4 m5 hm=> ?_)))<;>(simp only[go_sem,Nat.add_assoc,Nat.left_eq_add,q7,qx,hz,oIm])| ((with_reducible refine Y8 ?_);try simp only[AQ.then,AQ.blk,reduceIte,Nat.reduceEqDiff])|fail)
   refine hQ _ _ _ _ _ (.inr rfl) (fZ rfl aA.bH rfl) ⟨dA (eSt S),_,fun j=>nx4+3≤j∧j<nx4+3+6,lY (aH (bW bF (m:=m0) (by simp only[aA.set,Nat.add_left_cancel_iff,Nat.reduceEqDiff,show ¬nx4+3=nx+1 by omega,if_false,if_true]) rfl (Nat.le_refl _) (by omega)) (aH (bW bF (m:=m1) (by simp only[aA.set,Nat.add_left_cancel_iff,Nat.reduceEqDiff,show ¬nx4+4=nx+1 by omega,if_false,if_true]) rfl (Nat.le_refl _) (by omega)) (aH (bW bF (m:=m2) (by simp only[aA.set,Nat.add_left_cancel_iff,Nat.reduceEqDiff,show ¬nx4+5=nx+1 by omega,if_false,if_true]) rfl (Nat.le_refl _) (by omega)) (aH (bW dZ (m:=m3) (by simp only[aA.set,Nat.add_left_cancel_iff,Nat.reduceEqDiff,show ¬nx4+6=nx+1 by omega,if_false,if_true]) rfl (Nat.le_refl _) (by omega)) (aH (bW dZ (m:=m4) (by simp only[aA.set,Nat.add_left_cancel_iff,Nat.reduceEqDiff,show ¬nx4+7=nx+1 by omega,if_false,if_true]) rfl (Nat.le_refl _) (by omega)) (aH (bW dZ (m:=m5) (by simp only[aA.set,Nat.add_left_cancel_iff,Nat.reduceEqDiff,show ¬nx4+8=nx+1 by omega,if_false,if_true]) rfl (Nat.le_refl _) (by omega)) eP)))))),ZW,h _ _ (by omega) fun id hid=> ?_⟩
   rw[acA (by omega),aA.aC (by omega),aA.aC (by omega),aA.aC (by omega),aA.aC (by omega),aA.aC (by omega),aA.aC (by omega),aA.aC (by omega)]
   exact qlo id hid
end
end Go.Proofs.Ytmccpdapaccnoaa
end
section
namespace Go.AM
def a5K (c:Cfg) (who:Nat) (p:fR) (j:fC):Prop:=j.who=who∧(0≤j.n∧j.n<p.next-p.queue.length)∧j.left=gZ c.map (bT c who j.n)
structure beI (c:Cfg) (who:Nat) (p:fR) (k:Nat) (last:Int) (M:List (List Int×Int)):Prop where
 all: ∀i,i<k→a5K c who p (p.out.getD i default)
 srt: ∀i j,i<j→j<k→(p.out.getD i default).n<(p.out.getD j default).n
 lst:(k=0∧last= -1)∨(0<k∧last=(p.out.getD (k-1) default).n)
 ids: ∀i,i<k→jT M [(bT c who (p.out.getD i default).n).id]=some (p.out.getD i default).left
 plc:XM c who p.out k M
theorem beI.next {c:Cfg} {who:Nat} {p:fR} {k:Nat} {last:Int} {M:List (List Int×Int)} (h:beI c who p k last M) (hk:k<p.out.length) {j:fC} (hj:j=p.out.getD k default) (h1:a5K c who p j) (h2:last<j.n)
 (h3: ∀v,jT M [(bT c who j.n).id]=some v→v=j.left):beI c who p (k+1) j.n (vA M [(bT c who j.n).id] j.left):=by
 subst hj
 refine⟨iS h.all h1,fun i j hij hj=> ?_,.inr ⟨by omega,by simp⟩,fun i hi=> ?_,h.plc.next hk⟩
 ·by_cases hjk:j<k
  ·exact h.srt i j hij hjk
  ·obtain rfl:j=k:=by omega
   rcases h.lst with⟨h0,_⟩|⟨h0,h4⟩
   ·omega
   ·by_cases hi:i=j-1
    ·subst hi;omega
    ·have:=h.srt i (j-1) (by omega) (by omega);omega
 ·rw[agO]
  by_cases hik:i<k
  ·have h4:=h.ids i hik
   split
   ·rename_i he
    simp only[List.cons.injEq,and_true] at he
    rw[he] at h4
    rw[h3 _ h4]
   ·exact h4
  ·obtain rfl:i=k:=by omega
   simp
theorem beI.bad {c:Cfg} {who:Nat} {p:fR} {k:Nat} {last:Int} {M:List (List Int×Int)} (h:beI c who p k last M) (hk:k<p.out.length) (hp:mD c who p):a5K c who p (p.out.getD k default)∧last<(p.out.getD k default).n∧ ∀v,jT M [(bT c who (p.out.getD k default).n).id]=some v→v=(p.out.getD k default).left:=by
 have hm:=cC hk
 have ho:=hp.out _ hm
 refine⟨ho,?_,fun v hv=> ?_⟩
 ·rcases h.lst with⟨h0,h1⟩|⟨h0,h1⟩
  ·omega
  ·have:=List.pairwise_iff_getElem.1 hp.acX (k-1) k (by omega) hk (by omega)
   rw[h1];simpa [List.getD,hk,show k-1<p.out.length by omega] using this
 ·obtain⟨j',h1,h2,h3⟩:=h.plc _ _ hv
  rw[←h3]
  exact hp.akF j' (List.mem_of_mem_take h1) _ hm h2
end Go.AM
namespace Go.Proofs.Ytmccpdapaccnoaa
open Go Go.AM
set_option maxRecDepth 100000
set_option maxHeartbeats 8000000
section
variable {H : aA} {nx : Nat} {K : D → aA → Nat → Prop}
end
end Go.Proofs.Ytmccpdapaccnoaa
end
section
namespace Go.AM
structure a19 (c:Cfg) (s:CSt):Prop where
 pl:s.bM.length=3
 port: ∀k,k<3→mD c k (aF s k)
structure bdP (s:CSt) (st:Nat) (u:List Int) (x:Int×Int):Prop where
 who:0≤x.1∧x.1≤2
 last:u.getD x.1.toNat default<x.2
 bf0:0≤bK (isC x.2) (aF s x.1.toNat).out
 aAM:(bK (isC x.2) (aF s x.1.toNat).out).toNat<(aF s x.1.toNat).out.length
 aAN:((aF s x.1.toNat).out.getD (bK (isC x.2) (aF s x.1.toNat).out).toNat default).left=st
structure bcU (s:CSt) (st:Nat) (V:List (Int×Int)) (k:Nat) (u:List Int):Prop where
 ul:u.length=3
 lst: ∀w,w<3→u.getD w default= -1∨ ∃i,i<k∧V[i]?=some ((w:Int),u.getD w default)
 all: ∀i x,i<k→V[i]?=some x→(0≤x.1∧x.1≤2)∧x.2≤u.getD x.1.toNat default∧ ∃j∈(aF s x.1.toNat).out,j.n=x.2∧j.left=st
 inc: ∀i j x y,i<j→j<k→V[i]?=some x→V[j]?=some y→x.1=y.1→x.2<y.2
theorem bcU.nil {s:CSt} {st:Nat} {V:List (Int×Int)}:bcU s st V 0 [-1,-1,-1]:=
 ⟨rfl,fun w hw=>.inl (by rcases(show w=0∨w=1∨w=2 by omega) with rfl|rfl|rfl<;>rfl),fun i x hi=>by omega,fun i j x y _ hj=>by omega⟩
theorem bcU.next {s:CSt} {st k:Nat} {V:List (Int×Int)} {u:List Int} {x:Int×Int} (h:bcU s st V k u) (hx:V[k]?=some x) (hf:bdP s st u x):bcU s st V (k+1) (u.set x.1.toNat x.2):=by
 have hw:=hf.who
 have hul:=h.ul
 have hlt:=hf.last
 have hg: ∀w,(u.set x.1.toNat x.2).getD w default=if w=x.1.toNat then x.2 else u.getD w default:=fun w=>pY (by omega)
 refine⟨by simp[hul],fun w hw3=> ?_,fun i y hi hy=> ?_,fun i j y z hij hj hy hz he=> ?_⟩
 ·rw[hg]
  by_cases he:w=x.1.toNat
  ·right
   refine⟨k,by omega,?_⟩
   rw[if_pos he,hx,he,show ((x.1.toNat:Nat):Int)=x.1 by omega]
  ·rw[if_neg he]
   exact(h.lst w hw3).imp (fun h=>h) fun⟨i,hi,h2⟩=>⟨i,by omega,h2⟩
 ·rw[hg]
  by_cases hik:i<k
  ·obtain⟨h1,h2,h3⟩:=h.all i y hik hy
   refine⟨h1,?_,h3⟩
   split
   ·rename_i he
    rw[he] at h2
    omega
   ·exact h2
  ·obtain rfl:i=k:=by omega
   obtain rfl:x=y:=by rw[hx] at hy;exact Option.some.inj hy
   refine⟨hw,by rw[if_pos rfl];omega,_,cC hf.aAM,?_,hf.aAN⟩
   have:=(ajV hf.bf0).2
   exact of_decide_eq_true this
 ·by_cases hjk:j<k
  ·exact h.inc i j y z hij hjk hy hz he
  ·obtain rfl:j=k:=by omega
   obtain rfl:x=z:=by rw[hx] at hz;exact Option.some.inj hz
   have:=(h.all i y hij hy).2.1
   rw[he] at this
   omega
theorem bcU.bad {c:Cfg} {s:CSt} {st k:Nat} {u:List Int} {x:Int×Int} (hp:a19 c s) (hs:Z0 c s st) (h:bcU s st (cS (aL s st)) k u) (hx:(cS (aL s st))[k]?=some x):bdP s st u x:=by
 obtain⟨hk,hxk⟩:=List.getElem?_eq_some_iff.1 hx
 have hm:x∈cS (aL s st):=hxk▸List.getElem_mem hk
 obtain⟨hw,j,hj,h1,h2⟩:=hs.out x hm
 have hpo:=hp.port x.1.toNat (by omega)
 have hj0:=(hpo.out j hj).2.1
 have hex: ∃j∈(aF s x.1.toNat).out,j.n=x.2:=⟨j,hj,h1⟩
 obtain⟨az9,az2⟩:=PJ hex
 refine⟨hw,?_,cH.2 ⟨j,hj,decide_eq_true h1⟩,az9,?_⟩
 ·rcases h.lst x.1.toNat (by omega) with h3|⟨i,hi,h3⟩
  ·omega
  ·obtain⟨hi2,h4⟩:=List.getElem?_eq_some_iff.1 h3
   have h5:=List.pairwise_iff_getElem.1 hs.inc i k hi2 hk hi
   rw[h4,hxk] at h5
   exact h5 (by dsimp only;omega)
 ·have:=ZO hpo.acX (cC az9) hj (by rw[az2,h1])
  rw[this];exact h2
theorem bdP.asks {c:Cfg} {s:CSt} {st:Nat} {u:List Int} {x:Int×Int} (hp:a19 c s) (h:bdP s st u x):oA c x.1 x.2:=by
 have hw:=h.who
 have hpo:=hp.port x.1.toNat (by omega)
 have hm:=cC h.aAM
 have hn:((aF s x.1.toNat).out.getD (bK (isC x.2) (aF s x.1.toNat).out).toNat default).n=x.2:=of_decide_eq_true (ajV h.bf0).2
 obtain⟨_,h2,_⟩:=hpo.out _ hm
 rw[hn] at h2
 have:=hpo.asks (n:=x.2) (by omega) h2.1 (by omega)
 rwa [show ((x.1.toNat:Nat):Int)=x.1 by omega] at this
end Go.AM
namespace Go.Proofs.Ytmccpdapaccnoaa
open Go Go.AM
set_option maxRecDepth 100000
set_option maxHeartbeats 8000000
section
variable {H : aA} {nx : Nat} {K : D → aA → Nat → Prop}
end
end Go.Proofs.Ytmccpdapaccnoaa
end
section
namespace Go.AM
structure beL (s:CSt):Prop where
 w:s.words.length<2^21
 h:s.holds.length<2^21
 t:s.told.length<2^21
 td: ∀j∈s.told,j.rsp.data.length<2^21
 pl:s.bM.length<2^21
 sl:s.dD.length<2^21
 port: ∀k,(aF s k).queue.length<2^21∧(aF s k).out.length<2^21
 slv: ∀k,(aL s k).pipe.length<2^21∧(aL s k).done.length<2^21∧ ∀j∈(aL s k).done,j.rsp.data.length<2^21
theorem bfE {s:CSt} (hf:beL s) (hpl:s.bM.length=3) (hsl:s.dD.length≤4) (hq: ∀k,k<3→(aF s k).queue.length≤3) (hv: ∀k,k<s.dD.length→(aL s k).pipe.length≤3∧(aL s k).done.length≤3) (hw:(qU s).length<20) (hd:(uQ s).length<20):bdV s:=by
 refine⟨hpl,hsl,hq,hv,hw,hd,⟨hf.w,hf.h,by simpa [cX] using hf.pl,?_,?_,hf.t,fun j hj=> ?_⟩⟩
 ·show (jX (qU s)).length<_
  rw[(fH _).length_eq];omega
 ·show (jX (uQ s)).length<_
  rw[(fH _).length_eq];omega
 ·have hj:j∈jX (qU s)++jX (uQ s)++s.told:=hj
  simp only[List.mem_append,BF] at hj
  rcases hj with(hj|hj)|hj
  ·rcases wU.1 hj with⟨k,_,m,_,rfl⟩|⟨k,_,m,_,rfl⟩
   ·exact(by decide:([]:List Int).length<2^21)
   ·exact(by decide:([]:List Int).length<2^21)
  ·obtain⟨k,_,h⟩:=BU.1 hj
   exact(hf.slv k).2.2 j h
  ·exact hf.td j hj
theorem be1 {s:CSt} {a b:Nat} (hpl:s.bM.length=3) (hsl:s.dD.length≤4) (hq: ∀k,k<3→(aF s k).queue.length≤a) (hv: ∀k,k<s.dD.length→(aL s k).pipe.length≤b):(qU s).length≤a*3+b*4:=by
 unfold qU
 rw[List.length_append]
 have h1:=QU (f:=jJ s) (m:=a) s.bM.length fun k hk=>by rw[hpl] at hk;simpa [jJ] using hq k hk
 have h2:=QU (f:=hJ s) (m:=b) s.dD.length fun k hk=>by simpa [hJ] using hv k hk
 rw[hpl] at h1
 have h3:=Nat.mul_le_mul_left b hsl
 rw[hpl]
 omega
theorem be0 {s:CSt} {b:Nat} (hsl:s.dD.length≤4) (hv: ∀k,k<s.dD.length→(aL s k).done.length≤b):(uQ s).length≤b*4:=by
 unfold uQ
 have h2:=QU (f:=fun k=>(aL s k).done) (m:=b) s.dD.length fun k hk=>hv k hk
 have h3:=Nat.mul_le_mul_left b hsl
 omega
end Go.AM
namespace Go.Proofs.Ytmccpdapaccnoaa
open Go Go.AM
set_option maxRecDepth 100000
set_option maxHeartbeats 8000000
section
variable {H : aA} {nx : Nat} {K : D → aA → Nat → Prop}
end
end Go.Proofs.Ytmccpdapaccnoaa
end
section
namespace Go.AM
structure bh6 (s:CSt):Prop where
 pl:s.bM.length=3
 sl:s.dD.length=4
 w:s.words.length≤64
 h:s.holds.length≤6
 t:s.told.length≤36
 td: ∀j∈s.told,j.rsp.data.length<2^20
 port: ∀k,k<3→(aF s k).queue.length≤2∧(aF s k).out.length≤4
 slv: ∀k,k<4→(aL s k).pipe.length≤2∧(aL s k).done.length≤2∧ ∀j∈(aL s k).done,j.rsp.data.length<2^20
theorem COk.base {c:Cfg} {s:CSt} (hb:aQ c) (h:COk c s):bh6 s:=by
 obtain⟨hwl,_,hhl,_⟩:=h.atm
 have htl:s.told.length≤36:=by have:=h.st.lens hb;simp only[cX] at this;omega
 refine⟨h.pl,h.sl,by omega,by omega,htl,fun j hj=> ?_,fun k hk=> ?_,fun k hk=>⟨(h.slv k hk).pl,(h.slv k hk).dl,fun j hj=> ?_⟩⟩
 ·have:=(h.st.R8 j (List.mem_append_right _ hj)).1
  unfold pA at this;omega
 ·have h1:=(h.port k hk).ql;have h2:=(h.port k hk).ol;omega
 ·have:=((h.slv k hk).rsp j hj).1
  unfold pA at this;omega
structure bjY (s:CSt):Prop where
 pl:s.bM.length=3
 sl:s.dD.length=4
 w:s.words.length≤65
 h:s.holds.length≤6
 t:s.told.length≤37
 td: ∀j∈s.told,j.rsp.data.length<2^20
 port: ∀k,k<3→(aF s k).queue.length≤3∧(aF s k).out.length≤5
 slv: ∀k,k<4→(aL s k).pipe.length≤3∧(aL s k).done.length≤3∧ ∀j∈(aL s k).done,j.rsp.data.length<2^20
 qs:(aF s 0).queue.length+(aF s 1).queue.length+(aF s 2).queue.length≤7
theorem bj3 {s:CSt} (hpl:s.bM.length=3) (hsl:s.dD.length=4):(qU s).length=(aF s 0).queue.length+(aF s 1).queue.length+(aF s 2).queue.length+((aL s 0).pipe.length+(aL s 1).pipe.length+(aL s 2).pipe.length+(aL s 3).pipe.length):=by
 unfold qU jJ hJ
 rw[hpl,hsl]
 simp[List.range_succ]
 omega
theorem bjY.fit {s:CSt} (h:bjY s):beL s∧bdV s:=by
 have hcf:beL s:=by
  refine⟨by have:=h.w;omega,by have:=h.h;omega,by have:=h.t;omega,fun j hj=>by have:=h.td j hj;omega,by have:=h.pl;omega,by have:=h.sl;omega,fun k=> ?_,fun k=> ?_⟩
  ·by_cases hk:k<3
   ·have:=h.port k hk;omega
   ·have:aF s k=default:=by unfold aF;rw[List.getD,List.getElem?_eq_none (by have:=h.pl;omega)];rfl
    rw[this];exact⟨by decide,by decide⟩
  ·by_cases hk:k<4
   ·have:=h.slv k hk;exact⟨by omega,by omega,fun j hj=>by have:=this.2.2 j hj;omega⟩
   ·have:aL s k=default:=by unfold aL;rw[List.getD,List.getElem?_eq_none (by have:=h.sl;omega)];rfl
    rw[this];exact⟨by decide,by decide,fun j hj=>by cases hj⟩
 have hd:=be0 (b:=3) (s:=s) (by have:=h.sl;omega) fun k hk=>(h.slv k (by have:=h.sl;omega)).2.1
 have hw:=bj3 h.pl h.sl
 have q:=h.qs
 have p0:=(h.slv 0 (by omega)).1
 have p1:=(h.slv 1 (by omega)).1
 have p2:=(h.slv 2 (by omega)).1
 have p3:=(h.slv 3 (by omega)).1
 exact⟨hcf,bfE hcf h.pl (by have:=h.sl;omega) (fun k hk=>(h.port k hk).1) (fun k hk=>⟨(h.slv k (by have:=h.sl;omega)).1,(h.slv k (by have:=h.sl;omega)).2.1⟩) (by omega) (by omega)⟩
theorem bh6.bj4 {s:CSt} (h:bh6 s):bjY s:=by
 have p0:=(h.port 0 (by omega)).1
 have p1:=(h.port 1 (by omega)).1
 have p2:=(h.port 2 (by omega)).1
 exact⟨h.pl,h.sl,by have:=h.w;omega,h.h,by have:=h.t;omega,h.td,fun k hk=>by have:=h.port k hk;omega,fun k hk=>by have:=h.slv k hk;exact⟨by omega,by omega,this.2.2⟩,by omega⟩
theorem bh6.aEL {s:CSt} (h:bh6 s) {k:Nat} (hk:k<3) {p:fR} (hq:p.queue.length≤3) (ho:p.out.length≤5):bjY {s with bM:=s.bM.set k p}:=by
 have hp: ∀j,aF {s with bM:=s.bM.set k p} j=if j=k then p else aF s j:=bL rfl (by rw[h.pl];exact hk)
 have n:=h.bj4
 refine⟨by simpa using h.pl,h.sl,n.w,n.h,n.t,n.td,fun j hj=> ?_,n.slv,?_⟩
 ·rw[hp]
  split
  ·exact⟨hq,ho⟩
  ·exact n.port j hj
 ·rw[hp,hp,hp]
  have p0:=(h.port 0 (by omega)).1
  have p1:=(h.port 1 (by omega)).1
  have p2:=(h.port 2 (by omega)).1
  split
  ·rw[if_neg (by omega),if_neg (by omega)];omega
  ·split
   ·rw[if_neg (by omega)];omega
   ·split<;>omega
theorem bh6.bkF {s:CSt} (h:bh6 s) {k:Nat} (hk:k<4) {v:nY} (hp:v.pipe.length≤3) (hd:v.done.length≤3) (hr: ∀j∈v.done,j.rsp.data.length<2^20):bjY {s with dD:=s.dD.set k v}:=by
 have hv: ∀j,aL {s with dD:=s.dD.set k v} j=if j=k then v else aL s j:=bO rfl (by rw[h.sl];exact hk)
 have n:=h.bj4
 refine⟨h.pl,by simpa using h.sl,n.w,n.h,n.t,n.td,n.port,fun j hj=> ?_,n.qs⟩
 rw[hv]
 split
 ·exact⟨hp,hd,hr⟩
 ·exact n.slv j hj
theorem bh6.bkG {s:CSt} (h:bh6 s) {t:List Job} (ht:t.length≤37) (hd: ∀j∈t,j.rsp.data.length<2^20):bjY {s with told:=t}:=by
 have n:=h.bj4
 exact⟨n.pl,n.sl,n.w,n.h,ht,hd,n.port,n.slv,n.qs⟩
theorem bh6.bkM {s:CSt} (h:bh6 s) {w u:List Int} (hw:w.length≤65) (hu:u.length≤6):bjY {s with words:=w,holds:=u}:=by
 have n:=h.bj4
 exact⟨n.pl,n.sl,hw,hu,n.t,n.td,n.port,n.slv,n.qs⟩
theorem abY.aEL {G W:aA} {nm nm':Nat→Nat} {s:CSt} {cells:List D1} {k mp:Nat} {p:fR} {r:List D1} {rows:List (List D1)} (h:abY G nm s cells) (hpl:s.bM.length=3) (hk:k<3)
 (hG:G (nm 2)=some ⟨4,mp,rows⟩) (aYL:W (nm 2)=some ⟨4,mp,rows.set k r⟩) (hP:CX W (nm' (5+k)) (nm' (8+k)) p r) (hn: ∀a,a<19→a≠5+k→a≠8+k→nm' a=nm a)
 (hf: ∀a,a<19→a≠2→a≠5+k→a≠8+k→W (nm a)=G (nm a)):abY W nm' {s with bM:=s.bM.set k p} cells:=by
 have hp: ∀j,aF {s with bM:=s.bM.set k p} j=if j=k then p else aF s j:=bL rfl (by rw[hpl];exact hk)
 obtain⟨⟨wc,hc,pc,vc,tc,rfl,q1,q2,q3,q4,q5⟩,⟨m,R,j1,j2,j3⟩,⟨mv,rv,j4,j5,j6⟩⟩:=h
 rw[hG] at j1
 cases j1
 have e0:=hn 0 (by omega) (by omega) (by omega)
 have e1:=hn 1 (by omega) (by omega) (by omega)
 have e2:=hn 2 (by omega) (by omega) (by omega)
 have e3:=hn 3 (by omega) (by omega) (by omega)
 have e4:=hn 4 (by omega) (by omega) (by omega)
 refine⟨⟨wc,hc,pc,vc,tc,by rw[U2,U2,e0,e1,e2,e3,e4],?_,?_,?_,q4,q5⟩,⟨mp,rows.set k r,by rw[e2];exact aYL,by rw[List.length_set];exact j2,fun j hj=> ?_⟩,⟨mv,rv,by rw[e3,hf 3 (by omega) (by omega) (by omega) (by omega)];exact j4,j5,fun j hj=> ?_⟩⟩
 ·rw[e0];exact q1.frame (hf 0 (by omega) (by omega) (by omega) (by omega))
 ·rw[e1];exact q2.frame (hf 1 (by omega) (by omega) (by omega) (by omega))
 ·rw[e4];exact q3.frame (hf 4 (by omega) (by omega) (by omega) (by omega))
 ·rw[hp]
  by_cases hjk:j=k
  ·subst hjk
   exact⟨r,by rw[List.getElem?_set_self (by omega)],by rw[if_pos rfl];exact hP⟩
  ·obtain⟨r0,h1,h2⟩:=j3 j hj
   rw[if_neg hjk,hn (5+j) (by omega) (by omega) (by omega),hn (8+j) (by omega) (by omega) (by omega)]
   exact⟨r0,by rw[List.getElem?_set_ne (by omega)];exact h1,h2.frame (hf _ (by omega) (by omega) (by omega) (by omega)) (hf _ (by omega) (by omega) (by omega) (by omega))⟩
 ·obtain⟨r0,h1,h2⟩:=j6 j hj
  rw[hn (11+j) (by omega) (by omega) (by omega),hn (15+j) (by omega) (by omega) (by omega)]
  exact⟨r0,h1,h2.frame (hf _ (by omega) (by omega) (by omega) (by omega)) (hf _ (by omega) (by omega) (by omega) (by omega))⟩
theorem abY.bkF {G W:aA} {nm nm':Nat→Nat} {s:CSt} {cells:List D1} {k mp:Nat} {v:nY} {r:List D1} {rows:List (List D1)} (h:abY G nm s cells) (hsl:s.dD.length=4) (hk:k<4)
 (hG:G (nm 3)=some ⟨3,mp,rows⟩) (aYL:W (nm 3)=some ⟨3,mp,rows.set k r⟩) (hP:LJ W (nm' (11+k)) (nm' (15+k)) v r) (hn: ∀a,a<19→a≠11+k→a≠15+k→nm' a=nm a)
 (hf: ∀a,a<19→a≠3→a≠11+k→a≠15+k→W (nm a)=G (nm a)):abY W nm' {s with dD:=s.dD.set k v} cells:=by
 have hp: ∀j,aL {s with dD:=s.dD.set k v} j=if j=k then v else aL s j:=bO rfl (by rw[hsl];exact hk)
 obtain⟨⟨wc,hc,pc,vc,tc,rfl,q1,q2,q3,q4,q5⟩,⟨m,R,j1,j2,j3⟩,⟨mv,rv,j4,j5,j6⟩⟩:=h
 rw[hG] at j4
 cases j4
 have e0:=hn 0 (by omega) (by omega) (by omega)
 have e1:=hn 1 (by omega) (by omega) (by omega)
 have e2:=hn 2 (by omega) (by omega) (by omega)
 have e3:=hn 3 (by omega) (by omega) (by omega)
 have e4:=hn 4 (by omega) (by omega) (by omega)
 refine⟨⟨wc,hc,pc,vc,tc,by rw[U2,U2,e0,e1,e2,e3,e4],?_,?_,?_,q4,q5⟩,⟨m,R,by rw[e2,hf 2 (by omega) (by omega) (by omega) (by omega)];exact j1,j2,fun j hj=> ?_⟩,⟨mp,rows.set k r,by rw[e3];exact aYL,by rw[List.length_set];exact j5,fun j hj=> ?_⟩⟩
 ·rw[e0];exact q1.frame (hf 0 (by omega) (by omega) (by omega) (by omega))
 ·rw[e1];exact q2.frame (hf 1 (by omega) (by omega) (by omega) (by omega))
 ·rw[e4];exact q3.frame (hf 4 (by omega) (by omega) (by omega) (by omega))
 ·obtain⟨r0,h1,h2⟩:=j3 j hj
  rw[hn (5+j) (by omega) (by omega) (by omega),hn (8+j) (by omega) (by omega) (by omega)]
  exact⟨r0,h1,h2.frame (hf _ (by omega) (by omega) (by omega) (by omega)) (hf _ (by omega) (by omega) (by omega) (by omega))⟩
 ·rw[hp]
  by_cases hjk:j=k
  ·subst hjk
   exact⟨r,by rw[List.getElem?_set_self (by omega)],by rw[if_pos rfl];exact hP⟩
  ·obtain⟨r0,h1,h2⟩:=j6 j hj
   rw[if_neg hjk,hn (11+j) (by omega) (by omega) (by omega),hn (15+j) (by omega) (by omega) (by omega)]
   exact⟨r0,by rw[List.getElem?_set_ne (by omega)];exact h1,h2.frame (hf _ (by omega) (by omega) (by omega) (by omega)) (hf _ (by omega) (by omega) (by omega) (by omega))⟩
theorem abY.bkG {G W:aA} {nm:Nat→Nat} {s:CSt} {id0 cap wc hc pc vc tc:Nat} {t:List Job} (h:abY G nm s [.osl 1 (nm 0) 0 s.words.length wc,.osl 1 (nm 1) 0 s.holds.length hc,.osl 4 (nm 2) 0 3 pc,.osl 3 (nm 3) 0 4 vc,.osl 5 (nm 4) 0 s.told.length tc])
 (aAI:tZ W 5 id0 0 t.length cap (t.map aS)) (hf: ∀a,a<19→a≠4→W (nm a)=G (nm a)):
 abY W (put nm 4 id0) {s with told:=t} [.osl 1 (nm 0) 0 s.words.length wc,.osl 1 (nm 1) 0 s.holds.length hc,.osl 4 (nm 2) 0 3 pc,.osl 3 (nm 3) 0 4 vc,.osl 5 id0 0 t.length cap]:=by
 obtain⟨⟨wc',hc',pc',vc',tc',e,q1,q2,q3,q4,q5⟩,⟨m,R,j1,j2,j3⟩,⟨mv,rv,j4,j5,j6⟩⟩:=h
 simp only[U2,List.cons.injEq,D1.osl.injEq,true_and,and_true] at e
 obtain⟨rfl,rfl,rfl,rfl,rfl⟩:=e
 refine⟨⟨wc,hc,pc,vc,cap,?_,?_,?_,?_,q4,q5⟩,⟨m,R,by rw[jE (by omega),hf 2 (by omega) (by omega)];exact j1,j2,fun j hj=> ?_⟩,⟨mv,rv,by rw[jE (by omega),hf 3 (by omega) (by omega)];exact j4,j5,fun j hj=> ?_⟩⟩
 ·rw[U2,jE (by omega),jE (by omega),jE (by omega),jE (by omega),t8]
 ·rw[jE (by omega)];exact q1.frame (hf 0 (by omega) (by omega))
 ·rw[jE (by omega)];exact q2.frame (hf 1 (by omega) (by omega))
 ·rw[t8];exact aAI
 ·obtain⟨r0,h1,h2⟩:=j3 j hj
  rw[jE (by omega),jE (by omega)]
  exact⟨r0,h1,h2.frame (hf _ (by omega) (by omega)) (hf _ (by omega) (by omega))⟩
 ·obtain⟨r0,h1,h2⟩:=j6 j hj
  rw[jE (by omega),jE (by omega)]
  exact⟨r0,h1,h2.frame (hf _ (by omega) (by omega)) (hf _ (by omega) (by omega))⟩
theorem abY.bkJ {H:aA} {F:Nat→Prop} {nm:Nat→Nat} {s:CSt} {c0 c1 c2 c3 c4:D1} (h:abY H nm s [c0,c1,c2,c3,c4]) (hF: ∀k,k<19→F (nm k)) (hp:s.bM.length=3) (hs:s.dD.length=4):
 Frz H F (.isl (s.words.map aJ)) c0∧Frz H F (.isl (s.holds.map aJ)) c1∧Frz H F (.isl (s.bM.map cD)) c2∧Frz H F (.isl (s.dD.map gF)) c3∧Frz H F (.isl (s.told.map aS)) c4:=by
 have hf:=h.VI hF hp hs
 obtain⟨d0,e0,bfZ⟩:=hf.2 0 _ rfl
 obtain⟨d1,e1,f1⟩:=hf.2 1 _ rfl
 obtain⟨d2,e2,f2⟩:=hf.2 2 _ rfl
 obtain⟨d3,e3,f3⟩:=hf.2 3 _ rfl
 obtain⟨bkS,e4,f4⟩:=hf.2 4 _ rfl
 cases e0;cases e1;cases e2;cases e3;cases e4
 exact⟨bfZ,f1,f2,f3,f4⟩
theorem abY.bkD {H:aA} {F:Nat→Prop} {nm:Nat→Nat} {s:CSt} {cells:List D1} {cap:Nat} (h:abY H nm s cells) (hF: ∀k,k<19→F (nm k)) (hs:s.dD.length=4) (hc:3≤cap):Frz H F (.isl ((s.dD.drop 1).map gF)) (.osl 3 (nm 3) 1 3 cap):=by
 obtain⟨m',rows',j4,j5,j6⟩:=h.dD
 refine QM (hF _ (by omega)) j4 rfl (by simp[hs]) (by dsimp only;omega) hc fun i r' hr=> ?_
 rw[List.getElem?_map,Option.map_eq_some_iff] at hr
 obtain⟨p,hr,rfl⟩:=hr
 rw[List.getElem?_drop] at hr
 obtain⟨e1,e2⟩:=getD_some hr
 obtain⟨r,k1,k2⟩:=j6 (1+i) (by omega)
 rw[show aL s (1+i)=p from e1] at k2
 exact⟨rfl,r,k1,k2.VI (hF _ (by omega)) (hF _ (by omega))⟩
theorem bh6.drop {s:CSt} (h:bh6 s):beL {s with dD:=s.dD.drop 1}∧bdV {s with dD:=s.dD.drop 1}:=by
 have hv: ∀k,aL {s with dD:=s.dD.drop 1} k=aL s (1+k):=fun k=>by
  unfold aL;simp only[List.getD,List.getElem?_drop]
 have n:=h.bj4.fit.1
 have hcf:beL {s with dD:=s.dD.drop 1}:=by
  refine⟨n.w,n.h,n.t,n.td,n.pl,by rw[List.length_drop];have:=n.sl;omega,n.port,fun k=> ?_⟩
  rw[hv];exact n.slv (1+k)
 have hsl:(s.dD.drop 1).length=3:=by rw[List.length_drop,h.sl]
 have hq: ∀k,k<3→(aF {s with dD:=s.dD.drop 1} k).queue.length≤2:=fun k hk=>(h.port k hk).1
 have hp: ∀k,k<(s.dD.drop 1).length→(aL {s with dD:=s.dD.drop 1} k).pipe.length≤2:=fun k hk=>by rw[hv];exact(h.slv (1+k) (by omega)).1
 have hd: ∀k,k<(s.dD.drop 1).length→(aL {s with dD:=s.dD.drop 1} k).done.length≤2:=fun k hk=>by rw[hv];exact(h.slv (1+k) (by omega)).2.1
 have h4:=be1 (s:={s with dD:=s.dD.drop 1}) h.pl (by dsimp only;omega) hq hp
 have h5:=be0 (s:={s with dD:=s.dD.drop 1}) (by dsimp only;omega) hd
 exact⟨hcf,bfE hcf h.pl (by dsimp only;omega) (fun k hk=>by have:=hq k hk;omega) (fun k hk=>⟨by have:=hp k hk;omega,by have:=hd k hk;omega⟩) (by omega) (by omega)⟩
end Go.AM
end
