/- Texts laid together by a program: rules, contracts and the walk that leads to the law. -/
import Derived.Test.YtmccpdapaccnoaaGreatPD10
import Derived.Test.YtmccpdapaccnoaaGreatPD19
import Derived.Test.YtmccpdapaccnoaaGreatPD9
import Derived.Test.YtmccpdapaccnoaaGreatPD15
import Derived.Test.YtmccpdapaccnoaaGreatPD18
import Derived.Test.YtmccpdapaccnoaaGreatPD12
import Derived.Test.YtmccpdapaccnoaaGreatPD7
import Derived.Test.YtmccpdapaccnoaaGreatPD11
import Derived.Test.YtmccpdapaccnoaaGreatPD4
set_option linter.unusedVariables false
set_option linter.unusedSimpArgs false
set_option linter.unusedSectionVars false
set_option maxRecDepth 100000
set_option maxHeartbeats 8000000
namespace Go.AM
structure bdV (s:CSt):Prop where
 pl:s.bM.length=3
 sl:s.dD.length≤4
 q: ∀k,k<3→(aF s k).queue.length≤3
 v: ∀k,k<s.dD.length→(aL s k).pipe.length≤3∧(aL s k).done.length≤3
 wl:(qU s).length<20
 dl:(uQ s).length<20
 st:aTQ (cX s)
end Go.AM
namespace Go.Proofs.YtmccpdapaccnoaaGreat
open Go Go.AM
attribute [local irreducible] aM wv aB vd wvH
section
variable {H : aA} {nx : Nat} {K : D → aA → Nat → Prop}
theorem a4R (s:TSt) (hs:aTQ s):aB Tryz.prog iG [boR (eSt s)] (hp []) 0
 fun r H' n'=>∃m0 m1 bp3 bqM bqN bqQ,(s.words.length≤m0∧s.holds.length≤m1∧s.asked.length≤bp3∧s.wait.length≤bqM∧s.done.length≤bqN∧s.told.length≤bqQ)∧n'=6∧H'=hp [(0,⟨1,m0,s.words.map aJ⟩),(1,⟨1,m1,s.holds.map aJ⟩),(2,⟨1,bp3,s.asked.map aJ⟩),(3,⟨5,bqM,s.wait.map aS⟩),(4,⟨5,bqN,s.done.map aS⟩),(5,⟨5,bqQ,s.told.map aS⟩)]∧
  r=boR (oIm 0 1 2 3 4 5 s.words.length s.holds.length s.asked.length s.wait.length s.done.length s.told.length s):=by
 obtain⟨hwl,hhl,hal,hl1,hl2,hl3,hd⟩:=hs
 refine AY rfl fun Q hQ=> ?_
 unfold kD
 repeat' first| (first|apply bn1|refine qN (w:=s.words) (u:=s.holds) (by omega) (by omega) (fun m0 m1 hm0 hm1=> ?_)|refine kH (l:=s.asked) (by omega) (fun bp3 hm2=> ?_)|refine gY (l:=s.wait) (by omega) (fun j hj=>hd j (by simp[hj])) (fun bqM hm3=> ?_)|refine gY (l:=s.done) (by omega) (fun j hj=>hd j (by simp[hj])) (fun bqN hm4=> ?_)|refine gY (l:=s.told) (by omega) (fun j hj=>hd j (by simp[hj])) (fun bqQ hm5=> ?_))<;>(simp only[go_sem])|fail
 (refine hQ _ _ _ _ _ 6 (boR (oIm 0 1 2 3 4 5 s.words.length s.holds.length s.asked.length s.wait.length s.done.length s.told.length s)) (hp [(0,⟨1,m0,s.words.map aJ⟩),(1,⟨1,m1,s.holds.map aJ⟩),(2,⟨1,bp3,s.asked.map aJ⟩),(3,⟨5,bqM,s.wait.map aS⟩),(4,⟨5,bqN,s.done.map aS⟩),(5,⟨5,bqQ,s.told.map aS⟩)]) _ _ (.inr rfl) rfl (fU [19,20,21,22,23,24] (by omega) (by repeat' first|exact bo2| ((with_reducible apply bo0);exact bpB (by omega) rfl rfl (by rfl) rfl)| ((with_reducible apply bo1);apply bo6)|exact bo4|apply bo5|fail) ⟨⟨by simp,by simp[sgL],_,rfl,bP (aG bF _) rfl rfl⟩,⟨by simp,by simp[sgL],_,rfl,bP (aG bF _) rfl rfl⟩,⟨by simp,by simp[sgL],_,rfl,bP (aG bF _) rfl rfl⟩,⟨by simp,by simp[sgL],_,rfl,bP (aG dZ _) rfl rfl⟩,⟨by simp,by simp[sgL],_,rfl,bP (aG dZ _) rfl rfl⟩,⟨by simp,by simp[sgL],_,rfl,bP (aG dZ _) rfl rfl⟩,trivial⟩ (by simp[sgL])) ?_)
 exact⟨m0,m1,bp3,bqM,bqN,bqQ,⟨hm0,hm1,hm2,hm3,hm4,hm5⟩,rfl,rfl,rfl⟩
theorem a43 {s:TSt} (hs:aTQ s) (h: ∀m0 m1 bp3 bqM bqN bqQ,(s.words.length≤m0∧s.holds.length≤m1∧s.asked.length≤bp3∧s.wait.length≤bqM∧s.done.length≤bqN∧s.told.length≤bqQ)→K (boR (oIm nx (nx+1) (nx+2) (nx+3) (nx+4) (nx+5) s.words.length s.holds.length s.asked.length s.wait.length s.done.length s.told.length s)) ((((((H.set nx ⟨1,m0,s.words.map aJ⟩).set (nx+1) ⟨1,m1,s.holds.map aJ⟩).set (nx+2) ⟨1,bp3,s.asked.map aJ⟩).set (nx+3) ⟨5,bqM,s.wait.map aS⟩).set (nx+4) ⟨5,bqN,s.done.map aS⟩).set (nx+5) ⟨5,bqQ,s.told.map aS⟩) (nx+6)):
 aB Tryz.prog iG [boR (eSt s)] H nx K:=by
 refine(a4R s hs).AF (l0:=[]) [] rfl ⟨aE rfl,trivial⟩ trivial (by simp) (by simp) (by simp) fun r H' n' _ ⟨m0,m1,bp3,bqM,bqN,bqQ,bqB,q1,q2,q3⟩=> ?_
 have h:=h m0 m1 bp3 bqM bqN bqQ bqB
 subst q1;subst q2;subst q3
 have e1:back (tau 0 nx (nth [])) (hp [(0,⟨1,m0,s.words.map aJ⟩),(1,⟨1,m1,s.holds.map aJ⟩),(2,⟨1,bp3,s.asked.map aJ⟩),(3,⟨5,bqM,s.wait.map aS⟩),(4,⟨5,bqN,s.done.map aS⟩),(5,⟨5,bqQ,s.told.map aS⟩)]) 6 H=((((((H.set nx ⟨1,m0,s.words.map aJ⟩).set (nx+1) ⟨1,m1,s.holds.map aJ⟩).set (nx+2) ⟨1,bp3,s.asked.map aJ⟩).set (nx+3) ⟨5,bqM,s.wait.map aS⟩).set (nx+4) ⟨5,bqN,s.done.map aS⟩).set (nx+5) ⟨5,bqQ,s.told.map aS⟩):=by simp[back,hp,aA.set,aA.nil,tau,nth,uB,BB,aA.eL,aA.yI]
 rw[←e1] at h
 exact h
theorem bdE {s:CSt} (hs:bdV s) (h: ∀H' nx',nx≤nx'→(∀id,id<nx→H' id=H id)→K (boR (eSt (cX s))) H' nx'):aB Tryz.prog zX [boR (eI s)] H nx K:=by
 have hpl:=hs.pl;have hsl:=hs.sl;obtain⟨N,hN⟩: ∃N,N=s.dD.length:=⟨_,rfl⟩
 rw[←hN] at hsl;apply aB.tW;refine RA rfl fun Q hQ=> ?_;unfold yF;repeat' first|apply bn1<;>(simp only[go_sem,boC,hpl])|fail
 apply aM.EJ 1;apply aM.EJ 5;apply aM.EJ 5;refine aM.tW _ _ noF (fun t=>.inl rfl) (KO (i:=nx+7) (o:=⟨6,1,[[.isl (s.words.map aJ),.isl (s.holds.map aJ),.osl 0 0 0 0 0,.osl 0 0 0 0 0,.osl 0 0 0 0 0,.isl (s.told.map aS)]]⟩) (o':=⟨6,1,[[.isl (s.words.map aJ),.isl (s.holds.map aJ),.osl 1 (nx+13) 0 0 0,.osl 5 (nx+14) 0 0 0,.osl 5 (nx+15) 0 0 0,.isl (s.told.map aS)]]⟩) (by simp only[aA.set,t1,bqU,Nat.reduceEqDiff,Nat.reduceAdd,if_false,if_true]) (aP (aH (bB rfl) (aH (bB rfl) (aH (.VS ..) (aH (.VS ..) (aH (.VS ..) (aH (bB rfl) eP)))))))) ?_;refine aM.TF fun bqO hG0=> ?_;have c0:bqO nx=some ⟨5,1,[eI s]⟩:=by rw[hG0];simp only[aA.set,t1,bqU,Nat.reduceEqDiff,Nat.reduceAdd,bqT,if_false,if_true]
 have c1:bqO (nx+1)=some ⟨6,1,[[.osl 0 0 0 0 0,.osl 0 0 0 0 0,.osl 0 0 0 0 0,.osl 0 0 0 0 0,.osl 0 0 0 0 0,.osl 0 0 0 0 0]]⟩:=by rw[hG0];simp only[aA.set,t1,bqU,Nat.reduceEqDiff,Nat.reduceAdd,bqT,if_false,if_true]
 have bf3:IQ bqO (nx+13) (nx+16) (nx+7) s [] [] []:=by refine⟨nx+13,nx+14,nx+15,0,0,0,0,0,0,?_,⟨?_,by simp,by simp⟩,⟨?_,by simp,by simp⟩,⟨?_,by simp,by simp⟩,by omega,by omega,by omega,by omega⟩<;>rw[hG0]<;>simp only[aA.set,t1,bqU,Nat.reduceEqDiff,Nat.reduceAdd,bqT,if_false,if_true]<;>rfl
 have cfr: ∀id,id<nx→bqO id=H id:=fun id hid=>by rw[hG0];simp only[aA.set,t1,show ¬id=nx by omega,show ¬id=nx+1 by omega,show ¬id=nx+7 by omega,show ¬id=nx+13 by omega,show ¬id=nx+(13+1) by omega,show ¬id=nx+(13+(1+1)) by omega,Nat.reduceAdd,show ¬id=nx+14 by omega,show ¬id=nx+15 by omega,if_false]
 clear hG0
 refine aM.gP (β:=Nat) (fun k=>en [(20,boP k),(19,boP 3),(18,dS (s.bM.map cD)),(3,.one (.c (.ptr 6 (nx+7) 0 0))),(2,.one (.c (.ptr 6 (nx+1) 0 0))),(1,.one (.c (.ptr 5 nx 0 0)))])
  (fun k H1 nx1=>k≤3∧IQ H1 (nx+13) nx1 (nx+7) s ((s.bM.take k).map (·.next)) ((List.range k).flatMap (jJ s)) []∧ ∀id,id<nx+13→id≠nx+7→H1 id=bqO id)
  (fun k=>3-k) 0 ⟨noF,_,by repeat' first|exact bo2|refine xqI rfl rfl ?_|refine xqP (by omega) rfl rfl ?_|fail,aK,by omega,bf3,fun _ _ _=>rfl⟩ ?_
 rintro k H1 nx1 hnx ⟨hk,hAt,hfr⟩ bpQ hKL;have bqC:H1 nx=some ⟨5,1,[eI s]⟩:=by rw[hfr _ (by omega) (by omega)];exact c0
 obtain⟨A,hAd⟩: ∃A,A=(s.bM.take k).map (·.next):=⟨_,rfl⟩
 obtain⟨W,hWd⟩: ∃W,W=(List.range k).flatMap (jJ s):=⟨_,rfl⟩
 have hAl:A.length=k:=by rw[hAd];simp;omega
 have hqs: ∀k,k<3→(jJ s k).length≤3:=fun k hk=>by have:=hs.q k hk;simpa [jJ] using this
 have hWl:W.length≤3*k:=by rw[hWd];exact QU k fun j hj=>hqs j (by omega)
 rw[←hAd,←hWd] at hAt;obtain⟨ia,iw,id_,ca,cw,cd,ma,mw,md,az5,⟨az9,az2,aAD⟩,⟨aAE,aAA,aAF⟩,⟨aAC,aAB,aAG⟩,aa,ab,ac,ad⟩:=hAt;have hA:bQ nx1 [nx,nx+1,nx+7,ia,iw,id_]:=AM.apart (by simp;omega) (by simp;omega);simp only[bQ,eZ] at hA;by_cases hlt:k<3
 ·obtain⟨p,hpd⟩: ∃p,p=aF s k:=⟨_,rfl⟩
  have hpd':s.bM.getD k default=p:=hpd.symm;have hql:=hs.q k hlt;rw[←hpd] at hql;repeat' first|apply bn1<;>(simp only[go_sem,boC,hpd',az5,az9,aAE,aAC,hA,List.set])|apply bn2 (by omega)| (with_reducible first|refine fun(cap:Nat) (hcap:_≤cap)=> ?_|refine fun(hcp:_≤cap)=> ?_)|refine⟨by omega,?_⟩|fail
  obtain⟨A',hA'd⟩: ∃A',A'=A++[p.next]:=⟨_,rfl⟩
  have hA'l:A'.length=A.length+1:=by rw[hA'd];simp
  refine aM.gP (β:=Nat) (fun i=>en [(35,boP i),(34,boP p.queue.length),(33,dS (p.queue.map aJ)),(20,boP k),(19,boP 3),(18,dS (s.bM.map cD)),(4,boP k),(3,.one (.c (.ptr 6 (nx+7) 0 0))),(2,.one (.c (.ptr 6 (nx+1) 0 0))),(1,.one (.c (.ptr 5 nx 0 0)))])
   (fun i H2 nx2=>i≤p.queue.length∧IQ H2 (nx+13) nx2 (nx+7) s A' (W++(jJ s k).take i) []∧ ∀id,id<nx+13→id≠nx+7→H2 id=bqO id)
   (fun i=>p.queue.length-i) 0 ⟨noF,_,by repeat' first|exact bo2|refine xqI rfl rfl ?_|refine xqP (by omega) rfl rfl ?_|fail,aK,by omega,?_,fun id boU e1=> ?_⟩ ?_
  ·rw[List.take_zero,bq6];refine⟨nx1+12,iw,id_,cap,cw,cd,cap,mw,md,?_,⟨?_,by omega,m5 _⟩,⟨?_,aAA,aAF⟩,⟨?_,aAB,aAG⟩,by omega,by omega,by omega,by omega⟩;·rw[hA'l,aA.bH];rfl
   ·rw[hA'd];simp only[aA.set,aA.del,hA,if_false,if_true]
   ·simp only[aA.set,aA.del,hA,if_false];exact aAE
   ·simp only[aA.set,aA.del,hA,if_false];exact aAC
  ·rw[aA.aC e1,aA.aC (by omega),aA.aC (by omega),aA.aC (by omega),aA.jG (by omega)];exact hfr id boU e1
  clear az5 az9 aAE aAC aa ab ac ad hA;rintro i H2 nx2 hnx2 ⟨hi,hAt,hfr2⟩ bqG hKM;obtain⟨W',hW'd⟩: ∃W',W'=W++(jJ s k).take i:=⟨_,rfl⟩
  have hW'l:W'.length≤3*k+3:=by have:=hqs k hlt;rw[hW'd,t2,CG];omega
  rw[←hW'd] at hAt;obtain⟨ia,iw,id_,ca,cw,cd,ma,mw,md,az5,⟨az9,az2,aAD⟩,⟨aAE,aAA,aAF⟩,⟨aAC,aAB,aAG⟩,aa,ab,ac,ad⟩:=hAt;have hA:bQ nx2 [nx,nx+1,nx+7,ia,iw,id_]:=AM.apart (by simp;omega) (by simp;omega);simp only[bQ,eZ] at hA;by_cases hlt2:i<p.queue.length
  ·repeat' first|apply bn1<;>(simp only[go_sem,boC,az5,az9,aAE,aAC,hA,List.set];try simp (disch:=omega) only[Iw])|apply bn2 (by omega)| (with_reducible first|refine fun(cap:Nat) (hcap:_≤cap)=> ?_|refine fun(hcp:_≤cap)=> ?_)|refine⟨by omega,?_⟩|fail
   refine af0 (K:=bqG) fun G bqK=> ?_;obtain⟨H',q1,q2,q3⟩:=as2 (H2:=H2) (G:=G) (hi:=nx2) (lo:=nx+13) (t:=nx+7) (s:=s) (W:=W') (D:=[]) (bpZ:=nx2+10) (nx':=nx2+15) (k:=k) (n:=p.queue.getD i default) az9 ⟨az2,aAD⟩ aAC ⟨aAB,aAG⟩ aa ab ac ad (by omega) (by omega) hcap (by rw[bqK];exact aA.bH) (by rw[bqK,aA.aC (by omega)];exact aA.bH) (fun id boU e1 e2=>by rw[bqK,aA.aC e2,aA.aC (by omega),aA.aC (by omega),aA.jG e1]);have q4: ∀id,id<nx+13→id≠nx+7→H' id=H2 id:=fun id boU e1=>by rw[q3 id (by omega),bqK,aA.aC e1,aA.aC (by omega),aA.aC (by omega),aA.jG (by omega)]
   have hWe:W++(jJ s k).take (i+1)=W'++[(⟨k,p.queue.getD i default,oW⟩:Job)]:=(by rw[nK (by simpa [jJ,←hpd] using hlt2),←C0,←hW'd];congr 2;simp[jJ,←hpd,List.getD,hlt2]);exact hKM _ _ _ (i+1) noF H' (by omega) (by omega) (by repeat' first|exact bo2|refine xqI rfl rfl ?_|refine xqP (by omega) rfl rfl ?_|fail) q1 ⟨by omega,by rw[hWe];exact q2,fun id boU e1=>(q4 id boU e1).trans (hfr2 id boU e1)⟩
  ·repeat' first|apply bn1<;>(simp only[go_sem];try simp (disch:=omega) only[Iw])|apply bn3 (by omega)|fail
   have hi2:i=p.queue.length:=(by omega);have hWe:W'=(List.range (k+1)).flatMap (jJ s):=(by rw[hW'd,CL,←hWd,boL (by simp[jJ,←hpd];omega)]);have hAe:A'=(s.bM.take (k+1)).map (·.next):=(by rw[hA'd,nK (by omega),bqX,←hAd];rw[←hpd'];rfl);exact hKL _ _ _ (k+1) noF _ (by omega) (by omega) (by repeat' first|exact bo2|refine xqI rfl rfl ?_|refine xqP (by omega) rfl rfl ?_|fail) aK ⟨by omega,by rw[←hWe,←hAe];exact⟨ia,iw,id_,ca,cw,cd,ma,mw,md,az5,⟨az9,az2,aAD⟩,⟨aAE,aAA,aAF⟩,⟨aAC,aAB,aAG⟩,by omega,ab,ac,ad⟩,hfr2⟩
 ·repeat' first|apply bn1<;>(simp only[go_sem,bqC])|apply bn3 (by omega)|fail
  have hk3:k=3:=by omega
  subst hk3;have hvs: ∀k,k<N→(hJ s k).length≤3∧(aL s k).done.length≤3:=fun k hk=>⟨by have:=(hs.v k (by omega)).1;simpa [hJ] using this,(hs.v k (by omega)).2⟩
  refine aM.gP (β:=Nat) (fun k=>en [(52,boP k),(51,boP N),(50,dS (s.dD.map gF)),(3,.one (.c (.ptr 6 (nx+7) 0 0))),(2,.one (.c (.ptr 6 (nx+1) 0 0)))])
   (fun k H1 nx1=>k≤N∧IQ H1 (nx+13) nx1 (nx+7) s A (W++(List.range k).flatMap (hJ s)) ((List.range k).flatMap fun k=>(aL s k).done)∧ ∀id,id<nx+13→id≠nx+7→H1 id=bqO id)
   (fun k=>N-k) 0 ⟨noF,_,by repeat' first|exact bo2|refine xqI rfl rfl ?_|refine xqP (by omega) rfl rfl ?_|refine xqV rfl (by omega) ?_|fail,aK,by omega,?_,hfr⟩ ?_
  ·simp only[List.range_zero,List.flatMap_nil,bq6];exact⟨ia,iw,id_,ca,cw,cd,ma,mw,md,az5,⟨az9,az2,aAD⟩,⟨aAE,aAA,aAF⟩,⟨aAC,aAB,aAG⟩,by omega,ab,ac,ad⟩
  clear az5 az9 aAE aAC aa ab ac ad hA hfr bqC;rintro k H2 nx2 hnx2 ⟨hk,hAt,hfr⟩ bqG hKM;obtain⟨W',hW'd⟩: ∃W',W'=W++(List.range k).flatMap (hJ s):=⟨_,rfl⟩
  obtain⟨D,hDd⟩: ∃D,D=(List.range k).flatMap fun k=>(aL s k).done:=⟨_,rfl⟩
  have hW'l:W'.length≤9+3*k:=by have:=QU (f:=hJ s) (m:=3) k fun j hj=>(hvs j (by omega)).1;rw[hW'd,t2];omega
  have hDl:D.length≤3*k:=by rw[hDd];exact QU k fun j hj=>(hvs j (by omega)).2
  rw[←hW'd,←hDd] at hAt;obtain⟨ia,iw,id_,ca,cw,cd,ma,mw,md,az5,⟨az9,az2,aAD⟩,⟨aAE,aAA,aAF⟩,⟨aAC,aAB,aAG⟩,aa,ab,ac,ad⟩:=hAt;by_cases hlt:k<N
  ·obtain⟨v,hvd⟩: ∃v,v=aL s k:=⟨_,rfl⟩
   have hvd':s.dD.getD k default=v:=hvd.symm;obtain⟨hv1,hv2⟩:=hvs k hlt;have hv1':v.pipe.length≤3:=(by simpa [hJ,←hvd] using hv1);rw[←hvd] at hv2;repeat' first|apply bn1<;>(simp only[go_sem,boC,hvd',az5,List.set])|apply bn2 (by omega)|refine⟨by omega,?_⟩|fail
   refine aM.gP (β:=Nat) (fun i=>en [(59,boP i),(58,boP v.pipe.length),(57,dS (v.pipe.map eCJ)),(52,boP k),(51,boP N),(50,dS (s.dD.map gF)),(9,.one (.c (.ptr 3 (nx2+3) 0 0))),(3,.one (.c (.ptr 6 (nx+7) 0 0))),(2,.one (.c (.ptr 6 (nx+1) 0 0)))])
    (fun i H3 nx3=>i≤v.pipe.length∧IQ H3 (nx+13) nx3 (nx+7) s A (W'++(hJ s k).take i) D∧H3 (nx2+3)=some ⟨3,1,[gF v]⟩∧ ∀id,id<nx+13→id≠nx+7→H3 id=bqO id)
    (fun i=>v.pipe.length-i) 0 ⟨noF,_,by repeat' first|exact bo2|refine xqI rfl rfl ?_|refine xqP (by omega) rfl rfl ?_|fail,aK,by omega,?_,aA.bH,fun id boU e1=>by rw[aA.aC (by omega)];exact hfr id boU e1⟩ ?_
   ·rw[List.take_zero,bq6];refine IQ.frame (hi:=nx2) ⟨ia,iw,id_,ca,cw,cd,ma,mw,md,az5,⟨az9,az2,aAD⟩,⟨aAE,aAA,aAF⟩,⟨aAC,aAB,aAG⟩,aa,ab,ac,ad⟩ (by omega) (by omega) fun id boU _=>aA.aC (by omega)
   clear az5 az9 aAE aAC aa ab ac ad hfr;rintro i H3 nx3 hnx3 ⟨hi,hAt,bp5,hfr⟩ bqR hKN;obtain⟨bf4,hW3d⟩: ∃bf4,bf4=W'++(hJ s k).take i:=⟨_,rfl⟩
   have hW3l:bf4.length≤12+3*k:=(by rw[hW3d,t2,CG];omega);rw[←hW3d] at hAt;obtain⟨ia,iw,id_,ca,cw,cd,ma,mw,md,az5,⟨az9,az2,aAD⟩,⟨aAE,aAA,aAF⟩,⟨aAC,aAB,aAG⟩,aa,ab,ac,ad⟩:=hAt;have bp0:nx2+3≠ia:=fun he=>by rw[←he,bp5] at az9;simp at az9
   have n2:nx2+3≠iw:=fun he=>by rw[←he,bp5] at aAE;simp at aAE
   have bqP:nx2+3≠id_:=fun he=>by rw[←he,bp5] at aAC;simp at aAC
   have hA:bQ nx3 [nx,nx+1,nx+7,nx2+3,ia,iw,id_]:=AM.apart (by simp;omega) (by simp;omega);simp only[bQ,eZ] at hA;by_cases hlt2:i<v.pipe.length
   ·repeat' first|apply bn1<;>(simp only[go_sem,boC,az5,az9,aAE,aAC,bp5,hA,List.set];try simp (disch:=omega) only[Iw])|apply bn2 (by omega)| (with_reducible first|refine fun(cap:Nat) (hcap:_≤cap)=> ?_|refine fun(hcp:_≤cap)=> ?_)|refine⟨by omega,?_⟩|fail
    refine af0 (K:=bqR) fun G bqK=> ?_;obtain⟨H',q1,q2,q3⟩:=as2 (H2:=H3) (G:=G) (hi:=nx3) (lo:=nx+13) (t:=nx+7) (s:=s) (W:=bf4) (D:=D) (bpZ:=nx3+13) (nx':=nx3+18) (k:=(v.pipe.getD i default).who) (n:=(v.pipe.getD i default).n) az9 ⟨az2,aAD⟩ aAC ⟨aAB,aAG⟩ aa ab ac ad (by omega) (by omega) hcap (by rw[bqK];exact aA.bH) (by rw[bqK,aA.aC (by omega)];exact aA.bH) (fun id boU e1 e2=>by rw[bqK,aA.aC e2,aA.aC (by omega),aA.aC (by omega),aA.aC (by omega),aA.jG e1]);have q4: ∀id,id<nx+13→id≠nx+7→H' id=H3 id:=fun id boU e1=>by rw[q3 id (by omega),bqK,aA.aC e1,aA.aC (by omega),aA.aC (by omega),aA.aC (by omega),aA.jG (by omega)]
    have hWe:W'++(hJ s k).take (i+1)=bf4++[(⟨(v.pipe.getD i default).who,(v.pipe.getD i default).n,oW⟩:Job)]:=(by rw[nK (by simpa [hJ,←hvd] using hlt2),←C0,←hW3d];congr 2;simp[hJ,←hvd,List.getD,hlt2]);exact hKN _ _ _ (i+1) noF H' (by omega) (by omega) (by repeat' first|exact bo2|refine xqI rfl rfl ?_|refine xqP (by omega) rfl rfl ?_|fail) q1 ⟨by omega,by rw[hWe];exact q2,by rw[q3 _ (by omega),bqK,aA.aC (by omega),aA.aC (by omega),aA.aC (by omega),aA.aC (by omega),aA.jG n2];exact bp5,fun id boU e1=>(q4 id boU e1).trans (hfr id boU e1)⟩
   ·have hi2:i=v.pipe.length:=(by omega);have hWe:bf4=W++(List.range (k+1)).flatMap (hJ s):=(by rw[hW3d,CL,←C0,←hW'd,boL (by simp[hJ,←hvd];omega)]);repeat' first|apply bn1<;>(simp only[go_sem,boC,az5,az9,aAE,aAC,bp5,hA,List.set];try simp (disch:=omega) only[Iw])|apply bn3 (by omega)| (with_reducible first|refine fun(cap:Nat) (hcap:_≤cap)=> ?_|refine fun(hcp:_≤cap)=> ?_)|refine⟨by omega,?_⟩|fail
    have hDe:D++v.done=(List.range (k+1)).flatMap fun k=>(aL s k).done:=by rw[CL,←hDd,hvd]
    have hcp:D.length+v.done.length≤cap:=(by omega);refine hKM _ _ _ (k+1) noF _ (by omega) (by omega) (by repeat' first|exact bo2|refine xqI rfl rfl ?_|refine xqP (by omega) rfl rfl ?_|fail) aK ⟨by omega,?_,fun id boU e1=>by rw[aA.aC e1,aA.aC (by omega),aA.jG (by omega)];exact hfr id boU e1⟩;rw[←hWe,←hDe];refine⟨ia,iw,nx3+5,ca,cw,cap,ma,mw,cap,?_,⟨?_,az2,aAD⟩,⟨?_,aAA,aAF⟩,⟨?_,by simpa using hcp,m5 _⟩,by omega,by omega,by omega,by omega⟩;·rw[aA.bH,t2]
    ·rw[aA.aC (by omega),aA.aC (by omega),aA.jG ac];exact az9
    ·rw[aA.aC (by omega),aA.aC (by omega),aA.jG ad];exact aAE
    ·rw[aA.aC (by omega),aA.bH,bqX]
  ·repeat' first|apply bn1<;>(simp only[go_sem,az5])|apply bn3 (by omega)|fail
   have hk4:k=N:=(by omega);subst hk4;have hwt:W'=qU s:=(by rw[hW'd,hWd];unfold qU;rw[hpl,←hN]);have hdt:D=uQ s:=(by rw[hDd];unfold uQ;rw[←hN]);have hAt:A=s.bM.map (·.next):=(by rw[hAd,boL (by omega)]);have hwl20:=hs.wl;have hdl20:=hs.dl;rw[←hwt] at hwl20;rw[←hdt] at hdl20;refine a3D (l:=W') (by omega) (by omega) aAE fun H3 nx3 hx3 bpT ffr=> ?_;have bfZ:=(ffr (nx+7) (by omega) (by omega)).trans az5;have bpR:=(ffr ia (by omega) ab).trans az9;have bpW:=(ffr id_ (by omega) ad.symm).trans aAC;simp only[go_sem];repeat' first|apply bn1<;>(simp only[go_sem,bfZ])|fail
   refine a3D (l:=D) (by omega) (by omega) bpW fun bqL nx4 hx4 e7 efr=> ?_;have boU:=(efr (nx+7) (by omega) (by omega)).trans bfZ;have e1:=(efr ia (by omega) ac).trans bpR;have e4:=(efr iw (by omega) ad).trans bpT;have ex:=((efr (nx+1) (by omega) (by omega)).trans ((ffr (nx+1) (by omega) (by omega)).trans ((hfr _ (by omega) (by omega)).trans c1)))
   have elo: ∀id,id<nx→bqL id=H id:=fun id hid=>(efr id (by omega) (by omega)).trans ((ffr id (by omega) (by omega)).trans ((hfr id (by omega) (by omega)).trans (cfr id hid)));simp only[go_sem];try apply bn0
   have hlw:(jX W').length=W'.length:=(fH _).length_eq;have hld:(jX D).length=D.length:=(fH _).length_eq;have heS:eSt (cX s)=[.isl (s.words.map aJ),.isl (s.holds.map aJ),.isl (A.map aJ),.isl ((jX W').map aS),.isl ((jX D).map aS),.isl (s.told.map aS)]:=(by rw[hAt,hwt,hdt];rfl);obtain⟨aZJ,hH5⟩: ∃aZJ:aA,aZJ=fun j=>if j=ia∨j=iw∨j=id_ then none else if j=nx+7 then some ⟨6,1,[eSt (cX s)]⟩ else bqL j:=⟨_,rfl⟩
   have q5: ∀j,j≠ia→j≠iw→j≠id_→j≠nx+7→aZJ j=bqL j:=fun j h1 h2 h3 h4=>by rw[hH5];simp only[h1,h2,h3,h4,or_self,if_false]
   have bqJ:aZJ (nx+7)=some ⟨6,1,[eSt (cX s)]⟩:=(by rw[hH5];simp only[show ¬nx+7=ia by omega,show ¬nx+7=iw by omega,show ¬nx+7=id_ by omega,or_self,if_false,if_true]);refine aM.tW _ aZJ (fun j=>j=ia∨j=iw∨j=id_) (fun t=>.inl rfl) (apO (t:=nx+7) (fun j hj=>by rw[hH5];simp only[hj,if_true]) bqJ boU (by omega) (aP ?_) fun j h1 h2=>q5 j (fun h=>h2 (.inl h)) (fun h=>h2 (.inr (.inl h))) (fun h=>h2 (.inr (.inr h))) h1) ?_;·rw[heS];exact aH (bB rfl) (aH (bB rfl) (aH (bW bF e1 rfl az2 (.inl rfl)) (aH (bW dZ e4 hlw.symm (by omega) (.inr (.inl rfl))) (aH (bW dZ e7 hld.symm (by omega) (.inr (.inr rfl))) (aH (bB rfl) eP)))))
   have qx:=(q5 (nx+1) (by omega) (by omega) (by omega) (by omega)).trans ex;have qlo: ∀id,id<nx→aZJ id=H id:=fun id hid=>(q5 id (by omega) (by omega) (by omega) (by omega)).trans (elo id hid);have hst:=hs.st;have hz: ∀k,(nx=nx4+k)=False:=fun k=>eq_false (by omega);generalize hS:cX s=S at*;repeat' first| (first|apply bn1|refine a43 (s:=S) hst (fun m0 m1 bp3 bqM bqN bqQ hm=> ?_))<;>(simp only[go_sem,t1,bqT,bqJ,qx,hz,oIm])|fail
   refine hQ _ _ _ _ _ (.inr rfl) (fZ rfl aA.bH rfl) ⟨boR (eSt S),_,fun j=>nx4+3≤j∧j<nx4+3+6,lY (aH (bW bF (m:=m0) (by simp only[aA.set,bqU,Nat.reduceEqDiff,show ¬nx4+3=nx+1 by omega,if_false,if_true]) rfl (m5 _) (by omega)) (aH (bW bF (m:=m1) (by simp only[aA.set,bqU,Nat.reduceEqDiff,show ¬nx4+4=nx+1 by omega,if_false,if_true]) rfl (m5 _) (by omega)) (aH (bW bF (m:=bp3) (by simp only[aA.set,bqU,Nat.reduceEqDiff,show ¬nx4+5=nx+1 by omega,if_false,if_true]) rfl (m5 _) (by omega)) (aH (bW dZ (m:=bqM) (by simp only[aA.set,bqU,Nat.reduceEqDiff,show ¬nx4+6=nx+1 by omega,if_false,if_true]) rfl (m5 _) (by omega)) (aH (bW dZ (m:=bqN) (by simp only[aA.set,bqU,Nat.reduceEqDiff,show ¬nx4+7=nx+1 by omega,if_false,if_true]) rfl (m5 _) (by omega)) (aH (bW dZ (m:=bqQ) (by simp only[aA.set,bqU,Nat.reduceEqDiff,show ¬nx4+8=nx+1 by omega,if_false,if_true]) rfl (m5 _) (by omega)) eP)))))),ZW,h _ _ (by omega) fun id hid=> ?_⟩;rw[acA (by omega),aA.aC (by omega),aA.aC (by omega),aA.aC (by omega),aA.aC (by omega),aA.aC (by omega),aA.aC (by omega),aA.aC (by omega)];exact qlo id hid
end
end Go.Proofs.YtmccpdapaccnoaaGreat
namespace Go.AM
structure beV (c:Cfg) (who:Nat) (p:fR) (k:Nat):Prop where
 all: ∀i,i<k→a5K c who p (p.out.getD i default)
 srt: ∀i j,i<j→j<k→(p.out.getD i default).n<(p.out.getD j default).n
 ids: ∀i j,i<j→j<k→(bT c who (p.out.getD i default).n).id=(bT c who (p.out.getD j default).n).id→(p.out.getD i default).left=(p.out.getD j default).left
theorem beV.next {c:Cfg} {who:Nat} {p:fR} {k:Nat} (h:beV c who p k) (h1:a5K c who p (p.out.getD k default)) (h2:0<k→(p.out.getD (k-1) default).n<(p.out.getD k default).n)
 (h3: ∀i,i<k→(bT c who (p.out.getD i default).n).id=(bT c who (p.out.getD k default).n).id→(p.out.getD i default).left=(p.out.getD k default).left):beV c who p (k+1):=by
 refine⟨iS h.all h1,fun i j hij hj=> ?_,fun i j hij hj he=> ?_⟩
 ·by_cases hjk:j<k;·exact h.srt i j hij hjk
  ·obtain rfl:j=k:=by omega
   have h4:=h2 (by omega);by_cases hi:i=j-1;·subst hi;omega
   ·have:=h.srt i (j-1) (by omega) (by omega);omega
 ·by_cases hjk:j<k;·exact h.ids i j hij hjk he
  ·obtain rfl:j=k:=by omega
   exact h3 i hij he
theorem beV.end {c:Cfg} {who:Nat} {p:fR} (h:beV c who p p.out.length):(∀j∈p.out,a5K c who p j)∧(p.out.Pairwise fun a b=>a.n<b.n)∧ ∀a∈p.out,∀b∈p.out,(bT c who a.n).id=(bT c who b.n).id→a.left=b.left:=by
 have hg: ∀i (hi:i<p.out.length),p.out.getD i default=p.out[i]:=fun i hi=>by simp[List.getD,hi]
 refine⟨fun j hj=> ?_,Z6.2 fun i j hi hj hij=> ?_,fun a ha b hb he=> ?_⟩;·obtain⟨i,hi,rfl⟩:=bqY.1 hj;rw[←hg i hi];exact h.all i hi
 ·rw[←hg i hi,←hg j hj];exact h.srt i j hij hj
 ·obtain⟨i,hi,rfl⟩:=bqY.1 ha;obtain⟨j,hj,rfl⟩:=bqY.1 hb;rw[←hg i hi,←hg j hj] at he ⊢;rcases Nat.lt_trichotomy i j with hij|hij|hij;·exact h.ids i j hij hj he
  ·subst hij;rfl
  ·exact(h.ids j i hij hi he.symm).symm
def a23 (s:CSt) (who n:Int) (st:Nat):Prop:=(0≤who∧who≤2)∧ ∃j∈(aF s who.toNat).out,j.n=n∧j.left=st
noncomputable def oaB (s:CSt) (who n:Int) (st:Nat):Bool:=@decide (a23 s who n st) (Classical.propDecidable _)
theorem be2 {s:CSt} {who n:Int} {st:Nat} (h:a23 s who n st):oaB s who n st=true:=by simp[oaB,h]
theorem beO {s:CSt} {who n:Int} {st:Nat} (h: ¬a23 s who n st):oaB s who n st=false:=by simp[oaB,h]
end Go.AM
namespace Go.Proofs.YtmccpdapaccnoaaGreat
open Go Go.AM
attribute [local irreducible] aM wv aB vd wvH
section
variable {H : aA} {nx : Nat} {K : D → aA → Nat → Prop}
theorem a5O {c:Cfg} {s:CSt} {who:Nat} (hb:aQ c) (hpl:s.bM.length=3) (hw:who<3) (hpq:(aF s who).queue.length<2^21) (hpo:(aF s who).out.length<2^21) (h:K (dB (ptB c who (aF s who))) H nx):aB Tryz.prog aIY [boR (cU c),boR (eI s),boP who] H nx K:=by
 refine aB.pure (args0:=[boR (cU c),boR (eI s),boP who]) (R:=fun rr=>rr=dB (ptB c who (aF s who))) ?_ rfl (aI ⟨aE rfl,aE rfl,aE rfl,trivial⟩) (fun r hr=>hr▸h);clear h;refine aLA rfl fun Q hQ=> ?_;unfold aJG;obtain⟨hp3,hp12⟩:=hC hb;have hpw:=hp12 who;have hmo:DH c.map:=hb.1;have hml:=hb.1.1;obtain⟨p,boS⟩: ∃p,p=aF s who:=⟨_,rfl⟩
 have hP':s.bM.getD who default=p:=boS.symm;rw[←boS] at hpq hpo;have hF: ¬mD c who p→dB false=dB (ptB c who (aF s who)):=fun h=>by rw[←boS,a8A h]
 have aAI:mD c who p→dB true=dB (ptB c who (aF s who)):=fun h=>by rw[←boS,beT h]
 obtain⟨P,hPr⟩: ∃P,c.cP.getD who default=P:=⟨_,rfl⟩
 rw[hPr] at hpw;have hre: ∀n:Int,bT c who n=P.getD n.toNat default:=fun n=>by unfold bT;rw[Int.toNat_natCast,hPr]
 by_cases h0:(0≤p.next∧p.next≤(P.length:Int))∧((p.queue.length:Int)≤2∧(p.queue.length:Int)≤p.next)∧(p.out.length:Int)≤4∧0≤p.last∧p.last≤3
 case neg=>
  have hno: ¬mD c who p:=fun h=>h0 ⟨by have:=h.next;rw[hPr] at this;exact this,by have:=h.ql;omega,by have:=h.ol;omega,h.last⟩;repeat' first| (first|apply bn1|refine bpL (fun h=> ?_) fun h=> ?_|apply aBC)<;>(simp only[go_sem,hp3,hpl,hP',hPr])|apply bn2 (by omega)|refine⟨by omega,?_⟩|fail
  all_goals first|exact aZ hQ _ rfl rfl (hF hno)| (exfalso;omega)
 obtain⟨⟨hn1,hn2⟩,⟨hq1,hq2⟩,hol,hl1,hl2⟩:=h0;have bpN:(0≤p.next∧p.next≤(P.length:Int))=True:=eq_true ⟨hn1,hn2⟩;have bpO:(0≤p.last∧p.last≤3)=True:=eq_true ⟨hl1,hl2⟩;repeat' first| (first|apply bn1|apply bpK (by omega)|apply aBC)<;>(simp only[go_sem,hp3,hpl,hP',hPr,bpN,bpO])|refine⟨by omega,?_⟩|fail
 refine aM.gP (β:=Nat) (fun k=>en [(8,boP k),(7,.one (.c (.ptr 4 8 0 0))),(3,.one (.c (.ptr 3 0 0 0))),(2,boP who)]) (fun k H1 _=>k≤p.queue.length∧(∀i,i<k→p.queue.getD i default=p.next-p.queue.length+i)∧H1 0=some ⟨3,1,[cU c]⟩∧H1 8=some ⟨4,1,[cD p]⟩) (fun k=>p.queue.length-k) 0 ⟨noF,_,by repeat' first|exact bo2|refine xqI rfl rfl ?_|refine xqP (by omega) rfl rfl ?_|fail,aK,by omega,fun i hi=>by omega,rfl,rfl⟩ ?_;rintro k H1 nx1 hnx1 ⟨hk,hqi,bqC,bp4⟩ bpQ hKL;by_cases hlt:k<p.queue.length
 ·by_cases hqk:p.queue.getD k default=p.next-p.queue.length+k
  ·repeat' first|apply bn1<;>(simp only[go_sem,bp4];try simp (disch:=omega) only[Iw])|apply bn2 (by omega)|apply bn3 (by omega)|refine⟨by omega,?_⟩|fail
   all_goals first|exact hKL _ _ _ (k+1) noF _ (by omega) (by omega) (by repeat' first|exact bo2|refine xqI rfl rfl ?_|refine xqP (by omega) rfl rfl ?_|fail) aK ⟨by omega,iS hqi hqk,bqC,bp4⟩| (exfalso;omega)
  ·repeat' first|apply bn1<;>(simp only[go_sem,bp4];try simp (disch:=omega) only[Iw])|apply bn2 (by omega)|refine⟨by omega,?_⟩|fail
   all_goals first|exact aZ hQ _ rfl rfl (hF fun h=>hqk (h.queue k hlt))| (exfalso;omega)
 ·have hk2:k=p.queue.length:=by omega
  rw[hk2] at hqi;repeat' first|apply bn1<;>(simp only[go_sem,bp4])|apply bn3 (by omega)|fail
  refine aM.gP (β:=Nat) (fun k=>en [(9,boP k),(7,.one (.c (.ptr 4 8 0 0))),(3,.one (.c (.ptr 3 0 0 0))),(2,boP who)]) (fun k H1 _=>k≤p.out.length∧beV c who p k∧H1 0=some ⟨3,1,[cU c]⟩∧H1 8=some ⟨4,1,[cD p]⟩) (fun k=>p.out.length-k) 0 ⟨noF,_,by repeat' first|exact bo2|refine xqI rfl rfl ?_|refine xqP (by omega) rfl rfl ?_|fail,aK,by omega,⟨fun i hi=>by omega,fun i j _ hj=>by omega,fun i j _ hj=>by omega⟩,bqC,bp4⟩ ?_;clear bqC bp4;rintro k H2 nx2 hnx2 ⟨hk,hI,bqC,bp4⟩ bqG hKM;have hA:bQ nx2 [0,8]:=AM.apart (by simp) (by simp;omega);simp only[bQ,eZ] at hA;by_cases hlt:k<p.out.length
  ·have hm:=cC hlt
   have hbad:mD c who p→a5K c who p (p.out.getD k default)∧(0<k→(p.out.getD (k-1) default).n<(p.out.getD k default).n)∧ ∀i,i<k→(bT c who (p.out.getD i default).n).id=(bT c who (p.out.getD k default).n).id→(p.out.getD i default).left=(p.out.getD k default).left:=fun h=>
    ⟨h.out _ hm,fun h0=>by
      have:=Z6.1 h.acX (k-1) k (by omega) hlt (by omega)
      simpa [List.getD,hlt,show k-1<p.out.length by omega] using this,fun i hi he=>h.akF _ (cC (by omega)) _ hm he⟩
   have hnext:=hI.next;generalize ho:p.out.getD k default=o at hbad hnext;have ek1:((k:Int)-1).toNat=k-1:=(by omega);by_cases ho1:o.who=who
   case neg=>
    have e1:(o.who=(who:Int))=False:=eq_false ho1;repeat' first|apply bn1<;>(simp only[go_sem,t1,bqT,bqC,bp4,ho,e1,hA])|apply bn2 (by omega)|refine⟨by omega,?_⟩|fail
    all_goals exact aZ hQ _ rfl rfl (hF fun h=>ho1 (hbad h).1.1)
   have e1:(o.who=(who:Int))=True:=eq_true ho1;by_cases ho2:0≤o.n∧o.n≤p.next-p.queue.length-1
   case neg=>
    have e2:(0≤o.n∧o.n≤p.next-p.queue.length-1)=False:=eq_false ho2;repeat' first| (first|apply bn1|apply aBC)<;>(simp only[go_sem,t1,bqT,bqC,bp4,ho,e1,e2,hA];try simp (disch:=omega) only[Iw])|apply bn2 (by omega)|refine⟨by omega,?_⟩|fail
    all_goals first|exact aZ hQ _ rfl rfl (hF fun h=>ho2 (by have:=(hbad h).1.2.1;omega))| (exfalso;omega)
   have e2:(0≤o.n∧o.n≤p.next-p.queue.length-1)=True:=eq_true ho2;by_cases ho3:0<k→(p.out.getD (k-1) default).n<o.n
   case neg=>
    have hk0:0<k:=(by omega);have ho3:o.n≤(p.out.getD (k-1) default).n:=(by omega);have e3:(o.n≤(p.out.getD ((k:Int)-1).toNat default).n)=True:=eq_true (by rw[ek1];exact ho3);repeat' first| (first|apply bn1|apply bpJ (by omega)|refine bpL (fun h=> ?_) fun h=> ?_|apply aBC)<;>(simp only[go_sem,t1,bqT,bqC,bp4,ho,e1,e2,e3,hA];try simp (disch:=omega) only[Iw])|apply bn2 (by omega)|refine⟨by omega,?_⟩|fail
    all_goals first|exact aZ hQ _ rfl rfl (hF fun h=>by have:=(hbad h).2.1 hk0;omega)| (exfalso;omega)|exact absurd (of_eq_true e3) (by assumption)
   obtain⟨q,hq⟩: ∃q,P.getD o.n.toNat default=q:=⟨_,rfl⟩
   have hq':bT c who o.n=q:=(by rw[hre];exact hq);have hask:oA c who o.n:=⟨by omega,by omega,by rw[Int.toNat_natCast,hPr];omega⟩
   have hqo:dH q:=hq'▸GK hb hask;by_cases ho4:o.left=gZ c.map q
   case neg=>
    have e4:(o.left=gZ c.map q)=False:=eq_false ho4;by_cases hk0:0<k
    ·have e3:(o.n≤(p.out.getD ((k:Int)-1).toNat default).n)=False:=eq_false (by rw[ek1];have:=ho3 hk0;omega);repeat' first| (first|apply bn1|apply bpJ (by omega)|refine bpL (fun h=> ?_) fun h=> ?_|apply aBC|apply a20 hmo hqo (by omega))<;>(simp only[go_sem,t1,bqT,bqC,bp4,ho,hp3,hPr,hq,e1,e2,e3,e4,hA];try simp (disch:=omega) only[Iw])|apply bn2 (by omega)|refine⟨by omega,?_⟩|fail
     all_goals first|exact aZ hQ _ rfl rfl (hF fun h=>ho4 (by have:=(hbad h).1.2.2;rw[hq'] at this;exact this))| (exfalso;omega)
    ·repeat' first| (first|apply bn1|apply bpK (by omega)|apply aBC|apply a20 hmo hqo (by omega))<;>(simp only[go_sem,t1,bqT,bqC,bp4,ho,hp3,hPr,hq,e1,e2,e4,hA];try simp (disch:=omega) only[Iw])|apply bn2 (by omega)|refine⟨by omega,?_⟩|fail
     all_goals first|exact aZ hQ _ rfl rfl (hF fun h=>ho4 (by have:=(hbad h).1.2.2;rw[hq'] at this;exact this))| (exfalso;omega)
   have e4:(o.left=gZ c.map q)=True:=eq_true ho4;have hoo:a5K c who p o:=⟨ho1,by omega,by rw[hq'];exact ho4⟩
   repeat' first| (first|apply bn1|refine bpL (fun h=> ?_) fun h=> ?_|apply aBC|apply a20 hmo hqo (by omega))<;>(simp only[go_sem,t1,bqT,bqC,bp4,ho,hp3,hPr,hq,e1,e2,e4,hA];try simp (disch:=omega) only[Iw])|apply bn2 (by omega)|refine⟨by omega,?_⟩|fail
   all_goals try (exfalso;have h3:=ho3 (by omega);rw[←ek1] at h3;omega)
   all_goals (
    refine aM.gP (β:=Nat) (fun j=>en [(11,boP j),(10,.one (.c (.ptr 3 (nx2+10) 0 0))),(9,boP k),(7,.one (.c (.ptr 4 8 0 0))),(3,.one (.c (.ptr 3 0 0 0))),(2,boP who)]) (fun j H3 _=>j≤k∧(∀i,i<j→(bT c who (p.out.getD i default).n).id=(bT c who o.n).id→(p.out.getD i default).left=o.left)∧H3 0=some ⟨3,1,[cU c]⟩∧H3 8=some ⟨4,1,[cD p]⟩∧H3 (nx2+10)=some ⟨3,1,[eCJ o]⟩) (fun j=>k-j) 0 ⟨noF,_,by repeat' first|exact bo2|refine xqI rfl rfl ?_|refine xqP (by omega) rfl rfl ?_|fail,aK,by omega,fun i hi=>by omega,by rw[aA.aC (by omega)];exact bqC,by rw[aA.aC (by omega)];exact bp4,aA.bH⟩ ?_
    rintro j H3 nx3 hnx3 ⟨hj,aIF,bfZ,bpX,f10⟩ bqR hKN
    by_cases hjk:j<k
    ·obtain⟨x,hx⟩: ∃x,p.out.getD j default=x:=⟨_,rfl⟩
     have hxo:=hI.all j hjk;rw[hx] at hxo;obtain⟨q2,hq2⟩: ∃q2,P.getD x.n.toNat default=q2:=⟨_,rfl⟩
     have hq2':bT c who x.n=q2:=(by rw[hre];exact hq2);obtain⟨_,hx2,_⟩:=hxo;by_cases hc:q2.id=q.id∧x.left≠o.left
     ·have c1:(q2.id=q.id)=True:=eq_true hc.1;have c2:(x.left=o.left)=False:=eq_false hc.2;repeat' first|apply bn1<;>(simp only[go_sem,t1,bqT,bfZ,bpX,f10,hx,hp3,hPr,hq,hq2,c1,c2])|apply bn2 (by omega)|refine⟨by omega,?_⟩|fail
      all_goals exact aZ hQ _ rfl rfl (hF fun h=>hc.2 (by
       have h1:=(hbad h).2.2 j hjk
       rw[hx,hq',hq2'] at h1
       exact h1 hc.1))
     ·repeat' first| (first|apply bn1|apply bpJ (by omega)|refine bpL (fun h=> ?_) fun h=> ?_)<;>(simp only[go_sem,t1,bqT,bfZ,bpX,f10,hx,hp3,hPr,hq,hq2];try simp (disch:=omega) only[Iw])|apply bn2 (by omega)|apply bn3 (by omega)|refine⟨by omega,?_⟩|fail
      all_goals first
       |exact hKN _ _ _ (j+1) noF _ (by omega) (by omega) (by repeat' first|exact bo2|refine xqI rfl rfl ?_|refine xqP (by omega) rfl rfl ?_|fail) aK ⟨by omega,iS aIF (by rw[hx,hq',hq2'];intro he;omega),bfZ,bpX,f10⟩
       | (exfalso;omega)
    ·have hj2:j=k:=(by omega);subst hj2;have hI2:=hnext hoo (fun h=>by have:=ho3 h;omega) aIF;repeat' first|apply bn1<;>(simp only[go_sem,f10];try simp (disch:=omega) only[Iw])|apply bn3 (by omega)|fail
     exact hKM _ _ _ (j+1) noF _ (by omega) (by omega) (by repeat' first|exact bo2|refine xqI rfl rfl ?_|refine xqP (by omega) rfl rfl ?_|fail) aK ⟨by omega,hI2,bfZ,bpX⟩)
  ·repeat' first|apply bn1<;>(simp only[go_sem,bp4])|apply bn3 (by omega)|fail
   have hk2:k=p.out.length:=(by omega);rw[hk2] at hI;obtain⟨q1,q2,q3⟩:=hI.end;exact aZ hQ _ rfl rfl (aAI ⟨⟨hn1,by rw[hPr];exact hn2⟩,by omega,by omega,⟨hl1,hl2⟩,hqi,q1,q2,q3⟩)
end
end Go.Proofs.YtmccpdapaccnoaaGreat
namespace Go.AM
noncomputable def cyB (c:Cfg) (s:CSt):Bool:=@decide (aQ c∧COk c s) (Classical.propDecidable _)
variable{s:CSt}
theorem bfB{c:Cfg} (hb:aQ c) (h:COk c s):cyB c s=true:=by simp[cyB,h,hb]
theorem beP{c:Cfg} (h: ¬(aQ c∧COk c s)):cyB c s=false:=by simp[cyB,h]
theorem bmR{c:Cfg}:cyB c s=true↔aQ c∧COk c s:=by simp[cyB]
structure beL (s:CSt):Prop where
 w:s.words.length<2^21
 h:s.holds.length<2^21
 t:s.told.length<2^21
 td: ∀j∈s.told,j.rsp.data.length<2^21
 pl:s.bM.length<2^21
 sl:s.dD.length<2^21
 port: ∀k,(aF s k).queue.length<2^21∧(aF s k).out.length<2^21
 slv: ∀k,(aL s k).pipe.length<2^21∧(aL s k).done.length<2^21∧ ∀j∈(aL s k).done,j.rsp.data.length<2^21
theorem bfE (hf:beL s) (hpl:s.bM.length=3) (hsl:s.dD.length≤4) (hq: ∀k,k<3→(aF s k).queue.length≤3) (hv: ∀k,k<s.dD.length→(aL s k).pipe.length≤3∧(aL s k).done.length≤3) (hw:(qU s).length<20) (hd:(uQ s).length<20):bdV s:=by
 refine⟨hpl,hsl,hq,hv,hw,hd,⟨hf.w,hf.h,by simpa [cX] using hf.pl,?_,?_,hf.t,fun j hj=> ?_⟩⟩;·show (jX (qU s)).length<_;rw[(fH _).length_eq];omega
 ·show (jX (uQ s)).length<_;rw[(fH _).length_eq];omega
 ·have hj:j∈jX (qU s)++jX (uQ s)++s.told:=hj;simp only[o3,BF] at hj;rcases hj with(hj|hj)|hj
  ·rcases wU.1 hj with⟨k,_,m,_,rfl⟩|⟨k,_,m,_,rfl⟩
   ·exact(by decide:([]:List Int).length<2^21)
   ·exact(by decide:([]:List Int).length<2^21)
  ·obtain⟨k,_,h⟩:=BU.1 hj;exact(hf.slv k).2.2 j h
  ·exact hf.td j hj
theorem be1{a b:Nat} (hpl:s.bM.length=3) (hsl:s.dD.length≤4) (hq: ∀k,k<3→(aF s k).queue.length≤a) (hv: ∀k,k<s.dD.length→(aL s k).pipe.length≤b):(qU s).length≤a*3+b*4:=by
 unfold qU;rw[t2];have h1:=QU (f:=jJ s) (m:=a) s.bM.length fun k hk=>by rw[hpl] at hk;simpa [jJ] using hq k hk
 have h2:=QU (f:=hJ s) (m:=b) s.dD.length fun k hk=>by simpa [hJ] using hv k hk
 rw[hpl] at h1;have h3:=Nat.mul_le_mul_left b hsl;rw[hpl];omega
theorem be0{b:Nat} (hsl:s.dD.length≤4) (hv: ∀k,k<s.dD.length→(aL s k).done.length≤b):(uQ s).length≤b*4:=by unfold uQ;have h2:=QU (f:=fun k=>(aL s k).done) (m:=b) s.dD.length fun k hk=>hv k hk;have h3:=Nat.mul_le_mul_left b hsl;omega
theorem bd9{c:Cfg} (hf:beL s) (hp:a19 c s) (hsl:s.dD.length=4) (hv: ∀k,k<4→Z0 c s k):bdV s:=by have h1: ∀k,k<3→(aF s k).queue.length≤2:=fun k hk=>(hp.port k hk).ql.1;have h2: ∀k,k<s.dD.length→(aL s k).pipe.length≤2:=fun k hk=>(hv k (by omega)).pl;have h3: ∀k,k<s.dD.length→(aL s k).done.length≤2:=fun k hk=>(hv k (by omega)).dl;have h4:=be1 hp.pl (by omega) h1 h2;have h5:=be0 (by omega) h3;exact bfE hf hp.pl (by omega) (fun k hk=>by have:=h1 k hk;omega) (fun k hk=>⟨by have:=h2 k hk;omega,by have:=h3 k hk;omega⟩) (by omega) (by omega)
end Go.AM
namespace Go.Proofs.YtmccpdapaccnoaaGreat
open Go Go.AM
attribute [local irreducible] aM wv aB vd wvH
section
variable {H : aA} {nx : Nat} {K : D → aA → Nat → Prop}
theorem bd0 (c:Cfg) (s:CSt) (hcf:jO c) (hf:beL s):aB Tryz.prog mW [boR (cU c),boR (eI s)] .nil 0 fun r _ _=>r.plain=true∧r=dB (cyB c s):=by
 have hwl:=hf.w;have hhl:=hf.h;have hfp:=hf.pl;have hfs:=hf.sl;refine VM rfl fun Q hQ=> ?_;unfold AN;have hfail: ¬(aQ c∧COk c s)→dB false=dB (cyB c s):=fun h=>congrArg dB (beP h).symm;by_cases hb:aQ c
 case neg=>
  repeat' first| (first|apply bn1|apply W6 hcf)<;>(simp only[go_sem,eq_false hb])|fail
  all_goals exact hQ _ _ _ _ _ (.inr rfl) rfl ⟨rfl,hfail fun h=>hb h.1⟩
 by_cases h0:JS s.words s.holds∧(s.bM.length:Int)=3∧(s.dD.length:Int)=4
 case neg=>
  have hno: ¬(aQ c∧COk c s):=fun⟨_,h⟩=>h0 ⟨ZS h.atm,by rw[h.pl];rfl,by rw[h.sl];rfl⟩;repeat' first| (first|apply bn1|refine bpL (fun h=> ?_) fun h=> ?_|apply W6 hcf|refine JZ (w:=s.words) (u:=s.holds) (by omega) (by omega) (aE rfl) ?_)<;>(simp only[go_sem,eq_true hb])|refine bnE (fun h=> ?_) fun h=> ?_|fail
  all_goals first|exact hQ _ _ _ _ _ (.inr rfl) rfl ⟨rfl,hfail hno⟩|exact absurd ⟨by simp_all,by omega,by omega⟩ h0
 obtain⟨hatm,hpl,hsl⟩:=h0;have hpl:s.bM.length=3:=by omega
 have hsl:s.dD.length=4:=by omega
 have hat:=decide_eq_true hatm;have hbt:=decide_eq_true hb;repeat' first| (first|apply bn1|apply bpK (by omega)|apply W6 hcf|refine JZ (by omega) (by omega) (aE rfl) ?_)<;>(simp only[go_sem,eq_true hb,hat,hbt,hpl,hsl])|apply bn3 (by omega)|fail
 refine aM.abC fun bqO hG0=> ?_;have c0:bqO 0=some ⟨3,1,[cU c]⟩:=by rw[hG0];rfl
 have c1:bqO 1=some ⟨5,1,[eI s]⟩:=by rw[hG0];rfl
 clear hG0;obtain⟨fo,hfo⟩: ∃fo:Nat→Int,fo=fun k=>((aF s k).out.length:Int):=⟨_,rfl⟩
 obtain⟨fh,hfh⟩: ∃fh:Nat→Int,fh=fun k=>(((aL s k).pipe.length:Int)+(aL s k).done.length):=⟨_,rfl⟩
 refine aM.gP (β:=Nat) (fun k=>en [(35,boP k),(34,boP 3),(33,dS (s.bM.map cD)),(6,boP 0),(5,boP (jS fo k)),(3,.one (.c (.ptr 5 1 0 0))),(2,.one (.c (.ptr 3 0 0 0)))])
  (fun k H1 _=>k≤3∧(∀i,i<k→mD c i (aF s i))∧ ∀id,id<30→H1 id=bqO id) (fun k=>3-k) 0 ⟨noF,_,by repeat' first|exact bo2|refine xqI rfl rfl ?_|refine xqP (by omega) rfl rfl ?_|fail,aK,by omega,fun i hi=>by omega,fun _ _=>rfl⟩ ?_
 rintro k H1 nx1 hnx ⟨hk,hpo,hfr⟩ bpQ hKL;have bqC:=(hfr 0 (by omega)).trans c0;have g1:=(hfr 1 (by omega)).trans c1;have hA:bQ nx1 [0,1]:=AM.apart (by simp) (by simp;omega);simp only[bQ,eZ] at hA;have hs1:=KF (f:=fo) (m:=4) (by omega) k fun j hj=>by have:=(hpo j (by omega)).ol;rw[hfo];dsimp only;omega
 by_cases hlt:k<3
 ·obtain⟨p,hpd⟩: ∃p,p=aF s k:=⟨_,rfl⟩
  have hpd':s.bM.getD k default=p:=hpd.symm;obtain⟨hf1,hf2⟩:=hf.port k;have hsum:jS fo (k+1)=jS fo k+p.out.length:=by rw[jS,hfo,hpd]
  rw[←hpd] at hf1 hf2;by_cases hok:mD c k p
  ·have hpt:=beT hok;have hol:=hok.ol;repeat' first| (first|apply bn1|apply a2P hb hlt hf1 hf2)<;>(simp only[go_sem,t1,bqT,hpd',bqC,g1,hpt,hA];try simp (disch:=omega) only[Iw])|apply bn2 (by omega)|refine⟨by omega,?_⟩|fail
   exact hKL _ _ _ (k+1) noF _ (by omega) (by omega) (by rw[hsum];repeat' first|exact bo2|refine xqI rfl rfl ?_|refine xqP (by omega) rfl rfl ?_|fail) aK ⟨by omega,iS hpo (by rw[←hpd];exact hok),fun id hid=>by rw[aA.aC (by omega)];exact hfr id hid⟩
  ·have hpt:=a8A hok;repeat' first| (first|apply bn1|apply a2P hb hlt hf1 hf2)<;>(simp only[go_sem,t1,bqT,hpd',bqC,g1,hpt,hA])|apply bn2 (by omega)|refine⟨by omega,?_⟩|fail
   all_goals exact hQ _ _ _ _ _ (.inr rfl) rfl ⟨rfl,hfail fun h=>hok (by rw[hpd];exact h.2.port k hlt)⟩
 ·have hk3:k=3:=by omega
  subst hk3;have boS:a19 c s:=⟨hpl,hpo⟩
  repeat' first|apply bn1<;>(simp only[go_sem,bqC,g1,hsl])|apply bn3 (by omega)|fail
  refine aM.gP (β:=Nat) (fun k=>en [(54,boP k),(53,boP 4),(52,dS (s.dD.map gF)),(6,boP (jS fh k)),(5,boP (jS fo 3)),(3,.one (.c (.ptr 5 1 0 0))),(2,.one (.c (.ptr 3 0 0 0)))])
   (fun k H1 _=>k≤4∧(∀i,i<k→Z0 c s i)∧ ∀id,id<30→H1 id=bqO id) (fun k=>4-k) 0 ⟨noF,_,by repeat' first|exact bo2|refine xqI rfl rfl ?_|refine xqP (by omega) rfl rfl ?_|fail,aK,by omega,fun i hi=>by omega,hfr⟩ ?_
  clear hfr bqC g1 hA;rintro k H2 nx2 hnx2 ⟨hk,hvo,hfr⟩ bqG hKM;have bqC:=(hfr 0 (by omega)).trans c0;have g1:=(hfr 1 (by omega)).trans c1;have hA:bQ nx2 [0,1]:=AM.apart (by simp) (by simp;omega);simp only[bQ,eZ] at hA;have hs2:=KF (f:=fh) (m:=4) (by omega) k fun j hj=>by have h1:=(hvo j (by omega)).pl;have h2:=(hvo j (by omega)).dl;rw[hfh];dsimp only;omega
  by_cases hlt:k<4
  ·obtain⟨v,hvd⟩: ∃v,v=aL s k:=⟨_,rfl⟩
   have hvd':s.dD.getD k default=v:=hvd.symm;obtain⟨hf1,hf2,hf3⟩:=hf.slv k;by_cases hok:Z0 c s k
   ·have hv1:=hok.pl;have hv2:=hok.dl;rw[←hvd] at hv1 hv2;have hsum:jS fh (k+1)=jS fh k+(v.pipe.length+v.done.length):=(by rw[jS,hfh,hvd]);have hpt:=beR hok;repeat' first| (first|apply bn1|apply a2C hb boS hsl hlt hf1 hf2 hf3)<;>(simp only[go_sem,t1,bqT,hvd',bqC,g1,hpt,hA];try simp (disch:=omega) only[Iw])|apply bn2 (by omega)|refine⟨by omega,?_⟩|fail
    exact hKM _ _ _ (k+1) noF _ (by omega) (by omega) (by rw[hsum];repeat' first|exact bo2|refine xqI rfl rfl ?_|refine xqP (by omega) rfl rfl ?_|fail) aK ⟨by omega,iS hvo hok,fun id hid=>by rw[aA.aC (by omega)];exact hfr id hid⟩
   ·have hpt:=a6D hok;repeat' first| (first|apply bn1|apply a2C hb boS hsl hlt hf1 hf2 hf3)<;>(simp only[go_sem,t1,bqT,hvd',bqC,g1,hpt,hA])|apply bn2 (by omega)|refine⟨by omega,?_⟩|fail
    all_goals exact hQ _ _ _ _ _ (.inr rfl) rfl ⟨rfl,hfail fun h=>hok (h.2.slv k hlt)⟩
  ·have hk4:k=4:=(by omega);subst hk4;have hab:=bd9 hf boS hsl hvo;by_cases hct:jS fo 3=jS fh 4
   case neg=>
    have hct':(jS fo 3=jS fh 4)=False:=eq_false hct
    have hno: ¬(aQ c∧COk c s):=fun⟨_,h⟩=>hct (by
     have:=h.count
     unfold hU at this
     rw[hfo,hfh]
     simp only[jS]
     omega)
    repeat' first|apply bn1<;>(simp only[go_sem,t1,bqT,bqC,g1,hct',hA])|apply bn3 (by omega)|fail
    all_goals exact hQ _ _ _ _ _ (.inr rfl) rfl ⟨rfl,hfail hno⟩
   have hct':(jS fo 3=jS fh 4)=True:=eq_true hct;repeat' first| (first|apply bn1|refine bdE hab (fun H' nx' hx' ffr=> ?_))<;>(simp only[go_sem,t1,bqT,bqC,g1,hct',hA])|apply bn3 (by omega)|fail
   have boU:=(ffr 0 (by omega)).trans bqC;refine⟨fun _=>by rw[boU];rfl,?_⟩;apply aVW hb hab.st;simp only[go_sem];repeat' first|apply bn1<;>(simp only[go_sem,boU])|fail
   refine hQ _ _ _ _ _ (.inr rfl) rfl ⟨rfl,congrArg dB ?_⟩;by_cases hst:BA c (cX s);·rw[aXJ hst];refine(bfB hb ⟨⟨by have:=hatm.1.1;omega,hatm.1.2,by have:=hatm.2.1;omega,hatm.2.2⟩,hpl,hsl,hpo,hvo,?_,hst⟩).symm;unfold hU;rw[hfo,hfh] at hct;simp only[jS] at hct;omega
   ·rw[aWH hst,beP fun h=>hst h.2.st]
theorem bd4 {c:Cfg} {s:CSt} (hcf:jO c) (hf:beL s) (h:K (dB (cyB c s)) H nx):aB Tryz.prog mW [boR (cU c),boR (eI s)] H nx K:=(bd0 c s hcf hf).pure rfl (aI ⟨aE rfl,aE rfl,trivial⟩) fun r hr=>hr▸h
end
theorem aTC{a b c:Job} (h1:uL a b=true) (h2:uL b c=true):uL a c=true:=by rw[qL] at*;omega
variable{l:List Job}
theorem aTV (h: ∀i,i<l.length→0<i→uL (l.getD (i-1) default) (l.getD i default)=true):kW l:=by
 have key: ∀d i,i+d+1<l.length→uL (l.getD i default) (l.getD (i+d+1) default)=true:=by
  intro d
  induction d with
  |zero=>exact fun i hi=>h (i+1) hi (by omega)
  |succ d ih=>exact fun i hi=>aTC (ih i (by omega)) (h (i+d+1+1) hi (by omega))
 refine Z6.2 fun i j hi hj hij=> ?_;have:=key (j-i-1) i (by omega);rw[show i+(j-i-1)+1=j by omega] at this;simpa [List.getD,hi,hj] using this
theorem aT4 (h:kW l){i:Nat} (hi:i<l.length) (h0:0<i):uL (l.getD (i-1) default) (l.getD i default)=true:=by have:=Z6.1 h (i-1) i (by omega) hi (by omega);simpa [List.getD,hi,show i-1<l.length by omega] using this
section
variable {H : aA} {nx : Nat} {K : D → aA → Nat → Prop}
theorem aMA {c:Cfg} {a:List Int} {l:List Job} {b:Bool} (hb:aQ c) (ha:a.length=3) (har:aTF c a) (hl:l.length<2^21) (hd: ∀j∈l,j.rsp.data.length<2^21) (h:K (dB (aPK c a l b)) H nx):aB Tryz.prog aIQ [boR (cU c),dS (a.map aJ),dS (l.map aS),dB b] H nx K:=by
 refine aB.pure (args0:=[boR (cU c),dS (a.map aJ),dS (l.map aS),dB b]) (R:=fun rr=>rr=dB (aPK c a l b)) ?_ rfl (aI ⟨aE rfl,aE rfl,aE rfl,aE rfl,trivial⟩) (fun r hr=>hr▸h);clear h;refine aKZ rfl fun Q hQ=> ?_;unfold aI9;obtain⟨hp3,hp12⟩:=hC hb;repeat' first|apply bn1<;>(simp only[go_sem])|fail
 (refine aM.loop (α:={k:Nat//k≤l.length∧(∀i,i<k→InA a (l.getD i default)∧(0<i→uL (l.getD (i-1) default) (l.getD i default)=true)∧(if b then as5 c (l.getD i default) else (l.getD i default).rsp=oW))}) (fun u=>en [(9,boP u.1),(4,.one (.c (.fQ (cU c)))),(3,dB b),(2,dS (l.map aS)),(1,dS (a.map aJ))]) (fun _=>.nil) _ (fun u=>l.length-u.1) ⟨0,by omega,(by intros;first|trivial|omega)⟩ (bU (m5 _) (by repeat' first|exact bo2|refine xqI rfl rfl ?_| (with_reducible apply bo3)| ((with_reducible apply bo1);exact bpH rfl (by simp) rfl rfl rfl)|fail)) ?_);(rintro⟨k,hk,hinv⟩ bpQ hKL);by_cases hlt:k<l.length
 ·obtain⟨j,hj⟩: ∃j,j=l.getD k default:=⟨_,rfl⟩
  have hj':=hj.symm;have hm:j∈l:=by rw[hj];exact cC hlt
  have hdl:=hd j hm;have hgood:InA a j→(0<k→uL (l.getD (k-1) default) j=true)→(if b then as5 c j else j.rsp=oW)→∀i,i<k+1→InA a (l.getD i default)∧(0<i→uL (l.getD (i-1) default) (l.getD i default)=true)∧(if b then as5 c (l.getD i default) else (l.getD i default).rsp=oW):=fun h1 h2 h3=>iS hinv ⟨by rw[hj'];exact h1,by rw[hj'];exact h2,by rw[hj'];exact h3⟩;have hbad: ¬(InA a j∧(0<k→uL (l.getD (k-1) default) j=true)∧(if b then as5 c j else j.rsp=oW))→aPK c a l b=false:=fun h=>aSY fun aIF=>h ⟨aIF.inA j hm,fun h0=>by rw[hj];exact aT4 aIF.sorted hlt h0,aIF.rsp j hm⟩;have hkm:((k:Int)-1).toNat=k-1:=by omega
  have hrs:j.rsp=oW↔j.rsp.id=0∧j.rsp.code=0∧(j.rsp.data.length:Int)=0:=by obtain⟨w,n,⟨i,d,x⟩⟩:=j;simp only[oW,Rsp.mk.injEq];refine⟨fun⟨h1,h2,h3⟩=>⟨h1,h2,by rw[h3];rfl⟩,fun⟨h1,h2,h3⟩=>⟨h1,h2,H4.1 (by omega)⟩⟩
  by_cases hw:0≤j.who∧j.who≤2
  ·have hask:=har j.who.toNat (by omega);have hw12:=hp12 j.who.toNat;by_cases hn:0≤j.n∧j.n≤a.getD j.who.toNat default-1
   ·have hin:InA a j:=⟨hw,hn.1,by omega⟩
    cases b with
    |false=>
     by_cases h0:0<k
     ·by_cases hbef:uL (l.getD (k-1) default) j=true
      ·repeat' first| (first|apply bn1|apply bpJ (by omega)|refine bpL (fun h=> ?_) fun h=> ?_|apply aBC|apply c9)<;>(simp only[go_sem,hj',eq_true hw,eq_true hn,hbef,hp3,ha,hkm];try simp (disch:=omega) only[Iw])|apply bn2 (by omega)|refine bnE (fun h=> ?_) fun h=> ?_|refine⟨by omega,?_⟩|fail
       all_goals first| (refine hKL _ _ _ ⟨k+1,by omega,hgood hin (fun _=>hbef) (by rw[if_neg (by decide)];exact hrs.2 ⟨by omega,by omega,by omega⟩)⟩ (by omega) (by(try dsimp only);omega) (bU (m5 _) (by repeat' first|exact bo2|refine xqI rfl rfl ?_|fail)))|exact aZ hQ (dB false) rfl rfl (congrArg dB (hbad fun⟨_,_,h3⟩=>by rw[if_neg (by decide)] at h3;have:=hrs.1 h3;omega)).symm
      ·have hbf:=eq_false_of_ne_true hbef;repeat' first| (first|apply bn1|apply bpJ (by omega)|apply aBC|apply c9)<;>(simp only[go_sem,hj',eq_true hw,eq_true hn,hbf,hp3,ha,hkm];try simp (disch:=omega) only[Iw])|apply bn2 (by omega)|refine⟨by omega,?_⟩|fail
       all_goals exact aZ hQ (dB false) rfl rfl (congrArg dB (hbad fun⟨_,h2,_⟩=>hbef (h2 h0))).symm
     ·repeat' first| (first|apply bn1|apply bpK (by omega)|refine bpL (fun h=> ?_) fun h=> ?_|apply aBC)<;>(simp only[go_sem,hj',eq_true hw,eq_true hn,hp3,ha,hkm];try simp (disch:=omega) only[Iw])|apply bn2 (by omega)|refine bnE (fun h=> ?_) fun h=> ?_|refine⟨by omega,?_⟩|fail
      all_goals first| (refine hKL _ _ _ ⟨k+1,by omega,hgood hin (fun h=>absurd h h0) (by rw[if_neg (by decide)];exact hrs.2 ⟨by omega,by omega,by omega⟩)⟩ (by omega) (by(try dsimp only);omega) (bU (m5 _) (by repeat' first|exact bo2|refine xqI rfl rfl ?_|fail)))|exact aZ hQ (dB false) rfl rfl (congrArg dB (hbad fun⟨_,_,h3⟩=>by rw[if_neg (by decide)] at h3;have:=hrs.1 h3;omega)).symm
    |true=>
     by_cases h0:0<k
     ·by_cases hbef:uL (l.getD (k-1) default) j=true
      ·repeat' first| (first|apply bn1|apply bpJ (by omega)|refine bpL (fun h=> ?_) fun h=> ?_|apply aBC|apply c9|apply aMP (show j.rsp.data.length<2^40 by omega))<;>(simp only[go_sem,hj',eq_true hw,eq_true hn,hbef,hp3,ha,hkm];try simp (disch:=omega) only[Iw])|apply bn2 (by omega)|refine⟨by omega,?_⟩|fail
       all_goals first| (refine hKL _ _ _ ⟨k+1,by omega,hgood hin (fun _=>hbef) (by rw[if_pos rfl];exact⟨Classical.not_not.1 (by assumption),by unfold bT;omega⟩)⟩ (by omega) (by(try dsimp only);omega) (bU (m5 _) (by repeat' first|exact bo2|refine xqI rfl rfl ?_|fail)))|exact aZ hQ (dB false) rfl rfl (congrArg dB (hbad fun⟨_,_,h3⟩=>by rw[if_pos rfl] at h3;obtain⟨h4,h5⟩:=h3;unfold bT at h5;first|omega|exact absurd h4 (by assumption)|simp_all)).symm
      ·have hbf:=eq_false_of_ne_true hbef;repeat' first| (first|apply bn1|apply bpJ (by omega)|apply aBC|apply c9)<;>(simp only[go_sem,hj',eq_true hw,eq_true hn,hbf,hp3,ha,hkm];try simp (disch:=omega) only[Iw])|apply bn2 (by omega)|refine⟨by omega,?_⟩|fail
       all_goals exact aZ hQ (dB false) rfl rfl (congrArg dB (hbad fun⟨_,h2,_⟩=>hbef (h2 h0))).symm
     ·repeat' first| (first|apply bn1|apply bpK (by omega)|refine bpL (fun h=> ?_) fun h=> ?_|apply aBC|apply aMP (show j.rsp.data.length<2^40 by omega))<;>(simp only[go_sem,hj',eq_true hw,eq_true hn,hp3,ha,hkm];try simp (disch:=omega) only[Iw])|apply bn2 (by omega)|refine⟨by omega,?_⟩|fail
      all_goals first| (refine hKL _ _ _ ⟨k+1,by omega,hgood hin (fun h=>absurd h h0) (by rw[if_pos rfl];exact⟨Classical.not_not.1 (by assumption),by unfold bT;omega⟩)⟩ (by omega) (by(try dsimp only);omega) (bU (m5 _) (by repeat' first|exact bo2|refine xqI rfl rfl ?_|fail)))|exact aZ hQ (dB false) rfl rfl (congrArg dB (hbad fun⟨_,_,h3⟩=>by rw[if_pos rfl] at h3;obtain⟨h4,h5⟩:=h3;unfold bT at h5;first|omega|exact absurd h4 (by assumption)|simp_all)).symm
   ·repeat' first| (first|apply bn1|apply aBC)<;>(simp only[go_sem,hj',eq_true hw,eq_false hn,ha];try simp (disch:=omega) only[Iw])|apply bn2 (by omega)|refine⟨by omega,?_⟩|fail
    all_goals first| (exfalso;omega)|exact aZ hQ (dB false) rfl rfl (congrArg dB (hbad fun⟨h1,_,_⟩=>hn ⟨h1.2.1,by have:=h1.2.2;omega⟩)).symm
  ·repeat' first| (first|apply bn1|apply aBC)<;>(simp only[go_sem,hj',eq_false hw])|apply bn2 (by omega)|refine⟨by omega,?_⟩|fail
   all_goals first| (exfalso;omega)|exact aZ hQ (dB false) rfl rfl (congrArg dB (hbad fun⟨h1,_,_⟩=>hw h1.1)).symm
 ·repeat' first|apply bn1<;>(simp only[go_sem])|apply bn3 (by omega)|fail
  have hk2:k=l.length:=by omega
  subst hk2;exact aZ hQ (dB true) rfl rfl (congrArg dB (aQD ⟨fun x hx=>aKJ (fun i hi=>(hinv i hi).1) x hx,aTV fun i hi=>(hinv i hi).2.1,fun x hx=>aKJ (P:=fun x=>if b then as5 c x else x.rsp=oW) (fun i hi=>(hinv i hi).2.2) x hx⟩).symm)
end
theorem aTP (h: ∀i,i<l.length→key (l.getD i default)∉(l.take i).map key):(l.map key).Nodup:=by refine brY.2 (Z6.2 fun i j hi hj hij he=> ?_);apply h j hj;rw[show l.getD j default=l[j] by simp[List.getD,hj],←he];exact brI (bqY.2 ⟨i,by simp;omega,by simp⟩)
theorem aTN (h:(l.map key).Nodup){i:Nat} (hi:i<l.length):key (l.getD i default)∉(l.take i).map key:=by
 intro hm;obtain⟨x,hx,he⟩:=CF.1 hm;obtain⟨j,hj,rfl⟩:=bqY.1 hx;have hji:j<i:=by simp at hj;omega
 have h1:=Z6.1 (brY.1 h) j i (by omega) hi hji;rw[show l.getD i default=l[i] by simp[List.getD,hi]] at he;simp only[brU] at he;exact h1 he
section
variable {H : aA} {nx : Nat} {K : D → aA → Nat → Prop}
theorem aMG {c:Cfg} {s:TSt} (hb:aQ c) (ha:s.asked.length=3) (har:aTF c s.asked) (hl:s.told.length<2^21) (hd: ∀j∈s.told,j.rsp.data.length<2^21) (h:K (dB (aRF c s)) H nx):aB Tryz.prog aIX [boR (cU c),boR (eSt s)] H nx K:=by
 refine aB.pure (args0:=[boR (cU c),boR (eSt s)]) (R:=fun rr=>rr=dB (aRF c s)) ?_ rfl (aI ⟨aE rfl,aE rfl,trivial⟩) (fun r hr=>hr▸h);clear h;refine aK7 rfl fun Q hQ=> ?_;unfold aJD;obtain⟨hp3,hp12⟩:=hC hb;repeat' first|apply bn1<;>(simp only[go_sem])|fail
 (refine aM.loop (α:={k:Nat//k≤s.told.length∧(∀i,i<k→InA s.asked (s.told.getD i default)∧as5 c (s.told.getD i default)∧key (s.told.getD i default)∉(s.told.take i).map key)}) (fun u=>en [(5,boP u.1),(3,.one (.c (.fQ (eSt s)))),(2,.one (.c (.fQ (cU c))))]) (fun _=>.nil) _ (fun u=>s.told.length-u.1) ⟨0,by omega,(by intros;first|trivial|omega)⟩ (bU (m5 _) (by repeat' first|exact bo2|refine xqI rfl rfl ?_| (with_reducible apply bo3)| ((with_reducible apply bo1);exact bpH rfl (by simp) rfl rfl rfl)|fail)) ?_);(rintro⟨k,hk,hinv⟩ bpQ hKL);by_cases hlt:k<s.told.length
 ·obtain⟨j,hj⟩: ∃j,j=s.told.getD k default:=⟨_,rfl⟩
  have hj':=hj.symm;have hm:j∈s.told:=by rw[hj];exact cC hlt
  have hdl:=hd j hm;have hgood:InA s.asked j→as5 c j→key j∉(s.told.take k).map key→∀i,i<k+1→InA s.asked (s.told.getD i default)∧as5 c (s.told.getD i default)∧key (s.told.getD i default)∉(s.told.take i).map key:=fun h1 h2 h3=>iS hinv (by rw[hj'];exact⟨h1,h2,h3⟩);have hbad: ¬(InA s.asked j∧as5 c j∧key j∉(s.told.take k).map key)→aRF c s=false:=fun h=>aTL fun aIF=>h ⟨aIF.inA j hm,aIF.rsp j hm,by rw[hj];exact aTN aIF.once hlt⟩;by_cases hw:0≤j.who∧j.who≤2
  ·have hask:=har j.who.toNat (by omega);have hw12:=hp12 j.who.toNat;by_cases hn:0≤j.n∧j.n≤s.asked.getD j.who.toNat default-1
   ·have hin:InA s.asked j:=⟨hw,hn.1,by omega⟩
    by_cases hr:pA j.rsp
    ·by_cases hid:j.rsp.id=((c.cP.getD j.who.toNat default).getD j.n.toNat default).id
     ·have hra:as5 c j:=⟨hr,hid⟩
      by_cases hk0:0≤bK (iM j.who j.n) (s.told.take k)
      ·repeat' first| (first|apply bn1|apply aBC|apply aMP (show j.rsp.data.length<2^40 by omega)| (apply aKK (l:=s.told.take k) (by simp;omega)))<;>(simp only[go_sem,hj',eq_true hw,eq_true hn,eq_true hr,hid.symm,hp3,ha];try simp (disch:=omega) only[Iw])|apply bn2 (by omega)|refine⟨by omega,?_⟩|fail
       all_goals first| (exfalso;omega)|exact aZ hQ (dB false) rfl rfl (congrArg dB (hbad fun⟨_,_,h⟩=>h (ZP.1 hk0))).symm
      ·repeat' first| (first|apply bn1|apply aBC|apply aMP (show j.rsp.data.length<2^40 by omega)| (apply aKK (l:=s.told.take k) (by simp;omega)))<;>(simp only[go_sem,hj',eq_true hw,eq_true hn,eq_true hr,hid.symm,hp3,ha];try simp (disch:=omega) only[Iw])|apply bn2 (by omega)|apply bn3 (by omega)|refine⟨by omega,?_⟩|fail
       all_goals first| (exfalso;omega)| (refine hKL _ _ _ ⟨k+1,by omega,hgood hin hra (fun h=>hk0 (ZP.2 h))⟩ (by omega) (by(try dsimp only);omega) (bU (m5 _) (by repeat' first|exact bo2|refine xqI rfl rfl ?_|fail)))
     ·repeat' first| (first|apply bn1|apply bpJ (by omega)|apply aBC|apply aMP (show j.rsp.data.length<2^40 by omega))<;>(simp only[go_sem,hj',eq_true hw,eq_true hn,eq_true hr,hp3,ha];try simp (disch:=omega) only[Iw])|apply bn2 (by omega)|refine⟨by omega,?_⟩|fail
      all_goals first| (exfalso;omega)|exact aZ hQ (dB false) rfl rfl (congrArg dB (hbad fun⟨_,h,_⟩=>hid h.2)).symm
    ·repeat' first| (first|apply bn1|apply aBC|apply aMP (show j.rsp.data.length<2^40 by omega))<;>(simp only[go_sem,hj',eq_true hw,eq_true hn,eq_false hr,hp3,ha];try simp (disch:=omega) only[Iw])|apply bn2 (by omega)|refine⟨by omega,?_⟩|fail
     all_goals first| (exfalso;omega)|exact aZ hQ (dB false) rfl rfl (congrArg dB (hbad fun⟨_,h,_⟩=>hr h.1)).symm
   ·repeat' first| (first|apply bn1|apply aBC)<;>(simp only[go_sem,hj',eq_true hw,eq_false hn,ha];try simp (disch:=omega) only[Iw])|apply bn2 (by omega)|refine⟨by omega,?_⟩|fail
    all_goals first| (exfalso;omega)|exact aZ hQ (dB false) rfl rfl (congrArg dB (hbad fun⟨h1,_,_⟩=>hn ⟨h1.2.1,by have:=h1.2.2;omega⟩)).symm
  ·repeat' first| (first|apply bn1|apply aBC)<;>(simp only[go_sem,hj',eq_false hw])|apply bn2 (by omega)|refine⟨by omega,?_⟩|fail
   all_goals first| (exfalso;omega)|exact aZ hQ (dB false) rfl rfl (congrArg dB (hbad fun⟨h1,_,_⟩=>hw h1.1)).symm
 ·repeat' first|apply bn1<;>(simp only[go_sem])|apply bn3 (by omega)|fail
  have hk2:k=s.told.length:=by omega
  subst hk2;exact aZ hQ (dB true) rfl rfl (congrArg dB (aTM ⟨fun x hx=>aKJ (fun i hi=>(hinv i hi).1) x hx,aTP fun i hi=>(hinv i hi).2.2,fun x hx=>aKJ (P:=as5 c) (fun i hi=>(hinv i hi).2.1) x hx⟩).symm)
end
end Go.Proofs.YtmccpdapaccnoaaGreat
