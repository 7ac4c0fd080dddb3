/- Texts laid together by a program: rules, contracts and the walk that leads to the law. -/
import Derived.Test.YtmccpdapaccnoaaGreatPK9
import Derived.Test.YtmccpdapaccnoaaGreatPK28
import Derived.Test.YtmccpdapaccnoaaGreatPK23
import Derived.Test.YtmccpdapaccnoaaGreatPK24
import Derived.Test.YtmccpdapaccnoaaGreatPK6
set_option linter.unusedVariables false
set_option linter.unusedSimpArgs false
set_option linter.unusedSectionVars false
set_option maxRecDepth 100000
set_option maxHeartbeats 8000000
namespace Go.Proofs.YtmccpdapaccnoaaGreat
open Go Go.AM
attribute [local irreducible] aM wv aB vd wvH
section
variable {H : aA} {nx : Nat} {K : D → aA → Nat → Prop}
theorem bh5:cJ Tryz.prog bgS Tryz.f114 bgP bhE:=cJ.mk Tryz.func114 (by kernel_rfl) bh8
theorem biL {l:List Int} {p i:Nat} {n:Int} (hn:0<n∧n<9000) (hl:kZ l) (hp50:p+5000<2^50) (hi:i<nx) (ho:H i=some (rdO l p))
 (h: ∀H' nx' p' (c:Cfg) (s:CSt),nx≤nx'→p'≤p+4500→jO c→beL s→bdV s→H' i=some (rdO l p')→(∀id,id<nx→id≠i→H' id=H id)→K (.tup [.agg (cU c),.agg (eI s)]) H' nx'):aB Tryz.prog bgS [bkP 2 i,boP n] H nx K:=by
 apply aB.tW
 refine bh5 rfl fun Q hQ=> ?_
 unfold bgP
 have hA:bQ nx [i]:=AM.apart (by simp) (by simp;omega)
 simp only[bQ,eZ] at hA
 repeat' first| (first|apply bn1| (refine bjP (p:=p) hl (by omega) (by omega) (by rw[aA.aC (by omega),aA.aC (by omega)];exact ho) (fun H1 nx1 p1 c s nm cells hx1 hp1 hbok hbfit hsk hR1 hN1 hi1 hf1=> ?_)))<;>(simp only[go_sem,boC,hA])|fail
 have hcl:cells.length=5:=by obtain⟨_,_,_,_,_,rfl,_⟩:=hR1.ex;rfl
 have hrow:cells++List.drop cells.length [D1.osl 0 0 0 0 0,.osl 0 0 0 0 0,.osl 0 0 0 0 0,.osl 0 0 0 0 0,.osl 0 0 0 0 0]=cells:=by rw[hcl];simp
 refine⟨hcl,by omega,?_⟩
 rw[hrow]
 try apply bn0
 clear hrow
 have hlt:=hN1.lt
 have hav: ∀k,k<19→nx+11≤nm k:=fun k hk=>Nat.le_of_not_lt (hN1.av k hk)
 generalize bqK:aA.set _ (nx+8) _=G
 have bp4:G (nx+8)=some ⟨5,1,[cells]⟩:=by rw[←bqK];exact aA.bH
 have bkV:G (nx+7)=some ⟨3,1,[cU c]⟩:=by rw[←bqK,aA.aC (by omega)];exact aA.bH
 have gi:G i=some (rdO l p1):=by rw[←bqK,aA.aC (by omega),aA.aC (by omega)];exact hi1
 have bqC:G nx=some ⟨3,1,[[.osl 0 0 0 0 0,.osl 0 0 0 0 0,.osl 0 0 0 0 0]]⟩:=by rw[←bqK,aA.aC (by omega),aA.aC (by omega),hf1 _ (by omega) (by omega),aA.aC (by omega)];exact aA.bH
 have g1:G (nx+1)=some ⟨5,1,[[.osl 0 0 0 0 0,.osl 0 0 0 0 0,.osl 0 0 0 0 0,.osl 0 0 0 0 0,.osl 0 0 0 0 0]]⟩:=by rw[←bqK,aA.aC (by omega),aA.aC (by omega),hf1 _ (by omega) (by omega)];exact aA.bH
 have gf: ∀id,id<nx→id≠i→G id=H id:=fun id d1 d2=>by rw[←bqK,aA.aC (by omega),aA.aC (by omega),hf1 _ (by omega) d2,aA.aC (by omega),aA.aC (by omega)]
 have hR:abY G nm s cells:=hR1.frame fun k hk=>by have:=hav k hk;rw[←bqK,aA.aC (by omega),aA.aC (by omega)]
 clear bqK hR1 hi1 hf1
 have endA: ∀(aID:aA) (nx2 p2:Nat) (c2:Cfg) (s2:CSt) (cells2:List D1) (F:Nat→Prop),nx≤nx2→p2≤p+4500→jO c2→beL s2→bdV s2→(∀j,F j→nx+9≤j)→VK ((aID.set nx ⟨3,1,[cU c2]⟩).set (nx+1) ⟨5,1,[cells2]⟩) F (eI s2) cells2→cells2.length=5→aID i=some (rdO l p2)→(∀id,id<nx→id≠i→aID id=H id)→
  ∀{e2:Env},e2 4= .one (.c (.ptr 3 nx 0 0))→e2 5= .one (.c (.ptr 5 (nx+1) 0 0))→Q .ret e2 ((aID.set nx ⟨3,1,[cU c2]⟩).set (nx+1) ⟨5,1,[cells2]⟩) nx2:=fun aID nx2 p2 c2 s2 cells2 F az9 az2 aAD aAE aAA aAF aAC aAB aAG blP e2 blQ blR=>by
  refine hQ _ _ _ _ _ (.inr rfl) (bjT blQ ((aA.aC (by omega)).trans aA.bH) rfl blR aA.bH aAB) ⟨.tup [.agg (cU c2),.agg (eI s2)],without F ((aID.set nx ⟨3,1,[cU c2]⟩).set (nx+1) ⟨5,1,[cells2]⟩),F,ay7 (aH (bB rfl) (aH (bB rfl) (aH (bB rfl) eP))) (A8 aAC),kS,h _ nx2 p2 c2 s2 az9 az2 aAD aAE aAA ?_ fun id d1 d2=> ?_⟩
  ·rw[iI (fun hj=>by have:=aAF _ hj;omega),aA.aC (by omega),aA.aC (by omega)];exact aAG
  ·rw[iI (fun hj=>by have:=aAF _ hj;omega),aA.aC (by omega),aA.aC (by omega)];exact blP id d1 d2
 have endR: ∀(aID:aA) (nx2 p2:Nat) (c2:Cfg) (s2:CSt) (nm2:Nat→Nat) (cells2:List D1),nx≤nx2→p2≤p+4500→jO c2→beL s2→bdV s2→s2.dD.length=4→abY aID nm2 s2 cells2→(∀k,k<19→nx+9≤nm2 k)→aID i=some (rdO l p2)→(∀id,id<nx→id≠i→aID id=H id)→
  ∀{e2:Env},e2 4= .one (.c (.ptr 3 nx 0 0))→e2 5= .one (.c (.ptr 5 (nx+1) 0 0))→Q .ret e2 ((aID.set nx ⟨3,1,[cU c2]⟩).set (nx+1) ⟨5,1,[cells2]⟩) nx2:=fun aID nx2 p2 c2 s2 nm2 cells2 az9 az2 aAD aAE aAA aAF aAC aAB aAG blP e2 blQ blR=>by
  refine endA aID nx2 p2 c2 s2 cells2 (fun j=>∃k,k<19∧j=nm2 k) az9 az2 aAD aAE aAA (fun j ⟨k,hk,hj⟩=>hj▸aAB k hk) ((aAC.frame fun k hk=> ?_).VI (fun k hk=>⟨k,hk,rfl⟩) aAA.pl aAF) ?_ aAG blP blQ blR
  ·have:=aAB k hk;rw[aA.aC (by omega),aA.aC (by omega)]
  ·obtain⟨_,_,_,_,_,rfl,_⟩:=aAC.ex;rfl
 have hB:=hsk.base hbok
 have hcf:beL s∧bdV s:=hB.bj4.fit
 have hA1:bQ nx1 [i,nx,nx+1,nx+7,nx+8]:=AM.apart (by simp;omega) (by simp;omega)
 simp only[bQ,eZ] at hA1
 (try simp only[go_sem,boC,bkV,bp4,gi,bqC,g1,hcl,hA1,boC]);repeat' first| (first|apply bn1|refine d6 (p:=p1) hn hl (by omega) (by omega) gi (fun p2 bb hp2 hp3 _=> ?_))<;>(simp only[go_sem,boC,bkV,bp4,gi,bqC,g1,hcl,hA1,boC])| ((refine bnF (fun h=> ?_) (fun h=> ?_))<;>try subst h)|fail
 case refine_2=>exact endR _ _ p2 c s nm cells (by omega) (by omega) hbfit hcf.1 hcf.2 hsk.sl (hR.frame fun k hk=>aA.aC (by have:=hav k hk;omega)) (fun k hk=>by have:=hav k hk;omega) aA.bH (fun id d1 d2=>by rw[aA.aC d2];exact gf id d1 d2) rfl rfl
 refine aX (p:=p2) (n:=3) hl (by omega) (by omega) (by omega) aA.bH fun x h1 h2=> ?_
 obtain⟨k,hk,rfl⟩: ∃k:Nat,k<3∧x=k:=⟨x.toNat,by omega,by omega⟩
 (try simp only[go_sem,boC,bkV,bp4,gi,bqC,g1,hcl,hA1,boC]);repeat' first|apply bn1<;>(simp only[go_sem,boC,bkV,bp4,gi,bqC,g1,hcl,hA1,boC])|fail
 refine aX (p:=p2+1) (n:=11) hl (by omega) (by omega) (by omega) aA.bH fun y h3 h4=> ?_
 generalize hG2:aA.set _ i (rdO l (p2+1+1))=aID
 have aU6:aID (nx+8)=some ⟨5,1,[cells]⟩:=by rw[←hG2];simp (disch:=omega) only[aA.aC];exact bp4
 have aU5:aID (nx+7)=some ⟨3,1,[cU c]⟩:=by rw[←hG2];simp (disch:=omega) only[aA.aC];exact bkV
 have ri:aID i=some (rdO l (p2+2)):=by rw[←hG2];exact aA.bH
 have r0:aID nx=some ⟨3,1,[[.osl 0 0 0 0 0,.osl 0 0 0 0 0,.osl 0 0 0 0 0]]⟩:=by rw[←hG2];simp (disch:=omega) only[aA.aC];exact bqC
 have r1:aID (nx+1)=some ⟨5,1,[[.osl 0 0 0 0 0,.osl 0 0 0 0 0,.osl 0 0 0 0 0,.osl 0 0 0 0 0,.osl 0 0 0 0 0]]⟩:=by rw[←hG2];simp (disch:=omega) only[aA.aC];exact g1
 have rf: ∀id,id<nx→id≠i→aID id=H id:=fun id d1 d2=>by rw[←hG2];simp (disch:=omega) only[aA.aC];exact gf id d1 d2
 have hR2:bgJ (fun j=>j<nx+9) aID nx1 nm s cells:=⟨hR.frame fun k hk=>by have:=hav k hk;rw[←hG2];simp (disch:=omega) only[aA.aC],⟨hN1.inj,hN1.lt,fun k hk hj=>by have:=hav k hk;have hj:nm k<nx+9:=hj;omega⟩,fun id hid=>by have hid:id<nx+9:=hid;omega⟩
 clear hG2 bp4 bkV gi bqC g1 gf hR
 have hRp:Rep (fun j=>j<nx+8) aID nx1 (nx+8) nm s:=⟨⟨cells,aU6,hR2.rep⟩,⟨hN1.inj,hN1.lt,fun k hk hj=>by have:=hav k hk;have hj:nm k<nx+8:=hj;omega⟩,fun k hk he=>by have:=hav k hk;omega,⟨by omega,fun hj=>by have hj:nx+8<nx+8:=hj;omega⟩,fun id hid=>by have hid:id<nx+8:=hid;omega⟩
 obtain⟨wc,hc,pc,vc,tc,mp,rp,mv,rv,rfl,j1,j2,bqB,q1,q2,hpc,hvc,hrp,hrv,hports,hslvs⟩:=hR2.get
 have hm2:=hav 2 (by omega)
 have hm3:=hav 3 (by omega)
 have hl2:=hlt 2 (by omega)
 have hl3:=hlt 3 (by omega)
 have hm23:nm 2≠nm 3:=fun he=>by have:=hN1.inj 2 3 (by omega) (by omega) he;omega
 have hA2:bQ nx1 [i,nx,nx+1,nx+7,nx+8,nm 2,nm 3]:=AM.apart (by simp;omega) (by simp;omega)
 simp only[bQ,eZ] at hA2
 have mi: ∀(G:aA) (b j:Nat),msk (nx1+b) [j] G i=G i:=fun G b j=>mk1 (by omega)
 have aHK: ∀(G:aA) (b j:Nat),msk (nx1+b) [j] G (nx+8)=G (nx+8):=fun G b j=>mk1 (by omega)
 have bp3: ∀(G:aA) (b j:Nat),msk (nx1+b) [j] G (nm 2)=G (nm 2):=fun G b j=>mk1 (by omega)
 have bqM: ∀(G:aA) (b j:Nat),msk (nx1+b) [j] G (nm 3)=G (nm 3):=fun G b j=>mk1 (by omega)
 have nme: ∀a b,a<19→b<19→a≠b→nm a≠nm b:=fun a b h1 h2 h3 h4=>h3 (hN1.inj a b h1 h2 h4)
 have endP: ∀(W:aA) (nx2 p3:Nat) (p':fR) (r:List D1) (nm':Nat→Nat),nx≤nx2→p3≤p+4500→p'.queue.length≤3→p'.out.length≤5→W (nm 2)=some ⟨4,mp,rp.set k r⟩→CX W (nm' (5+k)) (nm' (8+k)) p' r→(∀a,a<19→a≠5+k→a≠8+k→nm' a=nm a)→nx+9≤nm' (5+k)→nx+9≤nm' (8+k)→(∀a,a<19→a≠2→a≠5+k→a≠8+k→W (nm a)=aID (nm a))→W i=some (rdO l p3)→(∀id,id<nx→id≠i→W id=H id)→∀{e2:Env},e2 4= .one (.c (.ptr 3 nx 0 0))→e2 5= .one (.c (.ptr 5 (nx+1) 0 0))→Q .ret e2 ((W.set nx ⟨3,1,[cU c]⟩).set (nx+1) ⟨5,1,[[.osl 1 (nm 0) 0 s.words.length wc,.osl 1 (nm 1) 0 s.holds.length hc,.osl 4 (nm 2) 0 3 pc,.osl 3 (nm 3) 0 4 vc,.osl 5 (nm 4) 0 s.told.length tc]]⟩) nx2:=fun W nx2 p3 p' r nm' az9 az2 aAD aAE aAA aAF aAC aAB aAG blP blQ blR e2 blS blT=>by
  have hN:=(hB.aEL hk aAD aAE).fit;refine endR W nx2 p3 c {s with bM:=s.bM.set k p'} nm' _ az9 az2 hbfit hN.1 hN.2 hsk.sl (hR2.rep.aEL hsk.pl hk j1 aAA aAF aAC blP) (fun a ha=> ?_) blQ blR blS blT;by_cases e1:a=5+k;·rw[e1];exact aAB
  ·by_cases e2:a=8+k;·rw[e2];exact aAG
   ·rw[aAC a ha e1 e2];have:=hav a ha;omega
 have endV: ∀(W:aA) (nx2 p3:Nat) (v':nY) (r:List D1) (nm':Nat→Nat),nx≤nx2→p3≤p+4500→v'.pipe.length≤3→v'.done.length≤3→(∀j∈v'.done,j.rsp.data.length<2^20)→W (nm 3)=some ⟨3,mv,rv.set k r⟩→LJ W (nm' (11+k)) (nm' (15+k)) v' r→(∀a,a<19→a≠11+k→a≠15+k→nm' a=nm a)→nx+9≤nm' (11+k)→nx+9≤nm' (15+k)→(∀a,a<19→a≠3→a≠11+k→a≠15+k→W (nm a)=aID (nm a))→W i=some (rdO l p3)→(∀id,id<nx→id≠i→W id=H id)→∀{e2:Env},e2 4= .one (.c (.ptr 3 nx 0 0))→e2 5= .one (.c (.ptr 5 (nx+1) 0 0))→Q .ret e2 ((W.set nx ⟨3,1,[cU c]⟩).set (nx+1) ⟨5,1,[[.osl 1 (nm 0) 0 s.words.length wc,.osl 1 (nm 1) 0 s.holds.length hc,.osl 4 (nm 2) 0 3 pc,.osl 3 (nm 3) 0 4 vc,.osl 5 (nm 4) 0 s.told.length tc]]⟩) nx2:=fun W nx2 p3 v' r nm' az9 az2 aAD aAE blU aAA aAF aAC aAB aAG blP blQ blR e2 blS blT=>by
  have hN:=(hB.bkF (show k<4 by omega) aAD aAE blU).fit;refine endR W nx2 p3 c {s with dD:=s.dD.set k v'} nm' _ az9 az2 hbfit hN.1 hN.2 (by dsimp only;rw[Y5];exact hsk.sl) (hR2.rep.bkF hsk.sl (show k<4 by omega) j2 aAA aAF aAC blP) (fun a ha=> ?_) blQ blR blS blT;by_cases e1:a=11+k;·rw[e1];exact aAB
  ·by_cases e2:a=15+k;·rw[e2];exact aAG
   ·rw[aAC a ha e1 e2];have:=hav a ha;omega
 have hy:y=0∨y=1∨y=2∨y=3∨y=4∨y=5∨y=6∨y=7∨y=8∨y=9∨y=10:=by omega
 have hk0:(0≤(k:Int)∧(k:Int)<((3:Nat):Int)):=⟨by omega,by omega⟩
 have hk4:(0≤(k:Int)∧(k:Int)<((4:Nat):Int)):=⟨by omega,by omega⟩
 rcases hy with rfl|rfl|rfl|rfl|rfl|rfl|rfl|rfl|rfl|rfl|rfl
 · (try simp only[go_sem,boC,aU5,aU6,ri,r0,r1,hA2,boC]);repeat' first| (first|apply bn1|refine aW5 (p:=p2+2) (n:=2) (by omega) hl (by omega) (by omega) ri (fun p3 w u hp3 hp4 ⟨hw1,hw2⟩=> ?_))<;>(simp only[go_sem,boC,aU5,aU6,ri,r0,r1,hA2,boC])|fail
   have hN:=(hB.bkM hw1 hw2).fit
   refine endA _ _ p3 c {s with words:=w,holds:=u} _ (fun j=>∃a,a<19∧j=nm a) (by omega) (by omega) hbfit hN.1 hN.2 (fun j ⟨a,ha,hj⟩=>by have:=hav a ha;omega) ?_ rfl (by rw[aA.aC (by omega)];exact aA.bH) (fun id d1 d2=>by rw[aA.aC (by omega),aA.aC d2];exact rf id d1 d2) rfl rfl
   obtain⟨_,_,f2,bpS,bpT⟩:=abY.bkJ (F:=fun j=>∃a,a<19∧j=nm a) (hR2.rep.frame (H':=aA.set (aA.set (aA.set (aA.set aID i (rdO l p3)) (nx+8) ⟨5,1,[[.isl (w.map aJ),.isl (u.map aJ),.osl 4 (nm 2) 0 3 pc,.osl 3 (nm 3) 0 4 vc,.osl 5 (nm 4) 0 s.told.length tc]]⟩) nx ⟨3,1,[cU c]⟩) (nx+1) ⟨5,1,[[.isl (w.map aJ),.isl (u.map aJ),.osl 4 (nm 2) 0 3 pc,.osl 3 (nm 3) 0 4 vc,.osl 5 (nm 4) 0 s.told.length tc]]⟩) (fun a ha=>by have:=hav a ha;rw[aA.aC (by omega),aA.aC (by omega),aA.aC (by omega),aA.aC (by omega)])) (fun a ha=>⟨a,ha,rfl⟩) hsk.pl hsk.sl
   exact fO (.same _ rfl) (fO (.same _ rfl) (fO f2 (fO bpS (fO bpT LH))))
 ·obtain⟨qo,qc,oc,hrk,hq,hoo⟩:=hports k hk;(try simp only[go_sem,boC,aU5,aU6,ri,r0,r1,j1,hrp,hrk,hA2,boC]);repeat' first| (first|apply bn1|refine aX (p:=p2+2) (n:=3) hl (by omega) (by omega) (by omega) ri (fun z h5 h6=> ?_))<;>(simp only[go_sem,boC,aU5,aU6,ri,r0,r1,j1,hrp,hrk,hA2,boC])|refine⟨by omega,?_⟩|fail
  have hb:=hB.port k hk;have fr: ∀(o:bA) a,a<19→a≠2→((aID.set i (rdO l (p2+3))).set (nm 2) o) (nm a)=aID (nm a):=fun o a ha h2=>by have q1:=nme a 2 ha (by omega) h2;have q2:=hav a ha;rw[aA.aC q1,aA.aC (by omega)]
  exact endP _ _ (p2+3) {aF s k with next:=IntKind.i64.wrap (IntKind.i64.wrap ((aF s k).next+z)-1)} _ nm (by omega) (by omega) (by dsimp only;omega) (by dsimp only;omega) aA.bH ⟨qo,qc,oc,rfl,hq.frame (fr _ _ (by omega) (by omega)),hoo.frame (fr _ _ (by omega) (by omega))⟩ (fun _ _ _ _=>rfl) (by have:=hav (5+k) (by omega);omega) (by have:=hav (8+k) (by omega);omega) (fun a ha h2 _ _=>fr _ a ha h2) (by rw[aA.aC (by omega)];exact aA.bH) (fun id d1 d2=>by rw[aA.aC (by omega),aA.aC d2];exact rf id d1 d2) rfl rfl
 ·obtain⟨qo,qc,oc,hrk,hq,hoo⟩:=hports k hk;obtain⟨mq,rq0,blH,blI,aEP,blJ,aEQ,blK⟩:=hq.ex;rw[bqW] at blJ;have htk:List.take (aF s k).queue.length (List.drop qo rq0)=(aF s k).queue.map aJ:=by rw[blI,boL (by simp)]
  have hb:=hB.port k hk;have h5a:=hav (5+k) (by omega);have h5l:=hlt (5+k) (by omega);have h52:nm (5+k)≠nm 2:=nme _ _ (by omega) (by omega) (by omega);have h53:nm (5+k)≠nm 3:=nme _ _ (by omega) (by omega) (by omega);have hA3:bQ nx1 [i,nx,nx+1,nx+7,nx+8,nm 2,nm 3,nm (5+k)]:=AM.apart (by simp;omega) (by simp;omega);simp only[bQ,eZ] at hA3;have bqQ: ∀(G:aA) (b j:Nat),msk (nx1+b) [j] G (nm (5+k))=G (nm (5+k)):=fun G b j=>mk1 (by omega);(try simp only[go_sem,boC,aU5,aU6,ri,r0,r1,j1,hrp,hrk,blH,htk,aHK,bp3,bqQ,hA3,boC]);repeat' first| (first|apply bn1|refine aX (p:=p2+2) (n:=4) hl (by omega) (by omega) (by omega) ri (fun z h5 h6=> ?_))<;>(simp only[go_sem,boC,aU5,aU6,ri,r0,r1,j1,hrp,hrk,blH,htk,aHK,bp3,bqQ,hA3,boC])| (with_reducible first|refine fun(cap:Nat) (hcap:_≤cap)=> ?_|refine fun(hcp:_≤cap)=> ?_)|refine⟨by omega,?_⟩|fail
  generalize aYL:aA.set (aA.set _ (nx1+26) _) (nm 2) _=W;have bqI:W (nm 2)=some ⟨4,mp,rp.set k [cI (aF s k).next,.osl 1 (nx1+26) 0 ((aF s k).queue.length+1) cap,.osl 3 (nm (8+k)) 0 (aF s k).out.length oc,cI (aF s k).last]⟩:=by rw[←aYL];exact aA.bH
  have w26:W (nx1+26)=some ⟨1,cap,((aF s k).queue++[z]).map aJ⟩:=by rw[←aYL,aA.aC (by omega)];exact aA.bH
  have wf: ∀id,id<nx1→id≠i→id≠nm 2→id≠nm (5+k)→W id=aID id:=fun id d1 d2 d3 bkS=>by rw[←aYL];simp (disch:=omega) only[aA.aC,aA.jG]
  have wi:W i=some (rdO l (p2+3)):=by rw[←aYL];simp (disch:=omega) only[aA.aC,aA.bH]
  clear aYL;refine endP W _ (p2+3) {aF s k with queue:=(aF s k).queue++[z]} _ (put nm (5+k) (nx1+26)) (by omega) (by omega) (by simp;omega) (by dsimp only;omega) bqI ⟨0,cap,oc,?_,?_,?_⟩ (fun a _ h1 _=>jE h1) (by rw[t8];omega) (by rw[jE (by omega)];have:=hav (8+k) (by omega);omega) (fun a ha h2 h3 _=>wf _ (hlt a ha) (by have:=hav a ha;omega) (nme _ _ ha (by omega) h2) (nme _ _ ha (by omega) h3)) wi (fun id d1 d2=>(wf id (by omega) d2 (by omega) (by omega)).trans (rf id d1 d2)) rfl rfl;·rw[t8,jE (by omega)];simp[af5]
  ·rw[t8];exact⟨cap,_,w26,rfl,by simp,by simp,by simpa using hcap,by omega⟩
  ·rw[jE (by omega)];exact hoo.frame (wf _ (hlt _ (by omega)) (by have:=hav (8+k) (by omega);omega) (nme _ _ (by omega) (by omega) (by omega)) (nme _ _ (by omega) (by omega) (by omega)))
 ·obtain⟨qo,qc,oc,hrk,hq,hoo⟩:=hports k hk;obtain⟨mq,rq0,blH,blI,aEP,blJ,aEQ,blK⟩:=hoo.ex;rw[bqW] at blJ;have htk:List.take (aF s k).out.length rq0=(aF s k).out.map eCJ:=by rw[←bq5 (l:=rq0),blI,boL (by simp)]
  have hb:=hB.port k hk;have h5a:=hav (8+k) (by omega);have h5l:=hlt (8+k) (by omega);have h52:nm (8+k)≠nm 2:=nme _ _ (by omega) (by omega) (by omega);have h53:nm (8+k)≠nm 3:=nme _ _ (by omega) (by omega) (by omega);have hA3:bQ nx1 [i,nx,nx+1,nx+7,nx+8,nm 2,nm 3,nm (8+k)]:=AM.apart (by simp;omega) (by simp;omega);simp only[bQ,eZ] at hA3;have bqQ: ∀(G:aA) (b j:Nat),msk (nx1+b) [j] G (nm (8+k))=G (nm (8+k)):=fun G b j=>mk1 (by omega);(try simp only[go_sem,boC,aU5,aU6,ri,r0,r1,j1,hrp,hrk,blH,htk,aHK,bp3,bqQ,hA3,boC]);repeat' first| (first|apply bn1|refine aX (p:=p2+2) (n:=4) hl (by omega) (by omega) (by omega) ri (fun z h5 h6=> ?_)|refine aX (p:=p2+3) (n:=4) hl (by omega) (by omega) (by omega) aA.bH (fun blI h7 h8=> ?_))<;>(simp only[go_sem,boC,aU5,aU6,ri,r0,r1,j1,hrp,hrk,blH,htk,aHK,bp3,bqQ,hA3,boC])| (with_reducible first|refine fun(cap:Nat) (hcap:_≤cap)=> ?_|refine fun(hcp:_≤cap)=> ?_)|refine⟨by omega,?_⟩|fail
  generalize aYL:aA.set (aA.set _ (nx1+32) _) (nm 2) _=W;have bqI:W (nm 2)=some ⟨4,mp,rp.set k [cI (aF s k).next,.osl 1 (nm (5+k)) qo (aF s k).queue.length qc,.osl 3 (nx1+32) 0 ((aF s k).out.length+1) cap,cI (aF s k).last]⟩:=by rw[←aYL];exact aA.bH
  have w26:W (nx1+32)=some ⟨3,cap,((aF s k).out++[(⟨k,z,blI⟩:fC)]).map eCJ⟩:=by rw[←aYL,aA.aC (by omega),aA.bH,bqX];rfl
  have wf: ∀id,id<nx1→id≠i→id≠nm 2→id≠nm (8+k)→W id=aID id:=fun id d1 d2 d3 bkS=>by rw[←aYL];simp (disch:=omega) only[aA.aC,aA.jG]
  have wi:W i=some (rdO l (p2+4)):=by rw[←aYL];simp (disch:=omega) only[aA.aC,aA.bH]
  clear aYL;refine endP W _ (p2+4) {aF s k with out:=(aF s k).out++[(⟨k,z,blI⟩:fC)]} _ (put nm (8+k) (nx1+32)) (by omega) (by omega) (by dsimp only;omega) (by simp;omega) bqI ⟨qo,qc,cap,?_,?_,?_⟩ (fun a _ _ h1=>jE h1) (by rw[jE (by omega)];have:=hav (5+k) (by omega);omega) (by rw[t8];omega) (fun a ha h2 _ h3=>wf _ (hlt a ha) (by have:=hav a ha;omega) (nme _ _ ha (by omega) h2) (nme _ _ ha (by omega) h3)) wi (fun id d1 d2=>(wf id (by omega) d2 (by omega) (by omega)).trans (rf id d1 d2)) rfl rfl;·rw[t8,jE (by omega)];simp[af5]
  ·rw[jE (by omega)];exact hq.frame (wf _ (hlt _ (by omega)) (by have:=hav (5+k) (by omega);omega) (nme _ _ (by omega) (by omega) (by omega)) (nme _ _ (by omega) (by omega) (by omega)))
  ·rw[t8];exact⟨cap,_,w26,rfl,by simp,by simp,by simpa using hcap,by omega⟩
 ·obtain⟨qo,qc,oc,hrk,hq,hoo⟩:=hports k hk;have hb:=hB.port k hk;(try simp only[go_sem,boC,aU5,aU6,ri,r0,r1,j1,hrp,hrk,aHK,bp3,mi,hA2,boC]);repeat' first|apply bn1<;>(simp only[go_sem,boC,aU5,aU6,ri,r0,r1,j1,hrp,hrk,aHK,bp3,mi,hA2,boC])|fail
  refine aX (p:=p2+2) (n:=3) hl (by omega) (by omega) (by omega) (by rw[mi];exact ri) fun z h5 h6=> ?_;(try simp only[go_sem,boC,aU6,aHK,hA2]);repeat' first|apply bn1<;>(simp only[go_sem,boC,aU6,aHK,hA2])|fail
  generalize aU3:dT (nx1+18) [3] _ (msk (nx1+18) [3] aID)=V;have blV:V (nx1+21)=some ⟨1,3,[[.v (.int .i64 (-1))],[.v (.int .i64 4)],[.v (.int .i64 2)]]⟩:=by rw[show nx1+21=nx1+18+3 from rfl,←aU3,aH6];exact aA.bH
  have vf: ∀id,id≠nx1+21→V id=aID id:=fun id d1=>by rw[←aU3,um1 (by omega),mk1 (by omega)]
  clear aU3;have v0:=(vf nx (by omega)).trans r0;have v1:=(vf (nx+1) (by omega)).trans r1;have blW:=(vf (nx+7) (by omega)).trans aU5;have blX:=(vf (nx+8) (by omega)).trans aU6;have v2:=(vf (nm 2) (by omega)).trans j1;refine⟨fun _=>by rw[blX];rfl,by omega,?_⟩;obtain⟨v,hv⟩:=aN1 (L:=[[.v (.int .i64 (-1))],[.v (.int .i64 4)],[.v (.int .i64 2)]]) (by simp) h5 (by simp;omega);(try simp only[go_sem,boC,v0,v1,blW,blX,v2,blV,hv,hrk,hrp,hA2,aHK,bp3]);repeat' first|apply bn1<;>(simp only[go_sem,boC,v0,v1,blW,blX,v2,blV,hv,hrk,hrp,hA2,aHK,bp3])|refine⟨by omega,?_⟩|fail
  have fr: ∀(o:bA) a,a<19→a≠2→((V.set i (rdO l (p2+3))).set (nm 2) o) (nm a)=aID (nm a):=fun o a ha h2=>by have q1:=nme a 2 ha (by omega) h2;have q2:=hav a ha;have q3:=hlt a ha;rw[aA.aC q1,aA.aC (by omega),vf _ (by omega)]
  exact endP _ _ (p2+3) {aF s k with last:=v} _ nm (by omega) (by omega) (by dsimp only;omega) (by dsimp only;omega) aA.bH ⟨qo,qc,oc,rfl,hq.frame (fr _ _ (by omega) (by omega)),hoo.frame (fr _ _ (by omega) (by omega))⟩ (fun _ _ _ _=>rfl) (by have:=hav (5+k) (by omega);omega) (by have:=hav (8+k) (by omega);omega) (fun a ha h2 _ _=>fr _ a ha h2) (by rw[aA.aC (by omega)];exact aA.bH) (fun id d1 d2=>by rw[aA.aC (by omega),aA.aC d2,vf _ (by omega)];exact rf id d1 d2) rfl rfl
 ·obtain⟨po,pc2,do_,dc,hrk,hq,hoo⟩:=hslvs k (by omega);have hb:=hB.slv k (by omega);(try simp only[go_sem,boC,aU5,aU6,ri,r0,r1,j2,hrv,hrk,aHK,bqM,mi,hA2,boC]);repeat' first|apply bn1<;>(simp only[go_sem,boC,aU5,aU6,ri,r0,r1,j2,hrv,hrk,aHK,bqM,mi,hA2,boC])|fail
  refine aX (p:=p2+2) (n:=3) hl (by omega) (by omega) (by omega) (by rw[mi];exact ri) fun z h5 h6=> ?_;(try simp only[go_sem,boC,aU6,aHK,hA2]);repeat' first|apply bn1<;>(simp only[go_sem,boC,aU6,aHK,hA2])|fail
  generalize aU3:dT (nx1+20) [3] _ (msk (nx1+20) [3] aID)=V;have blV:V (nx1+23)=some ⟨1,3,[[.v (.int .i64 (-1))],[.v (.int .i64 3)],[.v (.int .i64 1)]]⟩:=by rw[show nx1+23=nx1+20+3 from rfl,←aU3,aH6];exact aA.bH
  have vf: ∀id,id≠nx1+23→V id=aID id:=fun id d1=>by rw[←aU3,um1 (by omega),mk1 (by omega)]
  clear aU3;have v0:=(vf nx (by omega)).trans r0;have v1:=(vf (nx+1) (by omega)).trans r1;have blW:=(vf (nx+7) (by omega)).trans aU5;have blX:=(vf (nx+8) (by omega)).trans aU6;have aXN:=(vf (nm 3) (by omega)).trans j2;refine⟨fun _=>by rw[blX];rfl,by omega,?_⟩;obtain⟨v,hv⟩:=aN1 (L:=[[.v (.int .i64 (-1))],[.v (.int .i64 3)],[.v (.int .i64 1)]]) (by simp) h5 (by simp;omega);(try simp only[go_sem,boC,v0,v1,blW,blX,aXN,blV,hv,hrk,hrv,hA2,aHK,bqM]);repeat' first|apply bn1<;>(simp only[go_sem,boC,v0,v1,blW,blX,aXN,blV,hv,hrk,hrv,hA2,aHK,bqM])|refine⟨by omega,?_⟩|fail
  have fr: ∀(o:bA) a,a<19→a≠3→((V.set i (rdO l (p2+3))).set (nm 3) o) (nm a)=aID (nm a):=fun o a ha h2=>by have q1:=nme a 3 ha (by omega) h2;have q2:=hav a ha;have q3:=hlt a ha;rw[aA.aC q1,aA.aC (by omega),vf _ (by omega)]
  exact endV _ _ (p2+3) {aL s k with last:=v} _ nm (by omega) (by omega) (by dsimp only;omega) (by dsimp only;omega) hb.2.2 aA.bH ⟨po,pc2,do_,dc,rfl,hq.frame (fr _ _ (by omega) (by omega)),hoo.frame (fr _ _ (by omega) (by omega))⟩ (fun _ _ _ _=>rfl) (by have:=hav (11+k) (by omega);omega) (by have:=hav (15+k) (by omega);omega) (fun a ha h2 _ _=>fr _ a ha h2) (by rw[aA.aC (by omega)];exact aA.bH) (fun id d1 d2=>by rw[aA.aC (by omega),aA.aC d2,vf _ (by omega)];exact rf id d1 d2) rfl rfl
 ·obtain⟨po,pc2,do_,dc,hrk,hq,hoo⟩:=hslvs k (by omega);obtain⟨mq,rq0,blH,blI,aEP,blJ,aEQ,blK⟩:=hq.ex;rw[bqW] at blJ;have htk:List.take (aL s k).pipe.length (List.drop po rq0)=(aL s k).pipe.map eCJ:=by rw[blI,boL (by simp)]
  have hb:=hB.slv k (by omega);have h5a:=hav (11+k) (by omega);have h5l:=hlt (11+k) (by omega);have h52:nm (11+k)≠nm 2:=nme _ _ (by omega) (by omega) (by omega);have h53:nm (11+k)≠nm 3:=nme _ _ (by omega) (by omega) (by omega);have hA3:bQ nx1 [i,nx,nx+1,nx+7,nx+8,nm 2,nm 3,nm (11+k)]:=AM.apart (by simp;omega) (by simp;omega);simp only[bQ,eZ] at hA3;have bqQ: ∀(G:aA) (b j:Nat),msk (nx1+b) [j] G (nm (11+k))=G (nm (11+k)):=fun G b j=>mk1 (by omega);(try simp only[go_sem,boC,aU5,aU6,ri,r0,r1,j2,hrv,hrk,blH,htk,aHK,bqM,bqQ,hA3,boC]);repeat' first| (first|apply bn1|refine aX (p:=p2+2) (n:=4) hl (by omega) (by omega) (by omega) ri (fun z h5 h6=> ?_)|refine aX (p:=p2+3) (n:=4) hl (by omega) (by omega) (by omega) aA.bH (fun blI h7 h8=> ?_)|refine aX (p:=p2+4) (n:=3) hl (by omega) (by omega) (by omega) aA.bH (fun aEP h9 h10=> ?_))<;>(simp only[go_sem,boC,aU5,aU6,ri,r0,r1,j2,hrv,hrk,blH,htk,aHK,bqM,bqQ,hA3,boC];try simp (disch:=omega) only[Iw])| (with_reducible first|refine fun(cap:Nat) (hcap:_≤cap)=> ?_|refine fun(hcp:_≤cap)=> ?_)|refine⟨by omega,?_⟩|fail
  generalize aYL:aA.set (aA.set _ (nx1+40) _) (nm 3) _=W;have bqI:W (nm 3)=some ⟨3,mv,rv.set k [.osl 3 (nx1+40) 0 ((aL s k).pipe.length+1) cap,.osl 5 (nm (15+k)) do_ (aL s k).done.length dc,cI (aL s k).last]⟩:=by rw[←aYL];exact aA.bH
  have w26:W (nx1+40)=some ⟨3,cap,((aL s k).pipe++[(⟨z-1,blI,aEP⟩:fC)]).map eCJ⟩:=by rw[←aYL,aA.aC (by omega),aA.bH,bqX];rfl
  have wf: ∀id,id<nx1→id≠i→id≠nm 3→id≠nm (11+k)→W id=aID id:=fun id d1 d2 d3 bkS=>by rw[←aYL];simp (disch:=omega) only[aA.aC,aA.jG]
  have wi:W i=some (rdO l (p2+5)):=by rw[←aYL];simp (disch:=omega) only[aA.aC,aA.bH]
  clear aYL;refine endV W _ (p2+5) {aL s k with pipe:=(aL s k).pipe++[(⟨z-1,blI,aEP⟩:fC)]} _ (put nm (11+k) (nx1+40)) (by omega) (by omega) (by simp;omega) (by dsimp only;omega) hb.2.2 bqI ⟨0,cap,do_,dc,?_,?_,?_⟩ (fun a _ h1 _=>jE h1) (by rw[t8];omega) (by rw[jE (by omega)];have:=hav (15+k) (by omega);omega) (fun a ha h2 h3 _=>wf _ (hlt a ha) (by have:=hav a ha;omega) (nme _ _ ha (by omega) h2) (nme _ _ ha (by omega) h3)) wi (fun id d1 d2=>(wf id (by omega) d2 (by omega) (by omega)).trans (rf id d1 d2)) rfl rfl;·rw[t8,jE (by omega)];simp[aj9]
  ·rw[t8];exact⟨cap,_,w26,rfl,by simp,by simp,by simpa using hcap,by omega⟩
  ·rw[jE (by omega)];exact hoo.frame (wf _ (hlt _ (by omega)) (by have:=hav (15+k) (by omega);omega) (nme _ _ (by omega) (by omega) (by omega)) (nme _ _ (by omega) (by omega) (by omega)))
 ·obtain⟨po,pc2,do_,dc,hrk,hq,hoo⟩:=hslvs k (by omega);obtain⟨mq,rq0,blH,blI,aEP,blJ,aEQ,blK⟩:=hoo.ex;rw[bqW] at blJ;have htk:List.take (aL s k).done.length (List.drop do_ rq0)=(aL s k).done.map aS:=by rw[blI,boL (by simp)]
  have hb:=hB.slv k (by omega);have h5a:=hav (15+k) (by omega);have h5l:=hlt (15+k) (by omega);have h52:nm (15+k)≠nm 2:=nme _ _ (by omega) (by omega) (by omega);have h53:nm (15+k)≠nm 3:=nme _ _ (by omega) (by omega) (by omega);have hA3:bQ nx1 [i,nx,nx+1,nx+7,nx+8,nm 2,nm 3,nm (15+k)]:=AM.apart (by simp;omega) (by simp;omega);simp only[bQ,eZ] at hA3;have bqQ: ∀(G:aA) (b j:Nat),msk (nx1+b) [j] G (nm (15+k))=G (nm (15+k)):=fun G b j=>mk1 (by omega);(try simp only[go_sem,boC,aU5,aU6,ri,r0,r1,j2,hrv,hrk,blH,htk,aHK,bqM,bqQ,hA3,boC]);repeat' first| (first|apply bn1|refine aX (p:=p2+2) (n:=4) hl (by omega) (by omega) (by omega) ri (fun z h5 h6=> ?_)|refine aX (p:=p2+3) (n:=4) hl (by omega) (by omega) (by omega) aA.bH (fun blI h7 h8=> ?_)|refine aV4 (p:=p2+4) (n:=2) (by omega) hl (by omega) (by omega) aA.bH (fun p3 x h9 h10 h11=> ?_))<;>(simp only[go_sem,boC,aU5,aU6,ri,r0,r1,j2,hrv,hrk,blH,htk,aHK,bqM,bqQ,hA3,boC];try simp (disch:=omega) only[Iw])| (with_reducible first|refine fun(cap:Nat) (hcap:_≤cap)=> ?_|refine fun(hcp:_≤cap)=> ?_)|refine⟨by omega,?_⟩|fail
  generalize aYL:aA.set (aA.set _ (nx1+42) _) (nm 3) _=W;have bqI:W (nm 3)=some ⟨3,mv,rv.set k [.osl 3 (nm (11+k)) po (aL s k).pipe.length pc2,.osl 5 (nx1+42) 0 ((aL s k).done.length+1) cap,cI (aL s k).last]⟩:=by rw[←aYL];exact aA.bH
  have w26:W (nx1+42)=some ⟨5,cap,((aL s k).done++[(⟨z-1,blI,x⟩:Job)]).map aS⟩:=by rw[←aYL,aA.aC (by omega),aA.bH,bqX];rfl
  have wf: ∀id,id<nx1→id≠i→id≠nm 3→id≠nm (15+k)→W id=aID id:=fun id d1 d2 d3 bkS=>by rw[←aYL];simp (disch:=omega) only[aA.aC,aA.jG]
  have wi:W i=some (rdO l p3):=by rw[←aYL];simp (disch:=omega) only[aA.aC,aA.bH]
  clear aYL;refine endV W _ p3 {aL s k with done:=(aL s k).done++[(⟨z-1,blI,x⟩:Job)]} _ (put nm (15+k) (nx1+42)) (by omega) (by omega) (by dsimp only;omega) (by simp;omega) (fun j hj=> ?_) bqI ⟨po,pc2,0,cap,?_,?_,?_⟩ (fun a _ _ h1=>jE h1) (by rw[jE (by omega)];have:=hav (11+k) (by omega);omega) (by rw[t8];omega) (fun a ha h2 _ h3=>wf _ (hlt a ha) (by have:=hav a ha;omega) (nme _ _ ha (by omega) h2) (nme _ _ ha (by omega) h3)) wi (fun id d1 d2=>(wf id (by omega) d2 (by omega) (by omega)).trans (rf id d1 d2)) rfl rfl
  ·rcases o3.1 hj with hj|hj;·exact hb.2.2 j hj
   ·rw[CJ] at hj;subst hj;dsimp only;omega
  ·rw[t8,jE (by omega)];simp[aj9]
  ·rw[jE (by omega)];exact hq.frame (wf _ (hlt _ (by omega)) (by have:=hav (11+k) (by omega);omega) (nme _ _ (by omega) (by omega) (by omega)) (nme _ _ (by omega) (by omega) (by omega)))
  ·rw[t8];exact⟨cap,_,w26,rfl,by simp,by simp,by simpa using hcap,by omega⟩
 ·obtain⟨mq,rq0,blH,blI,aEP,blJ,aEQ,blK⟩:=q2.ex;rw[bqW] at blJ;have htk:List.take s.told.length rq0=s.told.map aS:=by rw[←bq5 (l:=rq0),blI,boL (by simp)]
  have hb:=hB.t;have h5a:=hav (4) (by omega);have h5l:=hlt (4) (by omega);have h52:nm (4)≠nm 2:=nme _ _ (by omega) (by omega) (by omega);have h53:nm (4)≠nm 3:=nme _ _ (by omega) (by omega) (by omega);have hA3:bQ nx1 [i,nx,nx+1,nx+7,nx+8,nm 2,nm 3,nm (4)]:=AM.apart (by simp;omega) (by simp;omega);simp only[bQ,eZ] at hA3;have bqQ: ∀(G:aA) (b j:Nat),msk (nx1+b) [j] G (nm (4))=G (nm (4)):=fun G b j=>mk1 (by omega);(try simp only[go_sem,boC,aU5,aU6,ri,r0,r1,blH,htk,aHK,bqQ,hA3,boC]);repeat' first| (first|apply bn1|refine aX (p:=p2+2) (n:=4) hl (by omega) (by omega) (by omega) ri (fun z h5 h6=> ?_)|refine aX (p:=p2+3) (n:=4) hl (by omega) (by omega) (by omega) aA.bH (fun blI h7 h8=> ?_)|refine aV4 (p:=p2+4) (n:=3) (by omega) hl (by omega) (by omega) aA.bH (fun p3 x h9 h10 h11=> ?_))<;>(simp only[go_sem,boC,aU5,aU6,ri,r0,r1,blH,htk,aHK,bqQ,hA3,boC];try simp (disch:=omega) only[Iw])| (with_reducible first|refine fun(cap:Nat) (hcap:_≤cap)=> ?_|refine fun(hcp:_≤cap)=> ?_)|refine⟨by omega,?_⟩|fail
  generalize aYL:aA.set (aA.set _ (nx1+37) _) (nx+8) _=W;have w26:W (nx1+37)=some ⟨5,cap,(s.told++[(⟨z-1,blI,x⟩:Job)]).map aS⟩:=by rw[←aYL,aA.aC (by omega),aA.bH,bqX];rfl
  have wf: ∀id,id<nx1→id≠i→id≠nx+8→id≠nm 4→W id=aID id:=fun id d1 d2 d3 bkS=>by rw[←aYL];simp (disch:=omega) only[aA.aC,aA.jG]
  have wi:W i=some (rdO l p3):=by rw[←aYL];simp (disch:=omega) only[aA.aC,aA.bH]
  clear aYL
  have hN:=(hB.bkG (t:=s.told++[(⟨z-1,blI,x⟩:Job)]) (by simp;omega) (fun j hj=>by
   rcases o3.1 hj with hj|hj
   ·exact hB.td j hj
   ·rw[CJ] at hj;subst hj;dsimp only;omega)).fit
  have aAI:=hR2.rep.bkG (W:=W) (id0:=nx1+37) (cap:=cap) (t:=s.told++[(⟨z-1,blI,x⟩:Job)]) ⟨cap,_,w26,rfl,by simp,by simp,by simpa using hcap,by omega⟩ (fun a ha h2=>wf _ (hlt a ha) (by have:=hav a ha;omega) (by have:=hav a ha;omega) (nme _ _ ha (by omega) h2));rw[t2,List.length_singleton] at aAI;refine endR W _ p3 c {s with told:=s.told++[(⟨z-1,blI,x⟩:Job)]} _ _ (by omega) (by omega) hbfit hN.1 hN.2 hsk.sl aAI (fun a ha=> ?_) wi (fun id d1 d2=>(wf id (by omega) d2 (by omega) (by omega)).trans (rf id d1 d2)) rfl rfl;by_cases e:a=4;·rw[e,t8];omega
  ·rw[jE e];have:=hav a ha;omega
 · (try simp only[go_sem,boC,aU5,aU6,ri,r0,r1,hA2,j2,hrv,boC]);repeat' first|apply bn1<;>(simp only[go_sem,boC,aU5,aU6,ri,r0,r1,hA2,j2,hrv,boC])|refine⟨by omega,?_⟩|fail
   have hN:=hB.drop
   generalize aYL:aA.set (aA.set _ nx _) (nx+1) _=W
   have hRW:=hR2.rep.frame (H':=W) (fun a ha=>by have:=hav a ha;rw[←aYL,aA.aC (by omega),aA.aC (by omega),aA.aC (by omega)])
   obtain⟨bfZ,bpR,f2,_,bpT⟩:=hRW.bkJ (F:=fun j=>∃a,a<19∧j=nm a) (fun a ha=>⟨a,ha,rfl⟩) hsk.pl hsk.sl
   have bpS:=hRW.bkD (F:=fun j=>∃a,a<19∧j=nm a) (cap:=vc-1) (fun a ha=>⟨a,ha,rfl⟩) hsk.sl (by omega)
   subst aYL
   exact endA _ _ (p2+2) c {s with dD:=s.dD.drop 1} _ (fun j=>∃a,a<19∧j=nm a) (by omega) (by omega) hbfit hN.1 hN.2 (fun j ⟨a,ha,hj⟩=>by have:=hav a ha;omega) (fO bfZ (fO bpR (fO f2 (fO bpS (fO bpT LH))))) rfl (by rw[aA.aC (by omega)];exact ri) (fun id d1 d2=>by rw[aA.aC (by omega)];exact rf id d1 d2) rfl rfl
 · (try simp only[go_sem,boC,aU5,aU6,ri,r0,r1,hA2,boC]);repeat' first| (first|apply bn1|refine aQA (p:=p2+2) (n:=1) (by omega) hl (by omega) (by omega) ri (fun H3 nx3 p3 c' bqH bqI bk6 bk5 bk7 bk8=> ?_))<;>(simp only[go_sem,boC,aU5,aU6,ri,r0,r1,hA2,boC])|fail
   have aXM:=(bk8 (nx+7) (by omega) (by omega)).trans aU5
   have blN:=(bk8 (nx+8) (by omega) (by omega)).trans aU6
   have s0:=(bk8 nx (by omega) (by omega)).trans r0
   have s1:=(bk8 (nx+1) (by omega) (by omega)).trans r1
   (try simp only[go_sem,boC,aXM,blN,s0,s1,hA2,boC]);repeat' first|apply bn1<;>(simp only[go_sem,boC,aXM,blN,s0,s1,hA2,boC])|fail
   exact endR _ _ p3 c' s nm _ (by omega) (by omega) bqI hcf.1 hcf.2 hsk.sl (hR2.rep.frame fun a ha=>by have:=hav a ha;have:=hlt a ha;rw[aA.aC (by omega),bk8 _ (by omega) (by omega)]) (fun a ha=>by have:=hav a ha;omega) (by rw[aA.aC (by omega)];exact bk7) (fun id d1 d2=>by rw[aA.aC (by omega),bk8 _ (by omega) d2];exact rf id d1 d2) rfl rfl
end
end Go.Proofs.YtmccpdapaccnoaaGreat
namespace Go.AM
theorem bm4 {H:aA} {e:Env} {t n id m bpO n2 id2 bp3 bpP bqP id3 bqM:Nat} {cs cs2 cs3:List D1} (he:e t= .one (.c (.ptr n id 0 0))) (ho:H id=some ⟨n,m,[cs]⟩) (hl:cs.length=n) (he2:e bpO= .one (.c (.ptr n2 id2 0 0))) (ho2:H id2=some ⟨n2,bp3,[cs2]⟩) (hl2:cs2.length=n2) (he3:e bpP= .one (.c (.ptr bqP id3 0 0))) (ho3:H id3=some ⟨bqP,bqM,[cs3]⟩) (hl3:cs3.length=bqP):yT H e [.cell t n true,.cell bpO n2 true,.cell bpP bqP true]=some (.tup [.agg cs,.agg cs2,.agg cs3]):=by subst hl;subst hl2;subst hl3;simp[yT,VP,he,he2,he3,tT,ho,ho2,ho3,mkV,asI]
structure bm3 (i:CIn):Prop where
 r:i.ready.length≤4
 t:i.n9.length≤4
 s:i.send.length≤4
end Go.AM
namespace Go.Proofs.YtmccpdapaccnoaaGreat
open Go Go.AM
attribute [local irreducible] aM wv aB vd wvH
section
variable {H : aA} {nx : Nat} {K : D → aA → Nat → Prop}
theorem bmF:cJ Tryz.prog bl0 Tryz.f39 blZ bl5:=cJ.mk Tryz.func39 (by kernel_rfl) bmE
theorem bmH {l:List Int} (hl:kZ l) (h: ∀H' nx' c s i,nx≤nx'→jO c→beL s→bdV s→bm3 i→(∀id,id<nx→H' id=H id)→K (.tup [.agg (cU c),.agg (eI s),.agg (eIn i)]) H' nx'):aB Tryz.prog bl0 [dS (l.map eU8)] H nx K:=by
 have hl2:kZ (l.take 2000):=⟨by simp;omega,fun x hx=>hl.byte x (List.take_subset _ _ hx)⟩
 refine bmF rfl fun Q hQ=> ?_;unfold blZ;repeat' first| (first|apply bn1|apply bkX.F2)<;>(simp only[go_sem,boC])|fail
 refine biL (p:=0) (n:=12) (by omega) hl2 (by omega) (by omega) aA.bH fun H1 nx1 p1 c s hx1 hp1 hcf hf ha hi1 hf1=> ?_;have bqB:H1 nx=some ⟨3,1,[[.osl 0 0 0 0 0,.osl 0 0 0 0 0,.osl 0 0 0 0 0]]⟩:=by rw[hf1 _ (by omega) (by omega)];simp (disch:=omega) only[aA.aC,aA.bH]
 have q1:H1 (nx+1)=some ⟨5,1,[[.osl 0 0 0 0 0,.osl 0 0 0 0 0,.osl 0 0 0 0 0,.osl 0 0 0 0 0,.osl 0 0 0 0 0]]⟩:=by rw[hf1 _ (by omega) (by omega)];simp (disch:=omega) only[aA.aC,aA.bH]
 have q2:H1 (nx+2)=some ⟨3,1,[[.osl 0 0 0 0 0,.osl 0 0 0 0 0,.osl 0 0 0 0 0]]⟩:=by rw[hf1 _ (by omega) (by omega)];simp (disch:=omega) only[aA.aC,aA.bH]
 have qf: ∀id,id<nx→H1 id=H id:=fun id hid=>by rw[hf1 _ (by omega) (by omega)];simp (disch:=omega) only[aA.aC]
 clear hf1;have hA1:bQ nx1 [nx,nx+1,nx+2,nx+6,nx+12,nx+13]:=AM.apart (by simp) (by simp;omega);simp only[bQ,eZ] at hA1;(try simp only[go_sem,boC,bqB,q1,q2,hi1,hA1,boC]);repeat' first|apply bn1<;>(simp only[go_sem,boC,bqB,q1,q2,hi1,hA1,boC])|fail
 refine YJ (p:=p1) (slow:=4) hl2 (by omega) (by omega) (by omega) (by rw[aA.aC (by omega),aA.aC (by omega)];exact hi1) fun H2 nx2 p2 x hx2 hp2 hxo hi2 hf2=> ?_;have r0:H2 nx=some ⟨3,1,[[.osl 0 0 0 0 0,.osl 0 0 0 0 0,.osl 0 0 0 0 0]]⟩:=by rw[hf2 _ (by omega) (by omega),aA.aC (by omega),aA.aC (by omega)];exact bqB
 have r1:H2 (nx+1)=some ⟨5,1,[[.osl 0 0 0 0 0,.osl 0 0 0 0 0,.osl 0 0 0 0 0,.osl 0 0 0 0 0,.osl 0 0 0 0 0]]⟩:=by rw[hf2 _ (by omega) (by omega),aA.aC (by omega),aA.aC (by omega)];exact q1
 have r2:H2 (nx+2)=some ⟨3,1,[[.osl 0 0 0 0 0,.osl 0 0 0 0 0,.osl 0 0 0 0 0]]⟩:=by rw[hf2 _ (by omega) (by omega),aA.aC (by omega),aA.aC (by omega)];exact q2
 have r12:H2 (nx+12)=some ⟨3,1,[cU c]⟩:=by rw[hf2 _ (by omega) (by omega),aA.aC (by omega)];exact aA.bH
 have r13:H2 (nx+13)=some ⟨5,1,[eI s]⟩:=by rw[hf2 _ (by omega) (by omega)];exact aA.bH
 have rf: ∀id,id<nx→H2 id=H id:=fun id hid=>by rw[hf2 _ (by omega) (by omega),aA.aC (by omega),aA.aC (by omega)];exact qf id hid
 clear hf2 bqB q1 q2 qf hi1;have hA2:bQ nx2 [nx,nx+1,nx+2,nx+6,nx+12,nx+13,nx1+2]:=AM.apart (by simp;omega) (by simp;omega);simp only[bQ,eZ] at hA2;obtain⟨o1,o2,bqD⟩:=hxo
 have endI: ∀(W:aA) (n2:Nat) (y:CIn),nx≤n2→bm3 y→(∀id,id<nx→W id=H id)→∀{e2:Env},e2 2= .one (.c (.ptr 3 nx 0 0))→e2 3= .one (.c (.ptr 5 (nx+1) 0 0))→e2 4= .one (.c (.ptr 3 (nx+2) 0 0))→Q .ret e2 (((W.set nx ⟨3,1,[cU c]⟩).set (nx+1) ⟨5,1,[eI s]⟩).set (nx+2) ⟨3,1,[eIn y]⟩) n2:=fun W n2 y az9 az2 aAD e2 h2 h3 h4=>
  hQ _ _ _ _ _ (.inr rfl) (bm4 h2 ((aA.aC (by omega)).trans ((aA.aC (by omega)).trans aA.bH)) rfl h3 ((aA.aC (by omega)).trans aA.bH) rfl h4 aA.bH rfl) (h _ _ c s y az9 hcf hf ha az2 fun id hid=>by rw[aA.aC (by omega),aA.aC (by omega),aA.aC (by omega)];exact aAD id hid)
 (try simp only[go_sem,boC,r0,r1,r2,r12,r13,hA1,hA2,bqW,o2,boC]);repeat' first| (first|apply bn1| (refine d6 (p:=p2) (n:=20) (by omega) hl2 (by omega) (by omega) (by rw[aA.aC (by omega)];exact hi2) (fun p3 bb hp3 hp4 _=> ?_)))<;>(simp only[go_sem,boC,r0,r1,r2,r12,r13,hA1,hA2,bqW,o2,boC])| ((refine bnF (fun h=> ?_) (fun h=> ?_))<;>try subst h)|refine⟨by omega,?_⟩|fail
 ·exact endI _ _ ⟨x.ready,x.n9.drop 1,x.send⟩ (by omega) ⟨by dsimp only;omega,by simp;omega,by dsimp only;omega⟩ (fun id hid=>by rw[aA.aC (by omega),aA.aC (by omega)];exact rf id hid) rfl rfl rfl
 ·exact endI _ _ x (by omega) ⟨by omega,by omega,by omega⟩ (fun id hid=>by rw[aA.aC (by omega),aA.aC (by omega)];exact rf id hid) rfl rfl rfl
end
end Go.Proofs.YtmccpdapaccnoaaGreat
