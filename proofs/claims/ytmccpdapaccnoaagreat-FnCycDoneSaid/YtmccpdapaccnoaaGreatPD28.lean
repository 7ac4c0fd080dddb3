/- Texts laid together by a program: rules, contracts and the walk that leads to the law. -/
import Derived.Test.YtmccpdapaccnoaaGreatPD9
import Derived.Test.YtmccpdapaccnoaaGreatPD26
import Derived.Test.YtmccpdapaccnoaaGreatPD21
import Derived.Test.YtmccpdapaccnoaaGreatPD24
import Derived.Test.YtmccpdapaccnoaaGreatPD6
import Derived.Test.YtmccpdapaccnoaaGreatPD25
import Derived.Test.YtmccpdapaccnoaaGreatPD27
import Derived.Test.YtmccpdapaccnoaaGreatPD12
import Derived.Test.YtmccpdapaccnoaaGreatPD19
set_option linter.unusedVariables false
set_option linter.unusedSimpArgs false
set_option linter.unusedSectionVars false
set_option maxRecDepth 100000
set_option maxHeartbeats 8000000
namespace Go.Proofs.YtmccpdapaccnoaaGreat
open Go Go.AM
attribute [local irreducible] aM wv aB vd wvH
section
variable {H : aA} {nx : Nat} {K : D → aA → Nat → Prop}
theorem bh5:cJ Tryz.prog bgS Tryz.f114 bgP bhE:=cJ.mk Tryz.func114 (by kernel_rfl) bh8
theorem biL {l:List Int} {p i:Nat} {n:Int} (hn:0<n∧n<9000) (hl:kZ l) (bo:p+5000<2^50) (hi:i<nx) (ho:H i=some (rdO l p))
 (h: ∀H' nx' p' (c:Cfg) (s:CSt),nx≤nx'→p'≤p+4500→jO c→beL s→bdV s→H' i=some (rdO l p')→(∀id,id<nx→id≠i→H' id=H id)→K (.tup [.agg (cU c),.agg (eI s)]) H' nx'):aB Tryz.prog bgS [bkP 2 i,boP n] H nx K:=by
 apply aB.tW
 refine bh5 rfl fun Q hQ=> ?_
 unfold bgP
 have hA:bQ nx [i]:=AM.apart (by simp) (by simp;omega)
 simp only[bQ,eZ] at hA
 repeat' first| (first|apply bn1| (refine bjP (p:=p) hl (by omega) (by omega) (by rw[aA.aC (by omega),aA.aC (by omega)];exact ho) (fun H1 d p1 c s nm cells bu bw bh S T bj ai bk ax=> ?_)))<;>(simp only[go_sem,boC,hA])|fail
 have ao:cells.length=5:=by obtain⟨_,_,_,_,_,rfl,_⟩:=bj.ex;rfl
 have aq:cells++List.drop cells.length [D1.osl 0 0 0 0 0,.osl 0 0 0 0 0,.osl 0 0 0 0 0,.osl 0 0 0 0 0,.osl 0 0 0 0 0]=cells:=by rw[ao];simp
 refine⟨ao,by omega,?_⟩
 rw[aq]
 try apply bn0
 clear aq
 have D:=ai.lt
 have f: ∀k,k<19→nx+11≤nm k:=fun k M=>Nat.le_of_not_lt (ai.av k M)
 generalize bqK:aA.set _ (nx+8) _=G
 have bp4:G (nx+8)=some ⟨5,1,[cells]⟩:=by rw[←bqK];exact aA.bH
 have bkV:G (nx+7)=some ⟨3,1,[cU c]⟩:=by rw[←bqK,aA.aC (by omega)];exact aA.bH
 have gi:G i=some (rdO l p1):=by rw[←bqK,aA.aC (by omega),aA.aC (by omega)];exact bk
 have bqC:G nx=some ⟨3,1,[[.osl 0 0 0 0 0,.osl 0 0 0 0 0,.osl 0 0 0 0 0]]⟩:=by rw[←bqK,aA.aC (by omega),aA.aC (by omega),ax _ (by omega) (by omega),aA.aC (by omega)];exact aA.bH
 have g1:G (nx+1)=some ⟨5,1,[[.osl 0 0 0 0 0,.osl 0 0 0 0 0,.osl 0 0 0 0 0,.osl 0 0 0 0 0,.osl 0 0 0 0 0]]⟩:=by rw[←bqK,aA.aC (by omega),aA.aC (by omega),ax _ (by omega) (by omega)];exact aA.bH
 have gf: ∀id,id<nx→id≠i→G id=H id:=fun id d1 d2=>by rw[←bqK,aA.aC (by omega),aA.aC (by omega),ax _ (by omega) d2,aA.aC (by omega),aA.aC (by omega)]
 have hR:abY G nm s cells:=bj.frame fun k M=>by have:=f k M;rw[←bqK,aA.aC (by omega),aA.aC (by omega)]
 clear bqK bj bk ax
 have al: ∀(aID:aA) (E C:Nat) (c2:Cfg) (s2:CSt) (q:List D1) (F:Nat→Prop),nx≤E→C≤p+4500→jO c2→beL s2→bdV s2→(∀j,F j→nx+9≤j)→VK ((aID.set nx ⟨3,1,[cU c2]⟩).set (nx+1) ⟨5,1,[q]⟩) F (eI s2) q→q.length=5→aID i=some (rdO l C)→(∀id,id<nx→id≠i→aID id=H id)→
  ∀{X:Env},X 4= .one (.c (.ptr 3 nx 0 0))→X 5= .one (.c (.ptr 5 (nx+1) 0 0))→Q .ret X ((aID.set nx ⟨3,1,[cU c2]⟩).set (nx+1) ⟨5,1,[q]⟩) E:=fun aID E C c2 s2 q F az9 az2 aAD aAE aAA aAF aAC aAB aAG blP X blQ blR=>by
  refine hQ _ _ _ _ _ (.inr rfl) (bjT blQ ((aA.aC (by omega)).trans aA.bH) rfl blR aA.bH aAB) ⟨.tup [.agg (cU c2),.agg (eI s2)],without F ((aID.set nx ⟨3,1,[cU c2]⟩).set (nx+1) ⟨5,1,[q]⟩),F,ay7 (aH (bB rfl) (aH (bB rfl) (aH (bB rfl) eP))) (A8 aAC),kS,h _ E C c2 s2 az9 az2 aAD aAE aAA ?_ fun id d1 d2=> ?_⟩
  ·rw[iI (fun O=>by have:=aAF _ O;omega),aA.aC (by omega),aA.aC (by omega)];exact aAG
  ·rw[iI (fun O=>by have:=aAF _ O;omega),aA.aC (by omega),aA.aC (by omega)];exact blP id d1 d2
 have ab: ∀(aID:aA) (E C:Nat) (c2:Cfg) (s2:CSt) (ay:Nat→Nat) (q:List D1),nx≤E→C≤p+4500→jO c2→beL s2→bdV s2→s2.dD.length=4→abY aID ay s2 q→(∀k,k<19→nx+9≤ay k)→aID i=some (rdO l C)→(∀id,id<nx→id≠i→aID id=H id)→
  ∀{X:Env},X 4= .one (.c (.ptr 3 nx 0 0))→X 5= .one (.c (.ptr 5 (nx+1) 0 0))→Q .ret X ((aID.set nx ⟨3,1,[cU c2]⟩).set (nx+1) ⟨5,1,[q]⟩) E:=fun aID E C c2 s2 ay q az9 az2 aAD aAE aAA aAF aAC aAB aAG blP X blQ blR=>by
  refine al aID E C c2 s2 q (fun j=>∃k,k<19∧j=ay k) az9 az2 aAD aAE aAA (fun j ⟨k,M,O⟩=>O▸aAB k M) ((aAC.frame fun k M=> ?_).VI (fun k M=>⟨k,M,rfl⟩) aAA.pl aAF) ?_ aAG blP blQ blR
  ·have:=aAB k M;rw[aA.aC (by omega),aA.aC (by omega)]
  ·obtain⟨_,_,_,_,_,rfl,_⟩:=aAC.ex;rfl
 have hB:=T.base bh
 have az:beL s∧bdV s:=hB.bj4.fit
 have ar:bQ d [i,nx,nx+1,nx+7,nx+8]:=AM.apart (by simp;omega) (by simp;omega)
 simp only[bQ,eZ] at ar
 (try simp only[go_sem,boC,bkV,bp4,gi,bqC,g1,ao,ar,boC]);repeat' first| (first|apply bn1|refine d6 (p:=p1) hn hl (by omega) (by omega) gi (fun C bb bx bp _=> ?_))<;>(simp only[go_sem,boC,bkV,bp4,gi,bqC,g1,ao,ar,boC])| ((refine bnF (fun h=> ?_) (fun h=> ?_))<;>try subst h)|fail
 case refine_2=>exact ab _ _ C c s nm cells (by omega) (by omega) S az.1 az.2 T.sl (hR.frame fun k M=>aA.aC (by have:=f k M;omega)) (fun k M=>by have:=f k M;omega) aA.bH (fun id d1 d2=>by rw[aA.aC d2];exact gf id d1 d2) rfl rfl
 refine aX (p:=C) (n:=3) hl (by omega) (by omega) (by omega) aA.bH fun x h1 h2=> ?_
 obtain⟨k,M,rfl⟩: ∃k:Nat,k<3∧x=k:=⟨x.toNat,by omega,by omega⟩
 (try simp only[go_sem,boC,bkV,bp4,gi,bqC,g1,ao,ar,boC]);repeat' first|apply bn1<;>(simp only[go_sem,boC,bkV,bp4,gi,bqC,g1,ao,ar,boC])|fail
 refine aX (p:=C+1) (n:=11) hl (by omega) (by omega) (by omega) aA.bH fun y h3 h4=> ?_
 generalize aj:aA.set _ i (rdO l (C+1+1))=aID
 have aU6:aID (nx+8)=some ⟨5,1,[cells]⟩:=by rw[←aj];simp (disch:=omega) only[aA.aC];exact bp4
 have aU5:aID (nx+7)=some ⟨3,1,[cU c]⟩:=by rw[←aj];simp (disch:=omega) only[aA.aC];exact bkV
 have J:aID i=some (rdO l (C+2)):=by rw[←aj];exact aA.bH
 have Y:aID nx=some ⟨3,1,[[.osl 0 0 0 0 0,.osl 0 0 0 0 0,.osl 0 0 0 0 0]]⟩:=by rw[←aj];simp (disch:=omega) only[aA.aC];exact bqC
 have Z:aID (nx+1)=some ⟨5,1,[[.osl 0 0 0 0 0,.osl 0 0 0 0 0,.osl 0 0 0 0 0,.osl 0 0 0 0 0,.osl 0 0 0 0 0]]⟩:=by rw[←aj];simp (disch:=omega) only[aA.aC];exact g1
 have rf: ∀id,id<nx→id≠i→aID id=H id:=fun id d1 d2=>by rw[←aj];simp (disch:=omega) only[aA.aC];exact gf id d1 d2
 have ak:bgJ (fun j=>j<nx+9) aID d nm s cells:=⟨hR.frame fun k M=>by have:=f k M;rw[←aj];simp (disch:=omega) only[aA.aC],⟨ai.inj,ai.lt,fun k M O=>by have:=f k M;have O:nm k<nx+9:=O;omega⟩,fun id au=>by have au:id<nx+9:=au;omega⟩
 clear aj bp4 bkV gi bqC g1 gf hR
 have bz:Rep (fun j=>j<nx+8) aID d (nx+8) nm s:=⟨⟨cells,aU6,ak.rep⟩,⟨ai.inj,ai.lt,fun k M O=>by have:=f k M;have O:nm k<nx+8:=O;omega⟩,fun k M he=>by have:=f k M;omega,⟨by omega,fun O=>by have O:nx+8<nx+8:=O;omega⟩,fun id au=>by have au:id<nx+8:=au;omega⟩
 obtain⟨wc,hc,pc,vc,tc,mp,rp,mv,rv,rfl,j1,j2,bqB,q1,q2,ca,cb,ae,af,aa,ad⟩:=ak.get
 have cc:=f 2 (by omega)
 have cd:=f 3 (by omega)
 have cf:=D 2 (by omega)
 have cg:=D 3 (by omega)
 have bq:nm 2≠nm 3:=fun he=>by have:=ai.inj 2 3 (by omega) (by omega) he;omega
 have B:bQ d [i,nx,nx+1,nx+7,nx+8,nm 2,nm 3]:=AM.apart (by simp;omega) (by simp;omega)
 simp only[bQ,eZ] at B
 have mi: ∀(G:aA) (b j:Nat),msk (d+b) [j] G i=G i:=fun G b j=>mk1 (by omega)
 have aHK: ∀(G:aA) (b j:Nat),msk (d+b) [j] G (nx+8)=G (nx+8):=fun G b j=>mk1 (by omega)
 have bp3: ∀(G:aA) (b j:Nat),msk (d+b) [j] G (nm 2)=G (nm 2):=fun G b j=>mk1 (by omega)
 have bqM: ∀(G:aA) (b j:Nat),msk (d+b) [j] G (nm 3)=G (nm 3):=fun G b j=>mk1 (by omega)
 have m: ∀a b,a<19→b<19→a≠b→nm a≠nm b:=fun a b h1 h2 h3 h4=>h3 (ai.inj a b h1 h2 h4)
 have ag: ∀(W:aA) (E p3:Nat) (p':fR) (r:List D1) (N:Nat→Nat),nx≤E→p3≤p+4500→p'.queue.length≤3→p'.out.length≤5→W (nm 2)=some ⟨4,mp,rp.set k r⟩→CX W (N (5+k)) (N (8+k)) p' r→(∀a,a<19→a≠5+k→a≠8+k→N a=nm a)→nx+9≤N (5+k)→nx+9≤N (8+k)→(∀a,a<19→a≠2→a≠5+k→a≠8+k→W (nm a)=aID (nm a))→W i=some (rdO l p3)→(∀id,id<nx→id≠i→W id=H id)→∀{X:Env},X 4= .one (.c (.ptr 3 nx 0 0))→X 5= .one (.c (.ptr 5 (nx+1) 0 0))→Q .ret X ((W.set nx ⟨3,1,[cU c]⟩).set (nx+1) ⟨5,1,[[.osl 1 (nm 0) 0 s.words.length wc,.osl 1 (nm 1) 0 s.holds.length hc,.osl 4 (nm 2) 0 3 pc,.osl 3 (nm 3) 0 4 vc,.osl 5 (nm 4) 0 s.told.length tc]]⟩) E:=fun W E p3 p' r N az9 az2 aAD aAE aAA aAF aAC aAB aAG blP blQ blR X blS blT=>by
  have hN:=(hB.aEL M aAD aAE).fit;refine ab W E p3 c {s with bM:=s.bM.set k p'} N _ az9 az2 S hN.1 hN.2 T.sl (ak.rep.aEL T.pl M j1 aAA aAF aAC blP) (fun a g=> ?_) blQ blR blS blT;by_cases e1:a=5+k;·rw[e1];exact aAB
  ·by_cases X:a=8+k;·rw[X];exact aAG
   ·rw[aAC a g e1 X];have:=f a g;omega
 have an: ∀(W:aA) (E p3:Nat) (v':nY) (r:List D1) (N:Nat→Nat),nx≤E→p3≤p+4500→v'.pipe.length≤3→v'.done.length≤3→(∀j∈v'.done,j.rsp.data.length<2^20)→W (nm 3)=some ⟨3,mv,rv.set k r⟩→LJ W (N (11+k)) (N (15+k)) v' r→(∀a,a<19→a≠11+k→a≠15+k→N a=nm a)→nx+9≤N (11+k)→nx+9≤N (15+k)→(∀a,a<19→a≠3→a≠11+k→a≠15+k→W (nm a)=aID (nm a))→W i=some (rdO l p3)→(∀id,id<nx→id≠i→W id=H id)→∀{X:Env},X 4= .one (.c (.ptr 3 nx 0 0))→X 5= .one (.c (.ptr 5 (nx+1) 0 0))→Q .ret X ((W.set nx ⟨3,1,[cU c]⟩).set (nx+1) ⟨5,1,[[.osl 1 (nm 0) 0 s.words.length wc,.osl 1 (nm 1) 0 s.holds.length hc,.osl 4 (nm 2) 0 3 pc,.osl 3 (nm 3) 0 4 vc,.osl 5 (nm 4) 0 s.told.length tc]]⟩) E:=fun W E p3 v' r N az9 az2 aAD aAE blU aAA aAF aAC aAB aAG blP blQ blR X blS blT=>by
  have hN:=(hB.bkF (show k<4 by omega) aAD aAE blU).fit;refine ab W E p3 c {s with dD:=s.dD.set k v'} N _ az9 az2 S hN.1 hN.2 (by dsimp only;rw[Y5];exact T.sl) (ak.rep.bkF T.sl (show k<4 by omega) j2 aAA aAF aAC blP) (fun a g=> ?_) blQ blR blS blT;by_cases e1:a=11+k;·rw[e1];exact aAB
  ·by_cases X:a=15+k;·rw[X];exact aAG
   ·rw[aAC a g e1 X];have:=f a g;omega
 have hy:y=0∨y=1∨y=2∨y=3∨y=4∨y=5∨y=6∨y=7∨y=8∨y=9∨y=10:=by omega
 have ch:(0≤(k:Int)∧(k:Int)<((3:Nat):Int)):=⟨by omega,by omega⟩
 have cj:(0≤(k:Int)∧(k:Int)<((4:Nat):Int)):=⟨by omega,by omega⟩
 rcases hy with rfl|rfl|rfl|rfl|rfl|rfl|rfl|rfl|rfl|rfl|rfl
 · (try simp only[go_sem,boC,aU5,aU6,J,Y,Z,B,boC]);repeat' first| (first|apply bn1|refine aW5 (p:=C+2) (n:=2) (by omega) hl (by omega) (by omega) J (fun p3 w u bp ck ⟨br,bs⟩=> ?_))<;>(simp only[go_sem,boC,aU5,aU6,J,Y,Z,B,boC])|fail
   have hN:=(hB.bkM br bs).fit
   refine al _ _ p3 c {s with words:=w,holds:=u} _ (fun j=>∃a,a<19∧j=nm a) (by omega) (by omega) S hN.1 hN.2 (fun j ⟨a,g,O⟩=>by have:=f a g;omega) ?_ rfl (by rw[aA.aC (by omega)];exact aA.bH) (fun id d1 d2=>by rw[aA.aC (by omega),aA.aC d2];exact rf id d1 d2) rfl rfl
   obtain⟨_,_,f2,bpS,bpT⟩:=abY.bkJ (F:=fun j=>∃a,a<19∧j=nm a) (ak.rep.frame (H':=aA.set (aA.set (aA.set (aA.set aID i (rdO l p3)) (nx+8) ⟨5,1,[[.isl (w.map aJ),.isl (u.map aJ),.osl 4 (nm 2) 0 3 pc,.osl 3 (nm 3) 0 4 vc,.osl 5 (nm 4) 0 s.told.length tc]]⟩) nx ⟨3,1,[cU c]⟩) (nx+1) ⟨5,1,[[.isl (w.map aJ),.isl (u.map aJ),.osl 4 (nm 2) 0 3 pc,.osl 3 (nm 3) 0 4 vc,.osl 5 (nm 4) 0 s.told.length tc]]⟩) (fun a g=>by have:=f a g;rw[aA.aC (by omega),aA.aC (by omega),aA.aC (by omega),aA.aC (by omega)])) (fun a g=>⟨a,g,rfl⟩) T.pl T.sl
   exact fO (.same _ rfl) (fO (.same _ rfl) (fO f2 (fO bpS (fO bpT LH))))
 ·obtain⟨qo,qc,oc,A,hq,U⟩:=aa k M;(try simp only[go_sem,boC,aU5,aU6,J,Y,Z,j1,ae,A,B,boC]);repeat' first| (first|apply bn1|refine aX (p:=C+2) (n:=3) hl (by omega) (by omega) (by omega) J (fun z h5 h6=> ?_))<;>(simp only[go_sem,boC,aU5,aU6,J,Y,Z,j1,ae,A,B,boC])|refine⟨by omega,?_⟩|fail
  have hb:=hB.port k M;have fr: ∀(o:bA) a,a<19→a≠2→((aID.set i (rdO l (C+3))).set (nm 2) o) (nm a)=aID (nm a):=fun o a g h2=>by have q1:=m a 2 g (by omega) h2;have q2:=f a g;rw[aA.aC q1,aA.aC (by omega)]
  exact ag _ _ (C+3) {aF s k with next:=IntKind.i64.wrap (IntKind.i64.wrap ((aF s k).next+z)-1)} _ nm (by omega) (by omega) (by dsimp only;omega) (by dsimp only;omega) aA.bH ⟨qo,qc,oc,rfl,hq.frame (fr _ _ (by omega) (by omega)),U.frame (fr _ _ (by omega) (by omega))⟩ (fun _ _ _ _=>rfl) (by have:=f (5+k) (by omega);omega) (by have:=f (8+k) (by omega);omega) (fun a g h2 _ _=>fr _ a g h2) (by rw[aA.aC (by omega)];exact aA.bH) (fun id d1 d2=>by rw[aA.aC (by omega),aA.aC d2];exact rf id d1 d2) rfl rfl
 ·obtain⟨qo,qc,oc,A,hq,U⟩:=aa k M;obtain⟨mq,rq0,blH,blI,aEP,blJ,aEQ,blK⟩:=hq.ex;rw[bqW] at blJ;have P:List.take (aF s k).queue.length (List.drop qo rq0)=(aF s k).queue.map aJ:=by rw[blI,boL (by simp)]
  have hb:=hB.port k M;have ba:=f (5+k) (by omega);have bc:=D (5+k) (by omega);have bd:nm (5+k)≠nm 2:=m _ _ (by omega) (by omega) (by omega);have bf:nm (5+k)≠nm 3:=m _ _ (by omega) (by omega) (by omega);have I:bQ d [i,nx,nx+1,nx+7,nx+8,nm 2,nm 3,nm (5+k)]:=AM.apart (by simp;omega) (by simp;omega);simp only[bQ,eZ] at I;have bqQ: ∀(G:aA) (b j:Nat),msk (d+b) [j] G (nm (5+k))=G (nm (5+k)):=fun G b j=>mk1 (by omega);(try simp only[go_sem,boC,aU5,aU6,J,Y,Z,j1,ae,A,blH,P,aHK,bp3,bqQ,I,boC]);repeat' first| (first|apply bn1|refine aX (p:=C+2) (n:=4) hl (by omega) (by omega) (by omega) J (fun z h5 h6=> ?_))<;>(simp only[go_sem,boC,aU5,aU6,J,Y,Z,j1,ae,A,blH,P,aHK,bp3,bqQ,I,boC])| (with_reducible first|refine fun(cap:Nat) (R:_≤cap)=> ?_|refine fun(bg:_≤cap)=> ?_)|refine⟨by omega,?_⟩|fail
  generalize aYL:aA.set (aA.set _ (d+26) _) (nm 2) _=W;have bqI:W (nm 2)=some ⟨4,mp,rp.set k [cI (aF s k).next,.osl 1 (d+26) 0 ((aF s k).queue.length+1) cap,.osl 3 (nm (8+k)) 0 (aF s k).out.length oc,cI (aF s k).last]⟩:=by rw[←aYL];exact aA.bH
  have ah:W (d+26)=some ⟨1,cap,((aF s k).queue++[z]).map aJ⟩:=by rw[←aYL,aA.aC (by omega)];exact aA.bH
  have wf: ∀id,id<d→id≠i→id≠nm 2→id≠nm (5+k)→W id=aID id:=fun id d1 d2 d3 bkS=>by rw[←aYL];simp (disch:=omega) only[aA.aC,aA.jG]
  have wi:W i=some (rdO l (C+3)):=by rw[←aYL];simp (disch:=omega) only[aA.aC,aA.bH]
  clear aYL;refine ag W _ (C+3) {aF s k with queue:=(aF s k).queue++[z]} _ (put nm (5+k) (d+26)) (by omega) (by omega) (by simp;omega) (by dsimp only;omega) bqI ⟨0,cap,oc,?_,?_,?_⟩ (fun a _ h1 _=>jE h1) (by rw[t8];omega) (by rw[jE (by omega)];have:=f (8+k) (by omega);omega) (fun a g h2 h3 _=>wf _ (D a g) (by have:=f a g;omega) (m _ _ g (by omega) h2) (m _ _ g (by omega) h3)) wi (fun id d1 d2=>(wf id (by omega) d2 (by omega) (by omega)).trans (rf id d1 d2)) rfl rfl;·rw[t8,jE (by omega)];simp[af5]
  ·rw[t8];exact⟨cap,_,ah,rfl,by simp,by simp,by simpa using R,by omega⟩
  ·rw[jE (by omega)];exact U.frame (wf _ (D _ (by omega)) (by have:=f (8+k) (by omega);omega) (m _ _ (by omega) (by omega) (by omega)) (m _ _ (by omega) (by omega) (by omega)))
 ·obtain⟨qo,qc,oc,A,hq,U⟩:=aa k M;obtain⟨mq,rq0,blH,blI,aEP,blJ,aEQ,blK⟩:=U.ex;rw[bqW] at blJ;have P:List.take (aF s k).out.length rq0=(aF s k).out.map eCJ:=by rw[←bq5 (l:=rq0),blI,boL (by simp)]
  have hb:=hB.port k M;have ba:=f (8+k) (by omega);have bc:=D (8+k) (by omega);have bd:nm (8+k)≠nm 2:=m _ _ (by omega) (by omega) (by omega);have bf:nm (8+k)≠nm 3:=m _ _ (by omega) (by omega) (by omega);have I:bQ d [i,nx,nx+1,nx+7,nx+8,nm 2,nm 3,nm (8+k)]:=AM.apart (by simp;omega) (by simp;omega);simp only[bQ,eZ] at I;have bqQ: ∀(G:aA) (b j:Nat),msk (d+b) [j] G (nm (8+k))=G (nm (8+k)):=fun G b j=>mk1 (by omega);(try simp only[go_sem,boC,aU5,aU6,J,Y,Z,j1,ae,A,blH,P,aHK,bp3,bqQ,I,boC]);repeat' first| (first|apply bn1|refine aX (p:=C+2) (n:=4) hl (by omega) (by omega) (by omega) J (fun z h5 h6=> ?_)|refine aX (p:=C+3) (n:=4) hl (by omega) (by omega) (by omega) aA.bH (fun blI h7 h8=> ?_))<;>(simp only[go_sem,boC,aU5,aU6,J,Y,Z,j1,ae,A,blH,P,aHK,bp3,bqQ,I,boC])| (with_reducible first|refine fun(cap:Nat) (R:_≤cap)=> ?_|refine fun(bg:_≤cap)=> ?_)|refine⟨by omega,?_⟩|fail
  generalize aYL:aA.set (aA.set _ (d+32) _) (nm 2) _=W;have bqI:W (nm 2)=some ⟨4,mp,rp.set k [cI (aF s k).next,.osl 1 (nm (5+k)) qo (aF s k).queue.length qc,.osl 3 (d+32) 0 ((aF s k).out.length+1) cap,cI (aF s k).last]⟩:=by rw[←aYL];exact aA.bH
  have ah:W (d+32)=some ⟨3,cap,((aF s k).out++[(⟨k,z,blI⟩:fC)]).map eCJ⟩:=by rw[←aYL,aA.aC (by omega),aA.bH,bqX];rfl
  have wf: ∀id,id<d→id≠i→id≠nm 2→id≠nm (8+k)→W id=aID id:=fun id d1 d2 d3 bkS=>by rw[←aYL];simp (disch:=omega) only[aA.aC,aA.jG]
  have wi:W i=some (rdO l (C+4)):=by rw[←aYL];simp (disch:=omega) only[aA.aC,aA.bH]
  clear aYL;refine ag W _ (C+4) {aF s k with out:=(aF s k).out++[(⟨k,z,blI⟩:fC)]} _ (put nm (8+k) (d+32)) (by omega) (by omega) (by dsimp only;omega) (by simp;omega) bqI ⟨qo,qc,cap,?_,?_,?_⟩ (fun a _ _ h1=>jE h1) (by rw[jE (by omega)];have:=f (5+k) (by omega);omega) (by rw[t8];omega) (fun a g h2 _ h3=>wf _ (D a g) (by have:=f a g;omega) (m _ _ g (by omega) h2) (m _ _ g (by omega) h3)) wi (fun id d1 d2=>(wf id (by omega) d2 (by omega) (by omega)).trans (rf id d1 d2)) rfl rfl;·rw[t8,jE (by omega)];simp[af5]
  ·rw[jE (by omega)];exact hq.frame (wf _ (D _ (by omega)) (by have:=f (5+k) (by omega);omega) (m _ _ (by omega) (by omega) (by omega)) (m _ _ (by omega) (by omega) (by omega)))
  ·rw[t8];exact⟨cap,_,ah,rfl,by simp,by simp,by simpa using R,by omega⟩
 ·obtain⟨qo,qc,oc,A,hq,U⟩:=aa k M;have hb:=hB.port k M;(try simp only[go_sem,boC,aU5,aU6,J,Y,Z,j1,ae,A,aHK,bp3,mi,B,boC]);repeat' first|apply bn1<;>(simp only[go_sem,boC,aU5,aU6,J,Y,Z,j1,ae,A,aHK,bp3,mi,B,boC])|fail
  refine aX (p:=C+2) (n:=3) hl (by omega) (by omega) (by omega) (by rw[mi];exact J) fun z h5 h6=> ?_;(try simp only[go_sem,boC,aU6,aHK,B]);repeat' first|apply bn1<;>(simp only[go_sem,boC,aU6,aHK,B])|fail
  generalize aU3:dT (d+18) [3] _ (msk (d+18) [3] aID)=V;have blV:V (d+21)=some ⟨1,3,[[.v (.int .i64 (-1))],[.v (.int .i64 4)],[.v (.int .i64 2)]]⟩:=by rw[show d+21=d+18+3 from rfl,←aU3,aH6];exact aA.bH
  have vf: ∀id,id≠d+21→V id=aID id:=fun id d1=>by rw[←aU3,um1 (by omega),mk1 (by omega)]
  clear aU3;have v0:=(vf nx (by omega)).trans Y;have v1:=(vf (nx+1) (by omega)).trans Z;have blW:=(vf (nx+7) (by omega)).trans aU5;have blX:=(vf (nx+8) (by omega)).trans aU6;have v2:=(vf (nm 2) (by omega)).trans j1;refine⟨fun _=>by rw[blX];rfl,by omega,?_⟩;obtain⟨v,hv⟩:=aN1 (L:=[[.v (.int .i64 (-1))],[.v (.int .i64 4)],[.v (.int .i64 2)]]) (by simp) h5 (by simp;omega);(try simp only[go_sem,boC,v0,v1,blW,blX,v2,blV,hv,A,ae,B,aHK,bp3]);repeat' first|apply bn1<;>(simp only[go_sem,boC,v0,v1,blW,blX,v2,blV,hv,A,ae,B,aHK,bp3])|refine⟨by omega,?_⟩|fail
  have fr: ∀(o:bA) a,a<19→a≠2→((V.set i (rdO l (C+3))).set (nm 2) o) (nm a)=aID (nm a):=fun o a g h2=>by have q1:=m a 2 g (by omega) h2;have q2:=f a g;have q3:=D a g;rw[aA.aC q1,aA.aC (by omega),vf _ (by omega)]
  exact ag _ _ (C+3) {aF s k with last:=v} _ nm (by omega) (by omega) (by dsimp only;omega) (by dsimp only;omega) aA.bH ⟨qo,qc,oc,rfl,hq.frame (fr _ _ (by omega) (by omega)),U.frame (fr _ _ (by omega) (by omega))⟩ (fun _ _ _ _=>rfl) (by have:=f (5+k) (by omega);omega) (by have:=f (8+k) (by omega);omega) (fun a g h2 _ _=>fr _ a g h2) (by rw[aA.aC (by omega)];exact aA.bH) (fun id d1 d2=>by rw[aA.aC (by omega),aA.aC d2,vf _ (by omega)];exact rf id d1 d2) rfl rfl
 ·obtain⟨po,aw,do_,dc,A,hq,U⟩:=ad k (by omega);have hb:=hB.slv k (by omega);(try simp only[go_sem,boC,aU5,aU6,J,Y,Z,j2,af,A,aHK,bqM,mi,B,boC]);repeat' first|apply bn1<;>(simp only[go_sem,boC,aU5,aU6,J,Y,Z,j2,af,A,aHK,bqM,mi,B,boC])|fail
  refine aX (p:=C+2) (n:=3) hl (by omega) (by omega) (by omega) (by rw[mi];exact J) fun z h5 h6=> ?_;(try simp only[go_sem,boC,aU6,aHK,B]);repeat' first|apply bn1<;>(simp only[go_sem,boC,aU6,aHK,B])|fail
  generalize aU3:dT (d+20) [3] _ (msk (d+20) [3] aID)=V;have blV:V (d+23)=some ⟨1,3,[[.v (.int .i64 (-1))],[.v (.int .i64 3)],[.v (.int .i64 1)]]⟩:=by rw[show d+23=d+20+3 from rfl,←aU3,aH6];exact aA.bH
  have vf: ∀id,id≠d+23→V id=aID id:=fun id d1=>by rw[←aU3,um1 (by omega),mk1 (by omega)]
  clear aU3;have v0:=(vf nx (by omega)).trans Y;have v1:=(vf (nx+1) (by omega)).trans Z;have blW:=(vf (nx+7) (by omega)).trans aU5;have blX:=(vf (nx+8) (by omega)).trans aU6;have aXN:=(vf (nm 3) (by omega)).trans j2;refine⟨fun _=>by rw[blX];rfl,by omega,?_⟩;obtain⟨v,hv⟩:=aN1 (L:=[[.v (.int .i64 (-1))],[.v (.int .i64 3)],[.v (.int .i64 1)]]) (by simp) h5 (by simp;omega);(try simp only[go_sem,boC,v0,v1,blW,blX,aXN,blV,hv,A,af,B,aHK,bqM]);repeat' first|apply bn1<;>(simp only[go_sem,boC,v0,v1,blW,blX,aXN,blV,hv,A,af,B,aHK,bqM])|refine⟨by omega,?_⟩|fail
  have fr: ∀(o:bA) a,a<19→a≠3→((V.set i (rdO l (C+3))).set (nm 3) o) (nm a)=aID (nm a):=fun o a g h2=>by have q1:=m a 3 g (by omega) h2;have q2:=f a g;have q3:=D a g;rw[aA.aC q1,aA.aC (by omega),vf _ (by omega)]
  exact an _ _ (C+3) {aL s k with last:=v} _ nm (by omega) (by omega) (by dsimp only;omega) (by dsimp only;omega) hb.2.2 aA.bH ⟨po,aw,do_,dc,rfl,hq.frame (fr _ _ (by omega) (by omega)),U.frame (fr _ _ (by omega) (by omega))⟩ (fun _ _ _ _=>rfl) (by have:=f (11+k) (by omega);omega) (by have:=f (15+k) (by omega);omega) (fun a g h2 _ _=>fr _ a g h2) (by rw[aA.aC (by omega)];exact aA.bH) (fun id d1 d2=>by rw[aA.aC (by omega),aA.aC d2,vf _ (by omega)];exact rf id d1 d2) rfl rfl
 ·obtain⟨po,aw,do_,dc,A,hq,U⟩:=ad k (by omega);obtain⟨mq,rq0,blH,blI,aEP,blJ,aEQ,blK⟩:=hq.ex;rw[bqW] at blJ;have P:List.take (aL s k).pipe.length (List.drop po rq0)=(aL s k).pipe.map eCJ:=by rw[blI,boL (by simp)]
  have hb:=hB.slv k (by omega);have ba:=f (11+k) (by omega);have bc:=D (11+k) (by omega);have bd:nm (11+k)≠nm 2:=m _ _ (by omega) (by omega) (by omega);have bf:nm (11+k)≠nm 3:=m _ _ (by omega) (by omega) (by omega);have I:bQ d [i,nx,nx+1,nx+7,nx+8,nm 2,nm 3,nm (11+k)]:=AM.apart (by simp;omega) (by simp;omega);simp only[bQ,eZ] at I;have bqQ: ∀(G:aA) (b j:Nat),msk (d+b) [j] G (nm (11+k))=G (nm (11+k)):=fun G b j=>mk1 (by omega);(try simp only[go_sem,boC,aU5,aU6,J,Y,Z,j2,af,A,blH,P,aHK,bqM,bqQ,I,boC]);repeat' first| (first|apply bn1|refine aX (p:=C+2) (n:=4) hl (by omega) (by omega) (by omega) J (fun z h5 h6=> ?_)|refine aX (p:=C+3) (n:=4) hl (by omega) (by omega) (by omega) aA.bH (fun blI h7 h8=> ?_)|refine aX (p:=C+4) (n:=3) hl (by omega) (by omega) (by omega) aA.bH (fun aEP h9 bm=> ?_))<;>(simp only[go_sem,boC,aU5,aU6,J,Y,Z,j2,af,A,blH,P,aHK,bqM,bqQ,I,boC];try simp (disch:=omega) only[Iw])| (with_reducible first|refine fun(cap:Nat) (R:_≤cap)=> ?_|refine fun(bg:_≤cap)=> ?_)|refine⟨by omega,?_⟩|fail
  generalize aYL:aA.set (aA.set _ (d+40) _) (nm 3) _=W;have bqI:W (nm 3)=some ⟨3,mv,rv.set k [.osl 3 (d+40) 0 ((aL s k).pipe.length+1) cap,.osl 5 (nm (15+k)) do_ (aL s k).done.length dc,cI (aL s k).last]⟩:=by rw[←aYL];exact aA.bH
  have ah:W (d+40)=some ⟨3,cap,((aL s k).pipe++[(⟨z-1,blI,aEP⟩:fC)]).map eCJ⟩:=by rw[←aYL,aA.aC (by omega),aA.bH,bqX];rfl
  have wf: ∀id,id<d→id≠i→id≠nm 3→id≠nm (11+k)→W id=aID id:=fun id d1 d2 d3 bkS=>by rw[←aYL];simp (disch:=omega) only[aA.aC,aA.jG]
  have wi:W i=some (rdO l (C+5)):=by rw[←aYL];simp (disch:=omega) only[aA.aC,aA.bH]
  clear aYL;refine an W _ (C+5) {aL s k with pipe:=(aL s k).pipe++[(⟨z-1,blI,aEP⟩:fC)]} _ (put nm (11+k) (d+40)) (by omega) (by omega) (by simp;omega) (by dsimp only;omega) hb.2.2 bqI ⟨0,cap,do_,dc,?_,?_,?_⟩ (fun a _ h1 _=>jE h1) (by rw[t8];omega) (by rw[jE (by omega)];have:=f (15+k) (by omega);omega) (fun a g h2 h3 _=>wf _ (D a g) (by have:=f a g;omega) (m _ _ g (by omega) h2) (m _ _ g (by omega) h3)) wi (fun id d1 d2=>(wf id (by omega) d2 (by omega) (by omega)).trans (rf id d1 d2)) rfl rfl;·rw[t8,jE (by omega)];simp[aj9]
  ·rw[t8];exact⟨cap,_,ah,rfl,by simp,by simp,by simpa using R,by omega⟩
  ·rw[jE (by omega)];exact U.frame (wf _ (D _ (by omega)) (by have:=f (15+k) (by omega);omega) (m _ _ (by omega) (by omega) (by omega)) (m _ _ (by omega) (by omega) (by omega)))
 ·obtain⟨po,aw,do_,dc,A,hq,U⟩:=ad k (by omega);obtain⟨mq,rq0,blH,blI,aEP,blJ,aEQ,blK⟩:=U.ex;rw[bqW] at blJ;have P:List.take (aL s k).done.length (List.drop do_ rq0)=(aL s k).done.map aS:=by rw[blI,boL (by simp)]
  have hb:=hB.slv k (by omega);have ba:=f (15+k) (by omega);have bc:=D (15+k) (by omega);have bd:nm (15+k)≠nm 2:=m _ _ (by omega) (by omega) (by omega);have bf:nm (15+k)≠nm 3:=m _ _ (by omega) (by omega) (by omega);have I:bQ d [i,nx,nx+1,nx+7,nx+8,nm 2,nm 3,nm (15+k)]:=AM.apart (by simp;omega) (by simp;omega);simp only[bQ,eZ] at I;have bqQ: ∀(G:aA) (b j:Nat),msk (d+b) [j] G (nm (15+k))=G (nm (15+k)):=fun G b j=>mk1 (by omega);(try simp only[go_sem,boC,aU5,aU6,J,Y,Z,j2,af,A,blH,P,aHK,bqM,bqQ,I,boC]);repeat' first| (first|apply bn1|refine aX (p:=C+2) (n:=4) hl (by omega) (by omega) (by omega) J (fun z h5 h6=> ?_)|refine aX (p:=C+3) (n:=4) hl (by omega) (by omega) (by omega) aA.bH (fun blI h7 h8=> ?_)|refine aV4 (p:=C+4) (n:=2) (by omega) hl (by omega) (by omega) aA.bH (fun p3 x h9 bm bt=> ?_))<;>(simp only[go_sem,boC,aU5,aU6,J,Y,Z,j2,af,A,blH,P,aHK,bqM,bqQ,I,boC];try simp (disch:=omega) only[Iw])| (with_reducible first|refine fun(cap:Nat) (R:_≤cap)=> ?_|refine fun(bg:_≤cap)=> ?_)|refine⟨by omega,?_⟩|fail
  generalize aYL:aA.set (aA.set _ (d+42) _) (nm 3) _=W;have bqI:W (nm 3)=some ⟨3,mv,rv.set k [.osl 3 (nm (11+k)) po (aL s k).pipe.length aw,.osl 5 (d+42) 0 ((aL s k).done.length+1) cap,cI (aL s k).last]⟩:=by rw[←aYL];exact aA.bH
  have ah:W (d+42)=some ⟨5,cap,((aL s k).done++[(⟨z-1,blI,x⟩:Job)]).map aS⟩:=by rw[←aYL,aA.aC (by omega),aA.bH,bqX];rfl
  have wf: ∀id,id<d→id≠i→id≠nm 3→id≠nm (15+k)→W id=aID id:=fun id d1 d2 d3 bkS=>by rw[←aYL];simp (disch:=omega) only[aA.aC,aA.jG]
  have wi:W i=some (rdO l p3):=by rw[←aYL];simp (disch:=omega) only[aA.aC,aA.bH]
  clear aYL;refine an W _ p3 {aL s k with done:=(aL s k).done++[(⟨z-1,blI,x⟩:Job)]} _ (put nm (15+k) (d+42)) (by omega) (by omega) (by dsimp only;omega) (by simp;omega) (fun j O=> ?_) bqI ⟨po,aw,0,cap,?_,?_,?_⟩ (fun a _ _ h1=>jE h1) (by rw[jE (by omega)];have:=f (11+k) (by omega);omega) (by rw[t8];omega) (fun a g h2 _ h3=>wf _ (D a g) (by have:=f a g;omega) (m _ _ g (by omega) h2) (m _ _ g (by omega) h3)) wi (fun id d1 d2=>(wf id (by omega) d2 (by omega) (by omega)).trans (rf id d1 d2)) rfl rfl
  ·rcases o3.1 O with O|O;·exact hb.2.2 j O
   ·rw[CJ] at O;subst O;dsimp only;omega
  ·rw[t8,jE (by omega)];simp[aj9]
  ·rw[jE (by omega)];exact hq.frame (wf _ (D _ (by omega)) (by have:=f (11+k) (by omega);omega) (m _ _ (by omega) (by omega) (by omega)) (m _ _ (by omega) (by omega) (by omega)))
  ·rw[t8];exact⟨cap,_,ah,rfl,by simp,by simp,by simpa using R,by omega⟩
 ·obtain⟨mq,rq0,blH,blI,aEP,blJ,aEQ,blK⟩:=q2.ex;rw[bqW] at blJ;have P:List.take s.told.length rq0=s.told.map aS:=by rw[←bq5 (l:=rq0),blI,boL (by simp)]
  have hb:=hB.t;have ba:=f (4) (by omega);have bc:=D (4) (by omega);have bd:nm (4)≠nm 2:=m _ _ (by omega) (by omega) (by omega);have bf:nm (4)≠nm 3:=m _ _ (by omega) (by omega) (by omega);have I:bQ d [i,nx,nx+1,nx+7,nx+8,nm 2,nm 3,nm (4)]:=AM.apart (by simp;omega) (by simp;omega);simp only[bQ,eZ] at I;have bqQ: ∀(G:aA) (b j:Nat),msk (d+b) [j] G (nm (4))=G (nm (4)):=fun G b j=>mk1 (by omega);(try simp only[go_sem,boC,aU5,aU6,J,Y,Z,blH,P,aHK,bqQ,I,boC]);repeat' first| (first|apply bn1|refine aX (p:=C+2) (n:=4) hl (by omega) (by omega) (by omega) J (fun z h5 h6=> ?_)|refine aX (p:=C+3) (n:=4) hl (by omega) (by omega) (by omega) aA.bH (fun blI h7 h8=> ?_)|refine aV4 (p:=C+4) (n:=3) (by omega) hl (by omega) (by omega) aA.bH (fun p3 x h9 bm bt=> ?_))<;>(simp only[go_sem,boC,aU5,aU6,J,Y,Z,blH,P,aHK,bqQ,I,boC];try simp (disch:=omega) only[Iw])| (with_reducible first|refine fun(cap:Nat) (R:_≤cap)=> ?_|refine fun(bg:_≤cap)=> ?_)|refine⟨by omega,?_⟩|fail
  generalize aYL:aA.set (aA.set _ (d+37) _) (nx+8) _=W;have ah:W (d+37)=some ⟨5,cap,(s.told++[(⟨z-1,blI,x⟩:Job)]).map aS⟩:=by rw[←aYL,aA.aC (by omega),aA.bH,bqX];rfl
  have wf: ∀id,id<d→id≠i→id≠nx+8→id≠nm 4→W id=aID id:=fun id d1 d2 d3 bkS=>by rw[←aYL];simp (disch:=omega) only[aA.aC,aA.jG]
  have wi:W i=some (rdO l p3):=by rw[←aYL];simp (disch:=omega) only[aA.aC,aA.bH]
  clear aYL
  have hN:=(hB.bkG (t:=s.told++[(⟨z-1,blI,x⟩:Job)]) (by simp;omega) (fun j O=>by
   rcases o3.1 O with O|O
   ·exact hB.td j O
   ·rw[CJ] at O;subst O;dsimp only;omega)).fit
  have aAI:=ak.rep.bkG (W:=W) (id0:=d+37) (cap:=cap) (t:=s.told++[(⟨z-1,blI,x⟩:Job)]) ⟨cap,_,ah,rfl,by simp,by simp,by simpa using R,by omega⟩ (fun a g h2=>wf _ (D a g) (by have:=f a g;omega) (by have:=f a g;omega) (m _ _ g (by omega) h2));rw[t2,List.length_singleton] at aAI;refine ab W _ p3 c {s with told:=s.told++[(⟨z-1,blI,x⟩:Job)]} _ _ (by omega) (by omega) S hN.1 hN.2 T.sl aAI (fun a g=> ?_) wi (fun id d1 d2=>(wf id (by omega) d2 (by omega) (by omega)).trans (rf id d1 d2)) rfl rfl;by_cases e:a=4;·rw[e,t8];omega
  ·rw[jE e];have:=f a g;omega
 · (try simp only[go_sem,boC,aU5,aU6,J,Y,Z,B,j2,af,boC]);repeat' first|apply bn1<;>(simp only[go_sem,boC,aU5,aU6,J,Y,Z,B,j2,af,boC])|refine⟨by omega,?_⟩|fail
   have hN:=hB.drop
   generalize aYL:aA.set (aA.set _ nx _) (nx+1) _=W
   have bn:=ak.rep.frame (H':=W) (fun a g=>by have:=f a g;rw[←aYL,aA.aC (by omega),aA.aC (by omega),aA.aC (by omega)])
   obtain⟨bfZ,bpR,f2,_,bpT⟩:=bn.bkJ (F:=fun j=>∃a,a<19∧j=nm a) (fun a g=>⟨a,g,rfl⟩) T.pl T.sl
   have bpS:=bn.bkD (F:=fun j=>∃a,a<19∧j=nm a) (cap:=vc-1) (fun a g=>⟨a,g,rfl⟩) T.sl (by omega)
   subst aYL
   exact al _ _ (C+2) c {s with dD:=s.dD.drop 1} _ (fun j=>∃a,a<19∧j=nm a) (by omega) (by omega) S hN.1 hN.2 (fun j ⟨a,g,O⟩=>by have:=f a g;omega) (fO bfZ (fO bpR (fO f2 (fO bpS (fO bpT LH))))) rfl (by rw[aA.aC (by omega)];exact J) (fun id d1 d2=>by rw[aA.aC (by omega)];exact rf id d1 d2) rfl rfl
 · (try simp only[go_sem,boC,aU5,aU6,J,Y,Z,B,boC]);repeat' first| (first|apply bn1|refine aQA (p:=C+2) (n:=1) (by omega) hl (by omega) (by omega) J (fun H3 cl p3 c' bqH bqI bk6 bk5 bk7 bk8=> ?_))<;>(simp only[go_sem,boC,aU5,aU6,J,Y,Z,B,boC])|fail
   have aXM:=(bk8 (nx+7) (by omega) (by omega)).trans aU5
   have blN:=(bk8 (nx+8) (by omega) (by omega)).trans aU6
   have s0:=(bk8 nx (by omega) (by omega)).trans Y
   have s1:=(bk8 (nx+1) (by omega) (by omega)).trans Z
   (try simp only[go_sem,boC,aXM,blN,s0,s1,B,boC]);repeat' first|apply bn1<;>(simp only[go_sem,boC,aXM,blN,s0,s1,B,boC])|fail
   exact ab _ _ p3 c' s nm _ (by omega) (by omega) bqI az.1 az.2 T.sl (ak.rep.frame fun a g=>by have:=f a g;have:=D a g;rw[aA.aC (by omega),bk8 _ (by omega) (by omega)]) (fun a g=>by have:=f a g;omega) (by rw[aA.aC (by omega)];exact bk7) (fun id d1 d2=>by rw[aA.aC (by omega),bk8 _ (by omega) d2];exact rf id d1 d2) rfl rfl
end
end Go.Proofs.YtmccpdapaccnoaaGreat
namespace Go.AM
structure bm3 (i:CIn):Prop where
 r:i.ready.length≤4
 t:i.n9.length≤4
 s:i.send.length≤4
end Go.AM
namespace Go.Proofs.YtmccpdapaccnoaaGreat
open Go Go.AM
attribute [local irreducible] aM wv aB vd wvH
section
variable {H : aA} {nx : Nat} {K : D → aA → Nat → Prop}
end
end Go.Proofs.YtmccpdapaccnoaaGreat
namespace Go.AM
def bmC:CSt:=⟨[],[],[],[],[]⟩
def inB (i:CIn):Bool:=decide (i.ready.length=3∧i.n9.length=4∧i.send.length=3)
theorem bm2 {i:CIn}:inB i=true↔vZ i:=decide_eq_true_iff
noncomputable def bmA (c:Cfg) (s:CSt) (i:CIn):CSt:=if cyB c s=true∧inB i=true then vF c i s else bmC
end Go.AM
namespace Go.Proofs.YtmccpdapaccnoaaGreat
open Go Go.AM
attribute [local irreducible] aM wv aB vd wvH
section
variable {H : aA} {nx : Nat} {K : D → aA → Nat → Prop}
theorem bl6 {i:CIn} (j:i.ready.length<2^20) (k:i.n9.length<2^20) (l:i.send.length<2^20) (h:K (dB (inB i)) H nx):aB Tryz.prog uJ [boR (eIn i)] H nx K:=by
 refine aB.pure (args0:=[boR (eIn i)]) (R:=fun f=>f=dB (inB i)) ?_ rfl (aI ⟨aE rfl,trivial⟩) (fun r hr=>hr▸h);clear h;refine XL rfl fun Q c=> ?_;unfold CT;by_cases b:i.ready.length=3
 ·by_cases d:i.n9.length=4
  ·by_cases e:i.send.length=3
   ·have a:inB i=true:=decide_eq_true ⟨b,d,e⟩;repeat' first| (first|apply bn1|apply bpJ (by omega))<;>(simp only[go_sem,b,d,e])|fail
    all_goals exact aZ c _ rfl rfl (congrArg dB a.symm)
   ·have a:inB i=false:=decide_eq_false fun h=>e h.2.2;have g:decide ((i.send.length:Int)=3)=false:=decide_eq_false (by omega);repeat' first| (first|apply bn1|apply bpJ (by omega))<;>(simp only[go_sem,b,d,g])|fail
    all_goals first|exact aZ c _ rfl rfl (congrArg dB a.symm)|omega
  ·have a:inB i=false:=decide_eq_false fun h=>d h.2.1;repeat' first| (first|apply bn1|apply bpJ (by omega)|apply bpK (by omega))<;>(simp only[go_sem,b])|fail
   all_goals first|exact aZ c _ rfl rfl (congrArg dB a.symm)|omega
 ·have a:inB i=false:=decide_eq_false fun h=>b h.1;repeat' first| (first|apply bn1|apply bpK (by omega))<;>(simp only[go_sem])|fail
  all_goals first|exact aZ c _ rfl rfl (congrArg dB a.symm)|omega
theorem bmP {c:Cfg} {s:CSt} {i:CIn} (y:jO c) (R:beL s) (hi:bm3 i)
 (h: ∀H' nx',nx≤nx'→(∀id,id<nx→H' id=H id)→K (boR (eI (bmA c s i))) H' nx'):aB Tryz.prog FO [boR (cU c),boR (eI s),boR (eIn i)] H nx K:=by
 obtain⟨l1,l2,l3⟩:=hi
 by_cases A:cyB c s=true∧inB i=true
 ·obtain⟨N,hs⟩:=bmR.1 A.1;unfold bmA at h;rw[if_pos A] at h;obtain⟨r,t⟩:=A;apply aB.tW;refine PB rfl fun Q O=> ?_;unfold vJ;repeat' first| (first|apply bn1|apply bd4 y R|apply bl6 (i:=i) (by omega) (by omega) (by omega)|refine fJ (hs.sz N) (fun H' nx' nm cells hx T boS m=> ?_))<;>(simp only[go_sem,r,t,boC])|fail
  have B:cells.length=5:=by obtain⟨_,_,_,_,_,rfl,_⟩:=T.ex;rfl
  have C:cells++List.drop cells.length [D1.osl 0 0 0 0 0,.osl 0 0 0 0 0,.osl 0 0 0 0 0,.osl 0 0 0 0 0,.osl 0 0 0 0 0]=cells:=by rw[B];simp
  refine⟨B,by omega,?_⟩;rw[C];try apply bn0
  refine aM.TF fun bqO u=> ?_;have n: ∀id,id<nx+4→bqO id=H' id:=fun id l=>by rw[u,aA.aC (by omega)]
  have c0:bqO nx=some ⟨3,1,[cU c]⟩:=by rw[n _ (by omega),m _ (by omega)];simp only[aA.set,bqT,Nat.reduceEqDiff,if_false,if_true,brN,reduceIte]
  have c2:bqO (nx+2)=some ⟨3,1,[eIn i]⟩:=by rw[n _ (by omega),m _ (by omega)];simp only[aA.set,bqU,Nat.reduceEqDiff,bqV,if_false,if_true,reduceIte]
  have c3:bqO (nx+3)=some ⟨5,1,[[.osl 0 0 0 0 0,.osl 0 0 0 0 0,.osl 0 0 0 0 0,.osl 0 0 0 0 0,.osl 0 0 0 0 0]]⟩:=by rw[n _ (by omega),m _ (by omega)];simp only[aA.set,bqU,Nat.reduceEqDiff,bqV,if_false,if_true,reduceIte]
  have U: ∀id,id<nx→bqO id=H id:=fun id l=>by rw[n _ (by omega),m _ (by omega)];simp only[aA.set,show ¬id=nx by omega,show ¬id=nx+1 by omega,show ¬id=nx+2 by omega,show ¬id=nx+3 by omega,if_false]
  have bnC:Rep (fun id=>id<nx+4) bqO nx' (nx+15) nm s:=by have v:=fun k g=>boS.rng k g;refine⟨⟨cells,by rw[u];exact aA.bH,T.frame fun k g=>by have:=v k g;rw[u,aA.aC (by omega)]⟩,⟨boS.inj,fun k g=>by have:=v k g;omega,fun k g hn=>by have:=v k g;omega⟩,fun k g=>by have:=v k g;omega,⟨by omega,by omega⟩,fun id l=>by omega⟩
  clear u T boS m n;have hA:bQ nx' [nx,nx+2]:=AM.apart (by simp) (by simp;omega);simp only[bQ,eZ] at hA;repeat' first|apply bn1<;>(simp only[go_sem,t1,bqT,c0,c2,hA])|fail
  refine tX (X:=fun id=>id<nx+4) N hs (bm2.1 t) (bnC.frame (by omega) rfl (fun _ _=>rfl) fun id D=>⟨by omega,by omega,fun k g he=>bnC.names.av k g (he▸D)⟩) fun H2 V o a b d e aa w E=> ?_;have G:COk c (vF c i s):=PN N hs;generalize vF c i s=S at*;obtain⟨P,W,I⟩:=w.st;obtain⟨wc,hc,pc,vc,tc,J,_⟩:=I.ex;have p:=W;rw[J] at p;unfold U2 at p;simp only[go_sem];repeat' first|apply bn1<;>(simp only[go_sem,p])|fail
  have ab:=w.names.lt;refine aB.ao4 (args':=[boR (eI S)]) (without (fun j=>∃k,k<19∧j=o k) H2) (fun j=>∃k,k<19∧j=o k) rfl (fun i d0 d r t=> ?_) kS ?_
  ·match i with
   |0=>simp only[List.getElem?_cons_zero,Option.some.injEq] at r t;subst r;subst t;have:=A8 (σ:=id) (nh:=V+3) (I.VI (F:=fun j=>∃k,k<19∧j=o k) (fun k g=>⟨k,g,rfl⟩) G.pl G.sl);rw[J] at this;exact lY this
   |i+1=>simp at r
  refine fJ (G.sz N) fun H3 ad Y f ae L M x=> ?_;have q:f.length=5:=by obtain⟨_,_,_,_,_,rfl,_⟩:=L.ex;rfl
  have z:f++List.drop f.length [D1.osl 0 0 0 0 0,.osl 0 0 0 0 0,.osl 0 0 0 0 0,.osl 0 0 0 0 0,.osl 0 0 0 0 0]=f:=by rw[q];simp
  have e3:H3 (nx+3)=some ⟨5,1,[[.osl 0 0 0 0 0,.osl 0 0 0 0 0,.osl 0 0 0 0 0,.osl 0 0 0 0 0,.osl 0 0 0 0 0]]⟩:=by rw[x _ (by omega),iI (fun⟨k,g,he⟩=>w.names.av k g (show o k<nx+4 by omega)),E _ (show nx+3<nx+4 by omega)];exact c3
  simp only[go_sem,e3];refine⟨q,by omega,?_⟩;rw[z];try apply bn0
  repeat' first|apply bn1<;>(simp only[go_sem])|fail
  refine O _ _ _ _ _ (.inr rfl) (fZ rfl aA.bH q) ⟨boR (eI S),_,fun j=>∃k,k<19∧j=Y k,?_,kS,h _ _ (by omega) fun id l=> ?_⟩;·exact lY (A8 ((L.frame fun k g=>aA.aC (by have:=M.rng k g;omega)).VI (fun k g=>⟨k,g,rfl⟩) G.pl G.sl))
  ·rw[iI (fun⟨k,g,he⟩=>by have:=M.rng k g;omega),aA.aC (by omega),x _ (by omega),iI (fun⟨k,g,he⟩=>w.names.av k g (show o k<nx+4 by omega)),E _ (show id<nx+4 by omega)];exact U id l
 ·unfold bmA at h;rw[if_neg A] at h;apply aB.tW;refine PB rfl fun Q O=> ?_;unfold vJ;have hz:eI bmC=[.isl [],.isl [],.isl [],.isl [],.isl []]:=rfl;by_cases r:cyB c s=true
  ·have t:inB i=false:=by cases Z:inB i;rfl;exact absurd ⟨r,Z⟩ A
   repeat' first| (first|apply bn1|apply bd4 y R|apply bl6 (i:=i) (by omega) (by omega) (by omega))<;>(simp only[go_sem,r,t,boC])|fail
   exact O _ _ _ _ _ (.inr rfl) (LL rfl aA.bH rfl) ⟨boR (eI bmC),_,noF,lY (aH (.frz (.nil ..)) (aH (.frz (.nil ..)) (aH (.frz (.nil ..)) (aH (.frz (.nil ..)) (aH (.frz (.nil ..)) eP))))),aK,h _ _ (by omega) fun id l=>by simp (disch:=omega) only[aA.aC]⟩
  ·have t:cyB c s=false:=by cases Z:cyB c s;rfl;exact absurd Z r
   repeat' first| (first|apply bn1|apply bd4 y R)<;>(simp only[go_sem,t,boC])|fail
   exact O _ _ _ _ _ (.inr rfl) (LL rfl aA.bH rfl) ⟨boR (eI bmC),_,noF,lY (aH (.frz (.nil ..)) (aH (.frz (.nil ..)) (aH (.frz (.nil ..)) (aH (.frz (.nil ..)) (aH (.frz (.nil ..)) eP))))),aK,h _ _ (by omega) fun id l=>by simp (disch:=omega) only[aA.aC]⟩
end
end Go.Proofs.YtmccpdapaccnoaaGreat
namespace Go.AM
theorem bs8:vZ pU:=⟨rfl,rfl,rfl⟩
noncomputable def bs7 (c:Cfg) (s:CSt) (n:Int):CSt:=if cyB c s=true∧n≤300 then sQ c s (List.replicate n.toNat pU) else bmC
theorem btB {c:Cfg} {s:CSt} {k:Nat}:sQ c s (List.replicate (k+1) pU)=vF c pU (sQ c s (List.replicate k pU)):=by simp only[List.replicate_succ',sQ,btR,List.foldl_cons,List.foldl_nil]
theorem bs9 {H:aA} {F:Nat→Prop} {σ:Nat→Nat} {nh a b d:Nat} (c:H a=some ⟨1,3,[true,true,true].map eH⟩) (e:H b=some ⟨1,4,[false,false,false,false].map eH⟩) (f:H d=some ⟨1,3,[true,true,true].map eH⟩) (bpR:F a) (g:F b) (bpS:F d):
 CvL H F σ nh (eIn pU) [.osl 1 a 0 3 3,.osl 1 b 0 4 4,.osl 1 d 0 3 3]:=
 aH (bW mK c rfl (by decide) bpR) (aH (bW mK e rfl (by decide) g) (aH (bW mK f rfl (by decide) bpS) eP))
end Go.AM
namespace Go.Proofs.YtmccpdapaccnoaaGreat
open Go Go.AM
attribute [local irreducible] aM wv aB vd wvH
section
variable {H : aA} {nx : Nat} {K : D → aA → Nat → Prop}
theorem bs5 (h: ∀H' nx',nx≤nx'→(∀id,id<nx→H' id=H id)→K (boR (eIn pU)) H' nx'):aB Tryz.prog CS [] H nx K:=by apply aB.tW;refine YE fun H' nx' f b c d e=>⟨boR (eIn pU),without (fun j=>j=nx+1∨j=nx+2∨j=nx+3) H',_,lY (bs9 b c d (.inl rfl) (.inr (.inl rfl)) (.inr (.inr rfl))),kS,h _ _ (by omega) fun id a=>by rw[iI (by omega)];exact e id a⟩
theorem bs4:cJ Tryz.prog bsS Tryz.f59 bsP bsV:=cJ.mk Tryz.func59 (by kernel_rfl) bs2
theorem bs3 {c:Cfg} {s:CSt} {n:Int} (A:jO c) (T:beL s)
 (h: ∀H' nx',nx≤nx'→(∀id,id<nx→H' id=H id)→K (boR (eI (bs7 c s n))) H' nx'):aB Tryz.prog bsS [boR (cU c),boR (eI s),boP n] H nx K:=by
 apply aB.tW
 refine bs4 rfl fun Q hQ=> ?_
 unfold bsP
 have m:bs7 c s n=bmC→∀{G:aA} {U:Env} {V:Nat},nx≤V→(∀id,id<nx→G id=H id)→U 6= .one (.c (.ptr 5 (nx+2) 0 0))→Q .ret U (G.set (nx+2) ⟨5,1,[[.osl 0 0 0 0 0,.osl 0 0 0 0 0,.osl 0 0 0 0 0,.osl 0 0 0 0 0,.osl 0 0 0 0 0]]⟩) V:=fun W G U V g1 X g3=>by rw[W] at h;exact hQ _ _ _ _ _ (.inr rfl) (LL g3 aA.bH rfl) ⟨boR (eI bmC),_,noF,lY (aH (.frz (.nil ..)) (aH (.frz (.nil ..)) (aH (.frz (.nil ..)) (aH (.frz (.nil ..)) (aH (.frz (.nil ..)) eP))))),aK,h _ _ g1 fun id a=>by rw[aA.aC (by omega)];exact X id a⟩
 cases B:cyB c s
 ·repeat' first| (first|apply bn1|apply bd7 A T)<;>(simp only[go_sem,B,boC])|fail
  exact m (if_neg fun R=>by rw[B] at R;exact absurd R.1 (by decide)) (by omega) (fun id a=>by simp (disch:=omega) only[aA.aC]) rfl
 by_cases hn:n≤300
 case neg=>
  repeat' first| (first|apply bn1|apply bd7 A T)<;>(simp only[go_sem,B,boC])|apply bn2 (by omega)|fail
  exact m (if_neg fun R=>hn R.2) (by omega) (fun id a=>by simp (disch:=omega) only[aA.aC]) rfl
 have W:bs7 c s n=sQ c s (List.replicate n.toNat pU):=if_pos ⟨B,hn⟩
 rw[W] at h
 clear m
 obtain⟨S,hs⟩:=bmR.1 B
 have Y:=hs.sz S
 repeat' first| (first|apply bn1|apply bd7 A T|refine bjQ Y (fun H1 Z nm cells hx hR boS r=> ?_))<;>(simp only[go_sem,B,boC])|apply bn3 (by omega)|fail
 have f:cells.length=5:=by obtain⟨_,_,_,_,_,rfl,_⟩:=hR.ex;rfl
 have b:cells++List.drop cells.length [D1.osl 0 0 0 0 0,.osl 0 0 0 0 0,.osl 0 0 0 0 0,.osl 0 0 0 0 0,.osl 0 0 0 0 0]=cells:=by rw[f];simp
 refine⟨f,by omega,?_⟩
 rw[b]
 generalize bqK:aA.set H1 (nx+13) _=G
 have C:G (nx+13)=some ⟨5,1,[cells]⟩:=by rw[←bqK];exact aA.bH
 have bqC:G nx=some ⟨3,1,[cU c]⟩:=by rw[←bqK,aA.aC (by omega),r _ (by omega)];simp (disch:=omega) only[aA.aC,aA.bH]
 have X:G (nx+2)=some ⟨5,1,[[.osl 0 0 0 0 0,.osl 0 0 0 0 0,.osl 0 0 0 0 0,.osl 0 0 0 0 0,.osl 0 0 0 0 0]]⟩:=by rw[←bqK,aA.aC (by omega),r _ (by omega)];simp (disch:=omega) only[aA.aC,aA.bH]
 have gf: ∀id,id<nx→G id=H id:=fun id a=>by rw[←bqK,aA.aC (by omega),r _ (by omega)];simp (disch:=omega) only[aA.aC]
 have D:bgJ (fun j=>j<nx+14) G Z nm s cells:=⟨hR.frame fun k e=>by have:=boS.rng k e;rw[←bqK,aA.aC (by omega)],⟨boS.inj,fun k e=>(boS.rng k e).2,fun k e hj=>by have:=(boS.rng k e).1;have hj:nm k<nx+14:=hj;omega⟩,fun id a=>by have a:id<nx+14:=a;omega⟩
 clear bqK r hR boS
 try apply bn0
 repeat' first|apply bn1<;>(simp only[go_sem])|fail
 refine aM.gP (β:=Nat×CSt×(Nat→Nat)×List D1) (fun u=>en [(8,boP u.1),(7,.one (.c (.ptr 5 (nx+13) 0 0))),(6,.one (.c (.ptr 5 (nx+2) 0 0))),(3,.one (.c (.ptr 3 nx 0 0))),(2,boP n)])
  (fun u E bqP=>u.1≤n.toNat∧u.2.1=sQ c s (List.replicate u.1 pU)∧bgJ (fun j=>j<nx+14) E bqP u.2.2.1 u.2.1 u.2.2.2∧E (nx+13)=some ⟨5,1,[u.2.2.2]⟩∧ ∀id,id<nx+13→E id=G id)
  (fun u=>n.toNat-u.1) (0,s,nm,cells) ⟨noF,_,by repeat' first|exact bo2|refine xqI rfl rfl ?_|refine xqP (by omega) rfl rfl ?_|fail,aK,by dsimp only;omega,rfl,D.frame (by omega) fun _ _ _=>rfl,C,fun _ _=>rfl⟩ ?_
 clear D C f b
 rintro⟨k,bp7,t,v⟩ E aa ai ⟨e,o,p,w,x⟩ bpQ ab
 dsimp only at e o p w
 have F:COk c bp7:=by rw[o];exact(afM S hs).1
 have s0:=(x nx (by omega)).trans bqC
 have s2:=(x (nx+2) (by omega)).trans X
 have f:=p.len
 have q:bQ aa [nx,nx+2,nx+13]:=AM.apart (by simp) (by simp;omega)
 simp only[bQ,eZ] at q
 by_cases aj:(k:Int)<n
 ·repeat' first| (first|apply bn1|apply bs5)<;>(simp only[go_sem,s0,w,q,f,boC])|apply bn2 (by omega)|fail
  intro bqL ad ae i;have I:=(i (nx+13) (by omega)).trans w;have aU0:=(i nx (by omega)).trans s0;refine⟨⟨fun _=>by rw[I];simp only[go_sem,f],fun _=>by rw[aU0];rfl⟩,?_⟩;refine bi3 S F bs8 (p.frame (by omega) fun id d1 _=>i id (by omega)) fun aZJ ak af y al J L=> ?_;have M:=(L (nx+13) (by show nx+13<nx+14;omega)).trans I;have z:=J.len;have b:List.drop 5 v=[]:=by rw[←f];simp
  (try simp only[go_sem,boC,M,z,b,bq6,q,boC]);repeat' first|apply bn1<;>(simp only[go_sem,boC,M,z,b,bq6,q,boC];try simp (disch:=omega) only[Iw])|refine⟨by omega,?_⟩|fail
  refine ab _ _ _ (k+1,vF c pU bp7,af,y) noF _ (by omega) (by dsimp only;omega) (by repeat' first|exact bo2|refine xqI rfl rfl ?_|refine xqP (by omega) rfl rfl ?_|fail) aK ⟨by dsimp only;omega,by dsimp only;rw[o,btB],by dsimp only;exact J.frame (by omega) fun id _ d2=>aA.aC (by omega),aA.bH,fun id a=> ?_⟩;rw[aA.aC (by omega),L id (by show id<nx+14;omega),i id (by omega)];exact x id a
 ·repeat' first|apply bn1<;>(simp only[go_sem,s0,s2,w,q,f,boC])|apply bn3 (by omega)|fail
  have g:=F.sz S;have N:=p.names.av;have ag:k=n.toNat:=by omega
  rw[ag] at o;rw[←o] at h;refine aB.ao4 (args':=[boR (eI bp7)]) (without (fun j=>∃k,k<19∧j=t k) E) (fun j=>∃k,k<19∧j=t k) rfl (bkE (lY (A8 (p.rep.VI (fun k e=>⟨k,e,rfl⟩) g.pl g.sl)))) kS ?_;refine bjQ g fun bqL ad ah d ae O P i=> ?_;have bqI:bqL (nx+2)=some ⟨5,1,[[.osl 0 0 0 0 0,.osl 0 0 0 0 0,.osl 0 0 0 0 0,.osl 0 0 0 0 0,.osl 0 0 0 0 0]]⟩:=by rw[i _ (by omega),iI (fun⟨k,e,he⟩=>N k e (by show t k<nx+14;omega))];exact s2
  have wf: ∀id,id<nx→bqL id=H id:=fun id a=>by rw[i _ (by omega),iI (fun⟨k,e,he⟩=>N k e (by show t k<nx+14;omega)),x id (by omega)];exact gf id a
  have l:d.length=5:=by obtain⟨_,_,_,_,_,rfl,_⟩:=O.ex;rfl
  have b:d++List.drop d.length [D1.osl 0 0 0 0 0,.osl 0 0 0 0 0,.osl 0 0 0 0 0,.osl 0 0 0 0 0,.osl 0 0 0 0 0]=d:=by rw[l];simp
  (try simp only[go_sem,boC,bqI,l,b,boC]);repeat' first|apply bn1<;>(simp only[go_sem,boC,bqI,l,b,boC])|fail
  refine hQ _ _ _ _ _ (.inr rfl) (LL rfl aA.bH l) ⟨boR (eI bp7),_,fun j=>∃k,k<19∧j=ah k,?_,kS,h _ _ (by omega) fun id a=> ?_⟩;·exact lY (A8 ((O.frame fun k e=>aA.aC (by have:=P.rng k e;omega)).VI (fun k e=>⟨k,e,rfl⟩) g.pl g.sl))
  ·rw[iI (fun⟨k,e,he⟩=>by have:=P.rng k e;omega),aA.aC (by omega)];exact wf id a
theorem bsX:cJ Tryz.prog bsQ Tryz.f62 bsN bsR:=cJ.mk Tryz.func62 (by kernel_rfl) bsY
theorem bsZ {l:List Int} (hl:kZ l) (h: ∀H' nx' c s,nx≤nx'→jO c→beL s→(∀id,id<nx→H' id=H id)→K (.tup [.agg (cU c),.agg (eI s)]) H' nx'):aB Tryz.prog bsQ [dS (l.map eU8)] H nx K:=by
 have m:kZ (l.take 2000):=⟨by simp;omega,fun x I=>hl.byte x (List.take_subset _ _ I)⟩
 refine bsX rfl fun Q O=> ?_;unfold bsN;repeat' first| (first|apply bn1|apply bkX.F2)<;>(simp only[go_sem,boC])|fail
 refine biL (p:=0) (n:=9) (by omega) m (by omega) (by omega) aA.bH fun H1 z A c s B P g r Y i j=> ?_;have bqB:H1 nx=some ⟨3,1,[[.osl 0 0 0 0 0,.osl 0 0 0 0 0,.osl 0 0 0 0 0]]⟩:=by rw[j _ (by omega) (by omega)];simp (disch:=omega) only[aA.aC,aA.bH]
 have v:H1 (nx+1)=some ⟨5,1,[[.osl 0 0 0 0 0,.osl 0 0 0 0 0,.osl 0 0 0 0 0,.osl 0 0 0 0 0,.osl 0 0 0 0 0]]⟩:=by rw[j _ (by omega) (by omega)];simp (disch:=omega) only[aA.aC,aA.bH]
 have J: ∀id,id<nx→H1 id=H id:=fun id d=>by rw[j _ (by omega) (by omega)];simp (disch:=omega) only[aA.aC]
 clear j;have a:bQ z [nx,nx+1,nx+5,nx+11,nx+12]:=AM.apart (by simp) (by simp;omega);simp only[bQ,eZ] at a
 have f: ∀(W:aA) (C:Nat) (y:CSt),nx≤C→beL y→(∀id,id<nx→W id=H id)→∀{w:Env},w 2= .one (.c (.ptr 3 nx 0 0))→w 3= .one (.c (.ptr 5 (nx+1) 0 0))→Q .ret w ((W.set nx ⟨3,1,[cU c]⟩).set (nx+1) ⟨5,1,[eI y]⟩) C:=fun W C y az9 az2 aAD w R S=>
  O _ _ _ _ _ (.inr rfl) (bjT R ((aA.aC (by omega)).trans aA.bH) rfl S aA.bH rfl) (h _ _ c y az9 g az2 fun id d=>by rw[aA.aC (by omega),aA.aC (by omega)];exact aAD id d)
 (try simp only[go_sem,boC,bqB,v,i,a,boC]);repeat' first| (first|apply bn1| (apply aX (p:=A) m (by omega) (by omega) (by omega) (by rw[aA.aC (by omega),aA.aC (by omega)];exact i)))<;>(simp only[go_sem,boC,bqB,v,i,a,boC])|fail
 intro x B D;generalize bqK:aA.set _ (nx+5) _=G;have bqC:G nx=some ⟨3,1,[[.osl 0 0 0 0 0,.osl 0 0 0 0 0,.osl 0 0 0 0 0]]⟩:=by rw[←bqK];simp (disch:=omega) only[aA.aC];exact bqB
 have o:G (nx+1)=some ⟨5,1,[[.osl 0 0 0 0 0,.osl 0 0 0 0 0,.osl 0 0 0 0 0,.osl 0 0 0 0 0,.osl 0 0 0 0 0]]⟩:=by rw[←bqK];simp (disch:=omega) only[aA.aC];exact v
 have T:G (nx+5)=some (rdO (l.take 2000) (A+1)):=by rw[←bqK];exact aA.bH
 have b:G (nx+11)=some ⟨3,1,[cU c]⟩:=by rw[←bqK];simp (disch:=omega) only[aA.aC,aA.bH]
 have e:G (nx+12)=some ⟨5,1,[eI s]⟩:=by rw[←bqK];simp (disch:=omega) only[aA.aC,aA.bH]
 have E: ∀id,id<nx→G id=H id:=fun id d=>by rw[←bqK];simp (disch:=omega) only[aA.aC];exact J id d
 clear bqK bqB v J i;by_cases I:x=0
 ·cases hc:cyB c s
  · (try simp only[go_sem,boC,hc,bqC,o,b,e,a,boC]);repeat' first| (first|apply bn1|apply bpJ (by omega)|apply bd7 g r)<;>(simp only[go_sem,boC,hc,bqC,o,b,e,a,boC])|fail
    exact f G _ s (by omega) r E rfl rfl
  · (try simp only[go_sem,boC,hc,bqC,o,b,e,a,boC]);repeat' first| (first|apply bn1|apply bpJ (by omega)|apply bd7 g r|apply aX (p:=A+1) m (by omega) (by omega) (by omega) T)<;>(simp only[go_sem,boC,hc,bqC,o,b,e,a,boC])|fail
    intro y U V
    refine bs3 g r fun H2 F D k=> ?_
    have L:H2 nx=some ⟨3,1,[[.osl 0 0 0 0 0,.osl 0 0 0 0 0,.osl 0 0 0 0 0]]⟩:=by rw[k _ (by omega),aA.aC (by omega)];exact bqC
    have M:H2 (nx+1)=some ⟨5,1,[[.osl 0 0 0 0 0,.osl 0 0 0 0 0,.osl 0 0 0 0 0,.osl 0 0 0 0 0,.osl 0 0 0 0 0]]⟩:=by rw[k _ (by omega),aA.aC (by omega)];exact o
    have t:H2 (nx+11)=some ⟨3,1,[cU c]⟩:=by rw[k _ (by omega),aA.aC (by omega)];exact b
    have X: ∀id,id<nx→H2 id=H id:=fun id d=>by rw[k _ (by omega),aA.aC (by omega)];exact E id d
    have q:bQ F [nx,nx+1,nx+11]:=AM.apart (by simp) (by simp;omega)
    simp only[bQ,eZ] at q
    obtain⟨N,hs⟩:=bmR.1 hc
    have u:beL (bs7 c s y):=by rw[show bs7 c s y=sQ c s (List.replicate y.toNat pU) from if_pos ⟨hc,by omega⟩];exact(((afM N hs).1.base N).bj4.fit).1
    (try simp only[go_sem,boC,L,M,t,q,boC]);repeat' first|apply bn1<;>(simp only[go_sem,boC,L,M,t,q,boC])|fail
    refine⟨fun h=>h.elim,?_⟩
    try apply bn0
    repeat' first|apply bn1<;>(simp only[go_sem])|fail
    exact f H2 _ (bs7 c s y) (by omega) u X rfl rfl
 · (try simp only[go_sem,boC,bqC,o,b,e,a,boC]);repeat' first| (first|apply bn1|apply bpK (by omega))<;>(simp only[go_sem,boC,bqC,o,b,e,a,boC])|fail
   exact f G _ s (by omega) r E rfl rfl
end
end Go.Proofs.YtmccpdapaccnoaaGreat
namespace Go.AM
theorem bm1 {c:Cfg} {s:CSt} {i:CIn} (a:cyB c s=true) (b:inB i=true):bmA c s i=vF c i s:=if_pos ⟨a,b⟩
end Go.AM
namespace Go.Proofs.YtmccpdapaccnoaaGreat
open Go Go.AM
attribute [local irreducible] aM wv aB vd wvH
theorem bs1:cJ Tryz.prog bsU Tryz.f12 bsO bsT:=cJ.mk Tryz.func12 (by kernel_rfl) bs0
theorem btA (l:List Int) (z: ∀x∈l,0≤x∧x<256):aB Tryz.prog bsU [dS (l.map eU8)] .nil 0 fun R _ _=>R.plain=true∧R=dB true:=by
 refine bs1 rfl fun Q A=> ?_;unfold bsO;by_cases S:l.length≤1048576
 case neg=>
  repeat' first|apply bn1<;>(simp only[go_sem])|apply bn2 (by omega)|fail
  exact A _ _ _ _ _ (.inr rfl) rfl ⟨rfl,rfl⟩
 have hl:kZ l:=⟨by omega,z⟩
 repeat' first| (first|apply bn1|apply bsZ hl)<;>(simp only[go_sem])|apply bn3 (by omega)|fail
 intro H1 B c s X a i _;have j:bQ B [9,10]:=AM.apart (by simp) (by simp;omega);simp only[bQ,eZ] at j;have m: ∀{H:aA} {nx:Nat} {K:D→aA→Nat→Prop},K (dB true) H nx→aB Tryz.prog E2 [] H nx K:=fun h=>apY h;have n:(true != true)=false:=rfl;have o:(false != false)=false:=rfl;cases p:cdB c s
 · (try simp only[go_sem,boC,p,o,j,boC]);repeat' first| (first|apply bn1|apply bgH a i|apply bgF a i|apply m)<;>(simp only[go_sem,boC,p,o,j,boC])|fail
   all_goals exact A _ _ _ _ _ (.inr rfl) rfl ⟨rfl,rfl⟩
 have q:=p;unfold cdB at q;rw[q7] at q;obtain⟨T,hs⟩:=bmR.1 q.1;have d:Fin c s:=(asX hs).1 (of_decide_eq_true q.2);have r:=hs.pl;have C:=T.2.2.2.1;(try simp only[go_sem,boC,p,n,j,boC]);repeat' first| (first|apply bn1|apply bgH a i|apply bgF a i)<;>(simp only[go_sem,boC,p,n,j,boC])|fail
 generalize bqK:aA.set _ 10 _=G;have bp5:G 9=some ⟨3,1,[cU c]⟩:=by rw[←bqK,aA.aC (by omega)];exact aA.bH
 have t:G 10=some ⟨5,1,[eI s]⟩:=by rw[←bqK];exact aA.bH
 clear bqK
 refine aM.gP (β:=Nat) (fun u=>en [(6,boP u),(4,.one (.c (.ptr 5 10 0 0))),(3,.one (.c (.ptr 3 9 0 0)))])
  (fun u E bqP=>u≤3∧E 9=some ⟨3,1,[cU c]⟩∧E 10=some ⟨5,1,[eI s]⟩) (fun u=>3-u) 0 ⟨noF,_,by repeat' first|exact bo2|refine xqI rfl rfl ?_|refine xqP (by omega) rfl rfl ?_|fail,aK,by omega,bp5,t⟩ ?_
 clear bp5 t;rintro k E F U ⟨hk,a7,b⟩ bpQ I;have e:bQ F [9,10]:=AM.apart (by simp) (by simp;omega);simp only[bQ,eZ] at e;by_cases J:k<3
 ·obtain⟨bpR,V,bpS⟩:=d k J;obtain⟨pp,f⟩: ∃pp,pp=aF s k:=⟨_,rfl⟩
  have L:s.bM.getD k default=pp:=f.symm;obtain⟨M,N⟩: ∃M,M=c.cP.getD k default:=⟨_,rfl⟩
  have v:c.cP.getD k default=M:=N.symm;rw[←f,v] at bpR;rw[←f] at V bpS;repeat' first| (first|apply bn1|apply bpK (by omega))<;>(simp only[go_sem,a7,b,e,L,v,r,C,bpR,V,bpS,boC];try simp (disch:=omega) only[Iw])|apply bn2 (by omega)|refine⟨by omega,?_⟩|fail
  exact I _ _ _ (k+1) noF _ (by omega) (by omega) (by repeat' first|exact bo2|refine xqI rfl rfl ?_|refine xqP (by omega) rfl rfl ?_|fail) aK ⟨by omega,a7,b⟩
 ·repeat' first| (first|apply bn1|apply XE)<;>(simp only[go_sem,a7,b,e,r,boC])|apply bn3 (by omega)|fail
  intro bqL Y Z w;have a8:=(w 9 (by omega)).trans a7;have g:=(w 10 (by omega)).trans b;refine⟨⟨fun _=>by rw[g];rfl,fun _=>by rw[g];rfl,fun _=>by rw[a8];rfl⟩,?_⟩;refine bmP a i ⟨by decide,by decide,by decide⟩ fun aZJ aa ab O=> ?_;rw[show bmA c s pU=s from (bm1 q.1 (bm2.2 bs8)).trans (btC hs d)];have P:=(O 10 (by omega)).trans g;have W:=hs.sz T;have y:decide (s=s)=true:=decide_eq_true rfl;simp only[go_sem];refine⟨⟨fun _=>by rw[P];rfl,fun h=>h.elim,fun h=>h.elim⟩,?_⟩;(try simp only[go_sem,boC,y,boC]);repeat' first| (first|apply bn1|apply aoR W W)<;>(simp only[go_sem,boC,y,boC])|fail
  exact A _ _ _ _ _ (.inr rfl) rfl ⟨rfl,rfl⟩
end Go.Proofs.YtmccpdapaccnoaaGreat
