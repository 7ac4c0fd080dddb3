/- Texts laid together by a program: rules, contracts and the walk that leads to the law. -/
import Derived.Test.YtdkfhdmagdaceaaGreatPN9
import Derived.Test.YtdkfhdmagdaceaaGreatPN28
import Derived.Test.YtdkfhdmagdaceaaGreatPN26
import Derived.Test.YtdkfhdmagdaceaaGreatPN27
import Derived.Test.YtdkfhdmagdaceaaGreatPN8
set_option linter.unusedVariables false
set_option linter.unusedSimpArgs false
set_option linter.unusedSectionVars false
set_option maxRecDepth 100000
set_option maxHeartbeats 8000000
namespace Go.Proofs.YtdkfhdmagdaceaaGreat
open Go Go.AM
attribute [local irreducible] aM wv aB vd wvH
section
variable {H : aA} {nx : Nat} {K : D → aA → Nat → Prop}
theorem bh5:cJ Tryz.prog bgS Tryz.f110 bgP bhE:=cJ.mk Tryz.func110 (by kernel_rfl) bh8
theorem biL {l:List Int} {p i:Nat} {n:Int} (hn:0<n∧n<9000) (hl:kZ l) (bo:p+5000<2^50) (hi:i<nx) (ho:H i=some (rdO l p))
 (h: ∀H' nx' p' (c:Cfg) (s:CSt),nx≤nx'→p'≤p+4500→jO c→beL s→bdV s→H' i=some (rdO l p')→(∀id,id<nx→id≠i→H' id=H id)→K (.tup [.agg (cU c),.agg (eI s)]) H' nx'):aB Tryz.prog bgS [bkP 2 i,boP n] H nx K:=by
 apply aB.tW
 refine bh5 rfl fun Q hQ=> ?_
 unfold bgP
 have hA:bQ nx [i]:=AM.apart (by simp) (by simp;omega)
 simp only[bQ,eZ] at hA
 repeat' first| (first|apply bn1| (refine bjP (p:=p) hl (by omega) (by omega) (by rw[aA.aC (by omega),aA.aC (by omega)];exact ho) (fun H1 d p1 c s nm cells bu bw bh S T bj ai bk ax=> ?_)))<;>(simp only[go_sem,boC,hA])|fail
 have ao:cells.length=5:=by obtain⟨_,_,_,_,_,rfl,_⟩:=bj.ex;rfl
 have aq:cells++List.drop cells.length [D1.osl 0 0 0 0 0,.osl 0 0 0 0 0,.osl 0 0 0 0 0,.osl 0 0 0 0 0,.osl 0 0 0 0 0]=cells:=by rw[ao];simp
 refine⟨ao,by omega,?_⟩
 rw[aq]
 try apply bn0
 clear aq
 have D:=ai.lt
 have f: ∀k,k<19→nx+11≤nm k:=fun k M=>Nat.le_of_not_lt (ai.av k M)
 generalize bqK:aA.set _ (nx+8) _=G
 have bp4:G (nx+8)=some ⟨5,1,[cells]⟩:=by rw[←bqK];exact aA.bH
 have bkV:G (nx+7)=some ⟨3,1,[cU c]⟩:=by rw[←bqK,aA.aC (by omega)];exact aA.bH
 have gi:G i=some (rdO l p1):=by rw[←bqK,aA.aC (by omega),aA.aC (by omega)];exact bk
 have bqC:G nx=some ⟨3,1,[[.osl 0 0 0 0 0,.osl 0 0 0 0 0,.osl 0 0 0 0 0]]⟩:=by rw[←bqK,aA.aC (by omega),aA.aC (by omega),ax _ (by omega) (by omega),aA.aC (by omega)];exact aA.bH
 have g1:G (nx+1)=some ⟨5,1,[[.osl 0 0 0 0 0,.osl 0 0 0 0 0,.osl 0 0 0 0 0,.osl 0 0 0 0 0,.osl 0 0 0 0 0]]⟩:=by rw[←bqK,aA.aC (by omega),aA.aC (by omega),ax _ (by omega) (by omega)];exact aA.bH
 have gf: ∀id,id<nx→id≠i→G id=H id:=fun id d1 d2=>by rw[←bqK,aA.aC (by omega),aA.aC (by omega),ax _ (by omega) d2,aA.aC (by omega),aA.aC (by omega)]
 have hR:abY G nm s cells:=bj.frame fun k M=>by have:=f k M;rw[←bqK,aA.aC (by omega),aA.aC (by omega)]
 clear bqK bj bk ax
 have al: ∀(aID:aA) (E C:Nat) (c2:Cfg) (s2:CSt) (q:List D1) (F:Nat→Prop),nx≤E→C≤p+4500→jO c2→beL s2→bdV s2→(∀j,F j→nx+9≤j)→VK ((aID.set nx ⟨3,1,[cU c2]⟩).set (nx+1) ⟨5,1,[q]⟩) F (eI s2) q→q.length=5→aID i=some (rdO l C)→(∀id,id<nx→id≠i→aID id=H id)→
  ∀{X:Env},X 4= .one (.c (.ptr 3 nx 0 0))→X 5= .one (.c (.ptr 5 (nx+1) 0 0))→Q .ret X ((aID.set nx ⟨3,1,[cU c2]⟩).set (nx+1) ⟨5,1,[q]⟩) E:=fun aID E C c2 s2 q F az9 az2 aAD aAE aAA aAF aAC aAB aAG blP X blQ blR=>by
  refine hQ _ _ _ _ _ (.inr rfl) (bjT blQ ((aA.aC (by omega)).trans aA.bH) rfl blR aA.bH aAB) ⟨.tup [.agg (cU c2),.agg (eI s2)],without F ((aID.set nx ⟨3,1,[cU c2]⟩).set (nx+1) ⟨5,1,[q]⟩),F,ay7 (aH (bB rfl) (aH (bB rfl) (aH (bB rfl) eP))) (A8 aAC),kS,h _ E C c2 s2 az9 az2 aAD aAE aAA ?_ fun id d1 d2=> ?_⟩
  ·rw[iI (fun O=>by have:=aAF _ O;omega),aA.aC (by omega),aA.aC (by omega)];exact aAG
  ·rw[iI (fun O=>by have:=aAF _ O;omega),aA.aC (by omega),aA.aC (by omega)];exact blP id d1 d2
 have ab: ∀(aID:aA) (E C:Nat) (c2:Cfg) (s2:CSt) (ay:Nat→Nat) (q:List D1),nx≤E→C≤p+4500→jO c2→beL s2→bdV s2→s2.dD.length=4→abY aID ay s2 q→(∀k,k<19→nx+9≤ay k)→aID i=some (rdO l C)→(∀id,id<nx→id≠i→aID id=H id)→
  ∀{X:Env},X 4= .one (.c (.ptr 3 nx 0 0))→X 5= .one (.c (.ptr 5 (nx+1) 0 0))→Q .ret X ((aID.set nx ⟨3,1,[cU c2]⟩).set (nx+1) ⟨5,1,[q]⟩) E:=fun aID E C c2 s2 ay q az9 az2 aAD aAE aAA aAF aAC aAB aAG blP X blQ blR=>by
  refine al aID E C c2 s2 q (fun j=>∃k,k<19∧j=ay k) az9 az2 aAD aAE aAA (fun j ⟨k,M,O⟩=>O▸aAB k M) ((aAC.frame fun k M=> ?_).VI (fun k M=>⟨k,M,rfl⟩) aAA.pl aAF) ?_ aAG blP blQ blR
  ·have:=aAB k M;rw[aA.aC (by omega),aA.aC (by omega)]
  ·obtain⟨_,_,_,_,_,rfl,_⟩:=aAC.ex;rfl
 have hB:=T.base bh
 have az:beL s∧bdV s:=hB.bj4.fit
 have ar:bQ d [i,nx,nx+1,nx+7,nx+8]:=AM.apart (by simp;omega) (by simp;omega)
 simp only[bQ,eZ] at ar
 (try simp only[go_sem,boC,bkV,bp4,gi,bqC,g1,ao,ar,boC]);repeat' first| (first|apply bn1|refine d6 (p:=p1) hn hl (by omega) (by omega) gi (fun C bb bx bp _=> ?_))<;>(simp only[go_sem,boC,bkV,bp4,gi,bqC,g1,ao,ar,boC])| ((refine bnF (fun h=> ?_) (fun h=> ?_))<;>try subst h)|fail
 case refine_2=>exact ab _ _ C c s nm cells (by omega) (by omega) S az.1 az.2 T.sl (hR.frame fun k M=>aA.aC (by have:=f k M;omega)) (fun k M=>by have:=f k M;omega) aA.bH (fun id d1 d2=>by rw[aA.aC d2];exact gf id d1 d2) rfl rfl
 refine aX (p:=C) (n:=3) hl (by omega) (by omega) (by omega) aA.bH fun x h1 h2=> ?_
 obtain⟨k,M,rfl⟩: ∃k:Nat,k<3∧x=k:=⟨x.toNat,by omega,by omega⟩
 (try simp only[go_sem,boC,bkV,bp4,gi,bqC,g1,ao,ar,boC]);repeat' first|apply bn1<;>(simp only[go_sem,boC,bkV,bp4,gi,bqC,g1,ao,ar,boC])|fail
 refine aX (p:=C+1) (n:=11) hl (by omega) (by omega) (by omega) aA.bH fun y h3 h4=> ?_
 generalize aj:aA.set _ i (rdO l (C+1+1))=aID
 have aU6:aID (nx+8)=some ⟨5,1,[cells]⟩:=by rw[←aj];simp (disch:=omega) only[aA.aC];exact bp4
 have aU5:aID (nx+7)=some ⟨3,1,[cU c]⟩:=by rw[←aj];simp (disch:=omega) only[aA.aC];exact bkV
 have J:aID i=some (rdO l (C+2)):=by rw[←aj];exact aA.bH
 have Y:aID nx=some ⟨3,1,[[.osl 0 0 0 0 0,.osl 0 0 0 0 0,.osl 0 0 0 0 0]]⟩:=by rw[←aj];simp (disch:=omega) only[aA.aC];exact bqC
 have Z:aID (nx+1)=some ⟨5,1,[[.osl 0 0 0 0 0,.osl 0 0 0 0 0,.osl 0 0 0 0 0,.osl 0 0 0 0 0,.osl 0 0 0 0 0]]⟩:=by rw[←aj];simp (disch:=omega) only[aA.aC];exact g1
 have rf: ∀id,id<nx→id≠i→aID id=H id:=fun id d1 d2=>by rw[←aj];simp (disch:=omega) only[aA.aC];exact gf id d1 d2
 have ak:bgJ (fun j=>j<nx+9) aID d nm s cells:=⟨hR.frame fun k M=>by have:=f k M;rw[←aj];simp (disch:=omega) only[aA.aC],⟨ai.inj,ai.lt,fun k M O=>by have:=f k M;have O:nm k<nx+9:=O;omega⟩,fun id au=>by have au:id<nx+9:=au;omega⟩
 clear aj bp4 bkV gi bqC g1 gf hR
 have bz:Rep (fun j=>j<nx+8) aID d (nx+8) nm s:=⟨⟨cells,aU6,ak.rep⟩,⟨ai.inj,ai.lt,fun k M O=>by have:=f k M;have O:nm k<nx+8:=O;omega⟩,fun k M he=>by have:=f k M;omega,⟨by omega,fun O=>by have O:nx+8<nx+8:=O;omega⟩,fun id au=>by have au:id<nx+8:=au;omega⟩
 obtain⟨wc,hc,pc,vc,tc,mp,rp,mv,rv,rfl,j1,j2,bqB,q1,q2,ca,cb,ae,af,aa,ad⟩:=ak.get
 have cc:=f 2 (by omega)
 have cd:=f 3 (by omega)
 have cf:=D 2 (by omega)
 have cg:=D 3 (by omega)
 have bq:nm 2≠nm 3:=fun he=>by have:=ai.inj 2 3 (by omega) (by omega) he;omega
 have B:bQ d [i,nx,nx+1,nx+7,nx+8,nm 2,nm 3]:=AM.apart (by simp;omega) (by simp;omega)
 simp only[bQ,eZ] at B
 have mi: ∀(G:aA) (b j:Nat),msk (d+b) [j] G i=G i:=fun G b j=>mk1 (by omega)
 have aHK: ∀(G:aA) (b j:Nat),msk (d+b) [j] G (nx+8)=G (nx+8):=fun G b j=>mk1 (by omega)
 have bp3: ∀(G:aA) (b j:Nat),msk (d+b) [j] G (nm 2)=G (nm 2):=fun G b j=>mk1 (by omega)
 have bqM: ∀(G:aA) (b j:Nat),msk (d+b) [j] G (nm 3)=G (nm 3):=fun G b j=>mk1 (by omega)
 have m: ∀a b,a<19→b<19→a≠b→nm a≠nm b:=fun a b h1 h2 h3 h4=>h3 (ai.inj a b h1 h2 h4)
 have ag: ∀(W:aA) (E p3:Nat) (p':fR) (r:List D1) (N:Nat→Nat),nx≤E→p3≤p+4500→p'.queue.length≤3→p'.out.length≤5→W (nm 2)=some ⟨4,mp,rp.set k r⟩→CX W (N (5+k)) (N (8+k)) p' r→(∀a,a<19→a≠5+k→a≠8+k→N a=nm a)→nx+9≤N (5+k)→nx+9≤N (8+k)→(∀a,a<19→a≠2→a≠5+k→a≠8+k→W (nm a)=aID (nm a))→W i=some (rdO l p3)→(∀id,id<nx→id≠i→W id=H id)→∀{X:Env},X 4= .one (.c (.ptr 3 nx 0 0))→X 5= .one (.c (.ptr 5 (nx+1) 0 0))→Q .ret X ((W.set nx ⟨3,1,[cU c]⟩).set (nx+1) ⟨5,1,[[.osl 1 (nm 0) 0 s.words.length wc,.osl 1 (nm 1) 0 s.holds.length hc,.osl 4 (nm 2) 0 3 pc,.osl 3 (nm 3) 0 4 vc,.osl 5 (nm 4) 0 s.told.length tc]]⟩) E:=fun W E p3 p' r N az9 az2 aAD aAE aAA aAF aAC aAB aAG blP blQ blR X blS blT=>by
  have hN:=(hB.aEL M aAD aAE).fit;refine ab W E p3 c {s with bM:=s.bM.set k p'} N _ az9 az2 S hN.1 hN.2 T.sl (ak.rep.aEL T.pl M j1 aAA aAF aAC blP) (fun a g=> ?_) blQ blR blS blT;by_cases e1:a=5+k;·rw[e1];exact aAB
  ·by_cases X:a=8+k;·rw[X];exact aAG
   ·rw[aAC a g e1 X];have:=f a g;omega
 have an: ∀(W:aA) (E p3:Nat) (v':nY) (r:List D1) (N:Nat→Nat),nx≤E→p3≤p+4500→v'.pipe.length≤3→v'.done.length≤3→(∀j∈v'.done,j.rsp.data.length<2^20)→W (nm 3)=some ⟨3,mv,rv.set k r⟩→LJ W (N (11+k)) (N (15+k)) v' r→(∀a,a<19→a≠11+k→a≠15+k→N a=nm a)→nx+9≤N (11+k)→nx+9≤N (15+k)→(∀a,a<19→a≠3→a≠11+k→a≠15+k→W (nm a)=aID (nm a))→W i=some (rdO l p3)→(∀id,id<nx→id≠i→W id=H id)→∀{X:Env},X 4= .one (.c (.ptr 3 nx 0 0))→X 5= .one (.c (.ptr 5 (nx+1) 0 0))→Q .ret X ((W.set nx ⟨3,1,[cU c]⟩).set (nx+1) ⟨5,1,[[.osl 1 (nm 0) 0 s.words.length wc,.osl 1 (nm 1) 0 s.holds.length hc,.osl 4 (nm 2) 0 3 pc,.osl 3 (nm 3) 0 4 vc,.osl 5 (nm 4) 0 s.told.length tc]]⟩) E:=fun W E p3 v' r N az9 az2 aAD aAE blU aAA aAF aAC aAB aAG blP blQ blR X blS blT=>by
  have hN:=(hB.bkF (show k<4 by omega) aAD aAE blU).fit;refine ab W E p3 c {s with dD:=s.dD.set k v'} N _ az9 az2 S hN.1 hN.2 (by dsimp only;rw[Y5];exact T.sl) (ak.rep.bkF T.sl (show k<4 by omega) j2 aAA aAF aAC blP) (fun a g=> ?_) blQ blR blS blT;by_cases e1:a=11+k;·rw[e1];exact aAB
  ·by_cases X:a=15+k;·rw[X];exact aAG
   ·rw[aAC a g e1 X];have:=f a g;omega
 have hy:y=0∨y=1∨y=2∨y=3∨y=4∨y=5∨y=6∨y=7∨y=8∨y=9∨y=10:=by omega
 have ch:(0≤(k:Int)∧(k:Int)<((3:Nat):Int)):=⟨by omega,by omega⟩
 have cj:(0≤(k:Int)∧(k:Int)<((4:Nat):Int)):=⟨by omega,by omega⟩
 rcases hy with rfl|rfl|rfl|rfl|rfl|rfl|rfl|rfl|rfl|rfl|rfl
 · (try simp only[go_sem,boC,aU5,aU6,J,Y,Z,B,boC]);repeat' first| (first|apply bn1|refine aW5 (p:=C+2) (n:=2) (by omega) hl (by omega) (by omega) J (fun p3 w u bp ck ⟨br,bs⟩=> ?_))<;>(simp only[go_sem,boC,aU5,aU6,J,Y,Z,B,boC])|fail
   have hN:=(hB.bkM br bs).fit
   refine al _ _ p3 c {s with words:=w,holds:=u} _ (fun j=>∃a,a<19∧j=nm a) (by omega) (by omega) S hN.1 hN.2 (fun j ⟨a,g,O⟩=>by have:=f a g;omega) ?_ rfl (by rw[aA.aC (by omega)];exact aA.bH) (fun id d1 d2=>by rw[aA.aC (by omega),aA.aC d2];exact rf id d1 d2) rfl rfl
   obtain⟨_,_,f2,bpS,bpT⟩:=abY.bkJ (F:=fun j=>∃a,a<19∧j=nm a) (ak.rep.frame (H':=aA.set (aA.set (aA.set (aA.set aID i (rdO l p3)) (nx+8) ⟨5,1,[[.isl (w.map aJ),.isl (u.map aJ),.osl 4 (nm 2) 0 3 pc,.osl 3 (nm 3) 0 4 vc,.osl 5 (nm 4) 0 s.told.length tc]]⟩) nx ⟨3,1,[cU c]⟩) (nx+1) ⟨5,1,[[.isl (w.map aJ),.isl (u.map aJ),.osl 4 (nm 2) 0 3 pc,.osl 3 (nm 3) 0 4 vc,.osl 5 (nm 4) 0 s.told.length tc]]⟩) (fun a g=>by have:=f a g;rw[aA.aC (by omega),aA.aC (by omega),aA.aC (by omega),aA.aC (by omega)])) (fun a g=>⟨a,g,rfl⟩) T.pl T.sl
   exact fO (.same _ rfl) (fO (.same _ rfl) (fO f2 (fO bpS (fO bpT LH))))
 ·obtain⟨qo,qc,oc,A,hq,U⟩:=aa k M;(try simp only[go_sem,boC,aU5,aU6,J,Y,Z,j1,ae,A,B,boC]);repeat' first| (first|apply bn1|refine aX (p:=C+2) (n:=3) hl (by omega) (by omega) (by omega) J (fun z h5 h6=> ?_))<;>(simp only[go_sem,boC,aU5,aU6,J,Y,Z,j1,ae,A,B,boC])|refine⟨by omega,?_⟩|fail
  have hb:=hB.port k M;have fr: ∀(o:bA) a,a<19→a≠2→((aID.set i (rdO l (C+3))).set (nm 2) o) (nm a)=aID (nm a):=fun o a g h2=>by have q1:=m a 2 g (by omega) h2;have q2:=f a g;rw[aA.aC q1,aA.aC (by omega)]
  exact ag _ _ (C+3) {aF s k with next:=IntKind.i64.wrap (IntKind.i64.wrap ((aF s k).next+z)-1)} _ nm (by omega) (by omega) (by dsimp only;omega) (by dsimp only;omega) aA.bH ⟨qo,qc,oc,rfl,hq.frame (fr _ _ (by omega) (by omega)),U.frame (fr _ _ (by omega) (by omega))⟩ (fun _ _ _ _=>rfl) (by have:=f (5+k) (by omega);omega) (by have:=f (8+k) (by omega);omega) (fun a g h2 _ _=>fr _ a g h2) (by rw[aA.aC (by omega)];exact aA.bH) (fun id d1 d2=>by rw[aA.aC (by omega),aA.aC d2];exact rf id d1 d2) rfl rfl
 ·obtain⟨qo,qc,oc,A,hq,U⟩:=aa k M;obtain⟨mq,rq0,blH,blI,aEP,blJ,aEQ,blK⟩:=hq.ex;rw[bqW] at blJ;have P:List.take (aF s k).queue.length (List.drop qo rq0)=(aF s k).queue.map aJ:=by rw[blI,boL (by simp)]
  have hb:=hB.port k M;have ba:=f (5+k) (by omega);have bc:=D (5+k) (by omega);have bd:nm (5+k)≠nm 2:=m _ _ (by omega) (by omega) (by omega);have bf:nm (5+k)≠nm 3:=m _ _ (by omega) (by omega) (by omega);have I:bQ d [i,nx,nx+1,nx+7,nx+8,nm 2,nm 3,nm (5+k)]:=AM.apart (by simp;omega) (by simp;omega);simp only[bQ,eZ] at I;have bqQ: ∀(G:aA) (b j:Nat),msk (d+b) [j] G (nm (5+k))=G (nm (5+k)):=fun G b j=>mk1 (by omega);(try simp only[go_sem,boC,aU5,aU6,J,Y,Z,j1,ae,A,blH,P,aHK,bp3,bqQ,I,boC]);repeat' first| (first|apply bn1|refine aX (p:=C+2) (n:=4) hl (by omega) (by omega) (by omega) J (fun z h5 h6=> ?_))<;>(simp only[go_sem,boC,aU5,aU6,J,Y,Z,j1,ae,A,blH,P,aHK,bp3,bqQ,I,boC])| (with_reducible first|refine fun(cap:Nat) (R:_≤cap)=> ?_|refine fun(bg:_≤cap)=> ?_)|refine⟨by omega,?_⟩|fail
  generalize aYL:aA.set (aA.set _ (d+26) _) (nm 2) _=W;have bqI:W (nm 2)=some ⟨4,mp,rp.set k [cI (aF s k).next,.osl 1 (d+26) 0 ((aF s k).queue.length+1) cap,.osl 3 (nm (8+k)) 0 (aF s k).out.length oc,cI (aF s k).last]⟩:=by rw[←aYL];exact aA.bH
  have ah:W (d+26)=some ⟨1,cap,((aF s k).queue++[z]).map aJ⟩:=by rw[←aYL,aA.aC (by omega)];exact aA.bH
  have wf: ∀id,id<d→id≠i→id≠nm 2→id≠nm (5+k)→W id=aID id:=fun id d1 d2 d3 bkS=>by rw[←aYL];simp (disch:=omega) only[aA.aC,aA.jG]
  have wi:W i=some (rdO l (C+3)):=by rw[←aYL];simp (disch:=omega) only[aA.aC,aA.bH]
  clear aYL;refine ag W _ (C+3) {aF s k with queue:=(aF s k).queue++[z]} _ (put nm (5+k) (d+26)) (by omega) (by omega) (by simp;omega) (by dsimp only;omega) bqI ⟨0,cap,oc,?_,?_,?_⟩ (fun a _ h1 _=>jE h1) (by rw[t8];omega) (by rw[jE (by omega)];have:=f (8+k) (by omega);omega) (fun a g h2 h3 _=>wf _ (D a g) (by have:=f a g;omega) (m _ _ g (by omega) h2) (m _ _ g (by omega) h3)) wi (fun id d1 d2=>(wf id (by omega) d2 (by omega) (by omega)).trans (rf id d1 d2)) rfl rfl;·rw[t8,jE (by omega)];simp[af5]
  ·rw[t8];exact⟨cap,_,ah,rfl,by simp,by simp,by simpa using R,by omega⟩
  ·rw[jE (by omega)];exact U.frame (wf _ (D _ (by omega)) (by have:=f (8+k) (by omega);omega) (m _ _ (by omega) (by omega) (by omega)) (m _ _ (by omega) (by omega) (by omega)))
 ·obtain⟨qo,qc,oc,A,hq,U⟩:=aa k M;obtain⟨mq,rq0,blH,blI,aEP,blJ,aEQ,blK⟩:=U.ex;rw[bqW] at blJ;have P:List.take (aF s k).out.length rq0=(aF s k).out.map eCJ:=by rw[←bq5 (l:=rq0),blI,boL (by simp)]
  have hb:=hB.port k M;have ba:=f (8+k) (by omega);have bc:=D (8+k) (by omega);have bd:nm (8+k)≠nm 2:=m _ _ (by omega) (by omega) (by omega);have bf:nm (8+k)≠nm 3:=m _ _ (by omega) (by omega) (by omega);have I:bQ d [i,nx,nx+1,nx+7,nx+8,nm 2,nm 3,nm (8+k)]:=AM.apart (by simp;omega) (by simp;omega);simp only[bQ,eZ] at I;have bqQ: ∀(G:aA) (b j:Nat),msk (d+b) [j] G (nm (8+k))=G (nm (8+k)):=fun G b j=>mk1 (by omega);(try simp only[go_sem,boC,aU5,aU6,J,Y,Z,j1,ae,A,blH,P,aHK,bp3,bqQ,I,boC]);repeat' first| (first|apply bn1|refine aX (p:=C+2) (n:=4) hl (by omega) (by omega) (by omega) J (fun z h5 h6=> ?_)|refine aX (p:=C+3) (n:=4) hl (by omega) (by omega) (by omega) aA.bH (fun blI h7 h8=> ?_))<;>(simp only[go_sem,boC,aU5,aU6,J,Y,Z,j1,ae,A,blH,P,aHK,bp3,bqQ,I,boC])| (with_reducible first|refine fun(cap:Nat) (R:_≤cap)=> ?_|refine fun(bg:_≤cap)=> ?_)|refine⟨by omega,?_⟩|fail
  generalize aYL:aA.set (aA.set _ (d+32) _) (nm 2) _=W;have bqI:W (nm 2)=some ⟨4,mp,rp.set k [cI (aF s k).next,.osl 1 (nm (5+k)) qo (aF s k).queue.length qc,.osl 3 (d+32) 0 ((aF s k).out.length+1) cap,cI (aF s k).last]⟩:=by rw[←aYL];exact aA.bH
  have ah:W (d+32)=some ⟨3,cap,((aF s k).out++[(⟨k,z,blI⟩:fC)]).map eCJ⟩:=by rw[←aYL,aA.aC (by omega),aA.bH,bqX];rfl
  have wf: ∀id,id<d→id≠i→id≠nm 2→id≠nm (8+k)→W id=aID id:=fun id d1 d2 d3 bkS=>by rw[←aYL];simp (disch:=omega) only[aA.aC,aA.jG]
  have wi:W i=some (rdO l (C+4)):=by rw[←aYL];simp (disch:=omega) only[aA.aC,aA.bH]
  clear aYL;refine ag W _ (C+4) {aF s k with out:=(aF s k).out++[(⟨k,z,blI⟩:fC)]} _ (put nm (8+k) (d+32)) (by omega) (by omega) (by dsimp only;omega) (by simp;omega) bqI ⟨qo,qc,cap,?_,?_,?_⟩ (fun a _ _ h1=>jE h1) (by rw[jE (by omega)];have:=f (5+k) (by omega);omega) (by rw[t8];omega) (fun a g h2 _ h3=>wf _ (D a g) (by have:=f a g;omega) (m _ _ g (by omega) h2) (m _ _ g (by omega) h3)) wi (fun id d1 d2=>(wf id (by omega) d2 (by omega) (by omega)).trans (rf id d1 d2)) rfl rfl;·rw[t8,jE (by omega)];simp[af5]
  ·rw[jE (by omega)];exact hq.frame (wf _ (D _ (by omega)) (by have:=f (5+k) (by omega);omega) (m _ _ (by omega) (by omega) (by omega)) (m _ _ (by omega) (by omega) (by omega)))
  ·rw[t8];exact⟨cap,_,ah,rfl,by simp,by simp,by simpa using R,by omega⟩
 ·obtain⟨qo,qc,oc,A,hq,U⟩:=aa k M;have hb:=hB.port k M;(try simp only[go_sem,boC,aU5,aU6,J,Y,Z,j1,ae,A,aHK,bp3,mi,B,boC]);repeat' first|apply bn1<;>(simp only[go_sem,boC,aU5,aU6,J,Y,Z,j1,ae,A,aHK,bp3,mi,B,boC])|fail
  refine aX (p:=C+2) (n:=3) hl (by omega) (by omega) (by omega) (by rw[mi];exact J) fun z h5 h6=> ?_;(try simp only[go_sem,boC,aU6,aHK,B]);repeat' first|apply bn1<;>(simp only[go_sem,boC,aU6,aHK,B])|fail
  generalize aU3:dT (d+18) [3] _ (msk (d+18) [3] aID)=V;have blV:V (d+21)=some ⟨1,3,[[.v (.int .i64 (-1))],[.v (.int .i64 4)],[.v (.int .i64 2)]]⟩:=by rw[show d+21=d+18+3 from rfl,←aU3,aH6];exact aA.bH
  have vf: ∀id,id≠d+21→V id=aID id:=fun id d1=>by rw[←aU3,um1 (by omega),mk1 (by omega)]
  clear aU3;have v0:=(vf nx (by omega)).trans Y;have v1:=(vf (nx+1) (by omega)).trans Z;have blW:=(vf (nx+7) (by omega)).trans aU5;have blX:=(vf (nx+8) (by omega)).trans aU6;have v2:=(vf (nm 2) (by omega)).trans j1;refine⟨fun _=>by rw[blX];rfl,by omega,?_⟩;obtain⟨v,hv⟩:=aN1 (L:=[[.v (.int .i64 (-1))],[.v (.int .i64 4)],[.v (.int .i64 2)]]) (by simp) h5 (by simp;omega);(try simp only[go_sem,boC,v0,v1,blW,blX,v2,blV,hv,A,ae,B,aHK,bp3]);repeat' first|apply bn1<;>(simp only[go_sem,boC,v0,v1,blW,blX,v2,blV,hv,A,ae,B,aHK,bp3])|refine⟨by omega,?_⟩|fail
  have fr: ∀(o:bA) a,a<19→a≠2→((V.set i (rdO l (C+3))).set (nm 2) o) (nm a)=aID (nm a):=fun o a g h2=>by have q1:=m a 2 g (by omega) h2;have q2:=f a g;have q3:=D a g;rw[aA.aC q1,aA.aC (by omega),vf _ (by omega)]
  exact ag _ _ (C+3) {aF s k with last:=v} _ nm (by omega) (by omega) (by dsimp only;omega) (by dsimp only;omega) aA.bH ⟨qo,qc,oc,rfl,hq.frame (fr _ _ (by omega) (by omega)),U.frame (fr _ _ (by omega) (by omega))⟩ (fun _ _ _ _=>rfl) (by have:=f (5+k) (by omega);omega) (by have:=f (8+k) (by omega);omega) (fun a g h2 _ _=>fr _ a g h2) (by rw[aA.aC (by omega)];exact aA.bH) (fun id d1 d2=>by rw[aA.aC (by omega),aA.aC d2,vf _ (by omega)];exact rf id d1 d2) rfl rfl
 ·obtain⟨po,aw,do_,dc,A,hq,U⟩:=ad k (by omega);have hb:=hB.slv k (by omega);(try simp only[go_sem,boC,aU5,aU6,J,Y,Z,j2,af,A,aHK,bqM,mi,B,boC]);repeat' first|apply bn1<;>(simp only[go_sem,boC,aU5,aU6,J,Y,Z,j2,af,A,aHK,bqM,mi,B,boC])|fail
  refine aX (p:=C+2) (n:=3) hl (by omega) (by omega) (by omega) (by rw[mi];exact J) fun z h5 h6=> ?_;(try simp only[go_sem,boC,aU6,aHK,B]);repeat' first|apply bn1<;>(simp only[go_sem,boC,aU6,aHK,B])|fail
  generalize aU3:dT (d+20) [3] _ (msk (d+20) [3] aID)=V;have blV:V (d+23)=some ⟨1,3,[[.v (.int .i64 (-1))],[.v (.int .i64 3)],[.v (.int .i64 1)]]⟩:=by rw[show d+23=d+20+3 from rfl,←aU3,aH6];exact aA.bH
  have vf: ∀id,id≠d+23→V id=aID id:=fun id d1=>by rw[←aU3,um1 (by omega),mk1 (by omega)]
  clear aU3;have v0:=(vf nx (by omega)).trans Y;have v1:=(vf (nx+1) (by omega)).trans Z;have blW:=(vf (nx+7) (by omega)).trans aU5;have blX:=(vf (nx+8) (by omega)).trans aU6;have aXN:=(vf (nm 3) (by omega)).trans j2;refine⟨fun _=>by rw[blX];rfl,by omega,?_⟩;obtain⟨v,hv⟩:=aN1 (L:=[[.v (.int .i64 (-1))],[.v (.int .i64 3)],[.v (.int .i64 1)]]) (by simp) h5 (by simp;omega);(try simp only[go_sem,boC,v0,v1,blW,blX,aXN,blV,hv,A,af,B,aHK,bqM]);repeat' first|apply bn1<;>(simp only[go_sem,boC,v0,v1,blW,blX,aXN,blV,hv,A,af,B,aHK,bqM])|refine⟨by omega,?_⟩|fail
  have fr: ∀(o:bA) a,a<19→a≠3→((V.set i (rdO l (C+3))).set (nm 3) o) (nm a)=aID (nm a):=fun o a g h2=>by have q1:=m a 3 g (by omega) h2;have q2:=f a g;have q3:=D a g;rw[aA.aC q1,aA.aC (by omega),vf _ (by omega)]
  exact an _ _ (C+3) {aL s k with last:=v} _ nm (by omega) (by omega) (by dsimp only;omega) (by dsimp only;omega) hb.2.2 aA.bH ⟨po,aw,do_,dc,rfl,hq.frame (fr _ _ (by omega) (by omega)),U.frame (fr _ _ (by omega) (by omega))⟩ (fun _ _ _ _=>rfl) (by have:=f (11+k) (by omega);omega) (by have:=f (15+k) (by omega);omega) (fun a g h2 _ _=>fr _ a g h2) (by rw[aA.aC (by omega)];exact aA.bH) (fun id d1 d2=>by rw[aA.aC (by omega),aA.aC d2,vf _ (by omega)];exact rf id d1 d2) rfl rfl
 ·obtain⟨po,aw,do_,dc,A,hq,U⟩:=ad k (by omega);obtain⟨mq,rq0,blH,blI,aEP,blJ,aEQ,blK⟩:=hq.ex;rw[bqW] at blJ;have P:List.take (aL s k).pipe.length (List.drop po rq0)=(aL s k).pipe.map eCJ:=by rw[blI,boL (by simp)]
  have hb:=hB.slv k (by omega);have ba:=f (11+k) (by omega);have bc:=D (11+k) (by omega);have bd:nm (11+k)≠nm 2:=m _ _ (by omega) (by omega) (by omega);have bf:nm (11+k)≠nm 3:=m _ _ (by omega) (by omega) (by omega);have I:bQ d [i,nx,nx+1,nx+7,nx+8,nm 2,nm 3,nm (11+k)]:=AM.apart (by simp;omega) (by simp;omega);simp only[bQ,eZ] at I;have bqQ: ∀(G:aA) (b j:Nat),msk (d+b) [j] G (nm (11+k))=G (nm (11+k)):=fun G b j=>mk1 (by omega);(try simp only[go_sem,boC,aU5,aU6,J,Y,Z,j2,af,A,blH,P,aHK,bqM,bqQ,I,boC]);repeat' first| (first|apply bn1|refine aX (p:=C+2) (n:=4) hl (by omega) (by omega) (by omega) J (fun z h5 h6=> ?_)|refine aX (p:=C+3) (n:=4) hl (by omega) (by omega) (by omega) aA.bH (fun blI h7 h8=> ?_)|refine aX (p:=C+4) (n:=3) hl (by omega) (by omega) (by omega) aA.bH (fun aEP h9 bm=> ?_))<;>(simp only[go_sem,boC,aU5,aU6,J,Y,Z,j2,af,A,blH,P,aHK,bqM,bqQ,I,boC];try simp (disch:=omega) only[Iw])| (with_reducible first|refine fun(cap:Nat) (R:_≤cap)=> ?_|refine fun(bg:_≤cap)=> ?_)|refine⟨by omega,?_⟩|fail
  generalize aYL:aA.set (aA.set _ (d+40) _) (nm 3) _=W;have bqI:W (nm 3)=some ⟨3,mv,rv.set k [.osl 3 (d+40) 0 ((aL s k).pipe.length+1) cap,.osl 5 (nm (15+k)) do_ (aL s k).done.length dc,cI (aL s k).last]⟩:=by rw[←aYL];exact aA.bH
  have ah:W (d+40)=some ⟨3,cap,((aL s k).pipe++[(⟨z-1,blI,aEP⟩:fC)]).map eCJ⟩:=by rw[←aYL,aA.aC (by omega),aA.bH,bqX];rfl
  have wf: ∀id,id<d→id≠i→id≠nm 3→id≠nm (11+k)→W id=aID id:=fun id d1 d2 d3 bkS=>by rw[←aYL];simp (disch:=omega) only[aA.aC,aA.jG]
  have wi:W i=some (rdO l (C+5)):=by rw[←aYL];simp (disch:=omega) only[aA.aC,aA.bH]
  clear aYL;refine an W _ (C+5) {aL s k with pipe:=(aL s k).pipe++[(⟨z-1,blI,aEP⟩:fC)]} _ (put nm (11+k) (d+40)) (by omega) (by omega) (by simp;omega) (by dsimp only;omega) hb.2.2 bqI ⟨0,cap,do_,dc,?_,?_,?_⟩ (fun a _ h1 _=>jE h1) (by rw[t8];omega) (by rw[jE (by omega)];have:=f (15+k) (by omega);omega) (fun a g h2 h3 _=>wf _ (D a g) (by have:=f a g;omega) (m _ _ g (by omega) h2) (m _ _ g (by omega) h3)) wi (fun id d1 d2=>(wf id (by omega) d2 (by omega) (by omega)).trans (rf id d1 d2)) rfl rfl;·rw[t8,jE (by omega)];simp[aj9]
  ·rw[t8];exact⟨cap,_,ah,rfl,by simp,by simp,by simpa using R,by omega⟩
  ·rw[jE (by omega)];exact U.frame (wf _ (D _ (by omega)) (by have:=f (15+k) (by omega);omega) (m _ _ (by omega) (by omega) (by omega)) (m _ _ (by omega) (by omega) (by omega)))
 ·obtain⟨po,aw,do_,dc,A,hq,U⟩:=ad k (by omega);obtain⟨mq,rq0,blH,blI,aEP,blJ,aEQ,blK⟩:=U.ex;rw[bqW] at blJ;have P:List.take (aL s k).done.length (List.drop do_ rq0)=(aL s k).done.map aS:=by rw[blI,boL (by simp)]
  have hb:=hB.slv k (by omega);have ba:=f (15+k) (by omega);have bc:=D (15+k) (by omega);have bd:nm (15+k)≠nm 2:=m _ _ (by omega) (by omega) (by omega);have bf:nm (15+k)≠nm 3:=m _ _ (by omega) (by omega) (by omega);have I:bQ d [i,nx,nx+1,nx+7,nx+8,nm 2,nm 3,nm (15+k)]:=AM.apart (by simp;omega) (by simp;omega);simp only[bQ,eZ] at I;have bqQ: ∀(G:aA) (b j:Nat),msk (d+b) [j] G (nm (15+k))=G (nm (15+k)):=fun G b j=>mk1 (by omega);(try simp only[go_sem,boC,aU5,aU6,J,Y,Z,j2,af,A,blH,P,aHK,bqM,bqQ,I,boC]);repeat' first| (first|apply bn1|refine aX (p:=C+2) (n:=4) hl (by omega) (by omega) (by omega) J (fun z h5 h6=> ?_)|refine aX (p:=C+3) (n:=4) hl (by omega) (by omega) (by omega) aA.bH (fun blI h7 h8=> ?_)|refine aV4 (p:=C+4) (n:=2) (by omega) hl (by omega) (by omega) aA.bH (fun p3 x h9 bm bt=> ?_))<;>(simp only[go_sem,boC,aU5,aU6,J,Y,Z,j2,af,A,blH,P,aHK,bqM,bqQ,I,boC];try simp (disch:=omega) only[Iw])| (with_reducible first|refine fun(cap:Nat) (R:_≤cap)=> ?_|refine fun(bg:_≤cap)=> ?_)|refine⟨by omega,?_⟩|fail
  generalize aYL:aA.set (aA.set _ (d+42) _) (nm 3) _=W;have bqI:W (nm 3)=some ⟨3,mv,rv.set k [.osl 3 (nm (11+k)) po (aL s k).pipe.length aw,.osl 5 (d+42) 0 ((aL s k).done.length+1) cap,cI (aL s k).last]⟩:=by rw[←aYL];exact aA.bH
  have ah:W (d+42)=some ⟨5,cap,((aL s k).done++[(⟨z-1,blI,x⟩:Job)]).map aS⟩:=by rw[←aYL,aA.aC (by omega),aA.bH,bqX];rfl
  have wf: ∀id,id<d→id≠i→id≠nm 3→id≠nm (15+k)→W id=aID id:=fun id d1 d2 d3 bkS=>by rw[←aYL];simp (disch:=omega) only[aA.aC,aA.jG]
  have wi:W i=some (rdO l p3):=by rw[←aYL];simp (disch:=omega) only[aA.aC,aA.bH]
  clear aYL;refine an W _ p3 {aL s k with done:=(aL s k).done++[(⟨z-1,blI,x⟩:Job)]} _ (put nm (15+k) (d+42)) (by omega) (by omega) (by dsimp only;omega) (by simp;omega) (fun j O=> ?_) bqI ⟨po,aw,0,cap,?_,?_,?_⟩ (fun a _ _ h1=>jE h1) (by rw[jE (by omega)];have:=f (11+k) (by omega);omega) (by rw[t8];omega) (fun a g h2 _ h3=>wf _ (D a g) (by have:=f a g;omega) (m _ _ g (by omega) h2) (m _ _ g (by omega) h3)) wi (fun id d1 d2=>(wf id (by omega) d2 (by omega) (by omega)).trans (rf id d1 d2)) rfl rfl
  ·rcases o3.1 O with O|O;·exact hb.2.2 j O
   ·rw[CJ] at O;subst O;dsimp only;omega
  ·rw[t8,jE (by omega)];simp[aj9]
  ·rw[jE (by omega)];exact hq.frame (wf _ (D _ (by omega)) (by have:=f (11+k) (by omega);omega) (m _ _ (by omega) (by omega) (by omega)) (m _ _ (by omega) (by omega) (by omega)))
  ·rw[t8];exact⟨cap,_,ah,rfl,by simp,by simp,by simpa using R,by omega⟩
 ·obtain⟨mq,rq0,blH,blI,aEP,blJ,aEQ,blK⟩:=q2.ex;rw[bqW] at blJ;have P:List.take s.told.length rq0=s.told.map aS:=by rw[←bq5 (l:=rq0),blI,boL (by simp)]
  have hb:=hB.t;have ba:=f (4) (by omega);have bc:=D (4) (by omega);have bd:nm (4)≠nm 2:=m _ _ (by omega) (by omega) (by omega);have bf:nm (4)≠nm 3:=m _ _ (by omega) (by omega) (by omega);have I:bQ d [i,nx,nx+1,nx+7,nx+8,nm 2,nm 3,nm (4)]:=AM.apart (by simp;omega) (by simp;omega);simp only[bQ,eZ] at I;have bqQ: ∀(G:aA) (b j:Nat),msk (d+b) [j] G (nm (4))=G (nm (4)):=fun G b j=>mk1 (by omega);(try simp only[go_sem,boC,aU5,aU6,J,Y,Z,blH,P,aHK,bqQ,I,boC]);repeat' first| (first|apply bn1|refine aX (p:=C+2) (n:=4) hl (by omega) (by omega) (by omega) J (fun z h5 h6=> ?_)|refine aX (p:=C+3) (n:=4) hl (by omega) (by omega) (by omega) aA.bH (fun blI h7 h8=> ?_)|refine aV4 (p:=C+4) (n:=3) (by omega) hl (by omega) (by omega) aA.bH (fun p3 x h9 bm bt=> ?_))<;>(simp only[go_sem,boC,aU5,aU6,J,Y,Z,blH,P,aHK,bqQ,I,boC];try simp (disch:=omega) only[Iw])| (with_reducible first|refine fun(cap:Nat) (R:_≤cap)=> ?_|refine fun(bg:_≤cap)=> ?_)|refine⟨by omega,?_⟩|fail
  generalize aYL:aA.set (aA.set _ (d+37) _) (nx+8) _=W;have ah:W (d+37)=some ⟨5,cap,(s.told++[(⟨z-1,blI,x⟩:Job)]).map aS⟩:=by rw[←aYL,aA.aC (by omega),aA.bH,bqX];rfl
  have wf: ∀id,id<d→id≠i→id≠nx+8→id≠nm 4→W id=aID id:=fun id d1 d2 d3 bkS=>by rw[←aYL];simp (disch:=omega) only[aA.aC,aA.jG]
  have wi:W i=some (rdO l p3):=by rw[←aYL];simp (disch:=omega) only[aA.aC,aA.bH]
  clear aYL
  have hN:=(hB.bkG (t:=s.told++[(⟨z-1,blI,x⟩:Job)]) (by simp;omega) (fun j O=>by
   rcases o3.1 O with O|O
   ·exact hB.td j O
   ·rw[CJ] at O;subst O;dsimp only;omega)).fit
  have aAI:=ak.rep.bkG (W:=W) (id0:=d+37) (cap:=cap) (t:=s.told++[(⟨z-1,blI,x⟩:Job)]) ⟨cap,_,ah,rfl,by simp,by simp,by simpa using R,by omega⟩ (fun a g h2=>wf _ (D a g) (by have:=f a g;omega) (by have:=f a g;omega) (m _ _ g (by omega) h2));rw[t2,List.length_singleton] at aAI;refine ab W _ p3 c {s with told:=s.told++[(⟨z-1,blI,x⟩:Job)]} _ _ (by omega) (by omega) S hN.1 hN.2 T.sl aAI (fun a g=> ?_) wi (fun id d1 d2=>(wf id (by omega) d2 (by omega) (by omega)).trans (rf id d1 d2)) rfl rfl;by_cases e:a=4;·rw[e,t8];omega
  ·rw[jE e];have:=f a g;omega
 · (try simp only[go_sem,boC,aU5,aU6,J,Y,Z,B,j2,af,boC]);repeat' first|apply bn1<;>(simp only[go_sem,boC,aU5,aU6,J,Y,Z,B,j2,af,boC])|refine⟨by omega,?_⟩|fail
   have hN:=hB.drop
   generalize aYL:aA.set (aA.set _ nx _) (nx+1) _=W
   have bn:=ak.rep.frame (H':=W) (fun a g=>by have:=f a g;rw[←aYL,aA.aC (by omega),aA.aC (by omega),aA.aC (by omega)])
   obtain⟨bfZ,bpR,f2,_,bpT⟩:=bn.bkJ (F:=fun j=>∃a,a<19∧j=nm a) (fun a g=>⟨a,g,rfl⟩) T.pl T.sl
   have bpS:=bn.bkD (F:=fun j=>∃a,a<19∧j=nm a) (cap:=vc-1) (fun a g=>⟨a,g,rfl⟩) T.sl (by omega)
   subst aYL
   exact al _ _ (C+2) c {s with dD:=s.dD.drop 1} _ (fun j=>∃a,a<19∧j=nm a) (by omega) (by omega) S hN.1 hN.2 (fun j ⟨a,g,O⟩=>by have:=f a g;omega) (fO bfZ (fO bpR (fO f2 (fO bpS (fO bpT LH))))) rfl (by rw[aA.aC (by omega)];exact J) (fun id d1 d2=>by rw[aA.aC (by omega)];exact rf id d1 d2) rfl rfl
 · (try simp only[go_sem,boC,aU5,aU6,J,Y,Z,B,boC]);repeat' first| (first|apply bn1|refine aQA (p:=C+2) (n:=1) (by omega) hl (by omega) (by omega) J (fun H3 cl p3 c' bqH bqI bk6 bk5 bk7 bk8=> ?_))<;>(simp only[go_sem,boC,aU5,aU6,J,Y,Z,B,boC])|fail
   have aXM:=(bk8 (nx+7) (by omega) (by omega)).trans aU5
   have blN:=(bk8 (nx+8) (by omega) (by omega)).trans aU6
   have s0:=(bk8 nx (by omega) (by omega)).trans Y
   have s1:=(bk8 (nx+1) (by omega) (by omega)).trans Z
   (try simp only[go_sem,boC,aXM,blN,s0,s1,B,boC]);repeat' first|apply bn1<;>(simp only[go_sem,boC,aXM,blN,s0,s1,B,boC])|fail
   exact ab _ _ p3 c' s nm _ (by omega) (by omega) bqI az.1 az.2 T.sl (ak.rep.frame fun a g=>by have:=f a g;have:=D a g;rw[aA.aC (by omega),bk8 _ (by omega) (by omega)]) (fun a g=>by have:=f a g;omega) (by rw[aA.aC (by omega)];exact bk7) (fun id d1 d2=>by rw[aA.aC (by omega),bk8 _ (by omega) d2];exact rf id d1 d2) rfl rfl
end
end Go.Proofs.YtdkfhdmagdaceaaGreat
namespace Go.AM
end Go.AM
namespace Go.Proofs.YtdkfhdmagdaceaaGreat
open Go Go.AM
attribute [local irreducible] aM wv aB vd wvH
section
variable {H : aA} {nx : Nat} {K : D → aA → Nat → Prop}
end
end Go.Proofs.YtdkfhdmagdaceaaGreat
