/- Texts laid together by a program: rules, contracts and the walk that leads to the law. -/
import Derived.Test.YtdkfhdmagdaceaaGreatPN25
import Derived.Test.YtdkfhdmagdaceaaGreatPN26
import Derived.Test.YtdkfhdmagdaceaaGreatPN24
set_option linter.unusedVariables false
set_option linter.unusedSimpArgs false
set_option linter.unusedSectionVars false
set_option maxRecDepth 100000
set_option maxHeartbeats 8000000
namespace Go.AM
structure bkN (k:Nat) (H:aA) (nm:Nat→Nat) (s:CSt) (rows:List (List D1)):Prop where
 len:rows.length=k
 row: ∀j,j<k→∃r,rows[j]?=some r∧CX H (nm (5+j)) (nm (8+j)) (aF s j) r
structure bkL (k:Nat) (H:aA) (nm:Nat→Nat) (s:CSt) (rows:List (List D1)):Prop where
 len:rows.length=k
 row: ∀j,j<k→∃r,rows[j]?=some r∧LJ H (nm (11+j)) (nm (15+j)) (aL s j) r
def biB (nx boW b c:Nat):Nat→Nat:=fun a=>if a=0 then boW else if a=1 then b else if a=2 then nx else if a=3 then nx+1 else c
theorem bj0 {nx n boW b c:Nat} (g:nx+2≤b) (d:b<boW) (e:boW<c) (h:c<n):Part (fun j=>j<5∨(5≤j∧j<5+0)∨(8≤j∧j<8+0)) nx n (biB nx boW b c):=by
 have key: ∀a,a<5→(a=0∧biB nx boW b c a=boW)∨(a=1∧biB nx boW b c a=b)∨(a=2∧biB nx boW b c a=nx)∨(a=3∧biB nx boW b c a=nx+1)∨(a=4∧biB nx boW b c a=c):=fun a i=>by
  unfold biB;repeat' split
  all_goals omega
 refine⟨fun j k l f he=> ?_,fun k f=> ?_⟩;·have d:=key j (by omega);have e:=key k (by omega);omega
 ·have d:=key k (by omega);omega
end Go.AM
namespace Go.Proofs.YtdkfhdmagdaceaaGreat
open Go Go.AM
attribute [local irreducible] aM wv aB vd wvH
section
variable {H : aA} {nx : Nat} {K : D → aA → Nat → Prop}
theorem bi7:cJ Tryz.prog bg9 Tryz.f98 bg0 bhN:=cJ.mk Tryz.func98 (by kernel_rfl) biR
theorem bjQ {s:CSt} (hs:CSz s)
 (h: ∀H' nx' nm cells,nx≤nx'→abY H' nm s cells→Part (fun k=>k<19) nx nx' nm→(∀id,id<nx→H' id=H id)→K (boR cells) H' nx'):
 aB Tryz.prog bg9 [boR (eI s)] H nx K:=by
 have bz:=hs.pl
 have ca:=hs.sl
 refine bi7 rfl fun Q hQ=> ?_
 unfold bg0
 refine aM.EJ 4 (aM.EJ 3 ?_)
 repeat' first| (first|apply bn1|refine aQE (w:=s.words) (u:=s.holds) hs.w hs.h (fun H1 b boW b1 c0 c1 M E h3 bk bm F=> ?_))<;>(simp only[go_sem,boC])|fail
 generalize aU3:dT (nx+4) [7] _ H1=U
 have aUW:U (nx+2)=some ⟨5,1,[eI s]⟩:=by rw[←aU3,um1 (by omega),F _ (by omega),aA.aC (by omega)];exact aA.bH
 have aIG:U (nx+3)=some ⟨5,1,[[.osl 0 0 0 0 0,.osl 0 0 0 0 0,.osl 0 0 0 0 0,.osl 0 0 0 0 0,.osl 0 0 0 0 0]]⟩:=by rw[←aU3,um1 (by omega),F _ (by omega)];exact aA.bH
 have bn:U (nx+11)=some ⟨5,1,[[.osl 0 0 0 0 0,.osl 0 0 0 0 0,.osl 0 0 0 0 0,.osl 0 0 0 0 0,.osl 0 0 0 0 0]]⟩:=by rw[←aU3,show nx+11=nx+4+7 by omega,aH6];exact aA.bH
 have aXL:U nx=some ⟨4,0,[]⟩:=by rw[←aU3,um1 (by omega),F _ (by omega),aA.aC (by omega),aA.aC (by omega),aA.aC (by omega)];exact aA.bH
 have aUV:U (nx+1)=some ⟨3,0,[]⟩:=by rw[←aU3,um1 (by omega),F _ (by omega),aA.aC (by omega),aA.aC (by omega)];exact aA.bH
 have bo:Own aJ 1 U boW c0 s.words:=bk.of (by rw[←aU3,um1 (by omega)])
 have bp:Own aJ 1 U b1 c1 s.holds:=bm.of (by rw[←aU3,um1 (by omega)])
 have uf: ∀id,id<nx→U id=H id:=fun id z=>by rw[←aU3,um1 (by omega),F _ (by omega),aA.aC (by omega),aA.aC (by omega),aA.aC (by omega),aA.aC (by omega),mk1 (by omega)]
 clear aU3 bk bm F
 have m0: ∀G:aA,msk (nx+4) [7] G (nx+2)=G (nx+2):=fun G=>mk1 (by omega)
 refine⟨fun _=>by rw[m0,aUW];rfl,?_⟩
 refine aNQ (l:=s.told) hs.t.1 hs.t.2 fun H2 I b2 c2 h4 h5 O C=> ?_
 simp only[go_sem,m0]
 generalize hV:dT (nx+4) [7] U H2=V
 have v2:V (nx+2)=some ⟨5,1,[eI s]⟩:=by rw[←hV,um1 (by omega),C _ (by omega),mk1 (by omega)];exact aUW
 have aXN:V (nx+3)=some ⟨5,1,[[.osl 0 0 0 0 0,.osl 0 0 0 0 0,.osl 0 0 0 0 0,.osl 0 0 0 0 0,.osl 0 0 0 0 0]]⟩:=by rw[←hV,um1 (by omega),C _ (by omega),mk1 (by omega)];exact aIG
 have v11:V (nx+11)=some ⟨5,1,[[.osl 0 0 0 0 0,.osl 0 0 0 0 0,.osl 0 0 0 0 0,.osl 0 0 0 0 0,.osl 0 0 0 0 0]]⟩:=by rw[←hV,show nx+11=nx+4+7 by omega,aH6];exact bn
 have v0:V nx=some ⟨4,0,[]⟩:=by rw[←hV,um1 (by omega),C _ (by omega),mk1 (by omega)];exact aXL
 have v1:V (nx+1)=some ⟨3,0,[]⟩:=by rw[←hV,um1 (by omega),C _ (by omega),mk1 (by omega)];exact aUV
 have cb:Own aJ 1 V boW c0 s.words:=bo.of (by rw[←hV,um1 (by omega),C _ (by omega),mk1 (by omega)])
 have cc:Own aJ 1 V b1 c1 s.holds:=bp.of (by rw[←hV,um1 (by omega),C _ (by omega),mk1 (by omega)])
 have cd:Own aS 5 V b2 c2 s.told:=O.of (by rw[←hV,um1 (by omega)])
 have vf: ∀id,id<nx→V id=H id:=fun id z=>by rw[←hV,um1 (by omega),C _ (by omega),mk1 (by omega)];exact uf id z
 clear hV O C aXL aUV aUW aIG bn bo bp uf
 have hA:bQ I [nx+2,nx+3,nx+11]:=AM.apart (by simp) (by simp;omega)
 simp only[bQ,eZ] at hA
 (try simp only[go_sem,boC,v2,aXN,v11,hA,boC]);repeat' first|apply bn1<;>(simp only[go_sem,boC,v2,aXN,v11,hA,boC])|fail
 refine aM.tW _ _ noF (fun t=>.inl rfl) (KO (i:=nx+11) (o':=⟨5,1,[[.osl 1 boW 0 s.words.length c0,.osl 1 b1 0 s.holds.length c1,.osl 4 nx 0 0 0,.osl 3 (nx+1) 0 0 0,.osl 5 b2 0 s.told.length c2]]⟩) aA.bH (aP (aH (.osl _ _ _ _ _ (by omega)) (aH (.osl _ _ _ _ _ (by omega)) (aH (.VS ..) (aH (.VS ..) (aH (.osl _ _ _ _ _ (by omega)) eP))))))) ?_
 refine aM.TF fun G bqK=> ?_
 have cf:G (nx+11)=some ⟨5,1,[[.osl 1 boW 0 s.words.length c0,.osl 1 b1 0 s.holds.length c1,.osl 4 nx 0 0 0,.osl 3 (nx+1) 0 0 0,.osl 5 b2 0 s.told.length c2]]⟩:=by rw[bqK];exact aA.bH
 have df: ∀id,id≠nx+11→G id=V id:=fun id z=>by rw[bqK,aA.aC z,aA.aC z]
 clear bqK
 refine aM.gP (β:=Nat×(Nat→Nat)×Nat) (fun u=>en [(4,boP u.1),(3,.one (.c (.ptr 5 (nx+11) 0 0))),(2,.one (.c (.ptr 5 (nx+3) 0 0))),(1,.one (.c (.ptr 5 (nx+2) 0 0)))])
  (fun u H1 b=>u.1≤3∧(u.2.1 0=boW∧u.2.1 1=b1∧u.2.1 3=nx+1∧u.2.1 4=b2)∧Part (fun j=>j<5∨(5≤j∧j<5+u.1)∨(8≤j∧j<8+u.1)) nx b u.2.1∧(u.2.1 2=nx∨I≤u.2.1 2)∧(∀j,(5≤j∧j<5+u.1)∨(8≤j∧j<8+u.1)→I≤u.2.1 j)∧H1 (nx+11)=some ⟨5,1,[[.osl 1 boW 0 s.words.length c0,.osl 1 b1 0 s.holds.length c1,.osl 4 (u.2.1 2) 0 u.1 u.2.2,.osl 3 (nx+1) 0 0 0,.osl 5 b2 0 s.told.length c2]]⟩∧(∃m rows,H1 (u.2.1 2)=some ⟨4,m,rows⟩∧bkN u.1 H1 u.2.1 s rows∧u.1≤u.2.2∧u.2.2≤m)∧ ∀id,id<I→id≠nx→id≠nx+11→H1 id=V id)
  (fun u=>3-u.1) (0,biB nx boW b1 b2,0) ⟨noF,_,by repeat' first|exact bo2|refine xqI rfl rfl ?_|refine xqP (by omega) rfl rfl ?_|fail,aK,by dsimp only;omega,⟨rfl,rfl,rfl,rfl⟩,(bj0 (n:=I+1) (by omega) E (by omega) (by omega)).mono (by omega),.inl rfl,fun j g=>by dsimp only at g;omega,cf,⟨0,[],(df nx (by omega)).trans v0,⟨rfl,fun j g=>by dsimp only at g;omega⟩,m5 _,m5 _⟩,fun id _ _ z=>df id z⟩ ?_
 rintro⟨k,nm,P⟩ H1 b de ⟨hk,⟨n0,bp0,bqP,az7⟩,boS,bq,J,ah,⟨m,rows,gp,⟨R,aj⟩,br,cg⟩,L⟩ bpQ ch
 dsimp only at hk n0 bp0 bqP az7 boS bq J ah gp R aj br cg
 have g2:H1 (nx+2)=some ⟨5,1,[eI s]⟩:=(L _ (by omega) (by omega) (by omega)).trans v2
 obtain⟨ip,S⟩: ∃ip,ip=nm 2:=⟨_,rfl⟩
 have ak:=boS.rng 2 (.inl (by omega))
 rw[←S] at ah gp bq ak
 have al:bQ b [nx+2,nx+3,nx+11,ip]:=AM.apart (by simp;omega) (by simp;omega)
 simp only[bQ,eZ] at al
 have bs:List.take k rows=rows:=boL (by omega)
 by_cases an:k<3
 ·obtain⟨p,T⟩: ∃p,p=aF s k:=⟨_,rfl⟩
  have ao:s.bM.getD k default=p:=T.symm;obtain⟨hq,ho⟩:=hs.port k an;rw[←T] at hq ho;refine aM.BW fun X=> ?_;have Y: ∀k l,msk (b+k) l H1=H1:=fun k l=>BV X (by omega);repeat' first|apply bn1<;>(simp only[go_sem,boC,Y,umS (G:=H1),umD (G:=H1),umB,msk,List.map,t3,bq7,or_false,ao,bs,R,g2,ah,gp,al,bz];try simp (disch:=omega) only[Iw])|apply bn2 (by omega)| (with_reducible first|refine fun(cap:Nat) (Z:_≤cap)=> ?_|refine fun(bt:_≤cap)=> ?_)|refine⟨by omega,?_⟩|fail
  rename_i cq cj ck co cl cm;refine af0 (K:=bpQ) fun W aYL=> ?_;have cn:W (b+28)=some ⟨4,cap,rows++[[cI p.next,.osl 1 (b+19) 0 p.queue.length cq,.osl 3 (b+23) 0 p.out.length co,cI p.last]]⟩:=by rw[aYL,aA.aC (by omega)];exact aA.bH
  have cr:W (b+19)=some ⟨1,cq,p.queue.map aJ⟩:=by rw[aYL];simp (disch:=omega) only[aA.aC,aA.bH]
  have ct:W (b+23)=some ⟨3,co,p.out.map eCJ⟩:=by rw[aYL];simp (disch:=omega) only[aA.aC,aA.bH]
  have aq:W (nx+11)=some ⟨5,1,[[.osl 1 boW 0 s.words.length c0,.osl 1 b1 0 s.holds.length c1,.osl 4 (b+28) 0 (k+1) cap,.osl 3 (nx+1) 0 0 0,.osl 5 b2 0 s.told.length c2]]⟩:=by rw[aYL];exact aA.bH
  have wf: ∀id,id<b→id≠ip→id≠nx+11→W id=H1 id:=fun id d1 d2 d3=>by rw[aYL];simp (disch:=omega) only[aA.aC,aA.jG]
  clear aYL;obtain⟨f,d⟩: ∃f,f=put (put (put nm (5+k) (b+19)) (8+k) (b+23)) 2 (b+28):=⟨_,rfl⟩
  have p2:f 2=b+28:=by rw[d,t8]
  have p5:f (5+k)=b+19:=by rw[d,jE (by omega),jE (by omega),t8]
  have bk9:f (8+k)=b+23:=by rw[d,jE (by omega),t8]
  have N: ∀a,a≠2→a≠5+k→a≠8+k→f a=nm a:=fun a M E h3=>by rw[d,jE M,jE h3,jE E]
  have ar:Part (fun j=>j<5∨(5≤j∧j<5+(k+1))∨(8≤j∧j<8+(k+1))) nx (b+29) f:=by rw[d];exact((boS.put (B:=fun j=>j<5∨(5≤j∧j<5+(k+1))∨(8≤j∧j<8+k)) (hi':=b+23) (by omega) (by omega) (by omega) (fun j g=>by first|omega| (dsimp only at*;omega))).put (B:=fun j=>j<5∨(5≤j∧j<5+(k+1))∨(8≤j∧j<8+(k+1))) (hi':=b+28) (by omega) (by omega) (by omega) (fun j g=>by first|omega| (dsimp only at*;omega))).put (by omega) (by omega) (by omega) (fun j g=>by first|omega| (dsimp only at*;omega))
  clear d;refine ch _ _ _ (k+1,f,cap) noF _ (by omega) (by dsimp only;omega) (by repeat' first|exact bo2|refine xqI rfl rfl ?_|refine xqP (by omega) rfl rfl ?_|fail) aK ⟨by dsimp only;omega,⟨(N 0 (by omega) (by omega) (by omega)).trans n0,(N 1 (by omega) (by omega) (by omega)).trans bp0,(N 3 (by omega) (by omega) (by omega)).trans bqP,(N 4 (by omega) (by omega) (by omega)).trans az7⟩,ar.mono (by omega),.inr (by dsimp only;omega),fun j g=> ?_,?_,⟨cap,rows++[[cI p.next,.osl 1 (b+19) 0 p.queue.length cq,.osl 3 (b+23) 0 p.out.length co,cI p.last]],?_,⟨?_,fun j g=> ?_⟩,by dsimp only;omega,m5 _⟩,fun id d1 d2 d3=> ?_⟩
  ·dsimp only at g ⊢;by_cases e1:j=5+k;·rw[e1,p5];omega
   ·by_cases e2:j=8+k;·rw[e2,bk9];omega
    ·rw[N j (by omega) e1 e2];exact J j (by omega)
  ·dsimp only;rw[p2];exact aq
  ·dsimp only;rw[p2];exact cn
  ·rw[t2,R];rfl
  ·dsimp only at g ⊢;by_cases au:j=k
   ·subst au;refine⟨_,by rw[brX (by omega),R,brJ];rfl,⟨0,cq,co,?_,?_,?_⟩⟩;·rw[p5,bk9,←T];rfl
    ·rw[p5,←T];exact⟨cq,p.queue.map aJ,cr,rfl,by simp,by simp,cj,by omega⟩
    ·rw[bk9,←T];exact⟨co,p.out.map eCJ,ct,rfl,by simp,by simp,cl,by omega⟩
   ·obtain⟨r,M,E⟩:=aj j (by omega);have aAA:=boS.rng (5+j) (.inr (.inl ⟨by omega,by omega⟩));have aAB:=boS.rng (8+j) (.inr (.inr ⟨by omega,by omega⟩));have q5:=J (5+j) (.inl (by omega));have aEM:=J (8+j) (.inr (by omega));refine⟨r,by rw[brO (by omega)];exact M,?_⟩;rw[N (5+j) (by omega) (by omega) (by omega),N (8+j) (by omega) (by omega) (by omega)];exact E.frame (wf _ (by omega) (fun he=>by have:=boS.inj (5+j) 2 (.inr (.inl ⟨by omega,by omega⟩)) (.inl (by omega)) (he.trans S);omega) (by omega)) (wf _ (by omega) (fun he=>by have:=boS.inj (8+j) 2 (.inr (.inr ⟨by omega,by omega⟩)) (.inl (by omega)) (he.trans S);omega) (by omega))
  ·rw[wf id (by omega) (by omega) d3];exact L id d1 d2 d3
 ·repeat' first|apply bn1<;>(simp only[go_sem,g2])|apply bn3 (by omega)|fail
  have cu:k=3:=by omega
  subst cu;have g1:H1 (nx+1)=some ⟨3,0,[]⟩:=(L _ (by omega) (by omega) (by omega)).trans v1;clear al bs
  refine aM.gP (β:=Nat×(Nat→Nat)×Nat) (fun u=>en [(6,boP u.1),(3,.one (.c (.ptr 5 (nx+11) 0 0))),(2,.one (.c (.ptr 5 (nx+3) 0 0))),(1,.one (.c (.ptr 5 (nx+2) 0 0)))])
   (fun u H2 n2=>u.1≤4∧(∀j,j<11→j≠3→u.2.1 j=nm j)∧Part (fun j=>j<11∨(11≤j∧j<11+u.1)∨(15≤j∧j<15+u.1)) nx n2 u.2.1∧(u.2.1 3=nx+1∨b≤u.2.1 3)∧(∀j,(11≤j∧j<11+u.1)∨(15≤j∧j<15+u.1)→b≤u.2.1 j)∧H2 (nx+11)=some ⟨5,1,[[.osl 1 boW 0 s.words.length c0,.osl 1 b1 0 s.holds.length c1,.osl 4 ip 0 3 P,.osl 3 (u.2.1 3) 0 u.1 u.2.2,.osl 5 b2 0 s.told.length c2]]⟩∧(∃m rows,H2 (u.2.1 3)=some ⟨3,m,rows⟩∧bkL u.1 H2 u.2.1 s rows∧u.1≤u.2.2∧u.2.2≤m)∧ ∀id,id<b→id≠nx+1→id≠nx+11→H2 id=H1 id)
   (fun u=>4-u.1) (0,nm,0) ⟨noF,_,by repeat' first|exact bo2|refine xqI rfl rfl ?_|refine xqP (by omega) rfl rfl ?_|fail,aK,by dsimp only;omega,fun _ _ _=>rfl,⟨fun j k g hk he=>boS.inj j k (by first|omega| (dsimp only at*;omega)) (by first|omega| (dsimp only at*;omega)) he,fun j g=>by have:=boS.rng j (by first|omega| (dsimp only at*;omega));first|omega| (dsimp only at*;omega)⟩,.inl bqP,fun j g=>by dsimp only at g;omega,by dsimp only;rw[bqP];exact ah,⟨0,[],by dsimp only;rw[bqP];exact g1,⟨rfl,fun j g=>by dsimp only at g;omega⟩,m5 _,m5 _⟩,fun _ _ _ _=>rfl⟩ ?_
  rintro⟨k,aa,aw⟩ H2 e cv ⟨hk,q,A,ab,y,ad,⟨mv,rv,bv,⟨D,ax⟩,bu,cw⟩,x⟩ bqG cx;dsimp only at hk q A ab y ad bv D ax bu cw;have e2:H2 (nx+2)=some ⟨5,1,[eI s]⟩:=(x _ (by omega) (by omega) (by omega)).trans g2;obtain⟨iv,ae⟩: ∃iv,iv=aa 3:=⟨_,rfl⟩
  have ay:=A.rng 3 (.inl (by omega));rw[←ae] at ad bv ab ay;have af:bQ e [nx+2,nx+3,nx+11,iv]:=AM.apart (by simp;omega) (by simp;omega);simp only[bQ,eZ] at af;have az:List.take k rv=rv:=boL (by omega);by_cases an:k<4
  ·obtain⟨v,ag⟩: ∃v,v=aL s k:=⟨_,rfl⟩
   have ba:s.dD.getD k default=v:=ag.symm;obtain⟨hq,ho,O⟩:=hs.slv k an;rw[←ag] at hq ho O;refine aM.BW fun X=> ?_;have Y: ∀k l,msk (e+k) l H2=H2:=fun k l=>BV X (by omega);repeat' first| (first|apply bn1|refine aNQ (l:=v.done) ho O (fun aZJ bw boZ c5 h6 h7 cy ai=> ?_))<;>(simp only[go_sem,boC,Y,umS (G:=H2),umD (G:=H2),umB,msk,List.map,t3,bq7,or_false,ba,az,D,e2,ad,bv,af,ca])|apply bn2 (by omega)| (with_reducible first|refine fun(cap:Nat) (Z:_≤cap)=> ?_|refine fun(bt:_≤cap)=> ?_)|refine⟨by omega,?_⟩|fail
   obtain⟨cp,rfl⟩: ∃cp,cp=cap:=⟨_,rfl⟩
   have bb:=Z;have bc:aZJ (e+10)=some ⟨3,1,[gF v]⟩:=(by rw[ai _ (by omega)];simp (disch:=omega) only[aA.aC,aA.bH,aA.jG]);have cz:aZJ (e+17)=some ⟨3,cp,v.pipe.map eCJ⟩:=(by rw[ai _ (by omega)];simp (disch:=omega) only[aA.aC,aA.bH,aA.jG]);have ff: ∀id,id<e→aZJ id=H2 id:=fun id d1=>by rw[ai _ (by omega)];simp (disch:=omega) only[aA.aC,aA.bH,aA.jG]
   have bd:=(ff (nx+11) (by omega)).trans ad;have bx:=(ff iv (by omega)).trans bv;clear ai;have bf:bQ bw [nx+2,nx+3,nx+11,iv,e+10,e+17,e+24,boZ]:=AM.apart (by simp;omega) (by simp;omega);simp only[bQ,eZ] at bf;simp only[bc,bd];refine⟨⟨fun _=>rfl,fun he=>he.elim,fun _=>rfl⟩,?_⟩;(try simp only[go_sem,boC,bc,bd,bx,az,D,bf,af,boC]);repeat' first|apply bn1<;>(simp only[go_sem,boC,bc,bd,bx,az,D,bf,af,boC];try simp (disch:=omega) only[Iw])| (with_reducible first|refine fun(cap:Nat) (Z:_≤cap)=> ?_|refine fun(bt:_≤cap)=> ?_)|refine⟨by omega,?_⟩|fail
   refine af0 (K:=bqG) fun W aYL=> ?_;have da:W (e+25)=some ⟨3,cap,rv++[[.osl 3 (e+17) 0 v.pipe.length cp,.osl 5 boZ 0 v.done.length c5,cI v.last]]⟩:=(by rw[aYL,aA.aC (by omega)];exact aA.bH);have db:W (e+17)=some ⟨3,cp,v.pipe.map eCJ⟩:=(by rw[aYL];simp (disch:=omega) only[aA.aC,aA.bH,aA.jG];exact cz);have dc:Own aS 5 W boZ c5 v.done:=cy.of (by rw[aYL];simp (disch:=omega) only[aA.aC,aA.jG]);have aq:W (nx+11)=some ⟨5,1,[[.osl 1 boW 0 s.words.length c0,.osl 1 b1 0 s.holds.length c1,.osl 4 ip 0 3 P,.osl 3 (e+25) 0 (k+1) cap,.osl 5 b2 0 s.told.length c2]]⟩:=(by rw[aYL];exact aA.bH);have wf: ∀id,id<e→id≠iv→id≠nx+11→W id=H2 id:=fun id d1 d2 d3=>by rw[aYL];simp (disch:=omega) only[aA.aC,aA.jG];exact ff id d1
   clear aYL;obtain⟨f,d⟩: ∃f,f=put (put (put aa (11+k) (e+17)) 3 (e+25)) (15+k) boZ:=⟨_,rfl⟩
   have p3:f 3=e+25:=(by rw[d,jE (by omega),t8]);have bg:f (11+k)=e+17:=(by rw[d,jE (by omega),jE (by omega),t8]);have bh:f (15+k)=boZ:=(by rw[d,t8]);have N: ∀a,a≠3→a≠11+k→a≠15+k→f a=aa a:=fun a M E h3=>by rw[d,jE h3,jE M,jE E]
   have ar:Part (fun j=>j<11∨(11≤j∧j<11+(k+1))∨(15≤j∧j<15+(k+1))) nx bw f:=(by rw[d];exact((A.put (B:=fun j=>j<11∨(11≤j∧j<11+(k+1))∨(15≤j∧j<15+k)) (hi':=e+18) (by omega) (by omega) (by omega) (fun j g=>by first|omega| (dsimp only at*;omega))).put (B:=fun j=>j<11∨(11≤j∧j<11+(k+1))∨(15≤j∧j<15+k)) (hi':=e+26) (by omega) (by omega) (by omega) (fun j g=>by first|omega| (dsimp only at*;omega))).put (by omega) (by omega) (by omega) (fun j g=>by first|omega| (dsimp only at*;omega)));clear d;refine cx _ _ _ (k+1,f,cap) noF _ (by omega) (by dsimp only;omega) (by repeat' first|exact bo2|refine xqI rfl rfl ?_|refine xqP (by omega) rfl rfl ?_|fail) aK ⟨by dsimp only;omega,fun j g j3=> ?_,ar.mono (by omega),.inr (by dsimp only;omega),fun j g=> ?_,?_,⟨cap,rv++[[.osl 3 (e+17) 0 v.pipe.length cp,.osl 5 boZ 0 v.done.length c5,cI v.last]],?_,⟨?_,fun j g=> ?_⟩,by dsimp only;omega,m5 _⟩,fun id d1 d2 d3=> ?_⟩;·dsimp only;rw[N j j3 (by omega) (by omega)];exact q j g j3
   ·dsimp only at g ⊢;by_cases e1:j=11+k;·rw[e1,bg];omega
    ·by_cases e2:j=15+k;·rw[e2,bh];omega
     ·rw[N j (by omega) e1 e2];exact y j (by omega)
   ·dsimp only;rw[p3];exact aq
   ·dsimp only;rw[p3];exact da
   ·rw[t2,D];rfl
   ·dsimp only at g ⊢;by_cases au:j=k
    ·subst au;refine⟨_,by rw[brX (by omega),D,brJ];rfl,⟨0,cp,0,c5,?_,?_,?_⟩⟩;·rw[bg,bh,←ag];rfl
     ·rw[bg,←ag];exact⟨cp,v.pipe.map eCJ,db,rfl,by simp,by simp,bb,by omega⟩
     ·rw[bh,←ag];obtain⟨mo,o1,o2,bqD⟩:=dc;exact⟨mo,v.done.map aS,o1,rfl,by simp,by simp,o2,by omega⟩
    ·obtain⟨r,M,E⟩:=ax j (by omega);have aAA:=A.rng (11+j) (.inr (.inl ⟨by omega,by omega⟩));have aAB:=A.rng (15+j) (.inr (.inr ⟨by omega,by omega⟩));have q5:=y (11+j) (.inl (by omega));have aEM:=y (15+j) (.inr (by omega));refine⟨r,by rw[brO (by omega)];exact M,?_⟩;rw[N (11+j) (by omega) (by omega) (by omega),N (15+j) (by omega) (by omega) (by omega)];exact E.frame (wf _ (by omega) (fun he=>by have:=A.inj (11+j) 3 (.inr (.inl ⟨by omega,by omega⟩)) (.inl (by omega)) (he.trans ae);omega) (by omega)) (wf _ (by omega) (fun he=>by have:=A.inj (15+j) 3 (.inr (.inr ⟨by omega,by omega⟩)) (.inl (by omega)) (he.trans ae);omega) (by omega))
   ·rw[wf id (by omega) (by omega) d3];exact x id d1 d2 d3
  ·have e3:H2 (nx+3)=some ⟨5,1,[[.osl 0 0 0 0 0,.osl 0 0 0 0 0,.osl 0 0 0 0 0,.osl 0 0 0 0 0,.osl 0 0 0 0 0]]⟩:=(x _ (by omega) (by omega) (by omega)).trans ((L _ (by omega) (by omega) (by omega)).trans aXN);repeat' first|apply bn1<;>(simp only[go_sem,e2,e3,ad,af])|apply bn3 (by omega)|fail
   have dd:k=4:=(by omega);subst dd;have az2:aa 2=ip:=(q 2 (by omega) (by omega)).trans S.symm;have az5:=(q 0 (by omega) (by omega)).trans n0;have az9:=(q 1 (by omega) (by omega)).trans bp0;have aAE:=(q 4 (by omega) (by omega)).trans az7;have bj:ip≠nx+1:=fun he=>by have:=boS.inj 2 3 (.inl (by omega)) (.inl (by omega)) (by rw[←S,bqP,he]);omega
   have wv: ∀id W o,id≠nx+3→id<I→id≠nx→id≠nx+1→id≠nx+11→V id=o→(H2.set (nx+3) W) id=o:=fun id W o d0 d1 d2 d3 bkS bk2=>by rw[aA.aC d0,x id (by omega) d3 bkS,L id d1 d2 bkS];exact bk2
   obtain⟨bk1,bqH,bqI,bk6⟩:=cb;obtain⟨x0,x1,bpZ,aYM⟩:=cc;obtain⟨blM,y1,aHC,aHD⟩:=cd;refine hQ _ _ _ _ _ (.inr rfl) (LL rfl aA.bH rfl) (h _ _ aa _ (by omega) ⟨⟨c0,c1,P,aw,c2,?_,?_,?_,?_,br,bu⟩,⟨m,rows,?_,R,fun j g=> ?_⟩,⟨mv,rv,?_,D,fun j g=> ?_⟩⟩ ⟨fun j k g hk he=>A.inj j k (by first|omega| (dsimp only;omega)) (by first|omega| (dsimp only;omega)) he,fun j g=>by have:=A.rng j (by first|omega| (dsimp only;omega));omega⟩ fun id z=> ?_);·rw[U2,az5,az9,az2,aAE,←ae]
   ·rw[az5];exact⟨bk1,s.words.map aJ,wv _ _ _ (by omega) (by omega) (by omega) (by omega) (by omega) bqH,rfl,by simp,by simp,bqI,by omega⟩
   ·rw[az9];exact⟨x0,s.holds.map aJ,wv _ _ _ (by omega) (by omega) (by omega) (by omega) (by omega) x1,rfl,by simp,by simp,bpZ,by omega⟩
   ·rw[aAE];exact⟨blM,s.told.map aS,wv _ _ _ (by omega) (by omega) (by omega) (by omega) (by omega) y1,rfl,by simp,by simp,aHC,by omega⟩
   ·rw[az2,aA.aC (by omega),x _ (by omega) bj (by omega)];exact gp
   ·obtain⟨r,M,E⟩:=aj j g;have r5:=boS.rng (5+j) (.inr (.inl ⟨by omega,by omega⟩));have aU6:=boS.rng (8+j) (.inr (.inr ⟨by omega,by omega⟩));have q5:=J (5+j) (.inl (by omega));have aEM:=J (8+j) (.inr (by omega));rw[q (5+j) (by omega) (by omega),q (8+j) (by omega) (by omega)];exact⟨r,M,E.frame (by rw[aA.aC (by omega),x _ (by omega) (by omega) (by omega)]) (by rw[aA.aC (by omega),x _ (by omega) (by omega) (by omega)])⟩
   ·rw[←ae,aA.aC (by omega)];exact bv
   ·obtain⟨r,M,E⟩:=ax j g;have q5:=y (11+j) (.inl (by omega));have aEM:=y (15+j) (.inr (by omega));exact⟨r,M,E.frame (aA.aC (by omega)) (aA.aC (by omega))⟩
   ·rw[aA.aC (by omega),x id (by omega) (by omega) (by omega),L id (by omega) (by omega) (by omega)];exact vf id z
end
end Go.Proofs.YtdkfhdmagdaceaaGreat
namespace Go.AM
theorem bjT {H:aA} {e:Env} {t n id m bpO d b bp3:Nat} {cs a:List D1} (he:e t= .one (.c (.ptr n id 0 0))) (i:H id=some ⟨n,m,[cs]⟩) (hl:cs.length=n) (f:e bpO= .one (.c (.ptr d b 0 0))) (g:H b=some ⟨d,bp3,[a]⟩) (h:a.length=d):yT H e [.cell t n true,.cell bpO d true]=some (.tup [.agg cs,.agg a]):=by subst hl;subst h;simp[yT,VP,he,f,tT,i,g,mkV,as1]
end Go.AM
namespace Go.Proofs.YtdkfhdmagdaceaaGreat
open Go Go.AM
attribute [local irreducible] aM wv aB vd wvH
section
variable {H : aA} {nx : Nat} {K : D → aA → Nat → Prop}
theorem boO {l:List Int} {p i:Nat} (hl:kZ l) (e:p+1000<2^50) (hi:i<nx) (s:H i=some (rdO l p))
 (h: ∀H' nx' f (c:Cfg),nx≤nx'→f≤p+1000→aQ c→jO c→H' i=some (rdO l f)→(∀id,id<nx→id≠i→H' id=H id)→K (boR (cU c)) H' nx'):aB Tryz.prog lJ [bkP 2 i,boP 6] H nx K:=by
 apply aB.tW
 refine aQN hl e hi s fun H1 t f m u aUU Ps bl J v w mp boW c0 L y o r M g bqB z A B N O aUV aUW aIG aII aUX aIH C D=> ?_
 obtain⟨P,E,d1,d2⟩:=z
 have hp:=aS9 (F:=fun j=>j=bl∨j=v∨j=boW) B rfl A (.inr (.inl rfl)) (.inr (.inr rfl)) (show Ps.length+1≤w by omega)
 rw[show Ps.length+1=3 by omega] at hp
 have k: ∀b∈aUU::Ps,mV b:=fun b a=>by obtain⟨Q,G⟩:=g b a;refine⟨by omega,fun hc=> ?_⟩;obtain⟨x,n,d⟩:=cH.1 hc;exact of_decide_eq_true d (G x n)
 have hm:=o.1
 refine⟨boR (cU ⟨m,u,aUU::Ps⟩),without _ H1,_,A8 (fO (.same _ rfl) (fO (ay5 (σ:=id) (nh:=0) rfl (bW bF E r.1.symm (by omega) (.inl rfl))) (fO hp LH))),kS,h _ _ f _ (by omega) y ⟨o,by dsimp only;omega,r.2,by dsimp only;rw[List.length_cons];omega,fun hc=> ?_⟩ ⟨by dsimp only;omega,by dsimp only;omega,by dsimp only;rw[List.length_cons];omega,fun b a=>by have:=(g b a).1;omega,fun b a q I=>bkX.L4 ((g b a).2 q I)⟩ (by rw[iI (by omega)];exact bqB) fun id d1 d2=>by rw[iI (by omega)];exact D id d1 d2⟩
 obtain⟨x,n,d⟩:=cH.1 hc
 exact of_decide_eq_true d (k x n)
theorem bi2:cJ Tryz.prog bhC Tryz.f201 bg6 bhQ:=cJ.mk Tryz.func201 (by kernel_rfl) bi0
theorem bjP {l:List Int} {p i:Nat} (hl:kZ l) (aa:p+3000<2^50) (hi:i<nx) (ho:H i=some (rdO l p))
 (h: ∀H' nx' p' (c:Cfg) (s:CSt) nm cells,nx≤nx'→p'≤p+2500→aQ c→jO c→COk c s→abY H' nm s cells→Names (fun j=>j<nx) nx' nm→H' i=some (rdO l p')→(∀id,id<nx→id≠i→H' id=H id)→K (.tup [.agg (cU c),.agg cells]) H' nx'):aB Tryz.prog bhC [bkP 2 i] H nx K:=by
 refine bi2 rfl fun Q hQ=> ?_
 unfold bg6
 have hA:bQ nx [i]:=AM.apart (by simp) (by simp;omega)
 simp only[bQ,eZ] at hA
 repeat' first| (first|apply bn1| (refine boO (p:=p) hl (by omega) (by omega) (by rw[aA.aC (by omega),aA.aC (by omega)];exact ho) (fun H0 a pb c al an q J qb C=> ?_)))<;>(simp only[go_sem,boC,hA])|fail
 generalize bqK:aA.set _ (nx+4) _=G
 have g4:G (nx+4)=some ⟨3,1,[cU c]⟩:=by rw[←bqK];exact aA.bH
 have gi:G i=some (rdO l pb):=by rw[←bqK,aA.aC (by omega)];exact qb
 have bqC:G nx=some ⟨3,1,[[.osl 0 0 0 0 0,.osl 0 0 0 0 0,.osl 0 0 0 0 0]]⟩:=by rw[←bqK,aA.aC (by omega),C _ (by omega) (by omega)];simp (disch:=omega) only[aA.aC,aA.bH]
 have g1:G (nx+1)=some ⟨5,1,[[.osl 0 0 0 0 0,.osl 0 0 0 0 0,.osl 0 0 0 0 0,.osl 0 0 0 0 0,.osl 0 0 0 0 0]]⟩:=by rw[←bqK,aA.aC (by omega),C _ (by omega) (by omega)];simp (disch:=omega) only[aA.aC,aA.bH]
 have B: ∀id,id<nx→id≠i→G id=H id:=fun id d1 d2=>by rw[←bqK,aA.aC (by omega),C id (by omega) d2];simp (disch:=omega) only[aA.aC]
 clear bqK qb C
 refine bjL (X:=fun j=>j<a+3) (fun id t=>t) fun H1 P nm cells ao L r=> ?_
 have Z:H1 (nx+4)=some ⟨3,1,[cU c]⟩:=by rw[r _ (by omega)];exact g4
 have qi:H1 i=some (rdO l pb):=by rw[r _ (by omega)];exact gi
 have bqB:H1 nx=some ⟨3,1,[[.osl 0 0 0 0 0,.osl 0 0 0 0 0,.osl 0 0 0 0 0]]⟩:=by rw[r _ (by omega)];exact bqC
 have q1:H1 (nx+1)=some ⟨5,1,[[.osl 0 0 0 0 0,.osl 0 0 0 0 0,.osl 0 0 0 0 0,.osl 0 0 0 0 0,.osl 0 0 0 0 0]]⟩:=by rw[r _ (by omega)];exact g1
 have qf: ∀id,id<nx→id≠i→H1 id=H id:=fun id d1 d2=>by rw[r _ (by omega)];exact B id d1 d2
 clear g4 gi bqC g1 B r
 have g:=L.len
 have e:cells++List.drop cells.length [D1.osl 0 0 0 0 0,.osl 0 0 0 0 0,.osl 0 0 0 0 0,.osl 0 0 0 0 0,.osl 0 0 0 0 0]=cells:=by rw[g];simp
 have M:bQ P [i,nx,nx+1,nx+4,a+1]:=AM.apart (by simp;omega) (by simp;omega)
 simp only[bQ,eZ] at M
 (try simp only[go_sem,boC,Z,qi,bqB,q1,g,e,M,boC]);repeat' first|apply bn1<;>(simp only[go_sem,boC,Z,qi,bqB,q1,g,e,M,boC])|fail
 generalize bqK:H1.set (a+1) _=G
 have bp4:G (a+1)=some ⟨5,1,[cells]⟩:=by rw[←bqK];exact aA.bH
 have B: ∀id,id≠a+1→G id=H1 id:=fun id d1=>by rw[←bqK,aA.aC d1]
 clear bqK
 have R:bgJ (fun j=>j<a+3) G (P+3) nm HY cells:=L.frame (by omega) fun id _ d2=>B id (by omega)
 refine biZ (n:=40) (p:=pb) (by omega) hl (by omega) (by omega) (by rw[B _ (by omega)];exact qi) fun H2 ab p2 xs ad aq ar ae af m=> ?_
 have S:bgJ (fun j=>j<a+3) H2 ab nm HY cells:=R.frame ad fun id d1 d2=>m id d1 (by omega)
 have aU6:H2 (a+1)=some ⟨5,1,[cells]⟩:=(m _ (by omega) (by omega)).trans bp4
 have r4:=(m (nx+4) (by omega) (by omega)).trans ((B _ (by omega)).trans Z)
 have r0:=(m nx (by omega) (by omega)).trans ((B _ (by omega)).trans bqB)
 have r1:=(m (nx+1) (by omega) (by omega)).trans ((B _ (by omega)).trans q1)
 have rf: ∀id,id<nx→id≠i→H2 id=H id:=fun id d1 d2=>(m id (by omega) d2).trans ((B id (by omega)).trans (qf id d1 d2))
 clear R L bp4 B m Z bqB q1 qi qf
 (try simp only[go_sem,boC,boC]);repeat' first|apply bn1<;>(simp only[go_sem,boC,boC])|fail
 refine aM.gP (β:=Nat×CSt×(Nat→Nat)×List D1) (fun u=>en [(7,boP u.1),(6,dS (xs.map eIn)),(5,.one (.c (.ptr 5 (a+1) 0 0))),(4,.one (.c (.ptr 3 (nx+4) 0 0))),(3,.one (.c (.ptr 5 (nx+1) 0 0))),(2,.one (.c (.ptr 3 nx 0 0)))])
  (fun u T bqP=>u.1≤xs.length∧COk c u.2.1∧bgJ (fun j=>j<a+3) T bqP u.2.2.1 u.2.1 u.2.2.2∧T (a+1)=some ⟨5,1,[u.2.2.2]⟩∧ ∀id,id<a+1→T id=H2 id)
  (fun u=>xs.length-u.1) (0,HY,nm,cells) ⟨noF,_,by repeat' first|exact bo2|refine xqI rfl rfl ?_|refine xqP (by omega) rfl rfl ?_|fail,aK,by dsimp only;omega,anK c,S.frame (by omega) fun _ _ _=>rfl,aU6,fun _ _=>rfl⟩ ?_
 clear S aU6 g e
 rintro⟨k,s,N,D⟩ T ag au ⟨v,w,y,blN,z⟩ bpQ ah
 dsimp only at v w y blN
 have bp8:=(z (nx+4) (by omega)).trans r4
 have s0:=(z nx (by omega)).trans r0
 have s1:=(z (nx+1) (by omega)).trans r1
 have g:=y.len
 have o:bQ ag [i,nx,nx+1,nx+4,a+1]:=AM.apart (by simp;omega) (by simp;omega)
 simp only[bQ,eZ] at o
 by_cases U:k<xs.length
 ·have V:vZ (xs.getD k default):=by
   rw[List.getD,n1 U];exact ae _ (Z5 U)
  obtain⟨x,hx⟩: ∃x,x=xs.getD k default:=⟨_,rfl⟩
  have W:xs.getD k default=x:=hx.symm
  rw[W] at V
  repeat' first|apply bn1<;>(simp only[go_sem,bp8,blN,o,g,W,boC])|apply bn2 (by omega)|refine⟨by omega,?_⟩|fail
  refine bi3 q w V (y.frame (by omega) fun _ _ _=>rfl) fun bqL ai E b aj A F=> ?_
  have blO:=(F (a+1) (by show a+1<a+3;omega)).trans blN
  have f:=A.len
  have e:List.drop 5 D=[]:=by rw[←g];simp
  (try simp only[go_sem,boC,blO,f,e,bq6,o,boC]);repeat' first|apply bn1<;>(simp only[go_sem,boC,blO,f,e,bq6,o,boC];try simp (disch:=omega) only[Iw])|refine⟨by omega,?_⟩|fail
  refine ah _ _ _ (k+1,vF c x s,E,b) noF _ (by omega) (by dsimp only;omega) (by repeat' first|exact bo2|refine xqI rfl rfl ?_|refine xqP (by omega) rfl rfl ?_|fail) aK ⟨by dsimp only;omega,PN q w,A.frame (by omega) fun id _ d2=>aA.aC (by omega),aA.bH,fun id t=> ?_⟩
  rw[aA.aC (by omega),F id (by show id<a+3;omega)];exact z id t
 ·repeat' first|apply bn1<;>(simp only[go_sem,bp8,blN,o,g,boC])|apply bn3 (by omega)|fail
  have O:=w.sz q;have ak:=y.names.av;refine aB.ao4 (args':=[boR (eI s)]) (without (fun j=>∃k,k<19∧j=N k) T) (fun j=>∃k,k<19∧j=N k) rfl (fun i d0 d h1 h2=> ?_) kS ?_
  ·match i with
   |0=>simp only[List.getElem?_cons_zero,Option.some.injEq] at h1 h2;subst h1;subst h2;exact lY (A8 (y.rep.VI (fun k v=>⟨k,v,rfl⟩) O.pl O.sl))
   |i+1=>simp at h1
  refine bjQ O fun bqL ai E b aj A I F=> ?_;have Y: ∀id,id<a+1→bqL id=H2 id:=fun id t=>by rw[F id (by omega),iI (fun⟨k,v,he⟩=>ak k v (by show N k<a+3;omega))];exact z id t
  have bpY:=(Y (nx+4) (by omega)).trans r4;have aU0:=(Y nx (by omega)).trans r0;have bpN:=(Y (nx+1) (by omega)).trans r1;have f:b.length=5:=by obtain⟨_,_,_,_,_,rfl,_⟩:=A.ex;rfl
  have e:b++List.drop b.length [D1.osl 0 0 0 0 0,.osl 0 0 0 0 0,.osl 0 0 0 0 0,.osl 0 0 0 0 0,.osl 0 0 0 0 0]=b:=by rw[f];simp
  (try simp only[go_sem,boC,bpY,aU0,bpN,f,e,o,boC]);repeat' first|apply bn1<;>(simp only[go_sem,boC,bpY,aU0,bpN,f,e,o,boC])|fail
  refine hQ _ _ _ _ _ (.inr rfl) (bjT rfl ((aA.aC (by omega)).trans aA.bH) rfl rfl aA.bH f) (h _ _ p2 c s E b (by omega) (by omega) q J w (A.frame fun k v=> ?_) ⟨I.inj,fun k v=>by have:=I.rng k v;omega,fun k v hj=>by have:=I.rng k v;have hj:E k<nx:=hj;omega⟩ ?_ fun id d1 d2=> ?_);·have:=I.rng k v;rw[aA.aC (by omega),aA.aC (by omega)]
  ·rw[aA.aC (by omega),aA.aC (by omega),Y i (by omega)];exact af
  ·rw[aA.aC (by omega),aA.aC (by omega),Y id (by omega)];exact rf id d1 d2
end
end Go.Proofs.YtdkfhdmagdaceaaGreat
namespace Go.AM
structure bh6 (s:CSt):Prop where
 pl:s.bM.length=3
 sl:s.dD.length=4
 w:s.words.length≤64
 h:s.holds.length≤6
 t:s.told.length≤36
 td: ∀j∈s.told,j.rsp.data.length<2^20
 port: ∀k,k<3→(aF s k).queue.length≤2∧(aF s k).out.length≤4
 slv: ∀k,k<4→(aL s k).pipe.length≤2∧(aL s k).done.length≤2∧ ∀j∈(aL s k).done,j.rsp.data.length<2^20
variable{s:CSt}
theorem COk.base{c:Cfg} (e:aQ c) (h:COk c s):bh6 s:=by
 obtain⟨f,_,g,_⟩:=h.atm;have b:s.told.length≤36:=by have:=h.st.lens e;simp only[cX] at this;omega
 refine⟨h.pl,h.sl,by omega,by omega,b,fun j d=> ?_,fun k a=> ?_,fun k a=>⟨(h.slv k a).pl,(h.slv k a).dl,fun j d=> ?_⟩⟩;·have:=(h.st.R8 j (brH _ d)).1;unfold pA at this;omega
 ·have i:=(h.port k a).ql;have l:=(h.port k a).ol;omega
 ·have:=((h.slv k a).rsp j d).1;unfold pA at this;omega
structure bjY (s:CSt):Prop where
 pl:s.bM.length=3
 sl:s.dD.length=4
 w:s.words.length≤65
 h:s.holds.length≤6
 t:s.told.length≤37
 td: ∀j∈s.told,j.rsp.data.length<2^20
 port: ∀k,k<3→(aF s k).queue.length≤3∧(aF s k).out.length≤5
 slv: ∀k,k<4→(aL s k).pipe.length≤3∧(aL s k).done.length≤3∧ ∀j∈(aL s k).done,j.rsp.data.length<2^20
 qs:(aF s 0).queue.length+(aF s 1).queue.length+(aF s 2).queue.length≤7
theorem bj3 (a:s.bM.length=3) (b:s.dD.length=4):(qU s).length=(aF s 0).queue.length+(aF s 1).queue.length+(aF s 2).queue.length+((aL s 0).pipe.length+(aL s 1).pipe.length+(aL s 2).pipe.length+(aL s 3).pipe.length):=by unfold qU jJ hJ;rw[a,b];simp[brP];omega
theorem bjY.fit (h:bjY s):beL s∧bdV s:=by
 have c:beL s:=by
  refine⟨by have:=h.w;omega,by have:=h.h;omega,by have:=h.t;omega,fun j d=>by have:=h.td j d;omega,by have:=h.pl;omega,by have:=h.sl;omega,fun k=> ?_,fun k=> ?_⟩
  ·by_cases a:k<3;·have:=h.port k a;omega
   ·have:aF s k=default:=(by unfold aF;rw[List.getD,Z3 (by have:=h.pl;omega)];rfl);rw[this];exact⟨by decide,by decide⟩
  ·by_cases a:k<4;·have:=h.slv k a;exact⟨by omega,by omega,fun j d=>by have:=this.2.2 j d;omega⟩
   ·have:aL s k=default:=(by unfold aL;rw[List.getD,Z3 (by have:=h.sl;omega)];rfl);rw[this];exact⟨by decide,by decide,fun j d=>by cases d⟩
 have e:=be0 (b:=3) (s:=s) (by have:=h.sl;omega) fun k a=>(h.slv k (by have:=h.sl;omega)).2.1;have hw:=bj3 h.pl h.sl;have q:=h.qs;have bqS:=(h.slv 0 (by omega)).1;have f:=(h.slv 1 (by omega)).1;have g:=(h.slv 2 (by omega)).1;have i:=(h.slv 3 (by omega)).1;exact⟨c,bfE c h.pl (by have:=h.sl;omega) (fun k a=>(h.port k a).1) (fun k a=>⟨(h.slv k (by have:=h.sl;omega)).1,(h.slv k (by have:=h.sl;omega)).2.1⟩) (by omega) (by omega)⟩
theorem bh6.bj4 (h:bh6 s):bjY s:=by have bqS:=(h.port 0 (by omega)).1;have b:=(h.port 1 (by omega)).1;have c:=(h.port 2 (by omega)).1;exact⟨h.pl,h.sl,by have:=h.w;omega,h.h,by have:=h.t;omega,h.td,fun k a=>by have:=h.port k a;omega,fun k a=>by have:=h.slv k a;exact⟨by omega,by omega,this.2.2⟩,by omega⟩
theorem bh6.aEL (h:bh6 s){k:Nat} (a:k<3){p:fR} (b:p.queue.length≤3) (c:p.out.length≤5):bjY {s with bM:=s.bM.set k p}:=by
 have hp: ∀j,aF {s with bM:=s.bM.set k p} j=if j=k then p else aF s j:=bL rfl (by rw[h.pl];exact a)
 have n:=h.bj4;refine⟨by simpa using h.pl,h.sl,n.w,n.h,n.t,n.td,fun j d=> ?_,n.slv,?_⟩
 ·rw[hp];split;·exact⟨b,c⟩
  ·exact n.port j d
 ·rw[hp,hp,hp];have bqS:=(h.port 0 (by omega)).1;have e:=(h.port 1 (by omega)).1;have f:=(h.port 2 (by omega)).1;split;·rw[if_neg (by omega),if_neg (by omega)];omega
  ·split;·rw[if_neg (by omega)];omega
   ·split<;>omega
theorem bh6.bkF (h:bh6 s){k:Nat} (a:k<4){v:nY} (hp:v.pipe.length≤3) (b:v.done.length≤3) (hr: ∀j∈v.done,j.rsp.data.length<2^20):bjY {s with dD:=s.dD.set k v}:=by
 have c: ∀j,aL {s with dD:=s.dD.set k v} j=if j=k then v else aL s j:=bO rfl (by rw[h.sl];exact a)
 have n:=h.bj4;refine⟨h.pl,by simpa using h.sl,n.w,n.h,n.t,n.td,n.port,fun j d=> ?_,n.qs⟩;rw[c];split;·exact⟨hp,b,hr⟩
 ·exact n.slv j d
theorem bh6.bkG (h:bh6 s){t:List Job} (a:t.length≤37) (b: ∀j∈t,j.rsp.data.length<2^20):bjY {s with told:=t}:=by have n:=h.bj4;exact⟨n.pl,n.sl,n.w,n.h,a,b,n.port,n.slv,n.qs⟩
theorem bh6.bkM (h:bh6 s){w u:List Int} (hw:w.length≤65) (hu:u.length≤6):bjY {s with words:=w,holds:=u}:=by have n:=h.bj4;exact⟨n.pl,n.sl,hw,hu,n.t,n.td,n.port,n.slv,n.qs⟩
variable{nm:Nat→Nat}{cells:List D1}
theorem abY.aEL{G W:aA}{b:Nat→Nat}{k mp:Nat}{p:fR}{r:List D1}{rows:List (List D1)} (h:abY G nm s cells) (f:s.bM.length=3) (w:k<3)
 (bqK:G (nm 2)=some ⟨4,mp,rows⟩) (aYL:W (nm 2)=some ⟨4,mp,rows.set k r⟩) (boS:CX W (b (5+k)) (b (8+k)) p r) (c: ∀a,a<19→a≠5+k→a≠8+k→b a=nm a)
 (d: ∀a,a<19→a≠2→a≠5+k→a≠8+k→W (nm a)=G (nm a)):abY W b {s with bM:=s.bM.set k p} cells:=by
 have hp: ∀j,aF {s with bM:=s.bM.set k p} j=if j=k then p else aF s j:=bL rfl (by rw[f];exact w)
 obtain⟨⟨wc,hc,x,vc,y,rfl,z,A,B,C,D⟩,⟨m,R,o,E,F⟩,⟨H,I,J,K,L⟩⟩:=h
 rw[bqK] at o
 cases o
 have boU:=c 0 (by omega) (by omega) (by omega)
 have q:=c 1 (by omega) (by omega) (by omega)
 have t:=c 2 (by omega) (by omega) (by omega)
 have u:=c 3 (by omega) (by omega) (by omega)
 have v:=c 4 (by omega) (by omega) (by omega)
 refine⟨⟨wc,hc,x,vc,y,by rw[U2,U2,boU,q,t,u,v],?_,?_,?_,C,D⟩,⟨mp,rows.set k r,by rw[t];exact aYL,by rw[Y5];exact E,fun j g=> ?_⟩,⟨H,I,by rw[u,d 3 (by omega) (by omega) (by omega) (by omega)];exact J,K,fun j g=> ?_⟩⟩
 ·rw[boU];exact z.frame (d 0 (by omega) (by omega) (by omega) (by omega))
 ·rw[q];exact A.frame (d 1 (by omega) (by omega) (by omega) (by omega))
 ·rw[v];exact B.frame (d 4 (by omega) (by omega) (by omega) (by omega))
 ·rw[hp];by_cases e:j=k;·subst e;exact⟨r,by rw[bqZ (by omega)],by rw[if_pos rfl];exact boS⟩
  ·obtain⟨i,l,n⟩:=F j g;rw[if_neg e,c (5+j) (by omega) (by omega) (by omega),c (8+j) (by omega) (by omega) (by omega)];exact⟨i,by rw[bq0 (by omega)];exact l,n.frame (d _ (by omega) (by omega) (by omega) (by omega)) (d _ (by omega) (by omega) (by omega) (by omega))⟩
 ·obtain⟨i,l,n⟩:=L j g;rw[c (11+j) (by omega) (by omega) (by omega),c (15+j) (by omega) (by omega) (by omega)];exact⟨i,l,n.frame (d _ (by omega) (by omega) (by omega) (by omega)) (d _ (by omega) (by omega) (by omega) (by omega))⟩
theorem abY.bkF{G W:aA}{b:Nat→Nat}{k mp:Nat}{v:nY}{r:List D1}{rows:List (List D1)} (h:abY G nm s cells) (f:s.dD.length=4) (w:k<4)
 (bqK:G (nm 3)=some ⟨3,mp,rows⟩) (aYL:W (nm 3)=some ⟨3,mp,rows.set k r⟩) (boS:LJ W (b (11+k)) (b (15+k)) v r) (c: ∀a,a<19→a≠11+k→a≠15+k→b a=nm a)
 (d: ∀a,a<19→a≠3→a≠11+k→a≠15+k→W (nm a)=G (nm a)):abY W b {s with dD:=s.dD.set k v} cells:=by
 have hp: ∀j,aL {s with dD:=s.dD.set k v} j=if j=k then v else aL s j:=bO rfl (by rw[f];exact w)
 obtain⟨⟨wc,hc,x,vc,y,rfl,z,A,B,C,D⟩,⟨m,R,E,F,H⟩,⟨K,L,o,I,J⟩⟩:=h
 rw[bqK] at o
 cases o
 have boU:=c 0 (by omega) (by omega) (by omega)
 have p:=c 1 (by omega) (by omega) (by omega)
 have q:=c 2 (by omega) (by omega) (by omega)
 have t:=c 3 (by omega) (by omega) (by omega)
 have u:=c 4 (by omega) (by omega) (by omega)
 refine⟨⟨wc,hc,x,vc,y,by rw[U2,U2,boU,p,q,t,u],?_,?_,?_,C,D⟩,⟨m,R,by rw[q,d 2 (by omega) (by omega) (by omega) (by omega)];exact E,F,fun j g=> ?_⟩,⟨mp,rows.set k r,by rw[t];exact aYL,by rw[Y5];exact I,fun j g=> ?_⟩⟩
 ·rw[boU];exact z.frame (d 0 (by omega) (by omega) (by omega) (by omega))
 ·rw[p];exact A.frame (d 1 (by omega) (by omega) (by omega) (by omega))
 ·rw[u];exact B.frame (d 4 (by omega) (by omega) (by omega) (by omega))
 ·obtain⟨i,l,n⟩:=H j g;rw[c (5+j) (by omega) (by omega) (by omega),c (8+j) (by omega) (by omega) (by omega)];exact⟨i,l,n.frame (d _ (by omega) (by omega) (by omega) (by omega)) (d _ (by omega) (by omega) (by omega) (by omega))⟩
 ·rw[hp];by_cases e:j=k;·subst e;exact⟨r,by rw[bqZ (by omega)],by rw[if_pos rfl];exact boS⟩
  ·obtain⟨i,l,n⟩:=J j g;rw[if_neg e,c (11+j) (by omega) (by omega) (by omega),c (15+j) (by omega) (by omega) (by omega)];exact⟨i,by rw[bq0 (by omega)];exact l,n.frame (d _ (by omega) (by omega) (by omega) (by omega)) (d _ (by omega) (by omega) (by omega) (by omega))⟩
theorem abY.bkG{G W:aA}{id0 cap wc hc c vc k:Nat}{t:List Job} (h:abY G nm s [.osl 1 (nm 0) 0 s.words.length wc,.osl 1 (nm 1) 0 s.holds.length hc,.osl 4 (nm 2) 0 3 c,.osl 3 (nm 3) 0 4 vc,.osl 5 (nm 4) 0 s.told.length k])
 (aAI:tZ W 5 id0 0 t.length cap (t.map aS)) (b: ∀a,a<19→a≠4→W (nm a)=G (nm a)):
 abY W (put nm 4 id0) {s with told:=t} [.osl 1 (nm 0) 0 s.words.length wc,.osl 1 (nm 1) 0 s.holds.length hc,.osl 4 (nm 2) 0 3 c,.osl 3 (nm 3) 0 4 vc,.osl 5 id0 0 t.length cap]:=by
 obtain⟨⟨l,n,o,p,q,e,r,u,F,v,w⟩,⟨m,R,x,y,z⟩,⟨A,B,C,D,E⟩⟩:=h
 simp only[U2,List.cons.injEq,D1.osl.injEq,true_and,and_true] at e
 obtain⟨rfl,rfl,rfl,rfl,rfl⟩:=e
 refine⟨⟨wc,hc,c,vc,cap,?_,?_,?_,?_,v,w⟩,⟨m,R,by rw[jE (by omega),b 2 (by omega) (by omega)];exact x,y,fun j d=> ?_⟩,⟨A,B,by rw[jE (by omega),b 3 (by omega) (by omega)];exact C,D,fun j d=> ?_⟩⟩
 ·rw[U2,jE (by omega),jE (by omega),jE (by omega),jE (by omega),t8]
 ·rw[jE (by omega)];exact r.frame (b 0 (by omega) (by omega))
 ·rw[jE (by omega)];exact u.frame (b 1 (by omega) (by omega))
 ·rw[t8];exact aAI
 ·obtain⟨f,g,i⟩:=z j d;rw[jE (by omega),jE (by omega)];exact⟨f,g,i.frame (b _ (by omega) (by omega)) (b _ (by omega) (by omega))⟩
 ·obtain⟨f,g,i⟩:=E j d;rw[jE (by omega),jE (by omega)];exact⟨f,g,i.frame (b _ (by omega) (by omega)) (b _ (by omega) (by omega))⟩
theorem abY.bkJ{H:aA}{F:Nat→Prop}{c0 c1 c2 b c:D1} (h:abY H nm s [c0,c1,c2,b,c]) (d: ∀k,k<19→F (nm k)) (hp:s.bM.length=3) (hs:s.dD.length=4):
 Frz H F (.isl (s.words.map aJ)) c0∧Frz H F (.isl (s.holds.map aJ)) c1∧Frz H F (.isl (s.bM.map cD)) c2∧Frz H F (.isl (s.dD.map gF)) b∧Frz H F (.isl (s.told.map aS)) c:=by
 have a:=h.VI d hp hs
 obtain⟨l,boU,bfZ⟩:=a.2 0 _ rfl
 obtain⟨d1,e,bpR⟩:=a.2 1 _ rfl
 obtain⟨d2,f,g⟩:=a.2 2 _ rfl
 obtain⟨d3,i,bpS⟩:=a.2 3 _ rfl
 obtain⟨bkS,j,bpT⟩:=a.2 4 _ rfl
 cases boU;cases e;cases f;cases i;cases j
 exact⟨bfZ,bpR,g,bpS,bpT⟩
theorem abY.bkD{H:aA}{F:Nat→Prop}{cap:Nat} (h:abY H nm s cells) (a: ∀k,k<19→F (nm k)) (hs:s.dD.length=4) (hc:3≤cap):Frz H F (.isl ((s.dD.drop 1).map gF)) (.osl 3 (nm 3) 1 3 cap):=by obtain⟨j,b,d,l,e⟩:=h.dD;refine QM (a _ (by omega)) d rfl (by simp[hs]) (by dsimp only;omega) hc fun i r' hr=> ?_;rw[p0,m4] at hr;obtain⟨p,hr,rfl⟩:=hr;rw[s5] at hr;obtain⟨f,m⟩:=getD_some hr;obtain⟨r,g,c⟩:=e (1+i) (by omega);rw[show aL s (1+i)=p from f] at c;exact⟨rfl,r,g,c.VI (a _ (by omega)) (a _ (by omega))⟩
theorem bh6.drop {s:CSt} (h:bh6 s):beL {s with dD:=s.dD.drop 1}∧bdV {s with dD:=s.dD.drop 1}:=by
 have c: ∀k,aL {s with dD:=s.dD.drop 1} k=aL s (1+k):=fun k=>by unfold aL;simp only[List.getD,s5]
 have n:=h.bj4.fit.1;have b:beL {s with dD:=s.dD.drop 1}:=by refine⟨n.w,n.h,n.t,n.td,n.pl,by rw[CI];have:=n.sl;omega,n.port,fun k=> ?_⟩;rw[c];exact n.slv (1+k)
 have f:(s.dD.drop 1).length=3:=by rw[CI,h.sl]
 have d: ∀k,k<3→(aF {s with dD:=s.dD.drop 1} k).queue.length≤2:=fun k a=>(h.port k a).1;have hp: ∀k,k<(s.dD.drop 1).length→(aL {s with dD:=s.dD.drop 1} k).pipe.length≤2:=fun k a=>by rw[c];exact(h.slv (1+k) (by omega)).1
 have e: ∀k,k<(s.dD.drop 1).length→(aL {s with dD:=s.dD.drop 1} k).done.length≤2:=fun k a=>by rw[c];exact(h.slv (1+k) (by omega)).2.1
 have g:=be1 (s:={s with dD:=s.dD.drop 1}) h.pl (by dsimp only;omega) d hp;have i:=be0 (s:={s with dD:=s.dD.drop 1}) (by dsimp only;omega) e;exact⟨b,bfE b h.pl (by dsimp only;omega) (fun k a=>by have:=d k a;omega) (fun k a=>⟨by have:=hp k a;omega,by have:=e k a;omega⟩) (by omega) (by omega)⟩
end Go.AM
