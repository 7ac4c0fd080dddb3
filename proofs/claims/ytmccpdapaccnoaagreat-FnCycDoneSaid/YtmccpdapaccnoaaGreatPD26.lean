/- Texts laid together by a program: rules, contracts and the walk that leads to the law. -/
import Derived.Test.YtmccpdapaccnoaaGreatPD23
import Derived.Test.YtmccpdapaccnoaaGreatPD21
import Derived.Test.YtmccpdapaccnoaaGreatPD22
set_option linter.unusedVariables false
set_option linter.unusedSimpArgs false
set_option linter.unusedSectionVars false
set_option maxRecDepth 100000
set_option maxHeartbeats 8000000
namespace Go.AM
structure bkN (k:Nat) (H:aA) (nm:Nat→Nat) (s:CSt) (rows:List (List D1)):Prop where
 len:rows.length=k
 row: ∀j,j<k→∃r,rows[j]?=some r∧CX H (nm (5+j)) (nm (8+j)) (aF s j) r
structure bkL (k:Nat) (H:aA) (nm:Nat→Nat) (s:CSt) (rows:List (List D1)):Prop where
 len:rows.length=k
 row: ∀j,j<k→∃r,rows[j]?=some r∧LJ H (nm (11+j)) (nm (15+j)) (aL s j) r
def biB (nx boW b1 b2:Nat):Nat→Nat:=fun a=>if a=0 then boW else if a=1 then b1 else if a=2 then nx else if a=3 then nx+1 else b2
theorem bj0 {nx n boW b1 b2:Nat} (h0:nx+2≤b1) (h1:b1<boW) (h2:boW<b2) (h3:b2<n):Part (fun j=>j<5∨(5≤j∧j<5+0)∨(8≤j∧j<8+0)) nx n (biB nx boW b1 b2):=by
 have key: ∀a,a<5→(a=0∧biB nx boW b1 b2 a=boW)∨(a=1∧biB nx boW b1 b2 a=b1)∨(a=2∧biB nx boW b1 b2 a=nx)∨(a=3∧biB nx boW b1 b2 a=nx+1)∨(a=4∧biB nx boW b1 b2 a=b2):=fun a ha=>by
  unfold biB;repeat' split
  all_goals omega
 refine⟨fun j k hj hk he=> ?_,fun k hk=> ?_⟩;·have h1:=key j (by omega);have h2:=key k (by omega);omega
 ·have h1:=key k (by omega);omega
end Go.AM
namespace Go.Proofs.YtmccpdapaccnoaaGreat
open Go Go.AM
attribute [local irreducible] aM wv aB vd wvH
section
variable {H : aA} {nx : Nat} {K : D → aA → Nat → Prop}
theorem bi7:cJ Tryz.prog bg9 Tryz.f130 bg0 bhN:=cJ.mk Tryz.func130 (by kernel_rfl) biR
theorem bjQ {s:CSt} (hs:CSz s)
 (h: ∀H' nx' nm cells,nx≤nx'→abY H' nm s cells→Part (fun k=>k<19) nx nx' nm→(∀id,id<nx→H' id=H id)→K (boR cells) H' nx'):
 aB Tryz.prog bg9 [boR (eI s)] H nx K:=by
 have hpl:=hs.pl
 have hsl:=hs.sl
 refine bi7 rfl fun Q hQ=> ?_
 unfold bg0
 refine aM.EJ 4 (aM.EJ 3 ?_)
 repeat' first| (first|apply bn1|refine aQE (w:=s.words) (u:=s.holds) hs.w hs.h (fun H1 nx1 boW b1 c0 c1 h1 h2 h3 ho0 ho1 hf1=> ?_))<;>(simp only[go_sem,boC])|fail
 generalize aU3:dT (nx+4) [7] _ H1=U
 have aUW:U (nx+2)=some ⟨5,1,[eI s]⟩:=by rw[←aU3,um1 (by omega),hf1 _ (by omega),aA.aC (by omega)];exact aA.bH
 have aIG:U (nx+3)=some ⟨5,1,[[.osl 0 0 0 0 0,.osl 0 0 0 0 0,.osl 0 0 0 0 0,.osl 0 0 0 0 0,.osl 0 0 0 0 0]]⟩:=by rw[←aU3,um1 (by omega),hf1 _ (by omega)];exact aA.bH
 have u11:U (nx+11)=some ⟨5,1,[[.osl 0 0 0 0 0,.osl 0 0 0 0 0,.osl 0 0 0 0 0,.osl 0 0 0 0 0,.osl 0 0 0 0 0]]⟩:=by rw[←aU3,show nx+11=nx+4+7 by omega,aH6];exact aA.bH
 have aXL:U nx=some ⟨4,0,[]⟩:=by rw[←aU3,um1 (by omega),hf1 _ (by omega),aA.aC (by omega),aA.aC (by omega),aA.aC (by omega)];exact aA.bH
 have aUV:U (nx+1)=some ⟨3,0,[]⟩:=by rw[←aU3,um1 (by omega),hf1 _ (by omega),aA.aC (by omega),aA.aC (by omega)];exact aA.bH
 have uo0:Own aJ 1 U boW c0 s.words:=ho0.of (by rw[←aU3,um1 (by omega)])
 have uo1:Own aJ 1 U b1 c1 s.holds:=ho1.of (by rw[←aU3,um1 (by omega)])
 have uf: ∀id,id<nx→U id=H id:=fun id hid=>by rw[←aU3,um1 (by omega),hf1 _ (by omega),aA.aC (by omega),aA.aC (by omega),aA.aC (by omega),aA.aC (by omega),mk1 (by omega)]
 clear aU3 ho0 ho1 hf1
 have m0: ∀G:aA,msk (nx+4) [7] G (nx+2)=G (nx+2):=fun G=>mk1 (by omega)
 refine⟨fun _=>by rw[m0,aUW];rfl,?_⟩
 refine aNQ (l:=s.told) hs.t.1 hs.t.2 fun H2 nx2 b2 c2 h4 h5 ho2 hf2=> ?_
 simp only[go_sem,m0]
 generalize hV:dT (nx+4) [7] U H2=V
 have v2:V (nx+2)=some ⟨5,1,[eI s]⟩:=by rw[←hV,um1 (by omega),hf2 _ (by omega),mk1 (by omega)];exact aUW
 have aXN:V (nx+3)=some ⟨5,1,[[.osl 0 0 0 0 0,.osl 0 0 0 0 0,.osl 0 0 0 0 0,.osl 0 0 0 0 0,.osl 0 0 0 0 0]]⟩:=by rw[←hV,um1 (by omega),hf2 _ (by omega),mk1 (by omega)];exact aIG
 have v11:V (nx+11)=some ⟨5,1,[[.osl 0 0 0 0 0,.osl 0 0 0 0 0,.osl 0 0 0 0 0,.osl 0 0 0 0 0,.osl 0 0 0 0 0]]⟩:=by rw[←hV,show nx+11=nx+4+7 by omega,aH6];exact u11
 have v0:V nx=some ⟨4,0,[]⟩:=by rw[←hV,um1 (by omega),hf2 _ (by omega),mk1 (by omega)];exact aXL
 have v1:V (nx+1)=some ⟨3,0,[]⟩:=by rw[←hV,um1 (by omega),hf2 _ (by omega),mk1 (by omega)];exact aUV
 have vo0:Own aJ 1 V boW c0 s.words:=uo0.of (by rw[←hV,um1 (by omega),hf2 _ (by omega),mk1 (by omega)])
 have vo1:Own aJ 1 V b1 c1 s.holds:=uo1.of (by rw[←hV,um1 (by omega),hf2 _ (by omega),mk1 (by omega)])
 have vo2:Own aS 5 V b2 c2 s.told:=ho2.of (by rw[←hV,um1 (by omega)])
 have vf: ∀id,id<nx→V id=H id:=fun id hid=>by rw[←hV,um1 (by omega),hf2 _ (by omega),mk1 (by omega)];exact uf id hid
 clear hV ho2 hf2 aXL aUV aUW aIG u11 uo0 uo1 uf
 have hA:bQ nx2 [nx+2,nx+3,nx+11]:=AM.apart (by simp) (by simp;omega)
 simp only[bQ,eZ] at hA
 (try simp only[go_sem,boC,v2,aXN,v11,hA,boC]);repeat' first|apply bn1<;>(simp only[go_sem,boC,v2,aXN,v11,hA,boC])|fail
 refine aM.tW _ _ noF (fun t=>.inl rfl) (KO (i:=nx+11) (o':=⟨5,1,[[.osl 1 boW 0 s.words.length c0,.osl 1 b1 0 s.holds.length c1,.osl 4 nx 0 0 0,.osl 3 (nx+1) 0 0 0,.osl 5 b2 0 s.told.length c2]]⟩) aA.bH (aP (aH (.osl _ _ _ _ _ (by omega)) (aH (.osl _ _ _ _ _ (by omega)) (aH (.VS ..) (aH (.VS ..) (aH (.osl _ _ _ _ _ (by omega)) eP))))))) ?_
 refine aM.TF fun G bqK=> ?_
 have d11:G (nx+11)=some ⟨5,1,[[.osl 1 boW 0 s.words.length c0,.osl 1 b1 0 s.holds.length c1,.osl 4 nx 0 0 0,.osl 3 (nx+1) 0 0 0,.osl 5 b2 0 s.told.length c2]]⟩:=by rw[bqK];exact aA.bH
 have df: ∀id,id≠nx+11→G id=V id:=fun id hid=>by rw[bqK,aA.aC hid,aA.aC hid]
 clear bqK
 refine aM.gP (β:=Nat×(Nat→Nat)×Nat) (fun u=>en [(4,boP u.1),(3,.one (.c (.ptr 5 (nx+11) 0 0))),(2,.one (.c (.ptr 5 (nx+3) 0 0))),(1,.one (.c (.ptr 5 (nx+2) 0 0)))])
  (fun u H1 nx1=>u.1≤3∧(u.2.1 0=boW∧u.2.1 1=b1∧u.2.1 3=nx+1∧u.2.1 4=b2)∧Part (fun j=>j<5∨(5≤j∧j<5+u.1)∨(8≤j∧j<8+u.1)) nx nx1 u.2.1∧(u.2.1 2=nx∨nx2≤u.2.1 2)∧(∀j,(5≤j∧j<5+u.1)∨(8≤j∧j<8+u.1)→nx2≤u.2.1 j)∧H1 (nx+11)=some ⟨5,1,[[.osl 1 boW 0 s.words.length c0,.osl 1 b1 0 s.holds.length c1,.osl 4 (u.2.1 2) 0 u.1 u.2.2,.osl 3 (nx+1) 0 0 0,.osl 5 b2 0 s.told.length c2]]⟩∧(∃m rows,H1 (u.2.1 2)=some ⟨4,m,rows⟩∧bkN u.1 H1 u.2.1 s rows∧u.1≤u.2.2∧u.2.2≤m)∧ ∀id,id<nx2→id≠nx→id≠nx+11→H1 id=V id)
  (fun u=>3-u.1) (0,biB nx boW b1 b2,0) ⟨noF,_,by repeat' first|exact bo2|refine xqI rfl rfl ?_|refine xqP (by omega) rfl rfl ?_|fail,aK,by dsimp only;omega,⟨rfl,rfl,rfl,rfl⟩,(bj0 (n:=nx2+1) (by omega) h2 (by omega) (by omega)).mono (by omega),.inl rfl,fun j hj=>by dsimp only at hj;omega,d11,⟨0,[],(df nx (by omega)).trans v0,⟨rfl,fun j hj=>by dsimp only at hj;omega⟩,m5 _,m5 _⟩,fun id _ _ hid=>df id hid⟩ ?_
 rintro⟨k,nm,cap0⟩ H1 nx1 hnx ⟨hk,⟨n0,bp0,bqP,az7⟩,boS,hn2,hnj,g11,⟨m,rows,gp,⟨hR1,hR2⟩,hc1,hc2⟩,hfr⟩ bpQ hKL
 dsimp only at hk n0 bp0 bqP az7 boS hn2 hnj g11 gp hR1 hR2 hc1 hc2
 have g2:H1 (nx+2)=some ⟨5,1,[eI s]⟩:=(hfr _ (by omega) (by omega) (by omega)).trans v2
 obtain⟨ip,hip⟩: ∃ip,ip=nm 2:=⟨_,rfl⟩
 have hip1:=boS.rng 2 (.inl (by omega))
 rw[←hip] at g11 gp hn2 hip1
 have hA1:bQ nx1 [nx+2,nx+3,nx+11,ip]:=AM.apart (by simp;omega) (by simp;omega)
 simp only[bQ,eZ] at hA1
 have hRt:List.take k rows=rows:=boL (by omega)
 by_cases hlt:k<3
 ·obtain⟨p,hpd⟩: ∃p,p=aF s k:=⟨_,rfl⟩
  have hpd':s.bM.getD k default=p:=hpd.symm;obtain⟨hq,ho⟩:=hs.port k hlt;rw[←hpd] at hq ho;refine aM.BW fun hnm1=> ?_;have hmk1: ∀k l,msk (nx1+k) l H1=H1:=fun k l=>BV hnm1 (by omega);repeat' first|apply bn1<;>(simp only[go_sem,boC,hmk1,umS (G:=H1),umD (G:=H1),umB,msk,List.map,t3,bq7,or_false,hpd',hRt,hR1,g2,g11,gp,hA1,hpl];try simp (disch:=omega) only[Iw])|apply bn2 (by omega)| (with_reducible first|refine fun(cap:Nat) (hcap:_≤cap)=> ?_|refine fun(hcp:_≤cap)=> ?_)|refine⟨by omega,?_⟩|fail
  rename_i cq hcq hcq0 co hco hco0;refine af0 (K:=bpQ) fun W aYL=> ?_;have w28:W (nx1+28)=some ⟨4,cap,rows++[[cI p.next,.osl 1 (nx1+19) 0 p.queue.length cq,.osl 3 (nx1+23) 0 p.out.length co,cI p.last]]⟩:=by rw[aYL,aA.aC (by omega)];exact aA.bH
  have w19:W (nx1+19)=some ⟨1,cq,p.queue.map aJ⟩:=by rw[aYL];simp (disch:=omega) only[aA.aC,aA.bH]
  have w23:W (nx1+23)=some ⟨3,co,p.out.map eCJ⟩:=by rw[aYL];simp (disch:=omega) only[aA.aC,aA.bH]
  have w11:W (nx+11)=some ⟨5,1,[[.osl 1 boW 0 s.words.length c0,.osl 1 b1 0 s.holds.length c1,.osl 4 (nx1+28) 0 (k+1) cap,.osl 3 (nx+1) 0 0 0,.osl 5 b2 0 s.told.length c2]]⟩:=by rw[aYL];exact aA.bH
  have wf: ∀id,id<nx1→id≠ip→id≠nx+11→W id=H1 id:=fun id d1 d2 d3=>by rw[aYL];simp (disch:=omega) only[aA.aC,aA.jG]
  clear aYL;obtain⟨nm',hnm'⟩: ∃nm',nm'=put (put (put nm (5+k) (nx1+19)) (8+k) (nx1+23)) 2 (nx1+28):=⟨_,rfl⟩
  have p2:nm' 2=nx1+28:=by rw[hnm',t8]
  have p5:nm' (5+k)=nx1+19:=by rw[hnm',jE (by omega),jE (by omega),t8]
  have bk9:nm' (8+k)=nx1+23:=by rw[hnm',jE (by omega),t8]
  have pn: ∀a,a≠2→a≠5+k→a≠8+k→nm' a=nm a:=fun a h1 h2 h3=>by rw[hnm',jE h1,jE h3,jE h2]
  have hP':Part (fun j=>j<5∨(5≤j∧j<5+(k+1))∨(8≤j∧j<8+(k+1))) nx (nx1+29) nm':=by rw[hnm'];exact((boS.put (B:=fun j=>j<5∨(5≤j∧j<5+(k+1))∨(8≤j∧j<8+k)) (hi':=nx1+23) (by omega) (by omega) (by omega) (fun j hj=>by first|omega| (dsimp only at*;omega))).put (B:=fun j=>j<5∨(5≤j∧j<5+(k+1))∨(8≤j∧j<8+(k+1))) (hi':=nx1+28) (by omega) (by omega) (by omega) (fun j hj=>by first|omega| (dsimp only at*;omega))).put (by omega) (by omega) (by omega) (fun j hj=>by first|omega| (dsimp only at*;omega))
  clear hnm';refine hKL _ _ _ (k+1,nm',cap) noF _ (by omega) (by dsimp only;omega) (by repeat' first|exact bo2|refine xqI rfl rfl ?_|refine xqP (by omega) rfl rfl ?_|fail) aK ⟨by dsimp only;omega,⟨(pn 0 (by omega) (by omega) (by omega)).trans n0,(pn 1 (by omega) (by omega) (by omega)).trans bp0,(pn 3 (by omega) (by omega) (by omega)).trans bqP,(pn 4 (by omega) (by omega) (by omega)).trans az7⟩,hP'.mono (by omega),.inr (by dsimp only;omega),fun j hj=> ?_,?_,⟨cap,rows++[[cI p.next,.osl 1 (nx1+19) 0 p.queue.length cq,.osl 3 (nx1+23) 0 p.out.length co,cI p.last]],?_,⟨?_,fun j hj=> ?_⟩,by dsimp only;omega,m5 _⟩,fun id d1 d2 d3=> ?_⟩
  ·dsimp only at hj ⊢;by_cases e1:j=5+k;·rw[e1,p5];omega
   ·by_cases e2:j=8+k;·rw[e2,bk9];omega
    ·rw[pn j (by omega) e1 e2];exact hnj j (by omega)
  ·dsimp only;rw[p2];exact w11
  ·dsimp only;rw[p2];exact w28
  ·rw[t2,hR1];rfl
  ·dsimp only at hj ⊢;by_cases hjk:j=k
   ·subst hjk;refine⟨_,by rw[brX (by omega),hR1,brJ];rfl,⟨0,cq,co,?_,?_,?_⟩⟩;·rw[p5,bk9,←hpd];rfl
    ·rw[p5,←hpd];exact⟨cq,p.queue.map aJ,w19,rfl,by simp,by simp,hcq,by omega⟩
    ·rw[bk9,←hpd];exact⟨co,p.out.map eCJ,w23,rfl,by simp,by simp,hco,by omega⟩
   ·obtain⟨r,h1,h2⟩:=hR2 j (by omega);have aAA:=boS.rng (5+j) (.inr (.inl ⟨by omega,by omega⟩));have aAB:=boS.rng (8+j) (.inr (.inr ⟨by omega,by omega⟩));have q5:=hnj (5+j) (.inl (by omega));have aEM:=hnj (8+j) (.inr (by omega));refine⟨r,by rw[brO (by omega)];exact h1,?_⟩;rw[pn (5+j) (by omega) (by omega) (by omega),pn (8+j) (by omega) (by omega) (by omega)];exact h2.frame (wf _ (by omega) (fun he=>by have:=boS.inj (5+j) 2 (.inr (.inl ⟨by omega,by omega⟩)) (.inl (by omega)) (he.trans hip);omega) (by omega)) (wf _ (by omega) (fun he=>by have:=boS.inj (8+j) 2 (.inr (.inr ⟨by omega,by omega⟩)) (.inl (by omega)) (he.trans hip);omega) (by omega))
  ·rw[wf id (by omega) (by omega) d3];exact hfr id d1 d2 d3
 ·repeat' first|apply bn1<;>(simp only[go_sem,g2])|apply bn3 (by omega)|fail
  have hk3:k=3:=by omega
  subst hk3;have g1:H1 (nx+1)=some ⟨3,0,[]⟩:=(hfr _ (by omega) (by omega) (by omega)).trans v1;clear hA1 hRt
  refine aM.gP (β:=Nat×(Nat→Nat)×Nat) (fun u=>en [(6,boP u.1),(3,.one (.c (.ptr 5 (nx+11) 0 0))),(2,.one (.c (.ptr 5 (nx+3) 0 0))),(1,.one (.c (.ptr 5 (nx+2) 0 0)))])
   (fun u H2 n2=>u.1≤4∧(∀j,j<11→j≠3→u.2.1 j=nm j)∧Part (fun j=>j<11∨(11≤j∧j<11+u.1)∨(15≤j∧j<15+u.1)) nx n2 u.2.1∧(u.2.1 3=nx+1∨nx1≤u.2.1 3)∧(∀j,(11≤j∧j<11+u.1)∨(15≤j∧j<15+u.1)→nx1≤u.2.1 j)∧H2 (nx+11)=some ⟨5,1,[[.osl 1 boW 0 s.words.length c0,.osl 1 b1 0 s.holds.length c1,.osl 4 ip 0 3 cap0,.osl 3 (u.2.1 3) 0 u.1 u.2.2,.osl 5 b2 0 s.told.length c2]]⟩∧(∃m rows,H2 (u.2.1 3)=some ⟨3,m,rows⟩∧bkL u.1 H2 u.2.1 s rows∧u.1≤u.2.2∧u.2.2≤m)∧ ∀id,id<nx1→id≠nx+1→id≠nx+11→H2 id=H1 id)
   (fun u=>4-u.1) (0,nm,0) ⟨noF,_,by repeat' first|exact bo2|refine xqI rfl rfl ?_|refine xqP (by omega) rfl rfl ?_|fail,aK,by dsimp only;omega,fun _ _ _=>rfl,⟨fun j k hj hk he=>boS.inj j k (by first|omega| (dsimp only at*;omega)) (by first|omega| (dsimp only at*;omega)) he,fun j hj=>by have:=boS.rng j (by first|omega| (dsimp only at*;omega));first|omega| (dsimp only at*;omega)⟩,.inl bqP,fun j hj=>by dsimp only at hj;omega,by dsimp only;rw[bqP];exact g11,⟨0,[],by dsimp only;rw[bqP];exact g1,⟨rfl,fun j hj=>by dsimp only at hj;omega⟩,m5 _,m5 _⟩,fun _ _ _ _=>rfl⟩ ?_
  rintro⟨k,nm2,cap1⟩ H2 nx3 hnx3 ⟨hk,hn11,hP2,hn23,hnj2,b11,⟨mv,rv,bv,⟨hV1,hV2⟩,hd1,hd2⟩,hfr2⟩ bqG hKM;dsimp only at hk hn11 hP2 hn23 hnj2 b11 bv hV1 hV2 hd1 hd2;have e2:H2 (nx+2)=some ⟨5,1,[eI s]⟩:=(hfr2 _ (by omega) (by omega) (by omega)).trans g2;obtain⟨iv,hiv⟩: ∃iv,iv=nm2 3:=⟨_,rfl⟩
  have hiv1:=hP2.rng 3 (.inl (by omega));rw[←hiv] at b11 bv hn23 hiv1;have hA2:bQ nx3 [nx+2,nx+3,nx+11,iv]:=AM.apart (by simp;omega) (by simp;omega);simp only[bQ,eZ] at hA2;have hRv:List.take k rv=rv:=boL (by omega);by_cases hlt:k<4
  ·obtain⟨v,hvd⟩: ∃v,v=aL s k:=⟨_,rfl⟩
   have hvd':s.dD.getD k default=v:=hvd.symm;obtain⟨hq,ho,ho2⟩:=hs.slv k hlt;rw[←hvd] at hq ho ho2;refine aM.BW fun hnm1=> ?_;have hmk1: ∀k l,msk (nx3+k) l H2=H2:=fun k l=>BV hnm1 (by omega);repeat' first| (first|apply bn1|refine aNQ (l:=v.done) ho ho2 (fun aZJ nx5 boZ c5 h6 h7 ho5 hf5=> ?_))<;>(simp only[go_sem,boC,hmk1,umS (G:=H2),umD (G:=H2),umB,msk,List.map,t3,bq7,or_false,hvd',hRv,hV1,e2,b11,bv,hA2,hsl])|apply bn2 (by omega)| (with_reducible first|refine fun(cap:Nat) (hcap:_≤cap)=> ?_|refine fun(hcp:_≤cap)=> ?_)|refine⟨by omega,?_⟩|fail
   obtain⟨cp,rfl⟩: ∃cp,cp=cap:=⟨_,rfl⟩
   have hcpl:=hcap;have f10:aZJ (nx3+10)=some ⟨3,1,[gF v]⟩:=(by rw[hf5 _ (by omega)];simp (disch:=omega) only[aA.aC,aA.bH,aA.jG]);have f17:aZJ (nx3+17)=some ⟨3,cp,v.pipe.map eCJ⟩:=(by rw[hf5 _ (by omega)];simp (disch:=omega) only[aA.aC,aA.bH,aA.jG]);have ff: ∀id,id<nx3→aZJ id=H2 id:=fun id d1=>by rw[hf5 _ (by omega)];simp (disch:=omega) only[aA.aC,aA.bH,aA.jG]
   have f11:=(ff (nx+11) (by omega)).trans b11;have fiv:=(ff iv (by omega)).trans bv;clear hf5;have hA5:bQ nx5 [nx+2,nx+3,nx+11,iv,nx3+10,nx3+17,nx3+24,boZ]:=AM.apart (by simp;omega) (by simp;omega);simp only[bQ,eZ] at hA5;simp only[f10,f11];refine⟨⟨fun _=>rfl,fun he=>he.elim,fun _=>rfl⟩,?_⟩;(try simp only[go_sem,boC,f10,f11,fiv,hRv,hV1,hA5,hA2,boC]);repeat' first|apply bn1<;>(simp only[go_sem,boC,f10,f11,fiv,hRv,hV1,hA5,hA2,boC];try simp (disch:=omega) only[Iw])| (with_reducible first|refine fun(cap:Nat) (hcap:_≤cap)=> ?_|refine fun(hcp:_≤cap)=> ?_)|refine⟨by omega,?_⟩|fail
   refine af0 (K:=bqG) fun W aYL=> ?_;have w25:W (nx3+25)=some ⟨3,cap,rv++[[.osl 3 (nx3+17) 0 v.pipe.length cp,.osl 5 boZ 0 v.done.length c5,cI v.last]]⟩:=(by rw[aYL,aA.aC (by omega)];exact aA.bH);have w17:W (nx3+17)=some ⟨3,cp,v.pipe.map eCJ⟩:=(by rw[aYL];simp (disch:=omega) only[aA.aC,aA.bH,aA.jG];exact f17);have wo5:Own aS 5 W boZ c5 v.done:=ho5.of (by rw[aYL];simp (disch:=omega) only[aA.aC,aA.jG]);have w11:W (nx+11)=some ⟨5,1,[[.osl 1 boW 0 s.words.length c0,.osl 1 b1 0 s.holds.length c1,.osl 4 ip 0 3 cap0,.osl 3 (nx3+25) 0 (k+1) cap,.osl 5 b2 0 s.told.length c2]]⟩:=(by rw[aYL];exact aA.bH);have wf: ∀id,id<nx3→id≠iv→id≠nx+11→W id=H2 id:=fun id d1 d2 d3=>by rw[aYL];simp (disch:=omega) only[aA.aC,aA.jG];exact ff id d1
   clear aYL;obtain⟨nm',hnm'⟩: ∃nm',nm'=put (put (put nm2 (11+k) (nx3+17)) 3 (nx3+25)) (15+k) boZ:=⟨_,rfl⟩
   have p3:nm' 3=nx3+25:=(by rw[hnm',jE (by omega),t8]);have p11:nm' (11+k)=nx3+17:=(by rw[hnm',jE (by omega),jE (by omega),t8]);have p15:nm' (15+k)=boZ:=(by rw[hnm',t8]);have pn: ∀a,a≠3→a≠11+k→a≠15+k→nm' a=nm2 a:=fun a h1 h2 h3=>by rw[hnm',jE h3,jE h1,jE h2]
   have hP':Part (fun j=>j<11∨(11≤j∧j<11+(k+1))∨(15≤j∧j<15+(k+1))) nx nx5 nm':=(by rw[hnm'];exact((hP2.put (B:=fun j=>j<11∨(11≤j∧j<11+(k+1))∨(15≤j∧j<15+k)) (hi':=nx3+18) (by omega) (by omega) (by omega) (fun j hj=>by first|omega| (dsimp only at*;omega))).put (B:=fun j=>j<11∨(11≤j∧j<11+(k+1))∨(15≤j∧j<15+k)) (hi':=nx3+26) (by omega) (by omega) (by omega) (fun j hj=>by first|omega| (dsimp only at*;omega))).put (by omega) (by omega) (by omega) (fun j hj=>by first|omega| (dsimp only at*;omega)));clear hnm';refine hKM _ _ _ (k+1,nm',cap) noF _ (by omega) (by dsimp only;omega) (by repeat' first|exact bo2|refine xqI rfl rfl ?_|refine xqP (by omega) rfl rfl ?_|fail) aK ⟨by dsimp only;omega,fun j hj j3=> ?_,hP'.mono (by omega),.inr (by dsimp only;omega),fun j hj=> ?_,?_,⟨cap,rv++[[.osl 3 (nx3+17) 0 v.pipe.length cp,.osl 5 boZ 0 v.done.length c5,cI v.last]],?_,⟨?_,fun j hj=> ?_⟩,by dsimp only;omega,m5 _⟩,fun id d1 d2 d3=> ?_⟩;·dsimp only;rw[pn j j3 (by omega) (by omega)];exact hn11 j hj j3
   ·dsimp only at hj ⊢;by_cases e1:j=11+k;·rw[e1,p11];omega
    ·by_cases e2:j=15+k;·rw[e2,p15];omega
     ·rw[pn j (by omega) e1 e2];exact hnj2 j (by omega)
   ·dsimp only;rw[p3];exact w11
   ·dsimp only;rw[p3];exact w25
   ·rw[t2,hV1];rfl
   ·dsimp only at hj ⊢;by_cases hjk:j=k
    ·subst hjk;refine⟨_,by rw[brX (by omega),hV1,brJ];rfl,⟨0,cp,0,c5,?_,?_,?_⟩⟩;·rw[p11,p15,←hvd];rfl
     ·rw[p11,←hvd];exact⟨cp,v.pipe.map eCJ,w17,rfl,by simp,by simp,hcpl,by omega⟩
     ·rw[p15,←hvd];obtain⟨mo,o1,o2,bqD⟩:=wo5;exact⟨mo,v.done.map aS,o1,rfl,by simp,by simp,o2,by omega⟩
    ·obtain⟨r,h1,h2⟩:=hV2 j (by omega);have aAA:=hP2.rng (11+j) (.inr (.inl ⟨by omega,by omega⟩));have aAB:=hP2.rng (15+j) (.inr (.inr ⟨by omega,by omega⟩));have q5:=hnj2 (11+j) (.inl (by omega));have aEM:=hnj2 (15+j) (.inr (by omega));refine⟨r,by rw[brO (by omega)];exact h1,?_⟩;rw[pn (11+j) (by omega) (by omega) (by omega),pn (15+j) (by omega) (by omega) (by omega)];exact h2.frame (wf _ (by omega) (fun he=>by have:=hP2.inj (11+j) 3 (.inr (.inl ⟨by omega,by omega⟩)) (.inl (by omega)) (he.trans hiv);omega) (by omega)) (wf _ (by omega) (fun he=>by have:=hP2.inj (15+j) 3 (.inr (.inr ⟨by omega,by omega⟩)) (.inl (by omega)) (he.trans hiv);omega) (by omega))
   ·rw[wf id (by omega) (by omega) d3];exact hfr2 id d1 d2 d3
  ·have e3:H2 (nx+3)=some ⟨5,1,[[.osl 0 0 0 0 0,.osl 0 0 0 0 0,.osl 0 0 0 0 0,.osl 0 0 0 0 0,.osl 0 0 0 0 0]]⟩:=(hfr2 _ (by omega) (by omega) (by omega)).trans ((hfr _ (by omega) (by omega) (by omega)).trans aXN);repeat' first|apply bn1<;>(simp only[go_sem,e2,e3,b11,hA2])|apply bn3 (by omega)|fail
   have hk4:k=4:=(by omega);subst hk4;have az2:nm2 2=ip:=(hn11 2 (by omega) (by omega)).trans hip.symm;have az5:=(hn11 0 (by omega) (by omega)).trans n0;have az9:=(hn11 1 (by omega) (by omega)).trans bp0;have aAE:=(hn11 4 (by omega) (by omega)).trans az7;have hip3:ip≠nx+1:=fun he=>by have:=boS.inj 2 3 (.inl (by omega)) (.inl (by omega)) (by rw[←hip,bqP,he]);omega
   have wv: ∀id W o,id≠nx+3→id<nx2→id≠nx→id≠nx+1→id≠nx+11→V id=o→(H2.set (nx+3) W) id=o:=fun id W o d0 d1 d2 d3 bkS bk2=>by rw[aA.aC d0,hfr2 id (by omega) d3 bkS,hfr id d1 d2 bkS];exact bk2
   obtain⟨bk1,bqH,bqI,bk6⟩:=vo0;obtain⟨x0,x1,bpZ,aYM⟩:=vo1;obtain⟨blM,y1,aHC,aHD⟩:=vo2;refine hQ _ _ _ _ _ (.inr rfl) (LL rfl aA.bH rfl) (h _ _ nm2 _ (by omega) ⟨⟨c0,c1,cap0,cap1,c2,?_,?_,?_,?_,hc1,hd1⟩,⟨m,rows,?_,hR1,fun j hj=> ?_⟩,⟨mv,rv,?_,hV1,fun j hj=> ?_⟩⟩ ⟨fun j k hj hk he=>hP2.inj j k (by first|omega| (dsimp only;omega)) (by first|omega| (dsimp only;omega)) he,fun j hj=>by have:=hP2.rng j (by first|omega| (dsimp only;omega));omega⟩ fun id hid=> ?_);·rw[U2,az5,az9,az2,aAE,←hiv]
   ·rw[az5];exact⟨bk1,s.words.map aJ,wv _ _ _ (by omega) (by omega) (by omega) (by omega) (by omega) bqH,rfl,by simp,by simp,bqI,by omega⟩
   ·rw[az9];exact⟨x0,s.holds.map aJ,wv _ _ _ (by omega) (by omega) (by omega) (by omega) (by omega) x1,rfl,by simp,by simp,bpZ,by omega⟩
   ·rw[aAE];exact⟨blM,s.told.map aS,wv _ _ _ (by omega) (by omega) (by omega) (by omega) (by omega) y1,rfl,by simp,by simp,aHC,by omega⟩
   ·rw[az2,aA.aC (by omega),hfr2 _ (by omega) hip3 (by omega)];exact gp
   ·obtain⟨r,h1,h2⟩:=hR2 j hj;have r5:=boS.rng (5+j) (.inr (.inl ⟨by omega,by omega⟩));have aU6:=boS.rng (8+j) (.inr (.inr ⟨by omega,by omega⟩));have q5:=hnj (5+j) (.inl (by omega));have aEM:=hnj (8+j) (.inr (by omega));rw[hn11 (5+j) (by omega) (by omega),hn11 (8+j) (by omega) (by omega)];exact⟨r,h1,h2.frame (by rw[aA.aC (by omega),hfr2 _ (by omega) (by omega) (by omega)]) (by rw[aA.aC (by omega),hfr2 _ (by omega) (by omega) (by omega)])⟩
   ·rw[←hiv,aA.aC (by omega)];exact bv
   ·obtain⟨r,h1,h2⟩:=hV2 j hj;have q5:=hnj2 (11+j) (.inl (by omega));have aEM:=hnj2 (15+j) (.inr (by omega));exact⟨r,h1,h2.frame (aA.aC (by omega)) (aA.aC (by omega))⟩
   ·rw[aA.aC (by omega),hfr2 id (by omega) (by omega) (by omega),hfr id (by omega) (by omega) (by omega)];exact vf id hid
end
end Go.Proofs.YtmccpdapaccnoaaGreat
namespace Go.AM
theorem bjT {H:aA} {e:Env} {t n id m bpO n2 id2 bp3:Nat} {cs cs2:List D1} (he:e t= .one (.c (.ptr n id 0 0))) (ho:H id=some ⟨n,m,[cs]⟩) (hl:cs.length=n) (he2:e bpO= .one (.c (.ptr n2 id2 0 0))) (ho2:H id2=some ⟨n2,bp3,[cs2]⟩) (hl2:cs2.length=n2):yT H e [.cell t n true,.cell bpO n2 true]=some (.tup [.agg cs,.agg cs2]):=by subst hl;subst hl2;simp[yT,VP,he,he2,tT,ho,ho2,mkV,as1]
end Go.AM
namespace Go.Proofs.YtmccpdapaccnoaaGreat
open Go Go.AM
attribute [local irreducible] aM wv aB vd wvH
section
variable {H : aA} {nx : Nat} {K : D → aA → Nat → Prop}
theorem boO {l:List Int} {p i:Nat} (hl:kZ l) (hp50:p+1000<2^50) (hi:i<nx) (ho:H i=some (rdO l p))
 (h: ∀H' nx' p' (c:Cfg),nx≤nx'→p'≤p+1000→aQ c→jO c→H' i=some (rdO l p')→(∀id,id<nx→id≠i→H' id=H id)→K (boR (cU c)) H' nx'):aB Tryz.prog lJ [bkP 2 i,boP 6] H nx K:=by
 apply aB.tW
 refine aQN hl hp50 hi ho fun H1 nx1 p' m la aUU Ps bl cl bp cp mp boW c0 h1 h2 h3 h4 h5 h6 bqB q3 q5 q4 e1 e2 aUV aUW aIG aII aUX aIH hnd qf=> ?_
 obtain⟨ml,r3,d1,d2⟩:=q3
 have hp:=aS9 (F:=fun j=>j=bl∨j=bp∨j=boW) q4 rfl q5 (.inr (.inl rfl)) (.inr (.inr rfl)) (show Ps.length+1≤cp by omega)
 rw[show Ps.length+1=3 by omega] at hp
 have hpo: ∀pr∈aUU::Ps,mV pr:=fun pr hpr=>by obtain⟨q1,q2⟩:=h6 pr hpr;refine⟨by omega,fun hc=> ?_⟩;obtain⟨x,hx,hx2⟩:=cH.1 hc;exact of_decide_eq_true hx2 (q2 x hx)
 have hm:=h3.1
 refine⟨boR (cU ⟨m,la,aUU::Ps⟩),without _ H1,_,A8 (fO (.same _ rfl) (fO (ay5 (σ:=id) (nh:=0) rfl (bW bF r3 h4.1.symm (by omega) (.inl rfl))) (fO hp LH))),kS,h _ _ p' _ (by omega) h2 ⟨h3,by dsimp only;omega,h4.2,by dsimp only;rw[List.length_cons];omega,fun hc=> ?_⟩ ⟨by dsimp only;omega,by dsimp only;omega,by dsimp only;rw[List.length_cons];omega,fun pr hpr=>by have:=(h6 pr hpr).1;omega,fun pr hpr q hq=>bkX.L4 ((h6 pr hpr).2 q hq)⟩ (by rw[iI (by omega)];exact bqB) fun id d1 d2=>by rw[iI (by omega)];exact qf id d1 d2⟩
 obtain⟨x,hx,hx2⟩:=cH.1 hc
 exact of_decide_eq_true hx2 (hpo x hx)
theorem bi2:cJ Tryz.prog bhC Tryz.f207 bg6 bhQ:=cJ.mk Tryz.func207 (by kernel_rfl) bi0
theorem bjP {l:List Int} {p i:Nat} (hl:kZ l) (hp50:p+3000<2^50) (hi:i<nx) (ho:H i=some (rdO l p))
 (h: ∀H' nx' p' (c:Cfg) (s:CSt) nm cells,nx≤nx'→p'≤p+2500→aQ c→jO c→COk c s→abY H' nm s cells→Names (fun j=>j<nx) nx' nm→H' i=some (rdO l p')→(∀id,id<nx→id≠i→H' id=H id)→K (.tup [.agg (cU c),.agg cells]) H' nx'):aB Tryz.prog bhC [bkP 2 i] H nx K:=by
 refine bi2 rfl fun Q hQ=> ?_
 unfold bg6
 have hA:bQ nx [i]:=AM.apart (by simp) (by simp;omega)
 simp only[bQ,eZ] at hA
 repeat' first| (first|apply bn1| (refine boO (p:=p) hl (by omega) (by omega) (by rw[aA.aC (by omega),aA.aC (by omega)];exact ho) (fun H0 nx0 pb c hx0 hb2 hbok hbfit qb qf0=> ?_)))<;>(simp only[go_sem,boC,hA])|fail
 generalize bqK:aA.set _ (nx+4) _=G
 have g4:G (nx+4)=some ⟨3,1,[cU c]⟩:=by rw[←bqK];exact aA.bH
 have gi:G i=some (rdO l pb):=by rw[←bqK,aA.aC (by omega)];exact qb
 have bqC:G nx=some ⟨3,1,[[.osl 0 0 0 0 0,.osl 0 0 0 0 0,.osl 0 0 0 0 0]]⟩:=by rw[←bqK,aA.aC (by omega),qf0 _ (by omega) (by omega)];simp (disch:=omega) only[aA.aC,aA.bH]
 have g1:G (nx+1)=some ⟨5,1,[[.osl 0 0 0 0 0,.osl 0 0 0 0 0,.osl 0 0 0 0 0,.osl 0 0 0 0 0,.osl 0 0 0 0 0]]⟩:=by rw[←bqK,aA.aC (by omega),qf0 _ (by omega) (by omega)];simp (disch:=omega) only[aA.aC,aA.bH]
 have gf: ∀id,id<nx→id≠i→G id=H id:=fun id d1 d2=>by rw[←bqK,aA.aC (by omega),qf0 id (by omega) d2];simp (disch:=omega) only[aA.aC]
 clear bqK qb qf0
 refine bjL (X:=fun j=>j<nx0+3) (fun id hid=>hid) fun H1 nx1 nm cells hx1 hR1 hf1=> ?_
 have q4:H1 (nx+4)=some ⟨3,1,[cU c]⟩:=by rw[hf1 _ (by omega)];exact g4
 have qi:H1 i=some (rdO l pb):=by rw[hf1 _ (by omega)];exact gi
 have bqB:H1 nx=some ⟨3,1,[[.osl 0 0 0 0 0,.osl 0 0 0 0 0,.osl 0 0 0 0 0]]⟩:=by rw[hf1 _ (by omega)];exact bqC
 have q1:H1 (nx+1)=some ⟨5,1,[[.osl 0 0 0 0 0,.osl 0 0 0 0 0,.osl 0 0 0 0 0,.osl 0 0 0 0 0,.osl 0 0 0 0 0]]⟩:=by rw[hf1 _ (by omega)];exact g1
 have qf: ∀id,id<nx→id≠i→H1 id=H id:=fun id d1 d2=>by rw[hf1 _ (by omega)];exact gf id d1 d2
 clear g4 gi bqC g1 gf hf1
 have hcl:=hR1.len
 have hrow:cells++List.drop cells.length [D1.osl 0 0 0 0 0,.osl 0 0 0 0 0,.osl 0 0 0 0 0,.osl 0 0 0 0 0,.osl 0 0 0 0 0]=cells:=by rw[hcl];simp
 have hA1:bQ nx1 [i,nx,nx+1,nx+4,nx0+1]:=AM.apart (by simp;omega) (by simp;omega)
 simp only[bQ,eZ] at hA1
 (try simp only[go_sem,boC,q4,qi,bqB,q1,hcl,hrow,hA1,boC]);repeat' first|apply bn1<;>(simp only[go_sem,boC,q4,qi,bqB,q1,hcl,hrow,hA1,boC])|fail
 generalize bqK:H1.set (nx0+1) _=G
 have bp4:G (nx0+1)=some ⟨5,1,[cells]⟩:=by rw[←bqK];exact aA.bH
 have gf: ∀id,id≠nx0+1→G id=H1 id:=fun id d1=>by rw[←bqK,aA.aC d1]
 clear bqK
 have hRG:bgJ (fun j=>j<nx0+3) G (nx1+3) nm HY cells:=hR1.frame (by omega) fun id _ d2=>gf id (by omega)
 refine biZ (n:=40) (p:=pb) (by omega) hl (by omega) (by omega) (by rw[gf _ (by omega)];exact qi) fun H2 nx2 p2 xs hx2 hp2 hxl hxo hi2 hf2=> ?_
 have hR2:bgJ (fun j=>j<nx0+3) H2 nx2 nm HY cells:=hRG.frame hx2 fun id d1 d2=>hf2 id d1 (by omega)
 have aU6:H2 (nx0+1)=some ⟨5,1,[cells]⟩:=(hf2 _ (by omega) (by omega)).trans bp4
 have r4:=(hf2 (nx+4) (by omega) (by omega)).trans ((gf _ (by omega)).trans q4)
 have r0:=(hf2 nx (by omega) (by omega)).trans ((gf _ (by omega)).trans bqB)
 have r1:=(hf2 (nx+1) (by omega) (by omega)).trans ((gf _ (by omega)).trans q1)
 have rf: ∀id,id<nx→id≠i→H2 id=H id:=fun id d1 d2=>(hf2 id (by omega) d2).trans ((gf id (by omega)).trans (qf id d1 d2))
 clear hRG hR1 bp4 gf hf2 q4 bqB q1 qi qf
 (try simp only[go_sem,boC,boC]);repeat' first|apply bn1<;>(simp only[go_sem,boC,boC])|fail
 refine aM.gP (β:=Nat×CSt×(Nat→Nat)×List D1) (fun u=>en [(7,boP u.1),(6,dS (xs.map eIn)),(5,.one (.c (.ptr 5 (nx0+1) 0 0))),(4,.one (.c (.ptr 3 (nx+4) 0 0))),(3,.one (.c (.ptr 5 (nx+1) 0 0))),(2,.one (.c (.ptr 3 nx 0 0)))])
  (fun u H3 bqP=>u.1≤xs.length∧COk c u.2.1∧bgJ (fun j=>j<nx0+3) H3 bqP u.2.2.1 u.2.1 u.2.2.2∧H3 (nx0+1)=some ⟨5,1,[u.2.2.2]⟩∧ ∀id,id<nx0+1→H3 id=H2 id)
  (fun u=>xs.length-u.1) (0,HY,nm,cells) ⟨noF,_,by repeat' first|exact bo2|refine xqI rfl rfl ?_|refine xqP (by omega) rfl rfl ?_|fail,aK,by dsimp only;omega,anK c,hR2.frame (by omega) fun _ _ _=>rfl,aU6,fun _ _=>rfl⟩ ?_
 clear hR2 aU6 hcl hrow
 rintro⟨k,s,nm3,cells3⟩ H3 nx3 hx3 ⟨hk,hsk,hR3,blN,hf3⟩ bpQ hKL
 dsimp only at hk hsk hR3 blN
 have bp8:=(hf3 (nx+4) (by omega)).trans r4
 have s0:=(hf3 nx (by omega)).trans r0
 have s1:=(hf3 (nx+1) (by omega)).trans r1
 have hcl:=hR3.len
 have hA3:bQ nx3 [i,nx,nx+1,nx+4,nx0+1]:=AM.apart (by simp;omega) (by simp;omega)
 simp only[bQ,eZ] at hA3
 by_cases hlt:k<xs.length
 ·have hck:vZ (xs.getD k default):=by
   rw[List.getD,n1 hlt];exact hxo _ (Z5 hlt)
  obtain⟨x,hx⟩: ∃x,x=xs.getD k default:=⟨_,rfl⟩
  have hx':xs.getD k default=x:=hx.symm
  rw[hx'] at hck
  repeat' first|apply bn1<;>(simp only[go_sem,bp8,blN,hA3,hcl,hx',boC])|apply bn2 (by omega)|refine⟨by omega,?_⟩|fail
  refine bi3 hbok hsk hck (hR3.frame (by omega) fun _ _ _=>rfl) fun bqL nx4 nm4 cells4 hx4 hR4 hf4=> ?_
  have blO:=(hf4 (nx0+1) (by show nx0+1<nx0+3;omega)).trans blN
  have hcl4:=hR4.len
  have hrow:List.drop 5 cells3=[]:=by rw[←hcl];simp
  (try simp only[go_sem,boC,blO,hcl4,hrow,bq6,hA3,boC]);repeat' first|apply bn1<;>(simp only[go_sem,boC,blO,hcl4,hrow,bq6,hA3,boC];try simp (disch:=omega) only[Iw])|refine⟨by omega,?_⟩|fail
  refine hKL _ _ _ (k+1,vF c x s,nm4,cells4) noF _ (by omega) (by dsimp only;omega) (by repeat' first|exact bo2|refine xqI rfl rfl ?_|refine xqP (by omega) rfl rfl ?_|fail) aK ⟨by dsimp only;omega,PN hbok hsk,hR4.frame (by omega) fun id _ d2=>aA.aC (by omega),aA.bH,fun id hid=> ?_⟩
  rw[aA.aC (by omega),hf4 id (by show id<nx0+3;omega)];exact hf3 id hid
 ·repeat' first|apply bn1<;>(simp only[go_sem,bp8,blN,hA3,hcl,boC])|apply bn3 (by omega)|fail
  have hsz:=hsk.sz hbok;have hav:=hR3.names.av;refine aB.ao4 (args':=[boR (eI s)]) (without (fun j=>∃k,k<19∧j=nm3 k) H3) (fun j=>∃k,k<19∧j=nm3 k) rfl (fun i d0 d h1 h2=> ?_) kS ?_
  ·match i with
   |0=>simp only[List.getElem?_cons_zero,Option.some.injEq] at h1 h2;subst h1;subst h2;exact lY (A8 (hR3.rep.VI (fun k hk=>⟨k,hk,rfl⟩) hsz.pl hsz.sl))
   |i+1=>simp at h1
  refine bjQ hsz fun bqL nx4 nm4 cells4 hx4 hR4 hP4 hf4=> ?_;have wo: ∀id,id<nx0+1→bqL id=H2 id:=fun id hid=>by rw[hf4 id (by omega),iI (fun⟨k,hk,he⟩=>hav k hk (by show nm3 k<nx0+3;omega))];exact hf3 id hid
  have bpY:=(wo (nx+4) (by omega)).trans r4;have aU0:=(wo nx (by omega)).trans r0;have bpN:=(wo (nx+1) (by omega)).trans r1;have hcl4:cells4.length=5:=by obtain⟨_,_,_,_,_,rfl,_⟩:=hR4.ex;rfl
  have hrow:cells4++List.drop cells4.length [D1.osl 0 0 0 0 0,.osl 0 0 0 0 0,.osl 0 0 0 0 0,.osl 0 0 0 0 0,.osl 0 0 0 0 0]=cells4:=by rw[hcl4];simp
  (try simp only[go_sem,boC,bpY,aU0,bpN,hcl4,hrow,hA3,boC]);repeat' first|apply bn1<;>(simp only[go_sem,boC,bpY,aU0,bpN,hcl4,hrow,hA3,boC])|fail
  refine hQ _ _ _ _ _ (.inr rfl) (bjT rfl ((aA.aC (by omega)).trans aA.bH) rfl rfl aA.bH hcl4) (h _ _ p2 c s nm4 cells4 (by omega) (by omega) hbok hbfit hsk (hR4.frame fun k hk=> ?_) ⟨hP4.inj,fun k hk=>by have:=hP4.rng k hk;omega,fun k hk hj=>by have:=hP4.rng k hk;have hj:nm4 k<nx:=hj;omega⟩ ?_ fun id d1 d2=> ?_);·have:=hP4.rng k hk;rw[aA.aC (by omega),aA.aC (by omega)]
  ·rw[aA.aC (by omega),aA.aC (by omega),wo i (by omega)];exact hi2
  ·rw[aA.aC (by omega),aA.aC (by omega),wo id (by omega)];exact rf id d1 d2
end
end Go.Proofs.YtmccpdapaccnoaaGreat
namespace Go.AM
structure bh6 (s:CSt):Prop where
 pl:s.bM.length=3
 sl:s.dD.length=4
 w:s.words.length≤64
 h:s.holds.length≤6
 t:s.told.length≤36
 td: ∀j∈s.told,j.rsp.data.length<2^20
 port: ∀k,k<3→(aF s k).queue.length≤2∧(aF s k).out.length≤4
 slv: ∀k,k<4→(aL s k).pipe.length≤2∧(aL s k).done.length≤2∧ ∀j∈(aL s k).done,j.rsp.data.length<2^20
variable{s:CSt}
theorem COk.base{c:Cfg} (hb:aQ c) (h:COk c s):bh6 s:=by
 obtain⟨hwl,_,hhl,_⟩:=h.atm;have htl:s.told.length≤36:=by have:=h.st.lens hb;simp only[cX] at this;omega
 refine⟨h.pl,h.sl,by omega,by omega,htl,fun j hj=> ?_,fun k hk=> ?_,fun k hk=>⟨(h.slv k hk).pl,(h.slv k hk).dl,fun j hj=> ?_⟩⟩;·have:=(h.st.R8 j (brH _ hj)).1;unfold pA at this;omega
 ·have h1:=(h.port k hk).ql;have h2:=(h.port k hk).ol;omega
 ·have:=((h.slv k hk).rsp j hj).1;unfold pA at this;omega
structure bjY (s:CSt):Prop where
 pl:s.bM.length=3
 sl:s.dD.length=4
 w:s.words.length≤65
 h:s.holds.length≤6
 t:s.told.length≤37
 td: ∀j∈s.told,j.rsp.data.length<2^20
 port: ∀k,k<3→(aF s k).queue.length≤3∧(aF s k).out.length≤5
 slv: ∀k,k<4→(aL s k).pipe.length≤3∧(aL s k).done.length≤3∧ ∀j∈(aL s k).done,j.rsp.data.length<2^20
 qs:(aF s 0).queue.length+(aF s 1).queue.length+(aF s 2).queue.length≤7
theorem bj3 (hpl:s.bM.length=3) (hsl:s.dD.length=4):(qU s).length=(aF s 0).queue.length+(aF s 1).queue.length+(aF s 2).queue.length+((aL s 0).pipe.length+(aL s 1).pipe.length+(aL s 2).pipe.length+(aL s 3).pipe.length):=by unfold qU jJ hJ;rw[hpl,hsl];simp[brP];omega
theorem bjY.fit (h:bjY s):beL s∧bdV s:=by
 have hcf:beL s:=by
  refine⟨by have:=h.w;omega,by have:=h.h;omega,by have:=h.t;omega,fun j hj=>by have:=h.td j hj;omega,by have:=h.pl;omega,by have:=h.sl;omega,fun k=> ?_,fun k=> ?_⟩
  ·by_cases hk:k<3;·have:=h.port k hk;omega
   ·have:aF s k=default:=(by unfold aF;rw[List.getD,Z3 (by have:=h.pl;omega)];rfl);rw[this];exact⟨by decide,by decide⟩
  ·by_cases hk:k<4;·have:=h.slv k hk;exact⟨by omega,by omega,fun j hj=>by have:=this.2.2 j hj;omega⟩
   ·have:aL s k=default:=(by unfold aL;rw[List.getD,Z3 (by have:=h.sl;omega)];rfl);rw[this];exact⟨by decide,by decide,fun j hj=>by cases hj⟩
 have hd:=be0 (b:=3) (s:=s) (by have:=h.sl;omega) fun k hk=>(h.slv k (by have:=h.sl;omega)).2.1;have hw:=bj3 h.pl h.sl;have q:=h.qs;have bqS:=(h.slv 0 (by omega)).1;have p1:=(h.slv 1 (by omega)).1;have p2:=(h.slv 2 (by omega)).1;have p3:=(h.slv 3 (by omega)).1;exact⟨hcf,bfE hcf h.pl (by have:=h.sl;omega) (fun k hk=>(h.port k hk).1) (fun k hk=>⟨(h.slv k (by have:=h.sl;omega)).1,(h.slv k (by have:=h.sl;omega)).2.1⟩) (by omega) (by omega)⟩
theorem bh6.bj4 (h:bh6 s):bjY s:=by have bqS:=(h.port 0 (by omega)).1;have p1:=(h.port 1 (by omega)).1;have p2:=(h.port 2 (by omega)).1;exact⟨h.pl,h.sl,by have:=h.w;omega,h.h,by have:=h.t;omega,h.td,fun k hk=>by have:=h.port k hk;omega,fun k hk=>by have:=h.slv k hk;exact⟨by omega,by omega,this.2.2⟩,by omega⟩
theorem bh6.aEL (h:bh6 s){k:Nat} (hk:k<3){p:fR} (hq:p.queue.length≤3) (ho:p.out.length≤5):bjY {s with bM:=s.bM.set k p}:=by
 have hp: ∀j,aF {s with bM:=s.bM.set k p} j=if j=k then p else aF s j:=bL rfl (by rw[h.pl];exact hk)
 have n:=h.bj4;refine⟨by simpa using h.pl,h.sl,n.w,n.h,n.t,n.td,fun j hj=> ?_,n.slv,?_⟩
 ·rw[hp];split;·exact⟨hq,ho⟩
  ·exact n.port j hj
 ·rw[hp,hp,hp];have bqS:=(h.port 0 (by omega)).1;have p1:=(h.port 1 (by omega)).1;have p2:=(h.port 2 (by omega)).1;split;·rw[if_neg (by omega),if_neg (by omega)];omega
  ·split;·rw[if_neg (by omega)];omega
   ·split<;>omega
theorem bh6.bkF (h:bh6 s){k:Nat} (hk:k<4){v:nY} (hp:v.pipe.length≤3) (hd:v.done.length≤3) (hr: ∀j∈v.done,j.rsp.data.length<2^20):bjY {s with dD:=s.dD.set k v}:=by
 have hv: ∀j,aL {s with dD:=s.dD.set k v} j=if j=k then v else aL s j:=bO rfl (by rw[h.sl];exact hk)
 have n:=h.bj4;refine⟨h.pl,by simpa using h.sl,n.w,n.h,n.t,n.td,n.port,fun j hj=> ?_,n.qs⟩;rw[hv];split;·exact⟨hp,hd,hr⟩
 ·exact n.slv j hj
theorem bh6.bkG (h:bh6 s){t:List Job} (ht:t.length≤37) (hd: ∀j∈t,j.rsp.data.length<2^20):bjY {s with told:=t}:=by have n:=h.bj4;exact⟨n.pl,n.sl,n.w,n.h,ht,hd,n.port,n.slv,n.qs⟩
theorem bh6.bkM (h:bh6 s){w u:List Int} (hw:w.length≤65) (hu:u.length≤6):bjY {s with words:=w,holds:=u}:=by have n:=h.bj4;exact⟨n.pl,n.sl,hw,hu,n.t,n.td,n.port,n.slv,n.qs⟩
variable{nm:Nat→Nat}{cells:List D1}
theorem abY.aEL{G W:aA}{nm':Nat→Nat}{k mp:Nat}{p:fR}{r:List D1}{rows:List (List D1)} (h:abY G nm s cells) (hpl:s.bM.length=3) (hk:k<3)
 (bqK:G (nm 2)=some ⟨4,mp,rows⟩) (aYL:W (nm 2)=some ⟨4,mp,rows.set k r⟩) (boS:CX W (nm' (5+k)) (nm' (8+k)) p r) (hn: ∀a,a<19→a≠5+k→a≠8+k→nm' a=nm a)
 (hf: ∀a,a<19→a≠2→a≠5+k→a≠8+k→W (nm a)=G (nm a)):abY W nm' {s with bM:=s.bM.set k p} cells:=by
 have hp: ∀j,aF {s with bM:=s.bM.set k p} j=if j=k then p else aF s j:=bL rfl (by rw[hpl];exact hk)
 obtain⟨⟨wc,hc,pc,vc,tc,rfl,q1,q2,q3,q4,q5⟩,⟨m,R,j1,j2,j3⟩,⟨mv,rv,j4,j5,j6⟩⟩:=h
 rw[bqK] at j1
 cases j1
 have boU:=hn 0 (by omega) (by omega) (by omega)
 have e1:=hn 1 (by omega) (by omega) (by omega)
 have e2:=hn 2 (by omega) (by omega) (by omega)
 have e3:=hn 3 (by omega) (by omega) (by omega)
 have e4:=hn 4 (by omega) (by omega) (by omega)
 refine⟨⟨wc,hc,pc,vc,tc,by rw[U2,U2,boU,e1,e2,e3,e4],?_,?_,?_,q4,q5⟩,⟨mp,rows.set k r,by rw[e2];exact aYL,by rw[Y5];exact j2,fun j hj=> ?_⟩,⟨mv,rv,by rw[e3,hf 3 (by omega) (by omega) (by omega) (by omega)];exact j4,j5,fun j hj=> ?_⟩⟩
 ·rw[boU];exact q1.frame (hf 0 (by omega) (by omega) (by omega) (by omega))
 ·rw[e1];exact q2.frame (hf 1 (by omega) (by omega) (by omega) (by omega))
 ·rw[e4];exact q3.frame (hf 4 (by omega) (by omega) (by omega) (by omega))
 ·rw[hp];by_cases hjk:j=k;·subst hjk;exact⟨r,by rw[bqZ (by omega)],by rw[if_pos rfl];exact boS⟩
  ·obtain⟨r0,h1,h2⟩:=j3 j hj;rw[if_neg hjk,hn (5+j) (by omega) (by omega) (by omega),hn (8+j) (by omega) (by omega) (by omega)];exact⟨r0,by rw[bq0 (by omega)];exact h1,h2.frame (hf _ (by omega) (by omega) (by omega) (by omega)) (hf _ (by omega) (by omega) (by omega) (by omega))⟩
 ·obtain⟨r0,h1,h2⟩:=j6 j hj;rw[hn (11+j) (by omega) (by omega) (by omega),hn (15+j) (by omega) (by omega) (by omega)];exact⟨r0,h1,h2.frame (hf _ (by omega) (by omega) (by omega) (by omega)) (hf _ (by omega) (by omega) (by omega) (by omega))⟩
theorem abY.bkF{G W:aA}{nm':Nat→Nat}{k mp:Nat}{v:nY}{r:List D1}{rows:List (List D1)} (h:abY G nm s cells) (hsl:s.dD.length=4) (hk:k<4)
 (bqK:G (nm 3)=some ⟨3,mp,rows⟩) (aYL:W (nm 3)=some ⟨3,mp,rows.set k r⟩) (boS:LJ W (nm' (11+k)) (nm' (15+k)) v r) (hn: ∀a,a<19→a≠11+k→a≠15+k→nm' a=nm a)
 (hf: ∀a,a<19→a≠3→a≠11+k→a≠15+k→W (nm a)=G (nm a)):abY W nm' {s with dD:=s.dD.set k v} cells:=by
 have hp: ∀j,aL {s with dD:=s.dD.set k v} j=if j=k then v else aL s j:=bO rfl (by rw[hsl];exact hk)
 obtain⟨⟨wc,hc,pc,vc,tc,rfl,q1,q2,q3,q4,q5⟩,⟨m,R,j1,j2,j3⟩,⟨mv,rv,j4,j5,j6⟩⟩:=h
 rw[bqK] at j4
 cases j4
 have boU:=hn 0 (by omega) (by omega) (by omega)
 have e1:=hn 1 (by omega) (by omega) (by omega)
 have e2:=hn 2 (by omega) (by omega) (by omega)
 have e3:=hn 3 (by omega) (by omega) (by omega)
 have e4:=hn 4 (by omega) (by omega) (by omega)
 refine⟨⟨wc,hc,pc,vc,tc,by rw[U2,U2,boU,e1,e2,e3,e4],?_,?_,?_,q4,q5⟩,⟨m,R,by rw[e2,hf 2 (by omega) (by omega) (by omega) (by omega)];exact j1,j2,fun j hj=> ?_⟩,⟨mp,rows.set k r,by rw[e3];exact aYL,by rw[Y5];exact j5,fun j hj=> ?_⟩⟩
 ·rw[boU];exact q1.frame (hf 0 (by omega) (by omega) (by omega) (by omega))
 ·rw[e1];exact q2.frame (hf 1 (by omega) (by omega) (by omega) (by omega))
 ·rw[e4];exact q3.frame (hf 4 (by omega) (by omega) (by omega) (by omega))
 ·obtain⟨r0,h1,h2⟩:=j3 j hj;rw[hn (5+j) (by omega) (by omega) (by omega),hn (8+j) (by omega) (by omega) (by omega)];exact⟨r0,h1,h2.frame (hf _ (by omega) (by omega) (by omega) (by omega)) (hf _ (by omega) (by omega) (by omega) (by omega))⟩
 ·rw[hp];by_cases hjk:j=k;·subst hjk;exact⟨r,by rw[bqZ (by omega)],by rw[if_pos rfl];exact boS⟩
  ·obtain⟨r0,h1,h2⟩:=j6 j hj;rw[if_neg hjk,hn (11+j) (by omega) (by omega) (by omega),hn (15+j) (by omega) (by omega) (by omega)];exact⟨r0,by rw[bq0 (by omega)];exact h1,h2.frame (hf _ (by omega) (by omega) (by omega) (by omega)) (hf _ (by omega) (by omega) (by omega) (by omega))⟩
theorem abY.bkG{G W:aA}{id0 cap wc hc pc vc tc:Nat}{t:List Job} (h:abY G nm s [.osl 1 (nm 0) 0 s.words.length wc,.osl 1 (nm 1) 0 s.holds.length hc,.osl 4 (nm 2) 0 3 pc,.osl 3 (nm 3) 0 4 vc,.osl 5 (nm 4) 0 s.told.length tc])
 (aAI:tZ W 5 id0 0 t.length cap (t.map aS)) (hf: ∀a,a<19→a≠4→W (nm a)=G (nm a)):
 abY W (put nm 4 id0) {s with told:=t} [.osl 1 (nm 0) 0 s.words.length wc,.osl 1 (nm 1) 0 s.holds.length hc,.osl 4 (nm 2) 0 3 pc,.osl 3 (nm 3) 0 4 vc,.osl 5 id0 0 t.length cap]:=by
 obtain⟨⟨wc',hc',pc',vc',tc',e,q1,q2,q3,q4,q5⟩,⟨m,R,j1,j2,j3⟩,⟨mv,rv,j4,j5,j6⟩⟩:=h
 simp only[U2,List.cons.injEq,D1.osl.injEq,true_and,and_true] at e
 obtain⟨rfl,rfl,rfl,rfl,rfl⟩:=e
 refine⟨⟨wc,hc,pc,vc,cap,?_,?_,?_,?_,q4,q5⟩,⟨m,R,by rw[jE (by omega),hf 2 (by omega) (by omega)];exact j1,j2,fun j hj=> ?_⟩,⟨mv,rv,by rw[jE (by omega),hf 3 (by omega) (by omega)];exact j4,j5,fun j hj=> ?_⟩⟩
 ·rw[U2,jE (by omega),jE (by omega),jE (by omega),jE (by omega),t8]
 ·rw[jE (by omega)];exact q1.frame (hf 0 (by omega) (by omega))
 ·rw[jE (by omega)];exact q2.frame (hf 1 (by omega) (by omega))
 ·rw[t8];exact aAI
 ·obtain⟨r0,h1,h2⟩:=j3 j hj;rw[jE (by omega),jE (by omega)];exact⟨r0,h1,h2.frame (hf _ (by omega) (by omega)) (hf _ (by omega) (by omega))⟩
 ·obtain⟨r0,h1,h2⟩:=j6 j hj;rw[jE (by omega),jE (by omega)];exact⟨r0,h1,h2.frame (hf _ (by omega) (by omega)) (hf _ (by omega) (by omega))⟩
theorem abY.bkJ{H:aA}{F:Nat→Prop}{c0 c1 c2 c3 c4:D1} (h:abY H nm s [c0,c1,c2,c3,c4]) (hF: ∀k,k<19→F (nm k)) (hp:s.bM.length=3) (hs:s.dD.length=4):
 Frz H F (.isl (s.words.map aJ)) c0∧Frz H F (.isl (s.holds.map aJ)) c1∧Frz H F (.isl (s.bM.map cD)) c2∧Frz H F (.isl (s.dD.map gF)) c3∧Frz H F (.isl (s.told.map aS)) c4:=by
 have hf:=h.VI hF hp hs
 obtain⟨d0,boU,bfZ⟩:=hf.2 0 _ rfl
 obtain⟨d1,e1,bpR⟩:=hf.2 1 _ rfl
 obtain⟨d2,e2,f2⟩:=hf.2 2 _ rfl
 obtain⟨d3,e3,bpS⟩:=hf.2 3 _ rfl
 obtain⟨bkS,e4,bpT⟩:=hf.2 4 _ rfl
 cases boU;cases e1;cases e2;cases e3;cases e4
 exact⟨bfZ,bpR,f2,bpS,bpT⟩
theorem abY.bkD{H:aA}{F:Nat→Prop}{cap:Nat} (h:abY H nm s cells) (hF: ∀k,k<19→F (nm k)) (hs:s.dD.length=4) (hc:3≤cap):Frz H F (.isl ((s.dD.drop 1).map gF)) (.osl 3 (nm 3) 1 3 cap):=by obtain⟨m',rows',j4,j5,j6⟩:=h.dD;refine QM (hF _ (by omega)) j4 rfl (by simp[hs]) (by dsimp only;omega) hc fun i r' hr=> ?_;rw[p0,m4] at hr;obtain⟨p,hr,rfl⟩:=hr;rw[s5] at hr;obtain⟨e1,e2⟩:=getD_some hr;obtain⟨r,k1,k2⟩:=j6 (1+i) (by omega);rw[show aL s (1+i)=p from e1] at k2;exact⟨rfl,r,k1,k2.VI (hF _ (by omega)) (hF _ (by omega))⟩
theorem bh6.drop {s:CSt} (h:bh6 s):beL {s with dD:=s.dD.drop 1}∧bdV {s with dD:=s.dD.drop 1}:=by
 have hv: ∀k,aL {s with dD:=s.dD.drop 1} k=aL s (1+k):=fun k=>by unfold aL;simp only[List.getD,s5]
 have n:=h.bj4.fit.1;have hcf:beL {s with dD:=s.dD.drop 1}:=by refine⟨n.w,n.h,n.t,n.td,n.pl,by rw[CI];have:=n.sl;omega,n.port,fun k=> ?_⟩;rw[hv];exact n.slv (1+k)
 have hsl:(s.dD.drop 1).length=3:=by rw[CI,h.sl]
 have hq: ∀k,k<3→(aF {s with dD:=s.dD.drop 1} k).queue.length≤2:=fun k hk=>(h.port k hk).1;have hp: ∀k,k<(s.dD.drop 1).length→(aL {s with dD:=s.dD.drop 1} k).pipe.length≤2:=fun k hk=>by rw[hv];exact(h.slv (1+k) (by omega)).1
 have hd: ∀k,k<(s.dD.drop 1).length→(aL {s with dD:=s.dD.drop 1} k).done.length≤2:=fun k hk=>by rw[hv];exact(h.slv (1+k) (by omega)).2.1
 have h4:=be1 (s:={s with dD:=s.dD.drop 1}) h.pl (by dsimp only;omega) hq hp;have h5:=be0 (s:={s with dD:=s.dD.drop 1}) (by dsimp only;omega) hd;exact⟨hcf,bfE hcf h.pl (by dsimp only;omega) (fun k hk=>by have:=hq k hk;omega) (fun k hk=>⟨by have:=hp k hk;omega,by have:=hd k hk;omega⟩) (by omega) (by omega)⟩
end Go.AM
