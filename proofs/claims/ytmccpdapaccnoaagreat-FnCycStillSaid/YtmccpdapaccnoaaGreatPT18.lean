/- Texts laid together by a program: rules, contracts and the walk that leads to the law. -/
import Derived.Test.YtmccpdapaccnoaaGreatPT17
import Derived.Test.YtmccpdapaccnoaaGreatPT3
import Derived.Test.YtmccpdapaccnoaaGreatPT7
import Derived.Test.YtmccpdapaccnoaaGreatPT15
import Derived.Test.YtmccpdapaccnoaaGreatPT14
set_option linter.unusedVariables false
set_option linter.unusedSimpArgs false
set_option linter.unusedSectionVars false
set_option maxRecDepth 100000
set_option maxHeartbeats 8000000
namespace Go.AM
structure bkN (k:Nat) (H:aA) (nm:Nat→Nat) (s:CSt) (rows:List (List D1)):Prop where
 len:rows.length=k
 row: ∀j,j<k→∃r,rows[j]?=some r∧CX H (nm (5+j)) (nm (8+j)) (aF s j) r
structure bkL (k:Nat) (H:aA) (nm:Nat→Nat) (s:CSt) (rows:List (List D1)):Prop where
 len:rows.length=k
 row: ∀j,j<k→∃r,rows[j]?=some r∧LJ H (nm (11+j)) (nm (15+j)) (aL s j) r
def biB (nx boW b1 b2:Nat):Nat→Nat:=fun a=>if a=0 then boW else if a=1 then b1 else if a=2 then nx else if a=3 then nx+1 else b2
theorem bj0 {nx n boW b1 b2:Nat} (h0:nx+2≤b1) (h1:b1<boW) (h2:boW<b2) (h3:b2<n):Part (fun j=>j<5∨(5≤j∧j<5+0)∨(8≤j∧j<8+0)) nx n (biB nx boW b1 b2):=by
 have key: ∀a,a<5→(a=0∧biB nx boW b1 b2 a=boW)∨(a=1∧biB nx boW b1 b2 a=b1)∨(a=2∧biB nx boW b1 b2 a=nx)∨(a=3∧biB nx boW b1 b2 a=nx+1)∨(a=4∧biB nx boW b1 b2 a=b2):=fun a ha=>by
  unfold biB
  repeat' split
  all_goals omega
 refine⟨fun j k hj hk he=> ?_,fun k hk=> ?_⟩
 ·have h1:=key j (by omega)
  have h2:=key k (by omega)
  omega
 ·have h1:=key k (by omega)
  omega
end Go.AM
namespace Go.Proofs.YtmccpdapaccnoaaGreat
open Go Go.AM
attribute [local irreducible] aM wv aB vd wvH
section
variable {H : aA} {nx : Nat} {K : D → aA → Nat → Prop}
theorem bi7:cJ Tryz.prog bg9 Tryz.f130 bg0 bhN:=cJ.mk Tryz.func130 (by kernel_rfl) biR
theorem bjQ {s:CSt} (hs:CSz s)
 (h: ∀H' nx' nm cells,nx≤nx'→abY H' nm s cells→Part (fun k=>k<19) nx nx' nm→(∀id,id<nx→H' id=H id)→K (boR cells) H' nx'):
 aB Tryz.prog bg9 [boR (eI s)] H nx K:=by
 have hpl:=hs.pl
 have hsl:=hs.sl
 refine bi7 rfl fun Q hQ=> ?_
 unfold bg0
 refine aM.EJ 4 (aM.EJ 3 ?_)
 repeat' first| (first|apply bn1|refine aQE (w:=s.words) (u:=s.holds) hs.w hs.h (fun H1 nx1 boW b1 c0 c1 h1 h2 h3 ho0 ho1 hf1=> ?_))<;>(simp only[go_sem,boC])|fail
 generalize aU3:dT (nx+4) [7] _ H1=U
 have aUW:U (nx+2)=some ⟨5,1,[eI s]⟩:=by rw[←aU3,um1 (by omega),hf1 _ (by omega),aA.aC (by omega)];exact aA.bH
 have aIG:U (nx+3)=some ⟨5,1,[[.osl 0 0 0 0 0,.osl 0 0 0 0 0,.osl 0 0 0 0 0,.osl 0 0 0 0 0,.osl 0 0 0 0 0]]⟩:=by rw[←aU3,um1 (by omega),hf1 _ (by omega)];exact aA.bH
 have u11:U (nx+11)=some ⟨5,1,[[.osl 0 0 0 0 0,.osl 0 0 0 0 0,.osl 0 0 0 0 0,.osl 0 0 0 0 0,.osl 0 0 0 0 0]]⟩:=by rw[←aU3,show nx+11=nx+4+7 by omega,aH6];exact aA.bH
 have aXL:U nx=some ⟨4,0,[]⟩:=by rw[←aU3,um1 (by omega),hf1 _ (by omega),aA.aC (by omega),aA.aC (by omega),aA.aC (by omega)];exact aA.bH
 have aUV:U (nx+1)=some ⟨3,0,[]⟩:=by rw[←aU3,um1 (by omega),hf1 _ (by omega),aA.aC (by omega),aA.aC (by omega)];exact aA.bH
 have uo0:Own aJ 1 U boW c0 s.words:=ho0.of (by rw[←aU3,um1 (by omega)])
 have uo1:Own aJ 1 U b1 c1 s.holds:=ho1.of (by rw[←aU3,um1 (by omega)])
 have uf: ∀id,id<nx→U id=H id:=fun id hid=>by rw[←aU3,um1 (by omega),hf1 _ (by omega),aA.aC (by omega),aA.aC (by omega),aA.aC (by omega),aA.aC (by omega),mk1 (by omega)]
 clear aU3 ho0 ho1 hf1
 have m0: ∀G:aA,msk (nx+4) [7] G (nx+2)=G (nx+2):=fun G=>mk1 (by omega)
 refine⟨fun _=>by rw[m0,aUW];rfl,?_⟩
 refine aNQ (l:=s.told) hs.t.1 hs.t.2 fun H2 nx2 b2 c2 h4 h5 ho2 hf2=> ?_
 simp only[go_sem,m0]
 generalize hV:dT (nx+4) [7] U H2=V
 have v2:V (nx+2)=some ⟨5,1,[eI s]⟩:=by rw[←hV,um1 (by omega),hf2 _ (by omega),mk1 (by omega)];exact aUW
 have aXN:V (nx+3)=some ⟨5,1,[[.osl 0 0 0 0 0,.osl 0 0 0 0 0,.osl 0 0 0 0 0,.osl 0 0 0 0 0,.osl 0 0 0 0 0]]⟩:=by rw[←hV,um1 (by omega),hf2 _ (by omega),mk1 (by omega)];exact aIG
 have v11:V (nx+11)=some ⟨5,1,[[.osl 0 0 0 0 0,.osl 0 0 0 0 0,.osl 0 0 0 0 0,.osl 0 0 0 0 0,.osl 0 0 0 0 0]]⟩:=by rw[←hV,show nx+11=nx+4+7 by omega,aH6];exact u11
 have v0:V nx=some ⟨4,0,[]⟩:=by rw[←hV,um1 (by omega),hf2 _ (by omega),mk1 (by omega)];exact aXL
 have v1:V (nx+1)=some ⟨3,0,[]⟩:=by rw[←hV,um1 (by omega),hf2 _ (by omega),mk1 (by omega)];exact aUV
 have vo0:Own aJ 1 V boW c0 s.words:=uo0.of (by rw[←hV,um1 (by omega),hf2 _ (by omega),mk1 (by omega)])
 have vo1:Own aJ 1 V b1 c1 s.holds:=uo1.of (by rw[←hV,um1 (by omega),hf2 _ (by omega),mk1 (by omega)])
 have vo2:Own aS 5 V b2 c2 s.told:=ho2.of (by rw[←hV,um1 (by omega)])
 have vf: ∀id,id<nx→V id=H id:=fun id hid=>by rw[←hV,um1 (by omega),hf2 _ (by omega),mk1 (by omega)];exact uf id hid
 clear hV ho2 hf2 aXL aUV aUW aIG u11 uo0 uo1 uf
 have hA:bQ nx2 [nx+2,nx+3,nx+11]:=AM.apart (by simp) (by simp;omega)
 simp only[bQ,eZ] at hA
 (try simp only[go_sem,boC,v2,aXN,v11,hA,boC]);repeat' first|apply bn1<;>(simp only[go_sem,boC,v2,aXN,v11,hA,boC])|fail
 refine aM.tW _ _ noF (fun t=>.inl rfl) (KO (i:=nx+11) (o':=⟨5,1,[[.osl 1 boW 0 s.words.length c0,.osl 1 b1 0 s.holds.length c1,.osl 4 nx 0 0 0,.osl 3 (nx+1) 0 0 0,.osl 5 b2 0 s.told.length c2]]⟩) aA.bH (aP (aH (.osl _ _ _ _ _ (by omega)) (aH (.osl _ _ _ _ _ (by omega)) (aH (.VS ..) (aH (.VS ..) (aH (.osl _ _ _ _ _ (by omega)) eP))))))) ?_
 refine aM.TF fun G bqK=> ?_
 have d11:G (nx+11)=some ⟨5,1,[[.osl 1 boW 0 s.words.length c0,.osl 1 b1 0 s.holds.length c1,.osl 4 nx 0 0 0,.osl 3 (nx+1) 0 0 0,.osl 5 b2 0 s.told.length c2]]⟩:=by rw[bqK];exact aA.bH
 have df: ∀id,id≠nx+11→G id=V id:=fun id hid=>by rw[bqK,aA.aC hid,aA.aC hid]
 clear bqK
 refine aM.gP (β:=Nat×(Nat→Nat)×Nat) (fun u=>en [(4,boP u.1),(3,.one (.c (.ptr 5 (nx+11) 0 0))),(2,.one (.c (.ptr 5 (nx+3) 0 0))),(1,.one (.c (.ptr 5 (nx+2) 0 0)))])
  (fun u H1 nx1=>u.1≤3∧(u.2.1 0=boW∧u.2.1 1=b1∧u.2.1 3=nx+1∧u.2.1 4=b2)∧Part (fun j=>j<5∨(5≤j∧j<5+u.1)∨(8≤j∧j<8+u.1)) nx nx1 u.2.1∧(u.2.1 2=nx∨nx2≤u.2.1 2)∧(∀j,(5≤j∧j<5+u.1)∨(8≤j∧j<8+u.1)→nx2≤u.2.1 j)∧H1 (nx+11)=some ⟨5,1,[[.osl 1 boW 0 s.words.length c0,.osl 1 b1 0 s.holds.length c1,.osl 4 (u.2.1 2) 0 u.1 u.2.2,.osl 3 (nx+1) 0 0 0,.osl 5 b2 0 s.told.length c2]]⟩∧(∃m rows,H1 (u.2.1 2)=some ⟨4,m,rows⟩∧bkN u.1 H1 u.2.1 s rows∧u.1≤u.2.2∧u.2.2≤m)∧ ∀id,id<nx2→id≠nx→id≠nx+11→H1 id=V id)
  (fun u=>3-u.1) (0,biB nx boW b1 b2,0) ⟨noF,_,by repeat' first|exact bo2|refine xqI rfl rfl ?_|refine xqP (by omega) rfl rfl ?_|fail,aK,by dsimp only;omega,⟨rfl,rfl,rfl,rfl⟩,(bj0 (n:=nx2+1) (by omega) h2 (by omega) (by omega)).mono (by omega),.inl rfl,fun j hj=>by dsimp only at hj;omega,d11,⟨0,[],(df nx (by omega)).trans v0,⟨rfl,fun j hj=>by dsimp only at hj;omega⟩,m5 _,m5 _⟩,fun id _ _ hid=>df id hid⟩ ?_
 rintro⟨k,nm,cap0⟩ H1 nx1 hnx ⟨hk,⟨n0,bp0,bqP,az7⟩,boS,hn2,hnj,g11,⟨m,rows,gp,⟨hR1,hR2⟩,hc1,hc2⟩,hfr⟩ bpQ hKL
 dsimp only at hk n0 bp0 bqP az7 boS hn2 hnj g11 gp hR1 hR2 hc1 hc2
 have g2:H1 (nx+2)=some ⟨5,1,[eI s]⟩:=(hfr _ (by omega) (by omega) (by omega)).trans v2
 obtain⟨ip,hip⟩: ∃ip,ip=nm 2:=⟨_,rfl⟩
 have hip1:=boS.rng 2 (.inl (by omega))
 rw[←hip] at g11 gp hn2 hip1
 have hA1:bQ nx1 [nx+2,nx+3,nx+11,ip]:=AM.apart (by simp;omega) (by simp;omega)
 simp only[bQ,eZ] at hA1
 have hRt:List.take k rows=rows:=boL (by omega)
 by_cases hlt:k<3
 ·obtain⟨p,hpd⟩: ∃p,p=aF s k:=⟨_,rfl⟩
  have hpd':s.bM.getD k default=p:=hpd.symm
  obtain⟨hq,ho⟩:=hs.port k hlt
  rw[←hpd] at hq ho
  refine aM.BW fun hnm1=> ?_
  have hmk1: ∀k l,msk (nx1+k) l H1=H1:=fun k l=>BV hnm1 (by omega)
  repeat' first|apply bn1<;>(simp only[go_sem,boC,hmk1,umS (G:=H1),umD (G:=H1),umB,msk,List.map,t3,bq7,or_false,hpd',hRt,hR1,g2,g11,gp,hA1,hpl];try simp (disch:=omega) only[Iw])|apply bn2 (by omega)| (with_reducible first|refine fun(cap:Nat) (hcap:_≤cap)=> ?_|refine fun(hcp:_≤cap)=> ?_)|refine⟨by omega,?_⟩|fail
  rename_i cq hcq hcq0 co hco hco0
  refine af0 (K:=bpQ) fun W aYL=> ?_
  have w28:W (nx1+28)=some ⟨4,cap,rows++[[cI p.next,.osl 1 (nx1+19) 0 p.queue.length cq,.osl 3 (nx1+23) 0 p.out.length co,cI p.last]]⟩:=by rw[aYL,aA.aC (by omega)];exact aA.bH
  have w19:W (nx1+19)=some ⟨1,cq,p.queue.map aJ⟩:=by rw[aYL];simp (disch:=omega) only[aA.aC,aA.bH]
  have w23:W (nx1+23)=some ⟨3,co,p.out.map eCJ⟩:=by rw[aYL];simp (disch:=omega) only[aA.aC,aA.bH]
  have w11:W (nx+11)=some ⟨5,1,[[.osl 1 boW 0 s.words.length c0,.osl 1 b1 0 s.holds.length c1,.osl 4 (nx1+28) 0 (k+1) cap,.osl 3 (nx+1) 0 0 0,.osl 5 b2 0 s.told.length c2]]⟩:=by rw[aYL];exact aA.bH
  have wf: ∀id,id<nx1→id≠ip→id≠nx+11→W id=H1 id:=fun id d1 d2 d3=>by rw[aYL];simp (disch:=omega) only[aA.aC,aA.jG]
  clear aYL
  obtain⟨nm',hnm'⟩: ∃nm',nm'=put (put (put nm (5+k) (nx1+19)) (8+k) (nx1+23)) 2 (nx1+28):=⟨_,rfl⟩
  have p2:nm' 2=nx1+28:=by rw[hnm',t8]
  have p5:nm' (5+k)=nx1+19:=by rw[hnm',jE (by omega),jE (by omega),t8]
  have bk9:nm' (8+k)=nx1+23:=by rw[hnm',jE (by omega),t8]
  have pn: ∀a,a≠2→a≠5+k→a≠8+k→nm' a=nm a:=fun a h1 h2 h3=>by rw[hnm',jE h1,jE h3,jE h2]
  have hP':Part (fun j=>j<5∨(5≤j∧j<5+(k+1))∨(8≤j∧j<8+(k+1))) nx (nx1+29) nm':=by
   rw[hnm']
   exact((boS.put (B:=fun j=>j<5∨(5≤j∧j<5+(k+1))∨(8≤j∧j<8+k)) (hi':=nx1+23) (by omega) (by omega) (by omega) (fun j hj=>by first|omega| (dsimp only at*;omega))).put (B:=fun j=>j<5∨(5≤j∧j<5+(k+1))∨(8≤j∧j<8+(k+1))) (hi':=nx1+28) (by omega) (by omega) (by omega) (fun j hj=>by first|omega| (dsimp only at*;omega))).put (by omega) (by omega) (by omega) (fun j hj=>by first|omega| (dsimp only at*;omega))
  clear hnm'
  refine hKL _ _ _ (k+1,nm',cap) noF _ (by omega) (by dsimp only;omega) (by repeat' first|exact bo2|refine xqI rfl rfl ?_|refine xqP (by omega) rfl rfl ?_|fail) aK ⟨by dsimp only;omega,⟨(pn 0 (by omega) (by omega) (by omega)).trans n0,(pn 1 (by omega) (by omega) (by omega)).trans bp0,(pn 3 (by omega) (by omega) (by omega)).trans bqP,(pn 4 (by omega) (by omega) (by omega)).trans az7⟩,hP'.mono (by omega),.inr (by dsimp only;omega),fun j hj=> ?_,?_,⟨cap,rows++[[cI p.next,.osl 1 (nx1+19) 0 p.queue.length cq,.osl 3 (nx1+23) 0 p.out.length co,cI p.last]],?_,⟨?_,fun j hj=> ?_⟩,by dsimp only;omega,m5 _⟩,fun id d1 d2 d3=> ?_⟩
  ·dsimp only at hj ⊢
   by_cases e1:j=5+k
   ·rw[e1,p5];omega
   ·by_cases e2:j=8+k
    ·rw[e2,bk9];omega
    ·rw[pn j (by omega) e1 e2];exact hnj j (by omega)
  ·dsimp only
   rw[p2];exact w11
  ·dsimp only
   rw[p2];exact w28
  ·rw[t2,hR1];rfl
  ·dsimp only at hj ⊢
   by_cases hjk:j=k
   ·subst hjk
    refine⟨_,by rw[brX (by omega),hR1,brJ];rfl,⟨0,cq,co,?_,?_,?_⟩⟩
    ·rw[p5,bk9,←hpd];rfl
    ·rw[p5,←hpd]
     exact⟨cq,p.queue.map aJ,w19,rfl,by simp,by simp,hcq,by omega⟩
    ·rw[bk9,←hpd]
     exact⟨co,p.out.map eCJ,w23,rfl,by simp,by simp,hco,by omega⟩
   ·obtain⟨r,h1,h2⟩:=hR2 j (by omega)
    have aAA:=boS.rng (5+j) (.inr (.inl ⟨by omega,by omega⟩))
    have aAB:=boS.rng (8+j) (.inr (.inr ⟨by omega,by omega⟩))
    have q5:=hnj (5+j) (.inl (by omega))
    have aEM:=hnj (8+j) (.inr (by omega))
    refine⟨r,by rw[brO (by omega)];exact h1,?_⟩
    rw[pn (5+j) (by omega) (by omega) (by omega),pn (8+j) (by omega) (by omega) (by omega)]
    exact h2.frame (wf _ (by omega) (fun he=>by have:=boS.inj (5+j) 2 (.inr (.inl ⟨by omega,by omega⟩)) (.inl (by omega)) (he.trans hip);omega) (by omega)) (wf _ (by omega) (fun he=>by have:=boS.inj (8+j) 2 (.inr (.inr ⟨by omega,by omega⟩)) (.inl (by omega)) (he.trans hip);omega) (by omega))
  ·rw[wf id (by omega) (by omega) d3];exact hfr id d1 d2 d3
 ·repeat' first|apply bn1<;>(simp only[go_sem,g2])|apply bn3 (by omega)|fail
  have hk3:k=3:=by omega
  subst hk3
  have g1:H1 (nx+1)=some ⟨3,0,[]⟩:=(hfr _ (by omega) (by omega) (by omega)).trans v1
  clear hA1 hRt
  refine aM.gP (β:=Nat×(Nat→Nat)×Nat) (fun u=>en [(6,boP u.1),(3,.one (.c (.ptr 5 (nx+11) 0 0))),(2,.one (.c (.ptr 5 (nx+3) 0 0))),(1,.one (.c (.ptr 5 (nx+2) 0 0)))])
   (fun u H2 n2=>u.1≤4∧(∀j,j<11→j≠3→u.2.1 j=nm j)∧Part (fun j=>j<11∨(11≤j∧j<11+u.1)∨(15≤j∧j<15+u.1)) nx n2 u.2.1∧(u.2.1 3=nx+1∨nx1≤u.2.1 3)∧(∀j,(11≤j∧j<11+u.1)∨(15≤j∧j<15+u.1)→nx1≤u.2.1 j)∧H2 (nx+11)=some ⟨5,1,[[.osl 1 boW 0 s.words.length c0,.osl 1 b1 0 s.holds.length c1,.osl 4 ip 0 3 cap0,.osl 3 (u.2.1 3) 0 u.1 u.2.2,.osl 5 b2 0 s.told.length c2]]⟩∧(∃m rows,H2 (u.2.1 3)=some ⟨3,m,rows⟩∧bkL u.1 H2 u.2.1 s rows∧u.1≤u.2.2∧u.2.2≤m)∧ ∀id,id<nx1→id≠nx+1→id≠nx+11→H2 id=H1 id)
   (fun u=>4-u.1) (0,nm,0) ⟨noF,_,by repeat' first|exact bo2|refine xqI rfl rfl ?_|refine xqP (by omega) rfl rfl ?_|fail,aK,by dsimp only;omega,fun _ _ _=>rfl,⟨fun j k hj hk he=>boS.inj j k (by first|omega| (dsimp only at*;omega)) (by first|omega| (dsimp only at*;omega)) he,fun j hj=>by have:=boS.rng j (by first|omega| (dsimp only at*;omega));first|omega| (dsimp only at*;omega)⟩,.inl bqP,fun j hj=>by dsimp only at hj;omega,by dsimp only;rw[bqP];exact g11,⟨0,[],by dsimp only;rw[bqP];exact g1,⟨rfl,fun j hj=>by dsimp only at hj;omega⟩,m5 _,m5 _⟩,fun _ _ _ _=>rfl⟩ ?_
  rintro⟨k,nm2,cap1⟩ H2 nx3 hnx3 ⟨hk,hn11,hP2,hn23,hnj2,b11,⟨mv,rv,bv,⟨hV1,hV2⟩,hd1,hd2⟩,hfr2⟩ bqG hKM
  dsimp only at hk hn11 hP2 hn23 hnj2 b11 bv hV1 hV2 hd1 hd2
  have e2:H2 (nx+2)=some ⟨5,1,[eI s]⟩:=(hfr2 _ (by omega) (by omega) (by omega)).trans g2
  obtain⟨iv,hiv⟩: ∃iv,iv=nm2 3:=⟨_,rfl⟩
  have hiv1:=hP2.rng 3 (.inl (by omega))
  rw[←hiv] at b11 bv hn23 hiv1
  have hA2:bQ nx3 [nx+2,nx+3,nx+11,iv]:=AM.apart (by simp;omega) (by simp;omega)
  simp only[bQ,eZ] at hA2
  have hRv:List.take k rv=rv:=boL (by omega)
  by_cases hlt:k<4
  ·obtain⟨v,hvd⟩: ∃v,v=aL s k:=⟨_,rfl⟩
   have hvd':s.dD.getD k default=v:=hvd.symm
   obtain⟨hq,ho,ho2⟩:=hs.slv k hlt
   rw[←hvd] at hq ho ho2
   refine aM.BW fun hnm1=> ?_
   have hmk1: ∀k l,msk (nx3+k) l H2=H2:=fun k l=>BV hnm1 (by omega)
   repeat' first| (first|apply bn1|refine aNQ (l:=v.done) ho ho2 (fun aZJ nx5 boZ c5 h6 h7 ho5 hf5=> ?_))<;>(simp only[go_sem,boC,hmk1,umS (G:=H2),umD (G:=H2),umB,msk,List.map,t3,bq7,or_false,hvd',hRv,hV1,e2,b11,bv,hA2,hsl])|apply bn2 (by omega)| (with_reducible first|refine fun(cap:Nat) (hcap:_≤cap)=> ?_|refine fun(hcp:_≤cap)=> ?_)|refine⟨by omega,?_⟩|fail
   obtain⟨cp,rfl⟩: ∃cp,cp=cap:=⟨_,rfl⟩
   have hcpl:=hcap
   have f10:aZJ (nx3+10)=some ⟨3,1,[gF v]⟩:=by rw[hf5 _ (by omega)];simp (disch:=omega) only[aA.aC,aA.bH,aA.jG]
   have f17:aZJ (nx3+17)=some ⟨3,cp,v.pipe.map eCJ⟩:=by rw[hf5 _ (by omega)];simp (disch:=omega) only[aA.aC,aA.bH,aA.jG]
   have ff: ∀id,id<nx3→aZJ id=H2 id:=fun id d1=>by rw[hf5 _ (by omega)];simp (disch:=omega) only[aA.aC,aA.bH,aA.jG]
   have f11:=(ff (nx+11) (by omega)).trans b11
   have fiv:=(ff iv (by omega)).trans bv
   clear hf5
   have hA5:bQ nx5 [nx+2,nx+3,nx+11,iv,nx3+10,nx3+17,nx3+24,boZ]:=AM.apart (by simp;omega) (by simp;omega)
   simp only[bQ,eZ] at hA5
   simp only[f10,f11]
   refine⟨⟨fun _=>rfl,fun he=>he.elim,fun _=>rfl⟩,?_⟩
   (try simp only[go_sem,boC,f10,f11,fiv,hRv,hV1,hA5,hA2,boC]);repeat' first|apply bn1<;>(simp only[go_sem,boC,f10,f11,fiv,hRv,hV1,hA5,hA2,boC];try simp (disch:=omega) only[Iw])| (with_reducible first|refine fun(cap:Nat) (hcap:_≤cap)=> ?_|refine fun(hcp:_≤cap)=> ?_)|refine⟨by omega,?_⟩|fail
   refine af0 (K:=bqG) fun W aYL=> ?_
   have w25:W (nx3+25)=some ⟨3,cap,rv++[[.osl 3 (nx3+17) 0 v.pipe.length cp,.osl 5 boZ 0 v.done.length c5,cI v.last]]⟩:=by rw[aYL,aA.aC (by omega)];exact aA.bH
   have w17:W (nx3+17)=some ⟨3,cp,v.pipe.map eCJ⟩:=by rw[aYL];simp (disch:=omega) only[aA.aC,aA.bH,aA.jG];exact f17
   have wo5:Own aS 5 W boZ c5 v.done:=ho5.of (by rw[aYL];simp (disch:=omega) only[aA.aC,aA.jG])
   have w11:W (nx+11)=some ⟨5,1,[[.osl 1 boW 0 s.words.length c0,.osl 1 b1 0 s.holds.length c1,.osl 4 ip 0 3 cap0,.osl 3 (nx3+25) 0 (k+1) cap,.osl 5 b2 0 s.told.length c2]]⟩:=by rw[aYL];exact aA.bH
   have wf: ∀id,id<nx3→id≠iv→id≠nx+11→W id=H2 id:=fun id d1 d2 d3=>by rw[aYL];simp (disch:=omega) only[aA.aC,aA.jG];exact ff id d1
   clear aYL
   obtain⟨nm',hnm'⟩: ∃nm',nm'=put (put (put nm2 (11+k) (nx3+17)) 3 (nx3+25)) (15+k) boZ:=⟨_,rfl⟩
   have p3:nm' 3=nx3+25:=by rw[hnm',jE (by omega),t8]
   have p11:nm' (11+k)=nx3+17:=by rw[hnm',jE (by omega),jE (by omega),t8]
   have p15:nm' (15+k)=boZ:=by rw[hnm',t8]
   have pn: ∀a,a≠3→a≠11+k→a≠15+k→nm' a=nm2 a:=fun a h1 h2 h3=>by rw[hnm',jE h3,jE h1,jE h2]
   have hP':Part (fun j=>j<11∨(11≤j∧j<11+(k+1))∨(15≤j∧j<15+(k+1))) nx nx5 nm':=by
    rw[hnm']
    exact((hP2.put (B:=fun j=>j<11∨(11≤j∧j<11+(k+1))∨(15≤j∧j<15+k)) (hi':=nx3+18) (by omega) (by omega) (by omega) (fun j hj=>by first|omega| (dsimp only at*;omega))).put (B:=fun j=>j<11∨(11≤j∧j<11+(k+1))∨(15≤j∧j<15+k)) (hi':=nx3+26) (by omega) (by omega) (by omega) (fun j hj=>by first|omega| (dsimp only at*;omega))).put (by omega) (by omega) (by omega) (fun j hj=>by first|omega| (dsimp only at*;omega))
   clear hnm'
   refine hKM _ _ _ (k+1,nm',cap) noF _ (by omega) (by dsimp only;omega) (by repeat' first|exact bo2|refine xqI rfl rfl ?_|refine xqP (by omega) rfl rfl ?_|fail) aK ⟨by dsimp only;omega,fun j hj j3=> ?_,hP'.mono (by omega),.inr (by dsimp only;omega),fun j hj=> ?_,?_,⟨cap,rv++[[.osl 3 (nx3+17) 0 v.pipe.length cp,.osl 5 boZ 0 v.done.length c5,cI v.last]],?_,⟨?_,fun j hj=> ?_⟩,by dsimp only;omega,m5 _⟩,fun id d1 d2 d3=> ?_⟩
   ·dsimp only
    rw[pn j j3 (by omega) (by omega)];exact hn11 j hj j3
   ·dsimp only at hj ⊢
    by_cases e1:j=11+k
    ·rw[e1,p11];omega
    ·by_cases e2:j=15+k
     ·rw[e2,p15];omega
     ·rw[pn j (by omega) e1 e2];exact hnj2 j (by omega)
   ·dsimp only
    rw[p3];exact w11
   ·dsimp only
    rw[p3];exact w25
   ·rw[t2,hV1];rfl
   ·dsimp only at hj ⊢
    by_cases hjk:j=k
    ·subst hjk
     refine⟨_,by rw[brX (by omega),hV1,brJ];rfl,⟨0,cp,0,c5,?_,?_,?_⟩⟩
     ·rw[p11,p15,←hvd];rfl
     ·rw[p11,←hvd]
      exact⟨cp,v.pipe.map eCJ,w17,rfl,by simp,by simp,hcpl,by omega⟩
     ·rw[p15,←hvd]
      obtain⟨mo,o1,o2,bqD⟩:=wo5
      exact⟨mo,v.done.map aS,o1,rfl,by simp,by simp,o2,by omega⟩
    ·obtain⟨r,h1,h2⟩:=hV2 j (by omega)
     have aAA:=hP2.rng (11+j) (.inr (.inl ⟨by omega,by omega⟩))
     have aAB:=hP2.rng (15+j) (.inr (.inr ⟨by omega,by omega⟩))
     have q5:=hnj2 (11+j) (.inl (by omega))
     have aEM:=hnj2 (15+j) (.inr (by omega))
     refine⟨r,by rw[brO (by omega)];exact h1,?_⟩
     rw[pn (11+j) (by omega) (by omega) (by omega),pn (15+j) (by omega) (by omega) (by omega)]
     exact h2.frame (wf _ (by omega) (fun he=>by have:=hP2.inj (11+j) 3 (.inr (.inl ⟨by omega,by omega⟩)) (.inl (by omega)) (he.trans hiv);omega) (by omega)) (wf _ (by omega) (fun he=>by have:=hP2.inj (15+j) 3 (.inr (.inr ⟨by omega,by omega⟩)) (.inl (by omega)) (he.trans hiv);omega) (by omega))
   ·rw[wf id (by omega) (by omega) d3];exact hfr2 id d1 d2 d3
  ·have e3:H2 (nx+3)=some ⟨5,1,[[.osl 0 0 0 0 0,.osl 0 0 0 0 0,.osl 0 0 0 0 0,.osl 0 0 0 0 0,.osl 0 0 0 0 0]]⟩:=(hfr2 _ (by omega) (by omega) (by omega)).trans ((hfr _ (by omega) (by omega) (by omega)).trans aXN)
   repeat' first|apply bn1<;>(simp only[go_sem,e2,e3,b11,hA2])|apply bn3 (by omega)|fail
   have hk4:k=4:=by omega
   subst hk4
   have az2:nm2 2=ip:=(hn11 2 (by omega) (by omega)).trans hip.symm
   have az5:=(hn11 0 (by omega) (by omega)).trans n0
   have az9:=(hn11 1 (by omega) (by omega)).trans bp0
   have aAE:=(hn11 4 (by omega) (by omega)).trans az7
   have hip3:ip≠nx+1:=fun he=>by have:=boS.inj 2 3 (.inl (by omega)) (.inl (by omega)) (by rw[←hip,bqP,he]);omega
   have wv: ∀id W o,id≠nx+3→id<nx2→id≠nx→id≠nx+1→id≠nx+11→V id=o→(H2.set (nx+3) W) id=o:=fun id W o d0 d1 d2 d3 bkS bk2=>by rw[aA.aC d0,hfr2 id (by omega) d3 bkS,hfr id d1 d2 bkS];exact bk2
   obtain⟨bk1,bqH,bqI,bk6⟩:=vo0
   obtain⟨x0,x1,bpZ,aYM⟩:=vo1
   obtain⟨blM,y1,aHC,aHD⟩:=vo2
   refine hQ _ _ _ _ _ (.inr rfl) (LL rfl aA.bH rfl) (h _ _ nm2 _ (by omega) ⟨⟨c0,c1,cap0,cap1,c2,?_,?_,?_,?_,hc1,hd1⟩,⟨m,rows,?_,hR1,fun j hj=> ?_⟩,⟨mv,rv,?_,hV1,fun j hj=> ?_⟩⟩ ⟨fun j k hj hk he=>hP2.inj j k (by first|omega| (dsimp only;omega)) (by first|omega| (dsimp only;omega)) he,fun j hj=>by have:=hP2.rng j (by first|omega| (dsimp only;omega));omega⟩ fun id hid=> ?_)
   ·rw[U2,az5,az9,az2,aAE,←hiv]
   ·rw[az5]
    exact⟨bk1,s.words.map aJ,wv _ _ _ (by omega) (by omega) (by omega) (by omega) (by omega) bqH,rfl,by simp,by simp,bqI,by omega⟩
   ·rw[az9]
    exact⟨x0,s.holds.map aJ,wv _ _ _ (by omega) (by omega) (by omega) (by omega) (by omega) x1,rfl,by simp,by simp,bpZ,by omega⟩
   ·rw[aAE]
    exact⟨blM,s.told.map aS,wv _ _ _ (by omega) (by omega) (by omega) (by omega) (by omega) y1,rfl,by simp,by simp,aHC,by omega⟩
   ·rw[az2,aA.aC (by omega),hfr2 _ (by omega) hip3 (by omega)];exact gp
   ·obtain⟨r,h1,h2⟩:=hR2 j hj
    have r5:=boS.rng (5+j) (.inr (.inl ⟨by omega,by omega⟩))
    have aU6:=boS.rng (8+j) (.inr (.inr ⟨by omega,by omega⟩))
    have q5:=hnj (5+j) (.inl (by omega))
    have aEM:=hnj (8+j) (.inr (by omega))
    rw[hn11 (5+j) (by omega) (by omega),hn11 (8+j) (by omega) (by omega)]
    exact⟨r,h1,h2.frame (by rw[aA.aC (by omega),hfr2 _ (by omega) (by omega) (by omega)]) (by rw[aA.aC (by omega),hfr2 _ (by omega) (by omega) (by omega)])⟩
   ·rw[←hiv,aA.aC (by omega)];exact bv
   ·obtain⟨r,h1,h2⟩:=hV2 j hj
    have q5:=hnj2 (11+j) (.inl (by omega))
    have aEM:=hnj2 (15+j) (.inr (by omega))
    exact⟨r,h1,h2.frame (aA.aC (by omega)) (aA.aC (by omega))⟩
   ·rw[aA.aC (by omega),hfr2 id (by omega) (by omega) (by omega),hfr id (by omega) (by omega) (by omega)];exact vf id hid
end
def aVO:AC:= (boG [f7 4 [OZ,OZ]] [0,1,4] (boG [f6 7 v7 [],f7 5 [OZ,OZ],g0 2 true 5 7] [0,1,4,5] (boG [RM 8 0,f6 9 aU9 [8,(ki 99999)],RF 10 0 5,g0 1 true 10 9] [0,1,4,5] (.seq (boG [dO 6 (ki 0)] [0,1,4,5,6] (.block 0 (.loop (.seq (boG [RM 11 6,RF 12 1 5,RL 13 12,f1 14 13,dI 15 .lss 11 14] [0,1,4,5,6,15] (.cond 15 .skip (.exit 0))) (.seq (.block 1 (m2 [RF 18 1 5,g8 19 18 [3] [] true,RM 20 6,rq 21 (.bC 1 5 [VZ] [(0,1,(.kv (.int .i64 (-1)))),(1,1,(ki 0)),(2,1,(ki 1)),(3,1,(ki 16)),(4,1,(ki 32))]),RM 22 0,boF 23 (.call aD [22,(ki 5)]) [3] [1] false,e0 24 1 21 23,RL 25 24,e0 26 1 19 20,g0 1 false 26 25] [0,1,4,5,6])) (m2 [RM 16 6,dI 17 .add 16 (ki 1),RM 6 17] [0,1,4,5,6])))))) (.seq (boG [RM 27 0,RM 28 1,f6 29 kE [27,28]] [0,4,5,29] (.cond 29 (boG [RM 30 0,f6 31 aD [30,(ki 3)]] [0,4,5,31] (.block 2 (boG [dI 41 .eql 31 (ki 0),RM 40 41] [0,4,5,31,40] (.cond 40 (m2 [RM 42 0,f6 43 aU9 [42,(ki 1)],RF 44 0 5,g0 1 true 44 43] [4,5]) (boG [dI 46 .eql 31 (ki 1),RM 45 46] [0,4,5,45] (.cond 45 (m2 [RF 47 1 5,RL 48 47,rq 49 (.slc 1 48 (some (ki 1)) none none),RF 50 1 5,g0 1 false 50 49] [4,5]) (m2 [RF 32 1 5,g8 33 32 [2] [] true,rq 34 (.bC 1 2 [VZ] [(0,1,(.kv (.int .i64 (-2)))),(1,1,(ki 64))]),RM 35 0,boF 36 (.call aD [35,(ki 2)]) [2] [1] false,e0 37 1 34 36,RL 38 37,e0 39 1 33 (ki 0),g0 1 false 39 38] [4,5]))))))) .skip)) (boG [f8 51 2 5,g0 2 true 4 51] [4] .ret))))))
def aVE:List aW:=[.cell 4 2 true]
theorem aWX:aO Tryz.prog Tryz.f208 (bnD aVO)=some (aVO,aVE):=by kernel_rfl
theorem aWW:aN Tryz.prog aVK Tryz.f208 aVO aVE:=
 aN.mk Tryz.func208 (by kernel_rfl) aWX
def aVP:AC:= (boG [f7 4 [VZ,VZ,OZ]] [0,1,4] (boG [RM 7 0,f6 8 aD [7,(ki 2)],RM 9 0,f6 10 aD [9,(ki 4)],dI 11 .add (ki 1) 10,rq 12 (.build [VZ,VZ,OZ] [(0,1,8),(1,1,11)]),f7 5 [VZ,VZ,OZ],g0 3 true 5 12] [0,1,4,5] (.seq (boG [RM 13 0,f6 14 aD [13,(ki 5)],RM 6 14] [0,1,4,5,6] (.block 0 (.loop (.seq (boG [RM 15 6,dI 16 .gtr 15 (ki 0)] [0,1,4,5,6,16] (.cond 16 .skip (.exit 0))) (.seq (.block 1 (m2 [RF 19 2 5,g8 20 19 [4] [] true,RM 21 0,boF 22 (.call aD [21,(ki 300)]) [] [1] false,rq 23 (.bC 1 1 [VZ] [(0,1,22)]),rq 24 (.append 1 20 23),RF 25 2 5,g0 1 false 25 24] [0,1,4,5,6])) (m2 [RM 17 6,dI 18 .sub 17 (ki 1),RM 6 18] [0,1,4,5,6])))))) (.seq (boG [RM 26 0,RM 27 1,f6 28 kE [26,27]] [0,4,5,28] (.cond 28 (boG [RM 29 0,f6 30 aD [29,(ki 4)]] [0,4,5,30] (.block 2 (boG [dI 34 .eql 30 (ki 0),RM 33 34] [0,4,5,30,33] (.cond 33 (m2 [rq 35 (.bC 1 2 [VZ] [(0,1,(.kv (.int .i64 (-1)))),(1,1,(ki 2))]),RM 36 0,f6 37 aD [36,(ki 2)],e0 38 1 35 37,RL 39 38,RF 40 0 5,g0 1 false 40 39] [4,5]) (boG [dI 42 .eql 30 (ki 1),RM 41 42] [0,4,5,30,41] (.cond 41 (m2 [rq 43 (.bC 1 2 [VZ] [(0,1,(ki 0)),(1,1,(ki 5))]),RM 44 0,f6 45 aD [44,(ki 2)],e0 46 1 43 45,RL 47 46,RF 48 1 5,g0 1 false 48 47] [4,5]) (boG [dI 50 .eql 30 (ki 2),RM 49 50] [4,5,49] (.cond 49 (m2 [rq 51 (.bC 1 1 [VZ] [(0,1,(.kv (.int .i64 (-1))))]),RF 52 2 5,g0 1 false 52 51] [4,5]) (m2 [rq 31 (.bC 1 5 [VZ] [(0,1,(ki 1)),(1,1,(ki 2)),(2,1,(ki 3)),(3,1,(ki 4)),(4,1,(ki 5))]),RF 32 2 5,g0 1 false 32 31] [4,5]))))))))) .skip)) (boG [f8 53 3 5,g0 3 true 4 53] [4] .ret)))))
def aVF:List aW:=[.cell 4 3 true]
theorem aW3:aO Tryz.prog Tryz.f209 (bnD aVP)=some (aVP,aVF):=by kernel_rfl
theorem aW2:aN Tryz.prog aVA Tryz.f209 aVP aVF:=
 aN.mk Tryz.func209 (by kernel_rfl) aW3
def at4:AC:= (boG [f7 4 [OZ,OZ,OZ]] [0,1,4] (boG [RM 6 0,f6 7 lJ [6,(ki 6)],f7 5 [OZ,OZ,OZ],g0 3 true 5 7] [0,1,4,5] (.seq (boG [RM 8 0,RM 9 1,f6 10 kE [8,9]] [0,4,5,10] (.cond 10 (boG [RM 11 0,f6 12 aD [11,(ki 5)]] [0,4,5,12] (.block 0 (boG [dI 25 .eql 12 (ki 0),RM 24 25] [0,4,5,12,24] (.cond 24 (m2 [RM 26 0,f6 27 tN [26,(ki 1)],RF 28 0 5,g0 1 false 28 27] [4,5]) (boG [dI 30 .eql 12 (ki 1),RM 29 30] [0,4,5,12,29] (.cond 29 (.region [RF 31 1 5 0,g8 32 31 [4] [] true 1,RM 33 0 2,rq 35 (.bC 1 2 [VZ] [(0,1,(.kv (.int .i64 (-1)))),(1,1,(ki 4))]) 4,RM 36 0 5,boF 34 (.call aD [33,(ki 4)]) [4] [1] false 3,boF 37 (.call aD [36,(ki 2)]) [4] [1] false 6,e0 38 1 35 37 7,RL 39 38 8,e0 40 1 32 34 9,g0 1 false 40 39 10] 11 [4,5]) (boG [dI 42 .eql 12 (ki 2),RM 41 42] [0,4,5,12,41] (.cond 41 (m2 [RF 43 1 5,RL 44 43,rq 45 (.slc 1 44 (some (ki 1)) none none),RF 46 1 5,g0 1 false 46 45] [4,5]) (boG [dI 48 .eql 12 (ki 3),RM 47 48] [0,4,5,47] (.cond 47 (m2 [RF 49 2 5,RL 50 49,rq 51 (.slc 1 50 (some (ki 1)) none none),RF 52 2 5,g0 1 false 52 51] [4,5]) (m2 [RF 13 2 5,g8 14 13 [8] [] true,RF 15 2 5,g8 16 15 [8] [] true,e0 17 1 16 (ki 0),g8 18 17 [8] [] true,RM 19 0,boF 20 (.call tS [19,(ki 1)]) [] [1,3,5] false,rq 21 (.bC 7 1 [VZ,VZ,VZ,VZ,(.v (.bool false)),OZ,OZ] [(0,7,20)]),boF 22 (.append 7 18 21) [] [1] false,e0 23 1 14 (ki 0),g0 1 false 23 22] [4,5]))))))))))) .skip)) (boG [f8 53 3 5,g0 3 true 4 53] [4] .ret))))
def aOA:List aW:=[.cell 4 3 true]
theorem aPQ:aO Tryz.prog Tryz.f210 (bnD at4)=some (at4,aOA):=by kernel_rfl
def aVN:AC:= (boG [f7 4 [OZ]] [0,1,4] (boG [f6 7 v8 [],f7 5 [OZ],g0 1 true 5 7] [0,1,4,5] (.seq (boG [RM 8 0,f6 9 aD [8,(ki 8)],RM 6 9] [0,1,4,5,6] (.block 0 (.loop (.seq (boG [RM 10 6,dI 11 .gtr 10 (ki 0)] [0,1,4,5,6,11] (.cond 11 .skip (.exit 0))) (.seq (.block 1 (.region [RF 14 0 5 0,g8 15 14 [] [] true 1,RM 16 0 2,RM 18 0 4,boF 17 (.call qM [16]) [] [1] false 3,boF 19 (.call aD [18,(ki 256)]) [] [1] false 5,dI 20 .mul 19 (ki 257) 6,e0 21 1 15 17 7,g0 1 false 21 20 8] 9 [0,1,4,5,6])) (m2 [RM 12 6,dI 13 .sub 12 (ki 1),RM 6 13] [0,1,4,5,6])))))) (.seq (boG [RM 22 0,RM 23 1,f6 24 kE [22,23]] [0,4,5,24] (.cond 24 (boG [RM 25 0,f6 26 aD [25,(ki 3)]] [0,4,5,26] (.block 2 (boG [dI 33 .eql 26 (ki 0),RM 32 33] [0,4,5,26,32] (.cond 32 (m2 [RF 34 0 5,RL 35 34,rq 36 (.slc 1 35 (some (ki 1)) none none),RF 37 0 5,g0 1 false 37 36] [4,5]) (boG [dI 39 .eql 26 (ki 1),RM 38 39] [0,4,5,38] (.cond 38 (.region [RF 40 0 5 0,g8 41 40 [4] [] true 1,RM 42 0 2,rq 44 (.bC 1 2 [VZ] [(0,1,(.kv (.int .i64 (-1)))),(1,1,(ki 65536))]) 4,RM 45 0 5,boF 43 (.call aD [42,(ki 64)]) [4] [1] false 3,boF 46 (.call aD [45,(ki 2)]) [4] [1] false 6,e0 47 1 44 46 7,RL 48 47 8,e0 49 1 41 43 9,g0 1 false 49 48 10] 11 [4,5]) (m2 [RF 27 0 5,RL 28 27,rq 29 (.bC 1 1 [VZ] [(0,1,(ki 0))]),rq 30 (.append 1 28 29),RF 31 0 5,g0 1 false 31 30] [4,5]))))))) .skip)) (boG [f8 50 1 5,g0 1 true 4 50] [4] .ret)))))
def aVH:List aW:=[.cell 4 1 true]
theorem aWP:aO Tryz.prog Tryz.f273 (bnD aVN)=some (aVN,aVH):=by kernel_rfl
theorem aWR:aN Tryz.prog aU9 Tryz.f273 aVN aVH:=
 aN.mk Tryz.func273 (by kernel_rfl) aWP
end Go.Proofs.YtmccpdapaccnoaaGreat
namespace Go.AM
theorem aS2 {H:aA} {nx t:Nat} {o o':bA} (h3:H t=some o) (h5:CvO H noF id nx o' o):CvX noF nx H (H.set t o'):=
 apO (t:=t) (o':=o') (fun j hj=>hj.elim) aA.bH h3 (fun h=>h) h5 fun j hj _=>aA.aC hj
def aTA (H:aA) (F:Nat→Prop) (σ:Nat→Nat) (nh:Nat) (R' R:List (List D1)):Prop:=R'.length=R.length∧ ∀(i:Nat) (r' r:List D1),R'[i]?=some r'→R[i]?=some r→CvL H F σ nh r' r
section
variable {H : aA} {F : Nat → Prop} {σ : Nat → Nat} {nh : Nat} {R R' S S' : List (List D1)} {r r' : List D1}
theorem aT0:aTA H F σ nh [] []:=⟨rfl,fun i r' r h=>by simp at h⟩
theorem aSR (h:CvL H F σ nh r' r) (hR:aTA H F σ nh R' R):aTA H F σ nh (r'::R') (r::R):=by
 refine⟨by simp[hR.1],fun i a b ha hb=> ?_⟩
 match i with
 |0=>simp at ha hb;subst ha;subst hb;exact h
 |i+1=>simp at ha hb;exact hR.2 i a b ha hb
theorem aTZ (hR: ∀r∈R,∀x∈r,x.dQ=true):aTA H F σ nh R R:=⟨rfl,fun i a b ha hb=>by
 rw[ha] at hb;cases hb
 exact GW fun x hx=>hR a (s3 ha) x hx⟩
theorem aTS (h:aTA H F σ nh R' R) (h2:aTA H F σ nh S' S):aTA H F σ nh (R'++S') (R++S):=by
 refine⟨by simp[h.1,h2.1],fun i a b ha hb=> ?_⟩
 rw[o5] at ha hb
 rw[h.1] at ha
 by_cases hi:i<R.length
 ·rw[if_pos hi] at ha hb;exact h.2 i a b ha hb
 ·rw[if_neg hi] at ha hb;exact h2.2 _ a b ha hb
theorem aUI {n m:Nat} (h:aTA H F σ nh R' R):CvO H F σ nh ⟨n,m,R'⟩ ⟨n,m,R⟩:=by
 refine⟨rfl,rfl,Nat.le_of_eq h.1,fun _ h0=> ?_,fun i a ha=> ?_⟩
 ·dsimp only at h0 ⊢
  have:=h.1;rw[h0] at this;exact H4.1 this.symm
 ·have hi:i<R.length:=by rw[←h.1];exact(m3.1 ha).1
  exact⟨R[i],n1 hi,h.2 i a _ ha (n1 hi)⟩
end
theorem aM.aUF {P:Program} {T:Nat} {e:Env} {H:aA} {nx:Nat} {Q:AQ} {x y:AC} {zs:List AC} {β:Type} (E:β→Env) (Φ:β→aA→Nat→Prop)
 (h1: ∀K:Env→aA→Nat→Prop,(∀e' H' nx' b F H2,nx≤nx'→CvE H' F id nx' (E b) e'→CvX F nx' H' H2→Φ b H2 nx'→K e' H' nx')→aM P T [x] e H nx (AQ.then K Q))
 (h2: ∀b H1 nx1,nx≤nx1→Φ b H1 nx1→aM P T (y::zs) (E b) H1 nx1 Q):aM P T (.seq x y::zs) e H nx Q:=by
 refine aM.seq (aM.cut (fun e' H' nx'=>nx≤nx'∧ ∃b F H2,CvE H' F id nx' (E b) e'∧CvX F nx' H' H2∧Φ b H2 nx') (h1 _ fun e' H' nx' b F H2 q1 q2 q3 q4=>⟨q1,b,F,H2,q2,q3,q4⟩) fun e' H' nx' _ ⟨q1,b,F,H2,q2,q3,q4⟩=> ?_)
 exact aM.tW (E b) H2 F (fun t=>.inr (q2 t)) q3 (h2 b H2 nx' q1 q4)
end Go.AM
namespace Go.Proofs.YtmccpdapaccnoaaGreat
open Go Go.AM
attribute [local irreducible] aM wv aB vd wvH
section
variable {H : aA} {nx : Nat} {K : D → aA → Nat → Prop}
theorem aRR:cJ Tryz.prog lJ Tryz.f270 qQ FY:=cJ.mk Tryz.func270 (by kernel_rfl) QV
theorem aQN {l:List Int} {p i:Nat} (hl:kZ l) (hp50:p+1000<2^50) (hi:i<nx) (ho:H i=some (rdO l p))
 (h: ∀H' nx' p' (m:List Rng) (la:List Int) (aUU:Prog) (Ps:List Prog) bl cl bp cp mp boW c0,p≤p'→p'≤p+1000→DH m→la.length=4∧All la 0 3→Ps.length=2→(∀pr∈aUU::Ps,pr.length≤12∧ ∀q∈pr,dH q)→H' i=some (rdO l p')→Own aJ 1 H' bl cl la→Own eB 7 H' boW c0 aUU→H' bp=some ⟨1,mp,[.osl 7 boW 0 aUU.length c0]::Ps.map jR⟩→3≤cp→cp≤mp→nx≤bl→nx≤bp→nx≤boW→bl<nx'→bp<nx'→boW<nx'→[bl,bp,boW].Nodup→(∀id,id<nx→id≠i→H' id=H id)→
  K (boR [.isl (m.map eN),.osl 1 bl 0 4 cl,.osl 1 bp 0 3 cp]) H' nx'):aB Tryz.prog lJ [bkP 2 i,boP 6] H nx K:=by
 refine aRR rfl fun Q hQ=> ?_
 unfold qQ
 have hA:bQ nx [i]:=AM.apart (by simp) (by simp;omega)
 simp only[bQ,eZ] at hA
 repeat' first| (first|apply bn1| (refine IV (p:=p) hl (by omega) (by omega) (by rw[aA.aC (by omega)];exact ho) (fun pm m hm1 hm2 hmok=> ?_)))<;>(simp only[go_sem,boC,hA])|fail
 apply aM.EJ 1
 refine aM.aTJ fun bqO hG0=> ?_
 have bqB:bqO i=some (rdO l pm):=by rw[hG0];exact(by simp only[aA.set,aA.del,t1,Nat.reduceAdd,bqU,Nat.reduceEqDiff,bqT,bqV,if_true,if_false,hA];done)
 have q1:bqO nx=some ⟨3,1,[[.osl 0 0 0 0 0,.osl 0 0 0 0 0,.osl 0 0 0 0 0]]⟩:=by rw[hG0];exact(by simp only[aA.set,aA.del,t1,Nat.reduceAdd,bqU,Nat.reduceEqDiff,bqT,bqV,if_true,if_false,hA];done)
 have q2:bqO (nx+4)=some ⟨3,1,[[.isl (m.map eN),.osl 0 0 0 0 0,.osl 0 0 0 0 0]]⟩:=by rw[hG0];exact(by simp only[aA.set,aA.del,t1,Nat.reduceAdd,bqU,Nat.reduceEqDiff,bqT,bqV,if_true,if_false,hA];done)
 have q3:bqO (nx+7)=some ⟨1,0,[]⟩:=by rw[hG0];exact(by simp only[aA.set,aA.del,t1,Nat.reduceAdd,bqU,Nat.reduceEqDiff,bqT,bqV,if_true,if_false,hA];done)
 have qf: ∀id,id<nx→id≠i→bqO id=H id:=fun id h1 h2=>by rw[hG0,aA.aC (by omega),aA.aC (by omega),aA.aC h2,aA.aC (by omega)]
 clear hG0
 refine aM.gP (β:=Nat×Nat×List Int×Nat×Nat) (fun u=>en [(6,boP u.1),(5,bkP 3 (nx+4)),(4,bkP 3 nx),(1,boP 6),(0,bkP 2 i)])
  (fun u H1 nx1=>(u.1≤4∧p≤u.2.1∧u.2.1≤p+8+u.1∧u.2.2.1.length=u.1∧nx+7≤u.2.2.2.1∧u.2.2.2.1<nx1)∧H1 i=some (rdO l u.2.1)∧H1 nx=some ⟨3,1,[[.osl 0 0 0 0 0,.osl 0 0 0 0 0,.osl 0 0 0 0 0]]⟩∧H1 (nx+4)=some ⟨3,1,[[.isl (m.map eN),.osl 1 u.2.2.2.1 0 u.1 u.2.2.2.2,.osl 0 0 0 0 0]]⟩∧Own aJ 1 H1 u.2.2.2.1 u.2.2.2.2 u.2.2.1∧All u.2.2.1 0 3∧ ∀id,id<nx→id≠i→H1 id=H id)
  (fun u=>4-u.1) (0,pm,[],nx+7,0) ⟨noF,bqO.set (nx+4) ⟨3,1,[[.isl (m.map eN),.osl 1 (nx+7) 0 0 0,.osl 0 0 0 0 0]]⟩,by repeat' first|exact bo2|refine xqI rfl rfl ?_|refine xqP (by omega) rfl rfl ?_|fail,aS2 q2 (aP (aH (bB rfl) (aH (.VS _ _ _ _ _ _) (aH (.VS _ _ _ _ _ _) eP)))),by dsimp only;simp;omega,(by simp only[aA.set,aA.del,t1,Nat.reduceAdd,bqU,Nat.reduceEqDiff,bqT,bqV,if_true,if_false,hA,bqB];done),(by simp only[aA.set,aA.del,t1,Nat.reduceAdd,bqU,Nat.reduceEqDiff,bqT,bqV,if_true,if_false,hA,q1];done),(by simp only[aA.set,aA.del,t1,Nat.reduceAdd,bqU,Nat.reduceEqDiff,bqT,bqV,if_true,if_false,hA];done),⟨0,(by simp only[aA.set,aA.del,t1,Nat.reduceAdd,bqU,Nat.reduceEqDiff,bqT,bqV,if_true,if_false,hA,q3,q0];done),m5 _,m5 _⟩,fun x hx=>absurd hx (by simp),fun id h1 h2=>by rw[aA.aC (by omega)];exact qf id h1 h2⟩ ?_
 clear bqB q1 q2 q3 qf
 rintro⟨k,pl,la,bl,cl⟩ H1 nx1 hnx1 ⟨⟨bpR,f2,bpS,bpT,bpU,bpV⟩,bqB,q1,q2,⟨ml,q3,e1,e2⟩,hal,qf⟩ bpQ hKL
 dsimp only at bpR f2 bpS bpT bpU bpV bqB q1 q2 q3 e1 e2 hal
 have hta:la.take k=la:=boL (by omega)
 have hA1:bQ nx1 [i,nx,nx+4,bl]:=AM.apart (by simp;omega) (by simp;omega)
 simp only[bQ,eZ] at hA1
 by_cases hlt:k<4
 ·have hM: ∀G:aA,msk (nx1+2) [4] G (nx+4)=G (nx+4):=fun G=>mk1 (by omega)
  repeat' first| (first|apply bn1|refine aX (p:=pl) hl (by omega) (by omega) (by omega) bqB (fun x h1 h2=> ?_))<;>(simp only[go_sem,boC,bqB,q1,q2,q3,hA1,hta,hM];try simp (disch:=omega) only[Iw])|apply bn2 (by omega)| (with_reducible first|refine fun(cap:Nat) (hcap:_≤cap)=> ?_|refine fun(hcp:_≤cap)=> ?_)|refine⟨by omega,?_⟩|fail
  exact hKL _ _ _ (k+1,pl+1,la++[x],nx1+7,cap) noF _ (by omega) (by dsimp only;omega) (by dsimp only;repeat' first|exact bo2|refine xqI rfl rfl ?_|refine xqP (by omega) rfl rfl ?_|fail) aK ⟨by simp;omega,(by simp only[aA.set,aA.del,t1,Nat.reduceAdd,bqU,Nat.reduceEqDiff,bqT,bqV,if_true,if_false,hA1];done),(by simp only[aA.set,aA.del,t1,Nat.reduceAdd,bqU,Nat.reduceEqDiff,bqT,bqV,if_true,if_false,hA1,q1];done),(by simp only[aA.set,aA.del,t1,Nat.reduceAdd,bqU,Nat.reduceEqDiff,bqT,bqV,if_true,if_false,hA1];done),⟨cap,(by simp only[aA.set,aA.del,t1,Nat.reduceAdd,bqU,Nat.reduceEqDiff,bqT,bqV,if_true,if_false,hA1];done),by simp;omega,m5 _⟩,KC hal (by omega) (by omega),fun id h1 h2=>by rw[aA.aC (by omega),aA.aC (by omega),aA.aC (by omega),aA.aC h2,aA.jG (by omega)];exact qf id h1 h2⟩
 have hk4:k=4:=by omega
 subst hk4
 have hl4:=bpT
 repeat' first|apply bn1<;>(simp only[go_sem,t1])|apply bn3 (by omega)|fail
 apply aM.EJ 1
 refine aM.aTJ fun bqO hG0=> ?_
 have r0:bqO i=some (rdO l pl):=by rw[hG0];exact(by simp only[aA.set,aA.del,t1,Nat.reduceAdd,bqU,Nat.reduceEqDiff,bqT,bqV,if_true,if_false,hA1,bqB];done)
 have r1:bqO nx=some ⟨3,1,[[.osl 0 0 0 0 0,.osl 0 0 0 0 0,.osl 0 0 0 0 0]]⟩:=by rw[hG0];exact(by simp only[aA.set,aA.del,t1,Nat.reduceAdd,bqU,Nat.reduceEqDiff,bqT,bqV,if_true,if_false,hA1,q1];done)
 have r2:bqO (nx+4)=some ⟨3,1,[[.isl (m.map eN),.osl 1 bl 0 4 cl,.osl 0 0 0 0 0]]⟩:=by rw[hG0];exact(by simp only[aA.set,aA.del,t1,Nat.reduceAdd,bqU,Nat.reduceEqDiff,bqT,bqV,if_true,if_false,hA1,q2];done)
 have r3:Own aJ 1 bqO bl cl la:=⟨ml,by rw[hG0];exact(by simp only[aA.set,aA.del,t1,Nat.reduceAdd,bqU,Nat.reduceEqDiff,bqT,bqV,if_true,if_false,hA1,q3];done),e1,e2⟩
 have r4:bqO (nx1+3)=some ⟨1,0,[]⟩:=by rw[hG0];exact(by simp only[aA.set,aA.del,t1,Nat.reduceAdd,bqU,Nat.reduceEqDiff,bqT,bqV,if_true,if_false,hA1];done)
 have rf: ∀id,id<nx→id≠i→bqO id=H id:=fun id h1 h2=>by rw[hG0,aA.aC (by omega)];exact qf id h1 h2
 clear hG0 bqB q1 q2 q3 qf e1 e2
 refine aM.gP (β:=Nat×Nat×(List (List D1)×Nat×Nat)×(Prog×Nat×Nat)×List Prog) (fun u=>en [(7,boP u.1),(5,bkP 3 (nx+4)),(4,bkP 3 nx),(1,boP 6),(0,bkP 2 i)])
  (fun u H1 nx1=>((u.1≤3∧p≤u.2.1∧u.2.1≤p+12+300*u.1)∧(nx+5≤u.2.2.1.2.1∧u.2.2.1.2.1<nx1∧bl≠u.2.2.1.2.1∧bl<nx1))∧H1 i=some (rdO l u.2.1)∧H1 nx=some ⟨3,1,[[.osl 0 0 0 0 0,.osl 0 0 0 0 0,.osl 0 0 0 0 0]]⟩∧H1 (nx+4)=some ⟨3,1,[[.isl (m.map eN),.osl 1 bl 0 4 cl,.osl 1 u.2.2.1.2.1 0 u.1 u.2.2.1.2.2]]⟩∧Own aJ 1 H1 bl cl la∧
   (∃mp,H1 u.2.2.1.2.1=some ⟨1,mp,u.2.2.1.1⟩∧u.1≤u.2.2.1.2.2∧u.2.2.1.2.2≤mp)∧
   (0<u.1→Own eB 7 H1 u.2.2.2.1.2.1 u.2.2.2.1.2.2 u.2.2.2.1.1∧u.2.2.1.1=[.osl 7 u.2.2.2.1.2.1 0 u.2.2.2.1.1.length u.2.2.2.1.2.2]::u.2.2.2.2.map jR∧u.2.2.2.2.length+1=u.1∧(∀pr∈u.2.2.2.1.1::u.2.2.2.2,pr.length≤12∧ ∀q∈pr,dH q)∧nx+5≤u.2.2.2.1.2.1∧u.2.2.2.1.2.1<nx1∧[bl,u.2.2.1.2.1,u.2.2.2.1.2.1].Nodup)∧(u.1=0→u.2.2.1.1=[])∧ ∀id,id<nx→id≠i→H1 id=H id)
  (fun u=>3-u.1) (0,pl,([],nx1+3,0),([],0,0),[]) ⟨noF,bqO.set (nx+4) ⟨3,1,[[.isl (m.map eN),.osl 1 bl 0 4 cl,.osl 1 (nx1+3) 0 0 0]]⟩,by repeat' first|exact bo2|refine xqI rfl rfl ?_|refine xqP (by omega) rfl rfl ?_|fail,aS2 r2 (aP (aH (bB rfl) (aH (.osl _ _ _ _ _ (by omega)) (aH (.VS _ _ _ _ _ _) eP)))),by dsimp only;omega,(by simp only[aA.set,aA.del,t1,Nat.reduceAdd,bqU,Nat.reduceEqDiff,bqT,bqV,if_true,if_false,hA1,r0];done),(by simp only[aA.set,aA.del,t1,Nat.reduceAdd,bqU,Nat.reduceEqDiff,bqT,bqV,if_true,if_false,hA1,r1];done),(by simp only[aA.set,aA.del,t1,Nat.reduceAdd,bqU,Nat.reduceEqDiff,bqT,bqV,if_true,if_false,hA1];done),r3.of (by rw[aA.aC (by omega)]),⟨0,(by simp only[aA.set,aA.del,t1,Nat.reduceAdd,bqU,Nat.reduceEqDiff,bqT,bqV,if_true,if_false,hA1,r4];done),m5 _,m5 _⟩,fun h=>by dsimp only at h;omega,fun _=>rfl,fun id h1 h2=>by rw[aA.aC (by omega)];exact rf id h1 h2⟩ ?_
 clear r0 r1 r2 r3 r4 rf
 have hnn:nx+8≤nx1:=by omega
 clear hnx1 hA1
 rintro⟨k,pl,⟨rows,bp,cp⟩,⟨aUU,boW,c0⟩,Ps⟩ H1 nx1 hnx1 ⟨⟨⟨bpR,f2,bpS⟩,bpT,bpU,bpV,bpW⟩,bqB,q1,q2,q3,⟨mp,q4,e1,e2⟩,q5,q6,qf⟩ bpQ hKL
 dsimp only at bpR f2 bpS bpT bpU bpV bpW bqB q1 q2 q3 q4 q5 q6 e1 e2
 have hA1:bQ nx1 [i,nx,nx+4,bl,bp]:=AM.apart (by simp;omega) (by simp;omega)
 simp only[bQ,eZ] at hA1
 by_cases hlt:k<3
 ·repeat' first| (first|apply bn1| (refine aX (p:=pl) hl (by omega) (by omega) (by omega) (by simp only[aA.set,aA.del,t1,Nat.reduceAdd,bqU,Nat.reduceEqDiff,bqT,bqV,if_true,if_false,hA1,bqB];done) (fun x hx1 hx2=> ?_)))<;>(simp only[go_sem,boC,bqB,q1,q2,hA1];try simp (disch:=omega) only[Iw])|apply bn2 (by omega)|fail
  refine aM.aTJ fun bqO hG0=> ?_
  have r0:bqO i=some (rdO l (pl+1)):=by rw[hG0];exact(by simp only[aA.set,aA.del,t1,Nat.reduceAdd,bqU,Nat.reduceEqDiff,bqT,bqV,if_true,if_false,hA1,bqB];done)
  have r1:bqO (nx1+2)=some ⟨7,0,[]⟩:=by rw[hG0];exact(by simp only[aA.set,aA.del,t1,Nat.reduceAdd,bqU,Nat.reduceEqDiff,bqT,bqV,if_true,if_false,hA1];done)
  have rf: ∀id,id<nx1→id≠i→bqO id=H1 id:=fun id h1 h2=>by rw[hG0,aA.aC h2,aA.aC (by omega)]
  clear hG0
  refine aM.gP (β:=Nat×Nat×Prog×Nat×Nat) (fun u=>en [(9,boP u.1),(8,.one (.c (.osl 7 u.2.2.2.1 0 u.2.2.1.length u.2.2.2.2))),(7,boP k),(5,bkP 3 (nx+4)),(4,bkP 3 nx),(1,boP 6),(0,bkP 2 i)])
   (fun u H2 nx2=>(u.1≤6∧p≤u.2.1∧u.2.1≤pl+1+41*(6-u.1)∧(∀q∈u.2.2.1,dH q)∧2*u.1+u.2.2.1.length≤12)∧(nx1≤u.2.2.2.1∧u.2.2.2.1<nx2)∧H2 i=some (rdO l u.2.1)∧Own eB 7 H2 u.2.2.2.1 u.2.2.2.2 u.2.2.1∧ ∀id,id<nx1→id≠i→H2 id=H1 id)
   (fun u=>u.1) (x.toNat,pl+1,[],nx1+2,0) ⟨noF,_,by repeat' first|exact bo2|refine xqI rfl rfl ?_|refine xqP (by omega) rfl rfl ?_|refine xqV rfl (by omega) ?_| (with_reducible apply bo3)| ((with_reducible apply bo0);exact bpA)| ((with_reducible apply bo1);apply bo7)|fail,aK,⟨by dsimp only;omega,by dsimp only;omega,by dsimp only;omega,fun q hq=>by simp at hq,by simp;omega⟩,by dsimp only;omega,r0,⟨0,r1,m5 _,m5 _⟩,rf⟩ ?_
  clear r0 r1 rf
  rintro⟨j,pj,rs,b,cr⟩ H2 nx2 hnx2 ⟨⟨g1,g2,g3,g4,g5⟩,⟨bkU,bkV⟩,s0,⟨mr,s1,d1,d2⟩,sf⟩ bqR hKN
  dsimp only at g1 g2 g3 g4 g5 bkU bkV s0 s1 d1 d2
  have htr:rs.take rs.length=rs:=bq4
  have hA2:bQ nx2 [i,b]:=AM.apart (by simp;omega) (by simp;omega)
  simp only[bQ,eZ] at hA2
  by_cases hj:0<j
  ·apply aM.seq
   repeat' first|apply boB<;>(simp only[go_sem])|apply bn2 (by omega)|fail
   apply aM.seq
   repeat' first| (first|apply boB|refine ID (p:=pj) hl (by omega) (by omega) s0 (fun pq q hq1 hq2 hq3=> ?_))<;>(simp only[go_sem,boC,s0,s1,hA2])|fail
   refine aM.aUF (β:=Nat×Prog×Nat×Nat) (fun u=>en [(10,bkP 7 (nx2+4)),(9,boP j),(8,.one (.c (.osl 7 u.2.2.1 0 u.2.1.length u.2.2.2))),(7,boP k),(5,bkP 3 (nx+4)),(4,bkP 3 nx),(1,boP 6),(0,bkP 2 i)])
    (fun u H3 nx3=>(p≤u.1∧u.1≤pj+41∧(∀q∈u.2.1,dH q)∧u.2.1.length≤rs.length+1)∧(nx1≤u.2.2.1∧u.2.2.1<nx3∧u.2.2.1≠nx2+4)∧H3 i=some (rdO l u.1)∧H3 (nx2+4)=some ⟨7,1,[eB q]⟩∧Own eB 7 H3 u.2.2.1 u.2.2.2 u.2.1∧ ∀id,id<nx1→id≠i→H3 id=H1 id) (fun bkT hKJ=> ?_) ?_
   ·repeat' first| (first|apply bn1|refine bpL (fun h=> ?_) fun h=> ?_| (refine aX (p:=pq) hl (by omega) (by omega) (by omega) (by simp only[aA.set,aA.del,t1,Nat.reduceAdd,bqU,Nat.reduceEqDiff,bqT,bqV,if_true,if_false,hA2];done) (fun x h1 h2=> ?_)))<;>(simp only[go_sem,boC,s0,s1,hA2,htr])|refine bnE (fun h=> ?_) fun h=> ?_| (with_reducible first|refine fun(cap:Nat) (hcap:_≤cap)=> ?_|refine fun(hcp:_≤cap)=> ?_)|refine⟨by omega,?_⟩|fail
    ·refine hKJ _ _ _ (pq+1,rs++[⟨q.id,3,q.addr,1,false,[],[]⟩],nx2+26,cap) noF (aA.set _ (nx2+26) ⟨7,cap,(rs++[(⟨q.id,3,q.addr,1,false,[],[]⟩:Req)]).map eB⟩) (by omega) (by dsimp only;rw[t2,List.length_singleton];repeat' first|exact bo2|refine xqI rfl rfl ?_|refine xqP (by omega) rfl rfl ?_|refine xqO (by omega) rfl rfl (by rfl) ?_|fail)
      (aS2 aA.bH (uO (R:=rs.map eB) (r':=eB ⟨q.id,3,q.addr,1,false,[],[]⟩) (by simp) rfl (fun r hr=>(aG rL rs r hr).2) rfl (aH (bB rfl) (aH (bB rfl) (aH (bB rfl) (aH (bB rfl) (aH (bB rfl) (aH xG (aH xG eP)))))))))
      ⟨⟨by dsimp only;omega,by dsimp only;omega,fun q' hq'=> ?_,by simp⟩,⟨by dsimp only;omega,by dsimp only;omega,by dsimp only;omega⟩,(by simp only[aA.set,aA.del,t1,Nat.reduceAdd,bqU,Nat.reduceEqDiff,bqT,bqV,if_true,if_false,hA2];done),(by simp only[aA.set,aA.del,t1,Nat.reduceAdd,bqU,Nat.reduceEqDiff,bqT,bqV,if_true,if_false,hA2];done),⟨cap,aA.bH,by simpa using hcap,m5 _⟩,fun id h1 h2=>by rw[aA.aC (by omega),aA.aC (by omega),aA.aC (by omega),aA.aC (by omega),aA.aC h2,aA.jG (by omega)];exact sf id h1 h2⟩
     rcases o3.1 hq' with hq'|hq'
     ·exact g4 q' hq'
     ·simp at hq';subst hq';exact bkX.MM hq3
    ·exact hKJ _ _ _ (pq+1,rs,b,cr) noF _ (by omega) (by dsimp only;repeat' first|exact bo2|refine xqI rfl rfl ?_|refine xqP (by omega) rfl rfl ?_|refine xqO (by omega) rfl rfl (by rfl) ?_|fail) aK ⟨⟨by dsimp only;omega,by dsimp only;omega,g4,by dsimp only;omega⟩,⟨by dsimp only;omega,by dsimp only;omega,by dsimp only;omega⟩,(by simp only[aA.set,aA.del,t1,Nat.reduceAdd,bqU,Nat.reduceEqDiff,bqT,bqV,if_true,if_false,hA2];done),(by simp only[aA.set,aA.del,t1,Nat.reduceAdd,bqU,Nat.reduceEqDiff,bqT,bqV,if_true,if_false,hA2];done),⟨mr,(by simp only[aA.set,aA.del,t1,Nat.reduceAdd,bqU,Nat.reduceEqDiff,bqT,bqV,if_true,if_false,hA2,s1];done),d1,d2⟩,fun id h1 h2=>by rw[aA.aC (by omega),aA.aC h2];exact sf id h1 h2⟩
    all_goals exact hKJ _ _ _ (pq,rs,b,cr) noF _ (by omega) (by dsimp only;repeat' first|exact bo2|refine xqI rfl rfl ?_|refine xqP (by omega) rfl rfl ?_|refine xqO (by omega) rfl rfl (by rfl) ?_|fail) aK ⟨⟨by dsimp only;omega,by dsimp only;omega,g4,by dsimp only;omega⟩,⟨by dsimp only;omega,by dsimp only;omega,by dsimp only;omega⟩,(by simp only[aA.set,aA.del,t1,Nat.reduceAdd,bqU,Nat.reduceEqDiff,bqT,bqV,if_true,if_false,hA2];done),(by simp only[aA.set,aA.del,t1,Nat.reduceAdd,bqU,Nat.reduceEqDiff,bqT,bqV,if_true,if_false,hA2];done),⟨mr,(by simp only[aA.set,aA.del,t1,Nat.reduceAdd,bqU,Nat.reduceEqDiff,bqT,bqV,if_true,if_false,hA2,s1];done),d1,d2⟩,fun id h1 h2=>by rw[aA.aC (by omega),aA.aC h2];exact sf id h1 h2⟩
   ·rintro⟨pk,rk,bk,ck⟩ H3 nx3 hnx3 ⟨⟨aUV,aUW,aIG,aII⟩,⟨aUX,aIH,aUY⟩,v0,v1,⟨mk,v2,bqH,bqI⟩,vf⟩
    dsimp only at aUV aUW aIG aII aUX aIH aUY v0 v2 bqH bqI
    have htk:rk.take rk.length=rk:=bq4
    have hA3:bQ nx3 [i,bk,nx2+4]:=AM.apart (by simp;omega) (by simp;omega)
    simp only[bQ,eZ] at hA3
    repeat' first|apply bn1<;>(simp only[go_sem,boC,v0,v1,v2,hA3,htk];try simp (disch:=omega) only[Iw])| (with_reducible first|refine fun(cap:Nat) (hcap:_≤cap)=> ?_|refine fun(hcp:_≤cap)=> ?_)|refine⟨by omega,?_⟩|fail
    refine hKN _ _ _ (j-1,pk,rk++[q],nx3+3,cap) noF _ (by omega) (by dsimp only;omega) (by dsimp only;rw[t2,List.length_singleton];repeat' first|exact bo2|refine xqI rfl rfl ?_|refine xqP (by omega) rfl rfl ?_|refine xqO (by omega) rfl rfl (by rfl) ?_|refine xqV rfl (by omega) ?_|fail) aK ⟨⟨by dsimp only;omega,by dsimp only;omega,by dsimp only;omega,fun q' hq'=> ?_,by simp;omega⟩,⟨by dsimp only;omega,by dsimp only;omega⟩,(by simp only[aA.set,aA.del,t1,Nat.reduceAdd,bqU,Nat.reduceEqDiff,bqT,bqV,if_true,if_false,hA3,v0];done),⟨cap,(by simp only[aA.set,aA.del,t1,Nat.reduceAdd,bqU,Nat.reduceEqDiff,bqT,bqV,if_true,if_false,hA3];done),by simpa using hcap,m5 _⟩,fun id h1 h2=>by rw[aA.aC (by omega),aA.aC (by omega),aA.jG (by omega)];exact vf id h1 h2⟩
    rcases o3.1 hq' with hq'|hq'
    ·exact aIG q' hq'
    ·simp at hq';subst hq';exact hq3
  ·have hmin:(rs.length:Int)≤12:=by omega
   have s2:=(sf (nx+4) (by omega) (by omega)).trans q2
   have bp7:=(sf bp (by omega) (by omega)).trans q4
   have hA3:bQ nx2 [i,b,nx+4,bp]:=AM.apart (by simp;omega) (by simp;omega)
   simp only[bQ,eZ] at hA3
   have hM: ∀G:aA,msk (nx2+2) [7] G (nx+4)=G (nx+4):=fun G=>mk1 (by omega)
   have hrl:rows.length=k:=by
    by_cases h0:k=0
    ·rw[q6 h0,h0];rfl
    ·obtain⟨_,e,e2,_⟩:=q5 (by omega)
     rw[e,List.length_cons,bqW];exact e2
   have hrt:rows.take k=rows:=boL (by omega)
   have hmn:(if (12:Int)<(rs.length:Int) then (12:Int) else (rs.length:Int)).toNat=rs.length:=by rw[if_neg (by omega)];simp
   repeat' first|apply bn1<;>(simp only[go_sem,boC,s0,s1,s2,bp7,hA3,hM,hrt,hmn];try simp (disch:=omega) only[Iw])|apply bn3 (by omega)| (with_reducible first|refine fun(cap:Nat) (hcap:_≤cap)=> ?_|refine fun(hcp:_≤cap)=> ?_)|refine⟨by omega,?_⟩|fail
   have hrs:rs.length≤12∧ ∀q∈rs,dH q:=⟨by omega,g4⟩
   have hfr: ∀(G:aA),(∀id,id<nx→id≠i→G id=H2 id)→∀id,id<nx→id≠i→G id=H id:=fun G bqK id h1 h2=>by rw[bqK id h1 h2,sf id (by omega) h2];exact qf id h1 h2
   have q3':Own aJ 1 H2 bl cl la:=q3.of (sf bl (by omega) (by omega))
   have bp8:=(sf nx (by omega) (by omega)).trans q1
   by_cases h0:k=0
   ·subst h0
    rw[q6 rfl]
    exact hKL _ _ _ (1,pj,([[.osl 7 b 0 rs.length cr]],nx2+10,cap),(rs,b,cr),[]) noF _ (by omega) (by dsimp only;omega) (by dsimp only;repeat' first|exact bo2|refine xqI rfl rfl ?_|refine xqP (by omega) rfl rfl ?_|fail) aK ⟨by dsimp only;omega,(by simp only[aA.set,aA.del,t1,Nat.reduceAdd,bqU,Nat.reduceEqDiff,bqT,bqV,if_true,if_false,hA3,s0];done),by rw[aA.aC (by omega),aA.aC (by omega),aA.aC (by omega),aA.jG (by omega)];exact bp8,(by simp only[aA.set,aA.del,t1,Nat.reduceAdd,bqU,Nat.reduceEqDiff,bqT,bqV,if_true,if_false,hA3];done),q3'.of (by rw[aA.aC (by omega),aA.aC (by omega),aA.aC (by omega),aA.jG (by omega)]),⟨cap,(by simp only[aA.set,aA.del,t1,Nat.reduceAdd,bqU,Nat.reduceEqDiff,bqT,bqV,if_true,if_false,hA3,List.nil_append];done),by dsimp only;omega,by dsimp only;omega⟩,
     fun _=>⟨⟨mr,(by simp only[aA.set,aA.del,t1,Nat.reduceAdd,bqU,Nat.reduceEqDiff,bqT,bqV,if_true,if_false,hA3,s1];done),d1,d2⟩,rfl,rfl,fun pr hpr=>by(simp at hpr;subst hpr;exact hrs),by dsimp only;omega,by dsimp only;omega,by simp;omega⟩,fun h=>by dsimp only at h;omega,hfr _ fun id h1 h2=>by rw[aA.aC (by omega),aA.aC (by omega),aA.aC (by omega),aA.jG (by omega)]⟩
   ·obtain⟨o0,hro,hP1,hP2,hb1,hb2,hnd⟩:=q5 (by omega)
    generalize bqK:aA.set _ (nx+4) _=aUZ
    have bqK:=bqK.symm
    have aU0:aUZ i=some (rdO l pj):=by rw[bqK];exact(by simp only[aA.set,aA.del,t1,Nat.reduceAdd,bqU,Nat.reduceEqDiff,bqT,bqV,if_true,if_false,hA3,s0];done)
    have bpN:aUZ nx=some ⟨3,1,[[.osl 0 0 0 0 0,.osl 0 0 0 0 0,.osl 0 0 0 0 0]]⟩:=by rw[bqK,aA.aC (by omega),aA.aC (by omega),aA.aC (by omega),aA.jG (by omega)];exact bp8
    have bpO:aUZ (nx+4)=some ⟨3,1,[[.isl (m.map eN),.osl 1 bl 0 4 cl,.osl 1 (nx2+10) 0 (k+1) cap]]⟩:=by rw[bqK];exact(by simp only[aA.set,aA.del,t1,Nat.reduceAdd,bqU,Nat.reduceEqDiff,bqT,bqV,if_true,if_false,hA3];done)
    have bpP:Own aJ 1 aUZ bl cl la:=q3'.of (by rw[bqK,aA.aC (by omega),aA.aC (by omega),aA.aC (by omega),aA.jG (by omega)])
    have bpY:aUZ (nx2+10)=some ⟨1,cap,rows++[[.osl 7 b 0 rs.length cr]]⟩:=by rw[bqK];exact(by simp only[aA.set,aA.del,t1,Nat.reduceAdd,bqU,Nat.reduceEqDiff,bqT,bqV,if_true,if_false,hA3];done)
    have aU1:aUZ b=some ⟨7,mr,rs.map eB⟩:=by rw[bqK];exact(by simp only[aA.set,aA.del,t1,Nat.reduceAdd,bqU,Nat.reduceEqDiff,bqT,bqV,if_true,if_false,hA3,s1];done)
    have hne:boW≠bp:=by simp at hnd;omega
    have hnl:boW≠bl:=by simp at hnd;omega
    have aU2:Own eB 7 aUZ boW c0 aUU:=o0.of (by rw[bqK,aA.aC (by omega),aA.aC (by omega),aA.aC (by omega),aA.jG hne];exact sf boW (by omega) (by omega))
    have tf: ∀id,id<nx→id≠i→aUZ id=H id:=hfr _ fun id h1 h2=>by rw[bqK,aA.aC (by omega),aA.aC (by omega),aA.aC (by omega),aA.jG (by omega)]
    clear bqK s0 s1 s2 bp7 bp8 bqB q1 q2 q3 q4 q3' qf sf hfr
    refine hKL _ _ _ (k+1,pj,(rows++[jR rs],nx2+10,cap),(aUU,boW,c0),Ps++[rs]) (fun t=>t=b) ((without (fun t=>t=b) aUZ).set (nx2+10) ⟨1,cap,rows++[jR rs]⟩) (by omega) (by dsimp only;omega) (by dsimp only;repeat' first|exact bo2|refine xqI rfl rfl ?_|refine xqP (by omega) rfl rfl ?_|fail)
     (apO (t:=nx2+10) (o':=⟨1,cap,rows++[jR rs]⟩) (fun j hj=>by have hj':j=b:=hj;rw[aA.aC (by omega)];exact if_pos hj) aA.bH bpY (by omega) (aUI (aTS (by rw[hro];exact aSR (aH (.osl _ _ _ _ _ (by omega)) eP) (aTZ fun r hr=>(aG iR _ r hr).2)) (aSR (aH (bW rL aU1 rfl d1 rfl) eP) aT0))) fun j hj1 hj2=>by rw[aA.aC hj1,iI (F:=fun t=>t=b) hj2])
     ⟨by dsimp only;omega,by rw[aA.aC (by omega),iI (by omega)];exact aU0,by rw[aA.aC (by omega),iI (by omega)];exact bpN,by rw[aA.aC (by omega),iI (by omega)];exact bpO,bpP.of (by rw[aA.aC (by omega),iI (by omega)]),⟨cap,aA.bH,by dsimp only;omega,m5 _⟩,
      fun _=>⟨aU2.of (by(try dsimp only);rw[aA.aC (by omega),iI (by omega)]),by dsimp only;rw[hro,bqX];rfl,by dsimp only;rw[t2,List.length_singleton];omega,fun pr hpr=> ?_,by dsimp only;omega,by dsimp only;omega,by simp;omega⟩,fun h=>by dsimp only at h;omega,fun id h1 h2=>by rw[aA.aC (by omega),iI (by omega)];exact tf id h1 h2⟩
    rw[←List.cons_append,o3] at hpr
    rcases hpr with hpr|hpr
    ·exact hP2 pr hpr
    ·simp at hpr;subst hpr;exact hrs
 have hk3:k=3:=by omega
 subst hk3
 obtain⟨o0,rfl,hP1,hP2,hb1,hb2,hnd⟩:=q5 (by omega)
 repeat' first|apply bn1<;>(simp only[go_sem,boC,bqB,q1,q2,hA1])|apply bn3 (by omega)|fail
 have hh:=fun H'=>h H' (nx1+4) pl m la aUU Ps bl cl bp cp mp boW c0 f2 (by omega) hmok ⟨hl4,hal⟩ (by omega) hP2
 exact hQ _ _ _ _ _ (.inr rfl) (fZ (m:=1) rfl aA.bH rfl) (hh _ (by simp only[aA.set,aA.del,t1,Nat.reduceAdd,bqU,Nat.reduceEqDiff,bqT,bqV,if_true,if_false,hA1,bqB];done) (q3.of (by rw[aA.aC (by omega)])) (o0.of (by rw[aA.aC (by omega)])) (by simp only[aA.set,aA.del,t1,Nat.reduceAdd,bqU,Nat.reduceEqDiff,bqT,bqV,if_true,if_false,hA1,q4];done) (by omega) e2 (by omega) (by omega) (by omega) (by omega) (by omega) (by omega) hnd fun id h1 h2=>by rw[aA.aC (by omega)];exact qf id h1 h2)
end
end Go.Proofs.YtmccpdapaccnoaaGreat
