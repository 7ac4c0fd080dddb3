/- Texts laid together by a program: rules, contracts and the walk that leads to the law. -/
import Derived.Test.YtmccpdapaccnoaaPG19
import Derived.Test.YtmccpdapaccnoaaPG4
import Derived.Test.YtmccpdapaccnoaaPG8
import Derived.Test.YtmccpdapaccnoaaPG11
set_option linter.unusedVariables false
set_option linter.unusedSimpArgs false
set_option linter.unusedSectionVars false
section
namespace Go.AM
structure bkN (k:Nat) (H:aA) (nm:Nat→Nat) (s:CSt) (rows:List (List D1)):Prop where
 len:rows.length=k
 row: ∀j,j<k→∃r,rows[j]?=some r∧CX H (nm (5+j)) (nm (8+j)) (aF s j) r
structure bkL (k:Nat) (H:aA) (nm:Nat→Nat) (s:CSt) (rows:List (List D1)):Prop where
 len:rows.length=k
 row: ∀j,j<k→∃r,rows[j]?=some r∧LJ H (nm (11+j)) (nm (15+j)) (aL s j) r
def biB (nx b0 b1 b2:Nat):Nat→Nat:=fun a=>if a=0 then b0 else if a=1 then b1 else if a=2 then nx else if a=3 then nx+1 else b2
theorem bj0 {nx n b0 b1 b2:Nat} (h0:nx+2≤b1) (h1:b1<b0) (h2:b0<b2) (h3:b2<n):Part (fun j=>j<5∨(5≤j∧j<5+0)∨(8≤j∧j<8+0)) nx n (biB nx b0 b1 b2):=by
 have key: ∀a,a<5→(a=0∧biB nx b0 b1 b2 a=b0)∨(a=1∧biB nx b0 b1 b2 a=b1)∨(a=2∧biB nx b0 b1 b2 a=nx)∨(a=3∧biB nx b0 b1 b2 a=nx+1)∨(a=4∧biB nx b0 b1 b2 a=b2):=fun a ha=>by
  unfold biB
  repeat' split
  all_goals omega
 refine⟨fun j k hj hk he=> ?_,fun k hk=> ?_⟩
 ·have h1:=key j (by omega)
  have h2:=key k (by omega)
  omega
 ·have h1:=key k (by omega)
  omega
end Go.AM
namespace Go.Proofs.Ytmccpdapaccnoaa
open Go Go.AM
set_option maxRecDepth 100000
set_option maxHeartbeats 8000000
section
variable {H : aA} {nx : Nat} {K : D → aA → Nat → Prop}
theorem bi7:cJ Try.prog bg9 Try.f43 bg0 bhN:=cJ.mk Try.func43 (by kernel_rfl) biR
theorem bjQ {s:CSt} (hs:CSz s)
 (h: ∀H' nx' nm cells,nx≤nx'→abY H' nm s cells→Part (fun k=>k<19) nx nx' nm→(∀id,id<nx→H' id=H id)→K (dA cells) H' nx'):
 aB Try.prog bg9 [dA (eI s)] H nx K:=by
 have hpl:=hs.pl
 have hsl:=hs.sl
 refine bi7 rfl fun Q hQ=> ?_
 unfold bg0
 refine aM.EJ 4 (aM.EJ 3 ?_)
 repeat' (first| (with_reducible first| (refine hK _ _ _ ?_;clear hK K)| (refine hA ?_;clear hA hB A B)| (refine hB ?_;clear hA hB A B)|refine Z1 ?_|refine Z2 ?_|refine Z3 fun KB hKB=> ?_|refine Z4 (by omega) ?_|refine Z5 (by omega) ?_|refine Z6 (fun h=> ?_) fun h=> ?_|refine Z7 (fun h=> ?_) fun h=> ?_|refine fun(cap:Nat) (hcap:_≤cap)=> ?_|refine fun(hcp:_≤cap)=> ?_|refine fun(b:Bool)=> ?_|refine hKX _ _ _ ?_|refine hKY _ _ _ ?_|refine hKZ _ _ _ ?_)| (first| (with_reducible first|refine Y1 fun K hK=> ?_|refine Y2 fun K hK=> ?_|refine Y3 fun A B hA hB=> ?_|refine Y4 (by omega) ?_|refine Y5 (by omega) ?_|refine Y6 (fun h=> ?_) fun h=> ?_| (refine Y7 (fun h=> ?_) (fun h=> ?_)<;>try subst h))| (refine aQE (w:=s.words) (u:=s.holds) hs.w hs.h (fun H1 nx1 b0 b1 c0 c1 h1 h2 h3 ho0 ho1 hf1=> ?_)))<;>(simp only[go_sem,Nat.add_assoc,Nat.left_eq_add,Nat.add_eq_left];try simp (disch:=omega) only[Iw])| ((with_reducible first|refine Y8 ?_|refine Y9 ?_);try simp only[AQ.then,AQ.blk,reduceIte,Nat.reduceEqDiff])| ((with_reducible refine Y0 ?_);simp only[AQ.then,AQ.blk])| ((with_reducible refine Z8 (fun h=> ?_) (fun h=> ?_))<;>try subst h)|refine⟨by omega,?_⟩| (refine⟨by(rw[List.length_take];omega),?_⟩)| (with_reducible first|refine hKB _ _ _ ?_| (clear hKB KB;refine hKB _ _ _ ?_)| (clear hKB KB;clear hKB KB;refine hKB _ _ _ ?_))|fail)
 generalize aU3:dT (nx+4) [7] _ H1=U
 have aUW:U (nx+2)=some ⟨5,1,[eI s]⟩:=by rw[←aU3,um1 (by omega),hf1 _ (by omega),aA.aC (by omega)];exact aA.bH
 have aIG:U (nx+3)=some ⟨5,1,[[.osl 0 0 0 0 0,.osl 0 0 0 0 0,.osl 0 0 0 0 0,.osl 0 0 0 0 0,.osl 0 0 0 0 0]]⟩:=by rw[←aU3,um1 (by omega),hf1 _ (by omega)];exact aA.bH
 have u11:U (nx+11)=some ⟨5,1,[[.osl 0 0 0 0 0,.osl 0 0 0 0 0,.osl 0 0 0 0 0,.osl 0 0 0 0 0,.osl 0 0 0 0 0]]⟩:=by rw[←aU3,show nx+11=nx+4+7 by omega,aH6];exact aA.bH
 have aXL:U nx=some ⟨4,0,[]⟩:=by rw[←aU3,um1 (by omega),hf1 _ (by omega),aA.aC (by omega),aA.aC (by omega),aA.aC (by omega)];exact aA.bH
 have aUV:U (nx+1)=some ⟨3,0,[]⟩:=by rw[←aU3,um1 (by omega),hf1 _ (by omega),aA.aC (by omega),aA.aC (by omega)];exact aA.bH
 have uo0:Own aJ 1 U b0 c0 s.words:=ho0.of (by rw[←aU3,um1 (by omega)])
 have uo1:Own aJ 1 U b1 c1 s.holds:=ho1.of (by rw[←aU3,um1 (by omega)])
 have uf: ∀id,id<nx→U id=H id:=fun id hid=>by rw[←aU3,um1 (by omega),hf1 _ (by omega),aA.aC (by omega),aA.aC (by omega),aA.aC (by omega),aA.aC (by omega),mk1 (by omega)]
 clear aU3 ho0 ho1 hf1
 have m0: ∀G:aA,msk (nx+4) [7] G (nx+2)=G (nx+2):=fun G=>mk1 (by omega)
 refine⟨fun _=>by rw[m0,aUW];rfl,?_⟩
 refine aNQ (l:=s.told) hs.t.1 hs.t.2 fun H2 nx2 b2 c2 h4 h5 ho2 hf2=> ?_
 simp only[go_sem,m0]
 generalize hV:dT (nx+4) [7] U H2=V
 have v2:V (nx+2)=some ⟨5,1,[eI s]⟩:=by rw[←hV,um1 (by omega),hf2 _ (by omega),mk1 (by omega)];exact aUW
 have aXN:V (nx+3)=some ⟨5,1,[[.osl 0 0 0 0 0,.osl 0 0 0 0 0,.osl 0 0 0 0 0,.osl 0 0 0 0 0,.osl 0 0 0 0 0]]⟩:=by rw[←hV,um1 (by omega),hf2 _ (by omega),mk1 (by omega)];exact aIG
 have v11:V (nx+11)=some ⟨5,1,[[.osl 0 0 0 0 0,.osl 0 0 0 0 0,.osl 0 0 0 0 0,.osl 0 0 0 0 0,.osl 0 0 0 0 0]]⟩:=by rw[←hV,show nx+11=nx+4+7 by omega,aH6];exact u11
 have v0:V nx=some ⟨4,0,[]⟩:=by rw[←hV,um1 (by omega),hf2 _ (by omega),mk1 (by omega)];exact aXL
 have v1:V (nx+1)=some ⟨3,0,[]⟩:=by rw[←hV,um1 (by omega),hf2 _ (by omega),mk1 (by omega)];exact aUV
 have vo0:Own aJ 1 V b0 c0 s.words:=uo0.of (by rw[←hV,um1 (by omega),hf2 _ (by omega),mk1 (by omega)])
 have vo1:Own aJ 1 V b1 c1 s.holds:=uo1.of (by rw[←hV,um1 (by omega),hf2 _ (by omega),mk1 (by omega)])
 have vo2:Own aS 5 V b2 c2 s.told:=ho2.of (by rw[←hV,um1 (by omega)])
 have vf: ∀id,id<nx→V id=H id:=fun id hid=>by rw[←hV,um1 (by omega),hf2 _ (by omega),mk1 (by omega)];exact uf id hid
 clear hV ho2 hf2 aXL aUV aUW aIG u11 uo0 uo1 uf
 have hA:bQ nx2 [nx+2,nx+3,nx+11]:=AM.apart (by simp) (by simp;omega)
 simp only[bQ,eZ] at hA
 (try simp only[go_sem,Nat.add_assoc,Nat.left_eq_add,Nat.add_eq_left,v2,aXN,v11,hA,Nat.add_assoc,Nat.left_eq_add,Nat.add_eq_left]);repeat' (first| (with_reducible first| (refine hK _ _ _ ?_;clear hK K)| (refine hA ?_;clear hA hB A B)| (refine hB ?_;clear hA hB A B)|refine Z1 ?_|refine Z2 ?_|refine Z3 fun KB hKB=> ?_|refine Z4 (by omega) ?_|refine Z5 (by omega) ?_|refine Z6 (fun h=> ?_) fun h=> ?_|refine Z7 (fun h=> ?_) fun h=> ?_|refine fun(cap:Nat) (hcap:_≤cap)=> ?_|refine fun(hcp:_≤cap)=> ?_|refine fun(b:Bool)=> ?_|refine hKX _ _ _ ?_|refine hKY _ _ _ ?_|refine hKZ _ _ _ ?_)| (with_reducible first|refine Y1 fun K hK=> ?_|refine Y2 fun K hK=> ?_|refine Y3 fun A B hA hB=> ?_|refine Y4 (by omega) ?_|refine Y5 (by omega) ?_|refine Y6 (fun h=> ?_) fun h=> ?_| (refine Y7 (fun h=> ?_) (fun h=> ?_)<;>try subst h))<;>(simp only[go_sem,Nat.add_assoc,Nat.left_eq_add,Nat.add_eq_left,v2,aXN,v11,hA,Nat.add_assoc,Nat.left_eq_add,Nat.add_eq_left];try simp (disch:=omega) only[Iw])| ((with_reducible first|refine Y8 ?_|refine Y9 ?_);try simp only[AQ.then,AQ.blk,reduceIte,Nat.reduceEqDiff])| ((with_reducible refine Y0 ?_);simp only[AQ.then,AQ.blk])| ((with_reducible refine Z8 (fun h=> ?_) (fun h=> ?_))<;>try subst h)|refine⟨by omega,?_⟩| (refine⟨by(rw[List.length_take];omega),?_⟩)| (with_reducible first|refine hKB _ _ _ ?_| (clear hKB KB;refine hKB _ _ _ ?_)| (clear hKB KB;clear hKB KB;refine hKB _ _ _ ?_))|fail)
 refine aM.tW _ _ noF (fun t=>.inl rfl) (KO (i:=nx+11) (o':=⟨5,1,[[.osl 1 b0 0 s.words.length c0,.osl 1 b1 0 s.holds.length c1,.osl 4 nx 0 0 0,.osl 3 (nx+1) 0 0 0,.osl 5 b2 0 s.told.length c2]]⟩) aA.bH (aP (aH (.osl _ _ _ _ _ (by omega)) (aH (.osl _ _ _ _ _ (by omega)) (aH (.VS ..) (aH (.VS ..) (aH (.osl _ _ _ _ _ (by omega)) eP))))))) ?_
 refine aM.TF fun G hG=> ?_
 have d11:G (nx+11)=some ⟨5,1,[[.osl 1 b0 0 s.words.length c0,.osl 1 b1 0 s.holds.length c1,.osl 4 nx 0 0 0,.osl 3 (nx+1) 0 0 0,.osl 5 b2 0 s.told.length c2]]⟩:=by rw[hG];exact aA.bH
 have df: ∀id,id≠nx+11→G id=V id:=fun id hid=>by rw[hG,aA.aC hid,aA.aC hid]
 clear hG
 (have hKX:=hKB;clear hKB)
 refine aM.gP (β:=Nat×(Nat→Nat)×Nat) (fun u=>en [(4,dI u.1),(3,.one (.c (.ptr 5 (nx+11) 0 0))),(2,.one (.c (.ptr 5 (nx+3) 0 0))),(1,.one (.c (.ptr 5 (nx+2) 0 0)))])
  (fun u H1 nx1=>u.1≤3∧(u.2.1 0=b0∧u.2.1 1=b1∧u.2.1 3=nx+1∧u.2.1 4=b2)∧Part (fun j=>j<5∨(5≤j∧j<5+u.1)∨(8≤j∧j<8+u.1)) nx nx1 u.2.1∧(u.2.1 2=nx∨nx2≤u.2.1 2)∧(∀j,(5≤j∧j<5+u.1)∨(8≤j∧j<8+u.1)→nx2≤u.2.1 j)∧H1 (nx+11)=some ⟨5,1,[[.osl 1 b0 0 s.words.length c0,.osl 1 b1 0 s.holds.length c1,.osl 4 (u.2.1 2) 0 u.1 u.2.2,.osl 3 (nx+1) 0 0 0,.osl 5 b2 0 s.told.length c2]]⟩∧(∃m rows,H1 (u.2.1 2)=some ⟨4,m,rows⟩∧bkN u.1 H1 u.2.1 s rows∧u.1≤u.2.2∧u.2.2≤m)∧ ∀id,id<nx2→id≠nx→id≠nx+11→H1 id=V id)
  (fun u=>3-u.1) (0,biB nx b0 b1 b2,0) ⟨noF,_,by repeat' (first| (with_reducible first|exact C1|refine C2 ?_ ?_|exact C3|refine C4 ?_ ?_|refine aUP ?_ ?_|refine bfY ?_ ?_ ?_|refine aUQ ?_|refine aUR ?_)| ((with_reducible refine C0 ?_);first|exact CB rfl|exact CC| (exact CQ (by omega) rfl rfl (by first|rfl| (simp;done)|omega| (dsimp only;omega)) rfl)|exact CE (by omega) rfl|exact CR (by omega) rfl|exact CF|exact CH (by first|rfl|assumption)| (exact CG (by first|rfl| (simp;done)| (congr 2;omega)| ((try dsimp only);exact dbT (by omega))| ((try dsimp only);exact dbF (by omega))| ((try dsimp only);exact(dbT (by omega)).symm)| ((try dsimp only);exact(dbF (by omega)).symm)| ((try dsimp only);exact dbE (by omega))| ((try dsimp only);exact diE (by omega))) rfl))| ((with_reducible refine D0 ?_);first|exact CA rfl|exact CI rfl (by simp) rfl rfl rfl|refine C9 ?_|refine CJ ?_)|exact C3|refine C4 ?_ ?_|fail),aK,by dsimp only;omega,⟨rfl,rfl,rfl,rfl⟩,(bj0 (n:=nx2+1) (by omega) h2 (by omega) (by omega)).mono (by omega),.inl rfl,fun j hj=>by dsimp only at hj;omega,d11,⟨0,[],(df nx (by omega)).trans v0,⟨rfl,fun j hj=>by dsimp only at hj;omega⟩,Nat.le_refl _,Nat.le_refl _⟩,fun id _ _ hid=>df id hid⟩ ?_
 rintro⟨k,nm,cap0⟩ H1 nx1 hnx ⟨hk,⟨n0,n1,n3,az7⟩,hP,hn2,hnj,g11,⟨m,rows,gp,⟨hR1,hR2⟩,hc1,hc2⟩,hfr⟩ KL hKL
 dsimp only at hk n0 n1 n3 az7 hP hn2 hnj g11 gp hR1 hR2 hc1 hc2
 have g2:H1 (nx+2)=some ⟨5,1,[eI s]⟩:=(hfr _ (by omega) (by omega) (by omega)).trans v2
 obtain⟨ip,hip⟩: ∃ip,ip=nm 2:=⟨_,rfl⟩
 have hip1:=hP.rng 2 (.inl (by omega))
 rw[←hip] at g11 gp hn2 hip1
 have hA1:bQ nx1 [nx+2,nx+3,nx+11,ip]:=AM.apart (by simp;omega) (by simp;omega)
 simp only[bQ,eZ] at hA1
 have hRt:List.take k rows=rows:=List.take_of_length_le (by omega)
 by_cases hlt:k<3
 ·obtain⟨p,hpd⟩: ∃p,p=aF s k:=⟨_,rfl⟩
  have hpd':s.bM.getD k default=p:=hpd.symm
  obtain⟨hq,ho⟩:=hs.port k hlt
  rw[←hpd] at hq ho
  refine aM.BW fun hnm1=> ?_
  have hmk1: ∀k l,msk (nx1+k) l H1=H1:=fun k l=>BV hnm1 (by omega)
  repeat' (first| (with_reducible first| (refine hK _ _ _ ?_;clear hK K)| (refine hA ?_;clear hA hB A B)| (refine hB ?_;clear hA hB A B)|refine Z1 ?_|refine Z2 ?_|refine Z3 fun KB hKB=> ?_|refine Z4 (by omega) ?_|refine Z5 (by omega) ?_|refine Z6 (fun h=> ?_) fun h=> ?_|refine Z7 (fun h=> ?_) fun h=> ?_|refine fun(cap:Nat) (hcap:_≤cap)=> ?_|refine fun(hcp:_≤cap)=> ?_|refine fun(b:Bool)=> ?_|refine hKX _ _ _ ?_|refine hKY _ _ _ ?_|refine hKZ _ _ _ ?_)| (with_reducible first|refine Y1 fun K hK=> ?_|refine Y2 fun K hK=> ?_|refine Y3 fun A B hA hB=> ?_|refine Y4 (by omega) ?_|refine Y5 (by omega) ?_|refine Y6 (fun h=> ?_) fun h=> ?_| (refine Y7 (fun h=> ?_) (fun h=> ?_)<;>try subst h))<;>(simp only[go_sem,Nat.add_assoc,Nat.left_eq_add,Nat.add_eq_left,hmk1,umS (G:=H1),umD (G:=H1),umB,msk,List.map,List.mem_cons,List.not_mem_nil,or_false,hpd',hRt,hR1,g2,g11,gp,hA1,hpl];try simp (disch:=omega) only[Iw])| ((with_reducible first|refine Y8 ?_|refine Y9 ?_);try simp only[AQ.then,AQ.blk,reduceIte,Nat.reduceEqDiff])| ((with_reducible refine Y0 ?_);simp only[AQ.then,AQ.blk])| ((with_reducible refine Z8 (fun h=> ?_) (fun h=> ?_))<;>try subst h)|refine⟨by omega,?_⟩| (refine⟨by(rw[List.length_take];omega),?_⟩)| (with_reducible first|refine hKB _ _ _ ?_| (clear hKB KB;refine hKB _ _ _ ?_)| (clear hKB KB;clear hKB KB;refine hKB _ _ _ ?_))|fail)
  rename_i cq hcq hcq0 co hco hco0
  refine af0 (K:=KL) fun W aYL=> ?_
  have w28:W (nx1+28)=some ⟨4,cap,rows++[[cI p.next,.osl 1 (nx1+19) 0 p.queue.length cq,.osl 3 (nx1+23) 0 p.out.length co,cI p.last]]⟩:=by rw[aYL,aA.aC (by omega)];exact aA.bH
  have w19:W (nx1+19)=some ⟨1,cq,p.queue.map aJ⟩:=by rw[aYL];simp (disch:=omega) only[aA.aC,aA.bH]
  have w23:W (nx1+23)=some ⟨3,co,p.out.map eCJ⟩:=by rw[aYL];simp (disch:=omega) only[aA.aC,aA.bH]
  have w11:W (nx+11)=some ⟨5,1,[[.osl 1 b0 0 s.words.length c0,.osl 1 b1 0 s.holds.length c1,.osl 4 (nx1+28) 0 (k+1) cap,.osl 3 (nx+1) 0 0 0,.osl 5 b2 0 s.told.length c2]]⟩:=by rw[aYL];exact aA.bH
  have wf: ∀id,id<nx1→id≠ip→id≠nx+11→W id=H1 id:=fun id d1 d2 d3=>by rw[aYL];simp (disch:=omega) only[aA.aC,aA.jG]
  clear aYL
  obtain⟨nm',hnm'⟩: ∃nm',nm'=put (put (put nm (5+k) (nx1+19)) (8+k) (nx1+23)) 2 (nx1+28):=⟨_,rfl⟩
  have p2:nm' 2=nx1+28:=by rw[hnm',t8]
  have p5:nm' (5+k)=nx1+19:=by rw[hnm',jE (by omega),jE (by omega),t8]
  have bk9:nm' (8+k)=nx1+23:=by rw[hnm',jE (by omega),t8]
  have pn: ∀a,a≠2→a≠5+k→a≠8+k→nm' a=nm a:=fun a h1 h2 h3=>by rw[hnm',jE h1,jE h3,jE h2]
  have hP':Part (fun j=>j<5∨(5≤j∧j<5+(k+1))∨(8≤j∧j<8+(k+1))) nx (nx1+29) nm':=by
   rw[hnm']
   exact((hP.put (B:=fun j=>j<5∨(5≤j∧j<5+(k+1))∨(8≤j∧j<8+k)) (hi':=nx1+23) (by omega) (by omega) (by omega) (fun j hj=>by first|omega| (dsimp only at*;omega))).put (B:=fun j=>j<5∨(5≤j∧j<5+(k+1))∨(8≤j∧j<8+(k+1))) (hi':=nx1+28) (by omega) (by omega) (by omega) (fun j hj=>by first|omega| (dsimp only at*;omega))).put (by omega) (by omega) (by omega) (fun j hj=>by first|omega| (dsimp only at*;omega))
  clear hnm'
  refine hKL _ _ _ (k+1,nm',cap) noF _ (by omega) (by dsimp only;omega) (by repeat' (first| (with_reducible first|exact C1|refine C2 ?_ ?_|exact C3|refine C4 ?_ ?_|refine aUP ?_ ?_|refine bfY ?_ ?_ ?_|refine aUQ ?_|refine aUR ?_)| ((with_reducible refine C0 ?_);first|exact CB rfl|exact CC| (exact CQ (by omega) rfl rfl (by first|rfl| (simp;done)|omega| (dsimp only;omega)) rfl)|exact CE (by omega) rfl|exact CR (by omega) rfl|exact CF|exact CH (by first|rfl|assumption)| (exact CG (by first|rfl| (simp;done)| (congr 2;omega)| ((try dsimp only);exact dbT (by omega))| ((try dsimp only);exact dbF (by omega))| ((try dsimp only);exact(dbT (by omega)).symm)| ((try dsimp only);exact(dbF (by omega)).symm)| ((try dsimp only);exact dbE (by omega))| ((try dsimp only);exact diE (by omega))) rfl))| ((with_reducible refine D0 ?_);first|exact CA rfl|exact CI rfl (by simp) rfl rfl rfl|refine C9 ?_|refine CJ ?_)|exact C3|refine C4 ?_ ?_|fail)) aK ⟨by dsimp only;omega,⟨(pn 0 (by omega) (by omega) (by omega)).trans n0,(pn 1 (by omega) (by omega) (by omega)).trans n1,(pn 3 (by omega) (by omega) (by omega)).trans n3,(pn 4 (by omega) (by omega) (by omega)).trans az7⟩,hP'.mono (by omega),.inr (by dsimp only;omega),fun j hj=> ?_,?_,⟨cap,rows++[[cI p.next,.osl 1 (nx1+19) 0 p.queue.length cq,.osl 3 (nx1+23) 0 p.out.length co,cI p.last]],?_,⟨?_,fun j hj=> ?_⟩,by dsimp only;omega,Nat.le_refl _⟩,fun id d1 d2 d3=> ?_⟩
  ·dsimp only at hj ⊢
   by_cases e1:j=5+k
   ·rw[e1,p5];omega
   ·by_cases e2:j=8+k
    ·rw[e2,bk9];omega
    ·rw[pn j (by omega) e1 e2];exact hnj j (by omega)
  ·dsimp only
   rw[p2];exact w11
  ·dsimp only
   rw[p2];exact w28
  ·rw[List.length_append,hR1];rfl
  ·dsimp only at hj ⊢
   by_cases hjk:j=k
   ·subst hjk
    refine⟨_,by rw[List.getElem?_append_right (by omega),hR1,Nat.sub_self];rfl,⟨0,cq,co,?_,?_,?_⟩⟩
    ·rw[p5,bk9,←hpd];rfl
    ·rw[p5,←hpd]
     exact⟨cq,p.queue.map aJ,w19,rfl,by simp,by simp,hcq,by omega⟩
    ·rw[bk9,←hpd]
     exact⟨co,p.out.map eCJ,w23,rfl,by simp,by simp,hco,by omega⟩
   ·obtain⟨r,h1,h2⟩:=hR2 j (by omega)
    have aAA:=hP.rng (5+j) (.inr (.inl ⟨by omega,by omega⟩))
    have aAB:=hP.rng (8+j) (.inr (.inr ⟨by omega,by omega⟩))
    have q5:=hnj (5+j) (.inl (by omega))
    have aEM:=hnj (8+j) (.inr (by omega))
    refine⟨r,by rw[List.getElem?_append_left (by omega)];exact h1,?_⟩
    rw[pn (5+j) (by omega) (by omega) (by omega),pn (8+j) (by omega) (by omega) (by omega)]
    exact h2.frame (wf _ (by omega) (fun he=>by have:=hP.inj (5+j) 2 (.inr (.inl ⟨by omega,by omega⟩)) (.inl (by omega)) (he.trans hip);omega) (by omega)) (wf _ (by omega) (fun he=>by have:=hP.inj (8+j) 2 (.inr (.inr ⟨by omega,by omega⟩)) (.inl (by omega)) (he.trans hip);omega) (by omega))
  ·rw[wf id (by omega) (by omega) d3];exact hfr id d1 d2 d3
 ·repeat' (first| (with_reducible first| (refine hK _ _ _ ?_;clear hK K)| (refine hA ?_;clear hA hB A B)| (refine hB ?_;clear hA hB A B)|refine Z1 ?_|refine Z2 ?_|refine Z3 fun KB hKB=> ?_|refine Z4 (by omega) ?_|refine Z5 (by omega) ?_|refine Z6 (fun h=> ?_) fun h=> ?_|refine Z7 (fun h=> ?_) fun h=> ?_|refine fun(cap:Nat) (hcap:_≤cap)=> ?_|refine fun(hcp:_≤cap)=> ?_|refine fun(b:Bool)=> ?_|refine hKX _ _ _ ?_|refine hKY _ _ _ ?_|refine hKZ _ _ _ ?_)| (with_reducible first|refine Y1 fun K hK=> ?_|refine Y2 fun K hK=> ?_|refine Y3 fun A B hA hB=> ?_|refine Y4 (by omega) ?_|refine Y5 (by omega) ?_|refine Y6 (fun h=> ?_) fun h=> ?_| (refine Y7 (fun h=> ?_) (fun h=> ?_)<;>try subst h))<;>(simp only[go_sem,g2];try simp (disch:=omega) only[Iw])| ((with_reducible first|refine Y8 ?_|refine Y9 ?_);try simp only[AQ.then,AQ.blk,reduceIte,Nat.reduceEqDiff])| ((with_reducible refine Y0 ?_);simp only[AQ.then,AQ.blk])| ((with_reducible refine Z8 (fun h=> ?_) (fun h=> ?_))<;>try subst h)|refine⟨by omega,?_⟩| (refine⟨by(rw[List.length_take];omega),?_⟩)| (with_reducible first|refine hKB _ _ _ ?_| (clear hKB KB;refine hKB _ _ _ ?_)| (clear hKB KB;clear hKB KB;refine hKB _ _ _ ?_))|fail)
  have hk3:k=3:=by omega
  subst hk3
  have g1:H1 (nx+1)=some ⟨3,0,[]⟩:=(hfr _ (by omega) (by omega) (by omega)).trans v1
  clear hA1 hRt
  (have hKY:=hKB;clear hKB)
  refine aM.gP (β:=Nat×(Nat→Nat)×Nat) (fun u=>en [(6,dI u.1),(3,.one (.c (.ptr 5 (nx+11) 0 0))),(2,.one (.c (.ptr 5 (nx+3) 0 0))),(1,.one (.c (.ptr 5 (nx+2) 0 0)))])
   (fun u H2 n2=>u.1≤4∧(∀j,j<11→j≠3→u.2.1 j=nm j)∧Part (fun j=>j<11∨(11≤j∧j<11+u.1)∨(15≤j∧j<15+u.1)) nx n2 u.2.1∧(u.2.1 3=nx+1∨nx1≤u.2.1 3)∧(∀j,(11≤j∧j<11+u.1)∨(15≤j∧j<15+u.1)→nx1≤u.2.1 j)∧H2 (nx+11)=some ⟨5,1,[[.osl 1 b0 0 s.words.length c0,.osl 1 b1 0 s.holds.length c1,.osl 4 ip 0 3 cap0,.osl 3 (u.2.1 3) 0 u.1 u.2.2,.osl 5 b2 0 s.told.length c2]]⟩∧(∃m rows,H2 (u.2.1 3)=some ⟨3,m,rows⟩∧bkL u.1 H2 u.2.1 s rows∧u.1≤u.2.2∧u.2.2≤m)∧ ∀id,id<nx1→id≠nx+1→id≠nx+11→H2 id=H1 id)
   (fun u=>4-u.1) (0,nm,0) ⟨noF,_,by repeat' (first| (with_reducible first|exact C1|refine C2 ?_ ?_|exact C3|refine C4 ?_ ?_|refine aUP ?_ ?_|refine bfY ?_ ?_ ?_|refine aUQ ?_|refine aUR ?_)| ((with_reducible refine C0 ?_);first|exact CB rfl|exact CC| (exact CQ (by omega) rfl rfl (by first|rfl| (simp;done)|omega| (dsimp only;omega)) rfl)|exact CE (by omega) rfl|exact CR (by omega) rfl|exact CF|exact CH (by first|rfl|assumption)| (exact CG (by first|rfl| (simp;done)| (congr 2;omega)| ((try dsimp only);exact dbT (by omega))| ((try dsimp only);exact dbF (by omega))| ((try dsimp only);exact(dbT (by omega)).symm)| ((try dsimp only);exact(dbF (by omega)).symm)| ((try dsimp only);exact dbE (by omega))| ((try dsimp only);exact diE (by omega))) rfl))| ((with_reducible refine D0 ?_);first|exact CA rfl|exact CI rfl (by simp) rfl rfl rfl|refine C9 ?_|refine CJ ?_)|exact C3|refine C4 ?_ ?_|fail),aK,by dsimp only;omega,fun _ _ _=>rfl,⟨fun j k hj hk he=>hP.inj j k (by first|omega| (dsimp only at*;omega)) (by first|omega| (dsimp only at*;omega)) he,fun j hj=>by have:=hP.rng j (by first|omega| (dsimp only at*;omega));first|omega| (dsimp only at*;omega)⟩,.inl n3,fun j hj=>by dsimp only at hj;omega,by dsimp only;rw[n3];exact g11,⟨0,[],by dsimp only;rw[n3];exact g1,⟨rfl,fun j hj=>by dsimp only at hj;omega⟩,Nat.le_refl _,Nat.le_refl _⟩,fun _ _ _ _=>rfl⟩ ?_
  rintro⟨k,nm2,cap1⟩ H2 nx3 hnx3 ⟨hk,hn11,hP2,hn23,hnj2,b11,⟨mv,rv,bv,⟨hV1,hV2⟩,hd1,hd2⟩,hfr2⟩ KM hKM
  dsimp only at hk hn11 hP2 hn23 hnj2 b11 bv hV1 hV2 hd1 hd2
  have e2:H2 (nx+2)=some ⟨5,1,[eI s]⟩:=(hfr2 _ (by omega) (by omega) (by omega)).trans g2
  obtain⟨iv,hiv⟩: ∃iv,iv=nm2 3:=⟨_,rfl⟩
  have hiv1:=hP2.rng 3 (.inl (by omega))
  rw[←hiv] at b11 bv hn23 hiv1
  have hA2:bQ nx3 [nx+2,nx+3,nx+11,iv]:=AM.apart (by simp;omega) (by simp;omega)
  simp only[bQ,eZ] at hA2
  have hRv:List.take k rv=rv:=List.take_of_length_le (by omega)
  by_cases hlt:k<4
  ·obtain⟨v,hvd⟩: ∃v,v=aL s k:=⟨_,rfl⟩
   have hvd':s.dD.getD k default=v:=hvd.symm
   obtain⟨hq,ho,ho2⟩:=hs.slv k hlt
   rw[←hvd] at hq ho ho2
   refine aM.BW fun hnm1=> ?_
   have hmk1: ∀k l,msk (nx3+k) l H2=H2:=fun k l=>BV hnm1 (by omega)
   repeat' (first| (with_reducible first| (refine hK _ _ _ ?_;clear hK K)| (refine hA ?_;clear hA hB A B)| (refine hB ?_;clear hA hB A B)|refine Z1 ?_|refine Z2 ?_|refine Z3 fun KB hKB=> ?_|refine Z4 (by omega) ?_|refine Z5 (by omega) ?_|refine Z6 (fun h=> ?_) fun h=> ?_|refine Z7 (fun h=> ?_) fun h=> ?_|refine fun(cap:Nat) (hcap:_≤cap)=> ?_|refine fun(hcp:_≤cap)=> ?_|refine fun(b:Bool)=> ?_|refine hKX _ _ _ ?_|refine hKY _ _ _ ?_|refine hKZ _ _ _ ?_)| (first| (with_reducible first|refine Y1 fun K hK=> ?_|refine Y2 fun K hK=> ?_|refine Y3 fun A B hA hB=> ?_|refine Y4 (by omega) ?_|refine Y5 (by omega) ?_|refine Y6 (fun h=> ?_) fun h=> ?_| (refine Y7 (fun h=> ?_) (fun h=> ?_)<;>try subst h))| (refine aNQ (l:=v.done) ho ho2 (fun aZJ nx5 b5 c5 h6 h7 ho5 hf5=> ?_)))<;>(simp only[go_sem,Nat.add_assoc,Nat.left_eq_add,Nat.add_eq_left,hmk1,umS (G:=H2),umD (G:=H2),umB,msk,List.map,List.mem_cons,List.not_mem_nil,or_false,hvd',hRv,hV1,e2,b11,bv,hA2,hsl];try simp (disch:=omega) only[Iw])| ((with_reducible first|refine Y8 ?_|refine Y9 ?_);try simp only[AQ.then,AQ.blk,reduceIte,Nat.reduceEqDiff])| ((with_reducible refine Y0 ?_);simp only[AQ.then,AQ.blk])| ((with_reducible refine Z8 (fun h=> ?_) (fun h=> ?_))<;>try subst h)|refine⟨by omega,?_⟩| (refine⟨by(rw[List.length_take];omega),?_⟩)| (with_reducible first|refine hKB _ _ _ ?_| (clear hKB KB;refine hKB _ _ _ ?_)| (clear hKB KB;clear hKB KB;refine hKB _ _ _ ?_))|fail)
   obtain⟨cp,rfl⟩: ∃cp,cp=cap:=⟨_,rfl⟩
   have hcpl:=hcap
   have f10:aZJ (nx3+10)=some ⟨3,1,[gF v]⟩:=by rw[hf5 _ (by omega)];simp (disch:=omega) only[aA.aC,aA.bH,aA.jG]
   have f17:aZJ (nx3+17)=some ⟨3,cp,v.pipe.map eCJ⟩:=by rw[hf5 _ (by omega)];simp (disch:=omega) only[aA.aC,aA.bH,aA.jG]
   have ff: ∀id,id<nx3→aZJ id=H2 id:=fun id d1=>by rw[hf5 _ (by omega)];simp (disch:=omega) only[aA.aC,aA.bH,aA.jG]
   have f11:=(ff (nx+11) (by omega)).trans b11
   have fiv:=(ff iv (by omega)).trans bv
   clear hf5
   have hA5:bQ nx5 [nx+2,nx+3,nx+11,iv,nx3+10,nx3+17,nx3+24,b5]:=AM.apart (by simp;omega) (by simp;omega)
   simp only[bQ,eZ] at hA5
   simp only[f10,f11]
   refine⟨⟨fun _=>rfl,fun he=>he.elim,fun _=>rfl⟩,?_⟩
   (try simp only[go_sem,Nat.add_assoc,Nat.left_eq_add,Nat.add_eq_left,f10,f11,fiv,hRv,hV1,hA5,hA2,Nat.add_assoc,Nat.left_eq_add,Nat.add_eq_left]);repeat' (first| (with_reducible first| (refine hK _ _ _ ?_;clear hK K)| (refine hA ?_;clear hA hB A B)| (refine hB ?_;clear hA hB A B)|refine Z1 ?_|refine Z2 ?_|refine Z3 fun KB hKB=> ?_|refine Z4 (by omega) ?_|refine Z5 (by omega) ?_|refine Z6 (fun h=> ?_) fun h=> ?_|refine Z7 (fun h=> ?_) fun h=> ?_|refine fun(cap:Nat) (hcap:_≤cap)=> ?_|refine fun(hcp:_≤cap)=> ?_|refine fun(b:Bool)=> ?_|refine hKX _ _ _ ?_|refine hKY _ _ _ ?_|refine hKZ _ _ _ ?_)| (with_reducible first|refine Y1 fun K hK=> ?_|refine Y2 fun K hK=> ?_|refine Y3 fun A B hA hB=> ?_|refine Y4 (by omega) ?_|refine Y5 (by omega) ?_|refine Y6 (fun h=> ?_) fun h=> ?_| (refine Y7 (fun h=> ?_) (fun h=> ?_)<;>try subst h))<;>(simp only[go_sem,Nat.add_assoc,Nat.left_eq_add,Nat.add_eq_left,f10,f11,fiv,hRv,hV1,hA5,hA2,Nat.add_assoc,Nat.left_eq_add,Nat.add_eq_left];try simp (disch:=omega) only[Iw])| ((with_reducible first|refine Y8 ?_|refine Y9 ?_);try simp only[AQ.then,AQ.blk,reduceIte,Nat.reduceEqDiff])| ((with_reducible refine Y0 ?_);simp only[AQ.then,AQ.blk])| ((with_reducible refine Z8 (fun h=> ?_) (fun h=> ?_))<;>try subst h)|refine⟨by omega,?_⟩| (refine⟨by(rw[List.length_take];omega),?_⟩)| (with_reducible first|refine hKB _ _ _ ?_| (clear hKB KB;refine hKB _ _ _ ?_)| (clear hKB KB;clear hKB KB;refine hKB _ _ _ ?_))|fail)
   refine af0 (K:=KM) fun W aYL=> ?_
   have w25:W (nx3+25)=some ⟨3,cap,rv++[[.osl 3 (nx3+17) 0 v.pipe.length cp,.osl 5 b5 0 v.done.length c5,cI v.last]]⟩:=by rw[aYL,aA.aC (by omega)];exact aA.bH
   have w17:W (nx3+17)=some ⟨3,cp,v.pipe.map eCJ⟩:=by rw[aYL];simp (disch:=omega) only[aA.aC,aA.bH,aA.jG];exact f17
   have wo5:Own aS 5 W b5 c5 v.done:=ho5.of (by rw[aYL];simp (disch:=omega) only[aA.aC,aA.jG])
   have w11:W (nx+11)=some ⟨5,1,[[.osl 1 b0 0 s.words.length c0,.osl 1 b1 0 s.holds.length c1,.osl 4 ip 0 3 cap0,.osl 3 (nx3+25) 0 (k+1) cap,.osl 5 b2 0 s.told.length c2]]⟩:=by rw[aYL];exact aA.bH
   have wf: ∀id,id<nx3→id≠iv→id≠nx+11→W id=H2 id:=fun id d1 d2 d3=>by rw[aYL];simp (disch:=omega) only[aA.aC,aA.jG];exact ff id d1
   clear aYL
   obtain⟨nm',hnm'⟩: ∃nm',nm'=put (put (put nm2 (11+k) (nx3+17)) 3 (nx3+25)) (15+k) b5:=⟨_,rfl⟩
   have p3:nm' 3=nx3+25:=by rw[hnm',jE (by omega),t8]
   have p11:nm' (11+k)=nx3+17:=by rw[hnm',jE (by omega),jE (by omega),t8]
   have p15:nm' (15+k)=b5:=by rw[hnm',t8]
   have pn: ∀a,a≠3→a≠11+k→a≠15+k→nm' a=nm2 a:=fun a h1 h2 h3=>by rw[hnm',jE h3,jE h1,jE h2]
   have hP':Part (fun j=>j<11∨(11≤j∧j<11+(k+1))∨(15≤j∧j<15+(k+1))) nx nx5 nm':=by
    rw[hnm']
    exact((hP2.put (B:=fun j=>j<11∨(11≤j∧j<11+(k+1))∨(15≤j∧j<15+k)) (hi':=nx3+18) (by omega) (by omega) (by omega) (fun j hj=>by first|omega| (dsimp only at*;omega))).put (B:=fun j=>j<11∨(11≤j∧j<11+(k+1))∨(15≤j∧j<15+k)) (hi':=nx3+26) (by omega) (by omega) (by omega) (fun j hj=>by first|omega| (dsimp only at*;omega))).put (by omega) (by omega) (by omega) (fun j hj=>by first|omega| (dsimp only at*;omega))
   clear hnm'
   refine hKM _ _ _ (k+1,nm',cap) noF _ (by omega) (by dsimp only;omega) (by repeat' (first| (with_reducible first|exact C1|refine C2 ?_ ?_|exact C3|refine C4 ?_ ?_|refine aUP ?_ ?_|refine bfY ?_ ?_ ?_|refine aUQ ?_|refine aUR ?_)| ((with_reducible refine C0 ?_);first|exact CB rfl|exact CC| (exact CQ (by omega) rfl rfl (by first|rfl| (simp;done)|omega| (dsimp only;omega)) rfl)|exact CE (by omega) rfl|exact CR (by omega) rfl|exact CF|exact CH (by first|rfl|assumption)| (exact CG (by first|rfl| (simp;done)| (congr 2;omega)| ((try dsimp only);exact dbT (by omega))| ((try dsimp only);exact dbF (by omega))| ((try dsimp only);exact(dbT (by omega)).symm)| ((try dsimp only);exact(dbF (by omega)).symm)| ((try dsimp only);exact dbE (by omega))| ((try dsimp only);exact diE (by omega))) rfl))| ((with_reducible refine D0 ?_);first|exact CA rfl|exact CI rfl (by simp) rfl rfl rfl|refine C9 ?_|refine CJ ?_)|exact C3|refine C4 ?_ ?_|fail)) aK ⟨by dsimp only;omega,fun j hj j3=> ?_,hP'.mono (by omega),.inr (by dsimp only;omega),fun j hj=> ?_,?_,⟨cap,rv++[[.osl 3 (nx3+17) 0 v.pipe.length cp,.osl 5 b5 0 v.done.length c5,cI v.last]],?_,⟨?_,fun j hj=> ?_⟩,by dsimp only;omega,Nat.le_refl _⟩,fun id d1 d2 d3=> ?_⟩
   ·dsimp only
    rw[pn j j3 (by omega) (by omega)];exact hn11 j hj j3
   ·dsimp only at hj ⊢
    by_cases e1:j=11+k
    ·rw[e1,p11];omega
    ·by_cases e2:j=15+k
     ·rw[e2,p15];omega
     ·rw[pn j (by omega) e1 e2];exact hnj2 j (by omega)
   ·dsimp only
    rw[p3];exact w11
   ·dsimp only
    rw[p3];exact w25
   ·rw[List.length_append,hV1];rfl
   ·dsimp only at hj ⊢
    by_cases hjk:j=k
    ·subst hjk
     refine⟨_,by rw[List.getElem?_append_right (by omega),hV1,Nat.sub_self];rfl,⟨0,cp,0,c5,?_,?_,?_⟩⟩
     ·rw[p11,p15,←hvd];rfl
     ·rw[p11,←hvd]
      exact⟨cp,v.pipe.map eCJ,w17,rfl,by simp,by simp,hcpl,by omega⟩
     ·rw[p15,←hvd]
      obtain⟨mo,o1,o2,o3⟩:=wo5
      exact⟨mo,v.done.map aS,o1,rfl,by simp,by simp,o2,by omega⟩
    ·obtain⟨r,h1,h2⟩:=hV2 j (by omega)
     have aAA:=hP2.rng (11+j) (.inr (.inl ⟨by omega,by omega⟩))
     have aAB:=hP2.rng (15+j) (.inr (.inr ⟨by omega,by omega⟩))
     have q5:=hnj2 (11+j) (.inl (by omega))
     have aEM:=hnj2 (15+j) (.inr (by omega))
     refine⟨r,by rw[List.getElem?_append_left (by omega)];exact h1,?_⟩
     rw[pn (11+j) (by omega) (by omega) (by omega),pn (15+j) (by omega) (by omega) (by omega)]
     exact h2.frame (wf _ (by omega) (fun he=>by have:=hP2.inj (11+j) 3 (.inr (.inl ⟨by omega,by omega⟩)) (.inl (by omega)) (he.trans hiv);omega) (by omega)) (wf _ (by omega) (fun he=>by have:=hP2.inj (15+j) 3 (.inr (.inr ⟨by omega,by omega⟩)) (.inl (by omega)) (he.trans hiv);omega) (by omega))
   ·rw[wf id (by omega) (by omega) d3];exact hfr2 id d1 d2 d3
  ·have e3:H2 (nx+3)=some ⟨5,1,[[.osl 0 0 0 0 0,.osl 0 0 0 0 0,.osl 0 0 0 0 0,.osl 0 0 0 0 0,.osl 0 0 0 0 0]]⟩:=(hfr2 _ (by omega) (by omega) (by omega)).trans ((hfr _ (by omega) (by omega) (by omega)).trans aXN)
   repeat' (first| (with_reducible first| (refine hK _ _ _ ?_;clear hK K)| (refine hA ?_;clear hA hB A B)| (refine hB ?_;clear hA hB A B)|refine Z1 ?_|refine Z2 ?_|refine Z3 fun KB hKB=> ?_|refine Z4 (by omega) ?_|refine Z5 (by omega) ?_|refine Z6 (fun h=> ?_) fun h=> ?_|refine Z7 (fun h=> ?_) fun h=> ?_|refine fun(cap:Nat) (hcap:_≤cap)=> ?_|refine fun(hcp:_≤cap)=> ?_|refine fun(b:Bool)=> ?_|refine hKX _ _ _ ?_|refine hKY _ _ _ ?_|refine hKZ _ _ _ ?_)| (with_reducible first|refine Y1 fun K hK=> ?_|refine Y2 fun K hK=> ?_|refine Y3 fun A B hA hB=> ?_|refine Y4 (by omega) ?_|refine Y5 (by omega) ?_|refine Y6 (fun h=> ?_) fun h=> ?_| (refine Y7 (fun h=> ?_) (fun h=> ?_)<;>try subst h))<;>(simp only[go_sem,e2,e3,b11,hA2];try simp (disch:=omega) only[Iw])| ((with_reducible first|refine Y8 ?_|refine Y9 ?_);try simp only[AQ.then,AQ.blk,reduceIte,Nat.reduceEqDiff])| ((with_reducible refine Y0 ?_);simp only[AQ.then,AQ.blk])| ((with_reducible refine Z8 (fun h=> ?_) (fun h=> ?_))<;>try subst h)|refine⟨by omega,?_⟩| (refine⟨by(rw[List.length_take];omega),?_⟩)| (with_reducible first|refine hKB _ _ _ ?_| (clear hKB KB;refine hKB _ _ _ ?_)| (clear hKB KB;clear hKB KB;refine hKB _ _ _ ?_))|fail)
   have hk4:k=4:=by omega
   subst hk4
   have az2:nm2 2=ip:=(hn11 2 (by omega) (by omega)).trans hip.symm
   have az5:=(hn11 0 (by omega) (by omega)).trans n0
   have az9:=(hn11 1 (by omega) (by omega)).trans n1
   have aAE:=(hn11 4 (by omega) (by omega)).trans az7
   have hip3:ip≠nx+1:=fun he=>by have:=hP.inj 2 3 (.inl (by omega)) (.inl (by omega)) (by rw[←hip,n3,he]);omega
   have wv: ∀id W o,id≠nx+3→id<nx2→id≠nx→id≠nx+1→id≠nx+11→V id=o→(H2.set (nx+3) W) id=o:=fun id W o d0 d1 d2 d3 bkS bk2=>by rw[aA.aC d0,hfr2 id (by omega) d3 bkS,hfr id d1 d2 bkS];exact bk2
   obtain⟨bk1,w1,w2,bk6⟩:=vo0
   obtain⟨x0,x1,x2,aYM⟩:=vo1
   obtain⟨blM,y1,aHC,aHD⟩:=vo2
   refine hQ _ _ _ _ _ (.inr rfl) (LL rfl aA.bH rfl) (h _ _ nm2 _ (by omega) ⟨⟨c0,c1,cap0,cap1,c2,?_,?_,?_,?_,hc1,hd1⟩,⟨m,rows,?_,hR1,fun j hj=> ?_⟩,⟨mv,rv,?_,hV1,fun j hj=> ?_⟩⟩ ⟨fun j k hj hk he=>hP2.inj j k (by first|omega| (dsimp only;omega)) (by first|omega| (dsimp only;omega)) he,fun j hj=>by have:=hP2.rng j (by first|omega| (dsimp only;omega));omega⟩ fun id hid=> ?_)
   ·rw[U2,az5,az9,az2,aAE,←hiv]
   ·rw[az5]
    exact⟨bk1,s.words.map aJ,wv _ _ _ (by omega) (by omega) (by omega) (by omega) (by omega) w1,rfl,by simp,by simp,w2,by omega⟩
   ·rw[az9]
    exact⟨x0,s.holds.map aJ,wv _ _ _ (by omega) (by omega) (by omega) (by omega) (by omega) x1,rfl,by simp,by simp,x2,by omega⟩
   ·rw[aAE]
    exact⟨blM,s.told.map aS,wv _ _ _ (by omega) (by omega) (by omega) (by omega) (by omega) y1,rfl,by simp,by simp,aHC,by omega⟩
   ·rw[az2,aA.aC (by omega),hfr2 _ (by omega) hip3 (by omega)];exact gp
   ·obtain⟨r,h1,h2⟩:=hR2 j hj
    have r5:=hP.rng (5+j) (.inr (.inl ⟨by omega,by omega⟩))
    have aU6:=hP.rng (8+j) (.inr (.inr ⟨by omega,by omega⟩))
    have q5:=hnj (5+j) (.inl (by omega))
    have aEM:=hnj (8+j) (.inr (by omega))
    rw[hn11 (5+j) (by omega) (by omega),hn11 (8+j) (by omega) (by omega)]
    exact⟨r,h1,h2.frame (by rw[aA.aC (by omega),hfr2 _ (by omega) (by omega) (by omega)]) (by rw[aA.aC (by omega),hfr2 _ (by omega) (by omega) (by omega)])⟩
   ·rw[←hiv,aA.aC (by omega)];exact bv
   ·obtain⟨r,h1,h2⟩:=hV2 j hj
    have q5:=hnj2 (11+j) (.inl (by omega))
    have aEM:=hnj2 (15+j) (.inr (by omega))
    exact⟨r,h1,h2.frame (aA.aC (by omega)) (aA.aC (by omega))⟩
   ·rw[aA.aC (by omega),hfr2 id (by omega) (by omega) (by omega),hfr id (by omega) (by omega) (by omega)];exact vf id hid
end
end Go.Proofs.Ytmccpdapaccnoaa
end
section
namespace Go.Proofs.Ytmccpdapaccnoaa
open Go Go.AM
set_option maxRecDepth 100000
set_option maxHeartbeats 8000000
section
variable {H : aA} {nx : Nat} {K : D → aA → Nat → Prop}
theorem aDE (l:List Int) (p:Nat) (hl:kZ l) (hp50:p+1000<2^50):aB Try.prog lJ [bkP 2 0,dI 6] (hp [(0,rdO l p)]) 1
 fun rr H' n'=>n'=2∧ ∃(p':Nat) (c:Cfg) (cap:Nat),p≤p'∧p'≤p+1000∧(aQ c∧jO c)∧c.cP.length=3∧3≤cap∧H'=hp [(0,rdO l p'),(1,⟨1,cap,c.cP.map jR⟩)]∧rr= .one (.agg [.isl (c.map.map eN),.isl (c.lat.map aJ),.osl 1 1 0 3 cap]):=by
 refine FC rfl fun Q hQ=> ?_
 unfold qQ
 repeat' (first| (with_reducible first| (refine hK _ _ _ ?_;clear hK K)|refine Z1 ?_|refine Z3 fun KB hKB=> ?_)| (first| (with_reducible refine Y2 fun K hK=> ?_)| (refine IV hl (by omega) (by omega) rfl (fun pm m hm1 hm2 hmok=> ?_)))<;>(simp only[go_sem])|fail)
 (have hKX:=hKB;clear hKB)
 refine aM.EJ 1 ?_
 refine aM.sG 3 (β:=Nat×Nat×List Int×Nat)
  (fun b u=>en [(6,dI u.1),(5,bkP 3 (b+1)),(4,bkP 3 b),(1,dI 6),(0,bkP 2 0)])
  (fun b u=>hp [(0,rdO l u.2.1),(b,⟨3,1,[[.osl 0 0 0 0 0,.osl 0 0 0 0 0,.osl 0 0 0 0 0]]⟩),(b+1,⟨3,1,[[.isl (m.map eN),.osl 1 (b+2) 0 u.1 u.2.2.2,.osl 0 0 0 0 0]]⟩),(b+2,⟨1,u.2.2.2,u.2.2.1.map aJ⟩)])
  (fun u=>u.1≤4∧p≤u.2.1∧u.2.1≤p+8+u.1∧u.2.2.1.length=u.1∧All u.2.2.1 0 3∧u.1≤u.2.2.2)
  (fun u=>4-u.1) (0,pm,[],0) ?_ ⟨by dsimp only;omega,by dsimp only;omega,by dsimp only;omega,rfl,by simp[All],by dsimp only;omega⟩ ?_
 · (refine cR [1,5,8,0] (by omega) (by repeat' (first| (with_reducible first|exact C1|refine C2 ?_ ?_)| ((with_reducible refine C0 ?_);exact CE (by omega) rfl)| ((with_reducible refine D0 ?_);first|exact CA rfl|refine CJ ?_)|fail)) ⟨⟨by simp,by simp[sgL],_,rfl,bS (aV _ _)⟩,⟨by simp,by simp[sgL],_,rfl,aP (by repeat' (first| (with_reducible first|exact C3|refine C4 ?_ ?_)| ((with_reducible refine C0 ?_);exact CC)|fail))⟩,⟨by simp,by simp[sgL],_,rfl,aP (by repeat' (first| (with_reducible first|exact C3|refine C4 ?_ ?_)| ((with_reducible refine C0 ?_);first|exact CB rfl|exact CC)|fail))⟩,⟨by simp,by simp[sgL],_,rfl,bP (aG bF _) rfl rfl⟩,trivial⟩ (by simp[sgL]))
 rintro⟨k,pl,la,cl⟩ ⟨f1,f2,f3,f4,f5,f6⟩ KL hKL
 dsimp only at f1 f2 f3 f4 f5 f6
 have hta:la.take k=la:=List.take_of_length_le (by omega)
 by_cases hlt:k<4
 ·repeat' (first| (with_reducible first| (refine hK _ _ _ ?_;clear hK K)| (refine hA ?_;clear hA hB A B)|refine Z1 ?_|refine Z2 ?_|refine Z3 fun KB hKB=> ?_|refine Z4 (by omega) ?_|refine fun(cap:Nat) (hcap:_≤cap)=> ?_|refine fun(hcp:_≤cap)=> ?_)| (first| (with_reducible first|refine Y2 fun K hK=> ?_|refine Y3 fun A B hA hB=> ?_)| (refine aX hl (by omega) (by omega) (by omega) rfl (fun x h1 h2=> ?_)))<;>(simp only[go_sem,hta];try simp (disch:=omega) only[Iw])| ((with_reducible refine Y0 ?_);simp only[AQ.then,AQ.blk])|refine⟨by omega,?_⟩| (with_reducible refine hKB _ _ _ ?_)|fail)
  exact hKL _ _ _ (k+1,pl+1,la++[x],cap) (by omega) (by(refine cR [9,10,19,0] (by omega) (by repeat' (first| (with_reducible first|exact C1|refine C2 ?_ ?_)| ((with_reducible refine C0 ?_);exact CE (by omega) rfl)| ((with_reducible refine D0 ?_);first|exact CA rfl|refine CJ ?_)|fail)) ⟨⟨by simp,by simp[sgL],_,rfl,bS (aV _ _)⟩,⟨by simp,by simp[sgL],_,rfl,aP (by repeat' (first| (with_reducible first|exact C3|refine C4 ?_ ?_)| ((with_reducible refine C0 ?_);exact CC)|fail))⟩,⟨by simp,by simp[sgL],_,rfl,aP (by repeat' (first| (with_reducible first|exact C3|refine C4 ?_ ?_)| ((with_reducible refine C0 ?_);first|exact CB rfl|exact CC|exact CQ (by omega) rfl rfl (by rfl) rfl)|fail))⟩,⟨by simp,by simp[sgL],_,rfl,bP (aG bF _) rfl rfl⟩,trivial⟩ (by simp[sgL]))) ⟨by dsimp only;omega,by dsimp only;omega,by dsimp only;omega,by simp;omega,KC f5 (by omega) (by omega),by dsimp only;omega⟩ (by dsimp only;omega)
 have hk4:k=4:=by omega
 subst hk4
 repeat' (first| (with_reducible first| (refine hK _ _ _ ?_;clear hK K)| (refine hB ?_;clear hA hB A B)|refine Z1 ?_|refine Z3 fun KB hKB=> ?_|refine Z5 (by omega) ?_|refine hKX _ _ _ ?_)| (with_reducible first|refine Y2 fun K hK=> ?_|refine Y3 fun A B hA hB=> ?_)<;>(simp only[go_sem])| ((with_reducible refine Y9 ?_);try simp only[AQ.then,AQ.blk,reduceIte,Nat.reduceEqDiff])|fail)
 (have hKY:=hKB;clear hKB)
 refine aM.EJ 1 ?_
 refine aM.sG 3 (β:=Nat×Nat×List Prog×Nat)
  (fun b u=>en [(7,dI u.1),(5,bkP 3 (b+1)),(4,bkP 3 b),(1,dI 6),(0,bkP 2 0)])
  (fun b u=>hp [(0,rdO l u.2.1),(b,⟨3,1,[[.osl 0 0 0 0 0,.osl 0 0 0 0 0,.osl 0 0 0 0 0]]⟩),(b+1,⟨3,1,[[.isl (m.map eN),.isl (la.map aJ),.osl 1 (b+2) 0 u.1 u.2.2.2]]⟩),(b+2,⟨1,u.2.2.2,u.2.2.1.map jR⟩)])
  (fun u=>u.1≤3∧p≤u.2.1∧u.2.1≤p+12+300*u.1∧u.2.2.1.length=u.1∧(∀pr∈u.2.2.1,pr.length≤12∧ ∀q∈pr,dH q)∧u.1≤u.2.2.2)
  (fun u=>3-u.1) (0,pl,[],0) ?_ ⟨by dsimp only;omega,by dsimp only;omega,by dsimp only;omega,rfl,fun pr hpr=>by simp at hpr,by dsimp only;omega⟩ ?_
 · (refine cR [9,10,15,0] (by omega) (by repeat' (first| (with_reducible first|exact C1|refine C2 ?_ ?_)| ((with_reducible refine C0 ?_);exact CE (by omega) rfl)| ((with_reducible refine D0 ?_);first|exact CA rfl|refine CJ ?_)|fail)) ⟨⟨by simp,by simp[sgL],_,rfl,bS (aV _ _)⟩,⟨by simp,by simp[sgL],_,rfl,aP (by repeat' (first| (with_reducible first|exact C3|refine C4 ?_ ?_)| ((with_reducible refine C0 ?_);exact CC)|fail))⟩,⟨by simp,by simp[sgL],_,rfl,aP (aH (bB rfl) (aH (bW bF rfl (by omega) (by omega) (by simp)) (aH (.VS _ _ _ _ _ _) eP)))⟩,⟨by simp,by simp[sgL],_,rfl,bP (aG iR _) rfl rfl⟩,trivial⟩ (by simp[sgL]))
 rintro⟨k,pl,ps,cp⟩ ⟨g1,g2,g3,g4,g5,bkU⟩ KM hKM
 dsimp only at g1 g2 g3 g4 g5 bkU
 have htp:ps.take k=ps:=List.take_of_length_le (by omega)
 by_cases hlt:k<3
 ·repeat' (first| (with_reducible first| (refine hK _ _ _ ?_;clear hK K)| (refine hA ?_;clear hA hB A B)|refine Z1 ?_|refine Z2 ?_|refine Z3 fun KB hKB=> ?_|refine Z4 (by omega) ?_)| (first| (with_reducible first|refine Y2 fun K hK=> ?_|refine Y3 fun A B hA hB=> ?_)| (refine aX hl (by omega) (by omega) (by omega) rfl (fun x h1 h2=> ?_)))<;>(simp only[go_sem];try simp (disch:=omega) only[Iw])|fail)
  (have hKZ:=hKB;clear hKB)
  rename_i x hx1 hx2
  refine aM.sG 1 (β:=Nat×Nat×List Req×Nat)
   (fun b u=>en [(9,dI u.1),(8,dO 7 b u.2.2.1.length u.2.2.2),(7,dI k),(5,bkP 3 17),(4,bkP 3 16),(1,dI 6),(0,bkP 2 0)])
   (fun b u=>hp [(0,rdO l u.2.1),(16,⟨3,1,[[.osl 0 0 0 0 0,.osl 0 0 0 0 0,.osl 0 0 0 0 0]]⟩),(17,⟨3,1,[[.isl (m.map eN),.isl (la.map aJ),.osl 1 18 0 k cp]]⟩),(18,⟨1,cp,ps.map jR⟩),(b,⟨7,u.2.2.2,u.2.2.1.map eB⟩)])
   (fun u=>u.1≤6∧p≤u.2.1∧u.2.1≤pl+1+41*(6-u.1)∧(∀q∈u.2.2.1,dH q)∧2*u.1+u.2.2.1.length≤12∧u.2.2.1.length≤u.2.2.2)
   (fun u=>u.1) (x.toNat,pl+1,[],0) ?_ ⟨by dsimp only;omega,by dsimp only;omega,by dsimp only;omega,fun q hq=>by simp at hq,by simp;omega,by simp⟩ ?_
  · (refine cR [21,0,16,17,18] (by omega) (by repeat' (first| (with_reducible first|exact C1|refine C2 ?_ ?_)| ((with_reducible refine C0 ?_);first|exact CC|exact CE (by omega) rfl| (exact CG (by(congr 2;omega)) rfl))| ((with_reducible refine D0 ?_);first|exact CA rfl|refine CJ ?_)|fail)) ⟨⟨by simp,by simp[sgL],_,rfl,bS (aV _ _)⟩,⟨by simp,by simp[sgL],_,rfl,aP (by repeat' (first| (with_reducible first|exact C3|refine C4 ?_ ?_)| ((with_reducible refine C0 ?_);exact CC)|fail))⟩,⟨by simp,by simp[sgL],_,rfl,aP (by repeat' (first| (with_reducible first|exact C3|refine C4 ?_ ?_)| ((with_reducible refine C0 ?_);first|exact CB rfl|exact CQ (by omega) rfl rfl (by rfl) rfl)|fail))⟩,⟨by simp,by simp[sgL],_,rfl,bP (aG iR _) rfl rfl⟩,⟨by simp,by simp[sgL],_,rfl,bP (aG rL _) rfl rfl⟩,trivial⟩ (by simp[sgL]))
  rintro⟨j,pj,rs,cr⟩ ⟨e1,e2,e3,e4,e5,e6⟩ KN hKN
  dsimp only at e1 e2 e3 e4 e5 e6
  have htr:rs.take rs.length=rs:=List.take_length
  by_cases hj:0<j
  ·refine aM.seq ?_
   repeat' (first| (with_reducible first| (refine hK _ _ _ ?_;clear hK K)| (refine hA ?_;clear hA hB A B)|refine Z2 ?_|refine Z4 (by omega) ?_)| (with_reducible first|refine Y1 fun K hK=> ?_|refine Y3 fun A B hA hB=> ?_)<;>(simp only[go_sem])|fail)
   refine aM.seq ?_
   repeat' (first| (with_reducible first| (refine hK _ _ _ ?_;clear hK K)|refine Z3 fun KB hKB=> ?_)| (first| (with_reducible refine Y1 fun K hK=> ?_)| (refine ID hl (by omega) (by omega) rfl (fun pq q hq1 hq2 hq3=> ?_)))<;>(simp only[go_sem])|fail)
   refine aM.apW 2 (β:=Nat×List Req×Nat)
    (fun b u=>en [(10,bkP 7 (b+1)),(9,dI j),(8,dO 7 b u.2.1.length u.2.2),(7,dI k),(5,bkP 3 17),(4,bkP 3 16),(1,dI 6),(0,bkP 2 0)])
    (fun b u=>hp [(0,rdO l u.1),(16,⟨3,1,[[.osl 0 0 0 0 0,.osl 0 0 0 0 0,.osl 0 0 0 0 0]]⟩),(17,⟨3,1,[[.isl (m.map eN),.isl (la.map aJ),.osl 1 18 0 k cp]]⟩),(18,⟨1,cp,ps.map jR⟩),(b,⟨7,u.2.2,u.2.1.map eB⟩),(b+1,⟨7,1,[eB q]⟩)])
    (fun u=>p≤u.1∧u.1≤pj+41∧(∀q∈u.2.1,dH q)∧u.2.1.length≤rs.length+1∧u.2.1.length≤u.2.2) (fun bkT hKJ=> ?_) ?_
   ·repeat' (first| (with_reducible first| (refine hK _ _ _ ?_;clear hK K)| (refine hA ?_;clear hA hB A B)| (refine hB ?_;clear hA hB A B)|refine Z1 ?_|refine Z2 ?_|refine Z6 (fun h=> ?_) fun h=> ?_|refine fun(cap:Nat) (hcap:_≤cap)=> ?_|refine fun(hcp:_≤cap)=> ?_)| (first| (with_reducible first|refine Y2 fun K hK=> ?_|refine Y3 fun A B hA hB=> ?_|refine Y6 (fun h=> ?_) fun h=> ?_)| (refine aX hl (by omega) (by omega) (by omega) rfl (fun x h1 h2=> ?_)))<;>(simp only[go_sem,htr])| ((with_reducible refine Y0 ?_);simp only[AQ.then,AQ.blk])|refine⟨by omega,?_⟩|fail)
    ·refine hKJ _ _ _ (pq+1,rs++[⟨q.id,3,q.addr,1,false,[],[]⟩],cap) (by(refine cR [55,33,0,16,17,18] (by omega) (by repeat' (first| (with_reducible first|exact C1|refine C2 ?_ ?_)| ((with_reducible refine C0 ?_);first| (exact CQ (by omega) rfl rfl (by first|rfl| (simp;done)) rfl)|exact CE (by omega) rfl)| ((with_reducible refine D0 ?_);first|exact CA rfl|refine CJ ?_)|fail)) ⟨⟨by simp,by simp[sgL],_,rfl,bS (aV _ _)⟩,⟨by simp,by simp[sgL],_,rfl,aP (by repeat' (first| (with_reducible first|exact C3|refine C4 ?_ ?_)| ((with_reducible refine C0 ?_);exact CC)|fail))⟩,⟨by simp,by simp[sgL],_,rfl,aP (by repeat' (first| (with_reducible first|exact C3|refine C4 ?_ ?_)| ((with_reducible refine C0 ?_);first|exact CB rfl|exact CQ (by omega) rfl rfl (by rfl) rfl)|fail))⟩,⟨by simp,by simp[sgL],_,rfl,bP (aG iR _) rfl rfl⟩,⟨by simp,by simp[sgL],_,rfl,uO (R:=rs.map eB) (r':=eB ⟨q.id,3,q.addr,1,false,[],[]⟩) (by simp) rfl (fun r hr=>(aG rL rs r hr).2) rfl (aH (bB rfl) (aH (bB rfl) (aH (bB rfl) (aH (bB rfl) (aH (bB rfl) (aH xG (aH xG eP)))))))⟩,⟨by simp,by simp[sgL],_,rfl,aP (by repeat' (first| (with_reducible first|exact C3|refine C4 ?_ ?_)| ((with_reducible refine C0 ?_);exact CB rfl)|refine C4 ?_ ?_|fail))⟩,trivial⟩ (by simp[sgL]))) ⟨by dsimp only;omega,by dsimp only;omega,fun q' hq'=> ?_,by simp,by simpa using hcap⟩
     rcases List.mem_append.1 hq' with hq'|hq'
     ·exact e4 q' hq'
     ·simp at hq';subst hq';exact bkX.MM hq3
    all_goals refine hKJ _ _ _ (_,rs,cr) (by(refine cR [28,33,0,16,17,18] (by omega) (by repeat' (first| (with_reducible first|exact C1|refine C2 ?_ ?_)| ((with_reducible refine C0 ?_);first|exact CQ (by omega) rfl rfl (by rfl) rfl|exact CE (by omega) rfl)| ((with_reducible refine D0 ?_);first|exact CA rfl|refine CJ ?_)|fail)) ⟨⟨by simp,by simp[sgL],_,rfl,bS (aV _ _)⟩,⟨by simp,by simp[sgL],_,rfl,aP (by repeat' (first| (with_reducible first|exact C3|refine C4 ?_ ?_)| ((with_reducible refine C0 ?_);exact CC)|fail))⟩,⟨by simp,by simp[sgL],_,rfl,aP (by repeat' (first| (with_reducible first|exact C3|refine C4 ?_ ?_)| ((with_reducible refine C0 ?_);first|exact CB rfl|exact CQ (by omega) rfl rfl (by rfl) rfl)|fail))⟩,⟨by simp,by simp[sgL],_,rfl,bP (aG iR _) rfl rfl⟩,⟨by simp,by simp[sgL],_,rfl,bP (aG rL _) rfl rfl⟩,⟨by simp,by simp[sgL],_,rfl,aP (by repeat' (first| (with_reducible first|exact C3|refine C4 ?_ ?_)| ((with_reducible refine C0 ?_);exact CB rfl)|refine C4 ?_ ?_|fail))⟩,trivial⟩ (by simp[sgL]))) ⟨by dsimp only;omega,by dsimp only;omega,e4,by dsimp only;omega,e6⟩
   rintro⟨pk,rk,ck⟩ ⟨d1,d2,d3,bkS,bk2⟩
   dsimp only at d1 d2 d3 bkS bk2
   have htk:rk.take rk.length=rk:=List.take_length
   repeat' (first| (with_reducible first| (refine hK _ _ _ ?_;clear hK K)|refine fun(cap:Nat) (hcap:_≤cap)=> ?_|refine fun(hcp:_≤cap)=> ?_)| (with_reducible refine Y2 fun K hK=> ?_)<;>(simp only[go_sem,htk];try simp (disch:=omega) only[Iw])| ((with_reducible refine Y0 ?_);simp only[AQ.then,AQ.blk])|refine⟨by omega,?_⟩| (with_reducible refine hKB _ _ _ ?_)|fail)
   refine hKN _ _ _ (j-1,pk,rk++[q],cap) (by omega) (by(refine cR [40,0,16,17,18] (by omega) (by repeat' (first| (with_reducible first|exact C1|refine C2 ?_ ?_)| ((with_reducible refine C0 ?_);first| (exact CQ (by omega) rfl rfl (by first|rfl| (simp;done)) rfl)|exact CE (by omega) rfl| (exact CG (by(congr 2;omega)) rfl))| ((with_reducible refine D0 ?_);first|exact CA rfl|refine CJ ?_)|fail)) ⟨⟨by simp,by simp[sgL],_,rfl,bS (aV _ _)⟩,⟨by simp,by simp[sgL],_,rfl,aP (by repeat' (first| (with_reducible first|exact C3|refine C4 ?_ ?_)| ((with_reducible refine C0 ?_);exact CC)|fail))⟩,⟨by simp,by simp[sgL],_,rfl,aP (by repeat' (first| (with_reducible first|exact C3|refine C4 ?_ ?_)| ((with_reducible refine C0 ?_);first|exact CB rfl|exact CQ (by omega) rfl rfl (by rfl) rfl)|fail))⟩,⟨by simp,by simp[sgL],_,rfl,bP (aG iR _) rfl rfl⟩,⟨by simp,by simp[sgL],_,rfl,bP (aG rL _) rfl rfl⟩,trivial⟩ (by simp[sgL]))) ⟨by dsimp only;omega,by dsimp only;omega,by dsimp only;omega,fun q' hq'=> ?_,by simp;omega,by simpa using hcap⟩ (by dsimp only;omega)
   rcases List.mem_append.1 hq' with hq'|hq'
   ·exact d3 q' hq'
   ·simp at hq';subst hq';exact hq3
  ·have hmin:(rs.length:Int)≤12:=by omega
   repeat' (first| (with_reducible first| (refine hK _ _ _ ?_;clear hK K)| (refine hB ?_;clear hA hB A B)|refine Z1 ?_|refine Z5 (by omega) ?_|refine fun(cap:Nat) (hcap:_≤cap)=> ?_|refine fun(hcp:_≤cap)=> ?_|refine hKZ _ _ _ ?_)| (with_reducible first|refine Y2 fun K hK=> ?_|refine Y3 fun A B hA hB=> ?_)<;>(simp only[go_sem,htp];try simp (disch:=omega) only[Iw])| ((with_reducible refine Y9 ?_);try simp only[AQ.then,AQ.blk,reduceIte,Nat.reduceEqDiff])| ((with_reducible refine Y0 ?_);simp only[AQ.then,AQ.blk])|refine⟨by omega,?_⟩| (with_reducible refine hKB _ _ _ ?_)|fail)
   refine hKM _ _ _ (k+1,pj,ps++[rs],cap) (by omega) (by(refine cR [16,17,39,0] (by omega) (by repeat' (first| (with_reducible first|exact C1|refine C2 ?_ ?_)| ((with_reducible refine C0 ?_);exact CE (by omega) rfl)| ((with_reducible refine D0 ?_);first|exact CA rfl|refine CJ ?_)|fail)) ⟨⟨by simp,by simp[sgL],_,rfl,bS (aV _ _)⟩,⟨by simp,by simp[sgL],_,rfl,aP (by repeat' (first| (with_reducible first|exact C3|refine C4 ?_ ?_)| ((with_reducible refine C0 ?_);exact CC)|fail))⟩,⟨by simp,by simp[sgL],_,rfl,aP (by repeat' (first| (with_reducible first|exact C3|refine C4 ?_ ?_)| ((with_reducible refine C0 ?_);first|exact CB rfl|exact CQ (by omega) rfl rfl (by rfl) rfl)|fail))⟩,⟨by simp,by simp[sgL],_,rfl,uO (R:=ps.map jR) (r':=jR rs) (by simp) rfl (fun r hr=>(aG iR ps r hr).2) rfl (aH (bW rL rfl (by rw[if_neg (by omega)];omega) (by omega) (by simp)) eP)⟩,trivial⟩ (by simp[sgL]))) ⟨by dsimp only;omega,by dsimp only;omega,by dsimp only;omega,by simp;omega,fun pr hpr=> ?_,by dsimp only;omega⟩ (by dsimp only;omega)
   rcases List.mem_append.1 hpr with hpr|hpr
   ·exact g5 pr hpr
   ·simp at hpr;subst hpr;exact⟨by omega,e4⟩
 ·repeat' (first| (with_reducible first| (refine hK _ _ _ ?_;clear hK K)| (refine hB ?_;clear hA hB A B)|refine Z1 ?_|refine Z5 (by omega) ?_|refine hKY _ _ _ ?_)| (with_reducible first|refine Y2 fun K hK=> ?_|refine Y3 fun A B hA hB=> ?_)<;>(simp only[go_sem])| ((with_reducible first|refine Y8 ?_|refine Y9 ?_);try simp only[AQ.then,AQ.blk,reduceIte,Nat.reduceEqDiff])|fail)
  have hk3:k=3:=by omega
  subst hk3
  (refine hQ _ _ _ _ _ 2 (.one (.agg [.isl (m.map eN),.isl (la.map aJ),.osl 1 1 0 3 cp])) (hp [(0,rdO l pl),(1,⟨1,cp,ps.map jR⟩)]) _ _ (.inr rfl) rfl (fU [18,0] (by omega) (by repeat' (first| ((with_reducible refine C0 ?_);first|exact CB rfl|exact CQ (by omega) rfl rfl (by rfl) rfl)| ((with_reducible refine D0 ?_);refine C9 ?_)|exact C3|refine C4 ?_ ?_|fail)) ⟨⟨by simp,by simp[sgL],_,rfl,bS (aV _ _)⟩,⟨by simp,by simp[sgL],_,rfl,bP (aG iR _) rfl rfl⟩,trivial⟩ (by simp[sgL])) ?_)
  refine⟨rfl,pl,⟨m,la,ps⟩,cp,by omega,by omega,?_,g4,bkU,rfl,rfl⟩
  have hpo: ∀pr∈ps,mV pr:=fun pr hpr=>by
   obtain⟨q1,q2⟩:=g5 pr hpr
   refine⟨by omega,fun hc=> ?_⟩
   obtain⟨x,hx,hx2⟩:=cH.1 hc
   exact of_decide_eq_true hx2 (q2 x hx)
  refine⟨⟨hmok,by dsimp only;omega,f5,by dsimp only;omega,fun hc=> ?_⟩,⟨by have:=hmok.1;dsimp only;omega,by dsimp only;omega,by dsimp only;omega,fun pr hpr=>by have:=(g5 pr hpr).1;omega,fun pr hpr q hq=> ?_⟩⟩
  ·obtain⟨x,hx,hx2⟩:=cH.1 hc
   exact of_decide_eq_true hx2 (hpo x hx)
  ·exact bkX.L4 ((g5 pr hpr).2 q hq)
theorem aDJ {l:List Int} {p i:Nat} (hl:kZ l) (hp50:p+1000<2^50) (hi:i<nx) (ho:H i=some (rdO l p))
 (h: ∀(p':Nat) (c:Cfg) (cap:Nat),p≤p'→p'≤p+1000→aQ c→jO c→c.cP.length=3→3≤cap→K (.one (.agg [.isl (c.map.map eN),.isl (c.lat.map aJ),.osl 1 nx 0 3 cap])) ((H.set i (rdO l p')).set nx ⟨1,cap,c.cP.map jR⟩) (nx+1)):aB Try.prog lJ [bkP 2 i,dI 6] H nx K:=by
 refine(aDE l p hl hp50).AF [i] rfl ⟨DG (by simp) rfl,aE rfl,trivial⟩ ⟨⟨by simp,id,_,ho,bS (aV _ _)⟩,trivial⟩ (by simp) (by simp;omega) (by simp) fun r H' n' _ ⟨q1,p',c,cap,q2,q3,q4,q5,q6,q7,aEM⟩=> ?_
 subst q1;subst q7;subst aEM
 have h:=h p' c cap q2 q3 q4.1 q4.2 q5 q6
 have e1:back (tau 1 nx (nth [i])) (hp [(0,rdO l p'),(1,⟨1,cap,c.cP.map jR⟩)]) 2 H=(H.set i (rdO l p')).set nx ⟨1,cap,c.cP.map jR⟩:=by
  generalize c.cP=P
  have r1: ∀τ:Nat→Nat,bA.rn τ ⟨1,cap,P.map jR⟩=⟨1,cap,P.map jR⟩:=fun τ=>rF (oB iR _)
  have r2: ∀τ:Nat→Nat,bA.rn τ (rdO l p')=rdO l p':=fun τ=>rF (aV _ _)
  generalize hO1:(⟨1,cap,P.map jR⟩:bA)=aEN at*
  generalize rdO l p'=aEO at*
  simp[back,hp,aA.set,aA.nil,tau,nth,r1,r2,aA.eL,aA.yI]
 have e2:rnD (tau 1 nx (nth [i])) (.one (.agg [.isl (c.map.map eN),.isl (c.lat.map aJ),.osl 1 1 0 3 cap]))= .one (.agg [.isl (c.map.map eN),.isl (c.lat.map aJ),.osl 1 nx 0 3 cap]):=rfl
 rw[←e1,←e2] at h
 exact h
end
end Go.Proofs.Ytmccpdapaccnoaa
end
