/- Texts laid together by a program: rules, contracts and the walk that leads to the law. -/
import Derived.Test.YtmccpdapaccnoaaPG20
import Derived.Test.YtmccpdapaccnoaaPG3
import Derived.Test.YtmccpdapaccnoaaPG7
set_option linter.unusedVariables false
set_option linter.unusedSimpArgs false
set_option linter.unusedSectionVars false
section
namespace Go.AM
theorem bjT {H:aA} {e:Env} {t n id m t2 n2 id2 m2:Nat} {cs cs2:List D1} (he:e t= .one (.c (.ptr n id 0 0))) (ho:H id=some ⟨n,m,[cs]⟩) (hl:cs.length=n) (he2:e t2= .one (.c (.ptr n2 id2 0 0))) (ho2:H id2=some ⟨n2,m2,[cs2]⟩) (hl2:cs2.length=n2):yT H e [.cell t n true,.cell t2 n2 true]=some (.tup [.agg cs,.agg cs2]):=by
 subst hl;subst hl2
 simp[yT,VP,he,he2,tT,ho,ho2,mkV,as1]
end Go.AM
namespace Go.Proofs.Ytmccpdapaccnoaa
open Go Go.AM
set_option maxRecDepth 100000
set_option maxHeartbeats 8000000
section
variable {H : aA} {nx : Nat} {K : D → aA → Nat → Prop}
theorem bi2:cJ Try.prog bhC Try.f23 bg6 bhQ:=cJ.mk Try.func23 (by kernel_rfl) bi0
theorem bjP {l:List Int} {p i:Nat} (hl:kZ l) (hp50:p+3000<2^50) (hi:i<nx) (ho:H i=some (rdO l p))
 (h: ∀H' nx' p' (c:Cfg) (s:CSt) nm cells,nx≤nx'→p'≤p+2500→aQ c→jO c→COk c s→abY H' nm s cells→Names (fun j=>j<nx) nx' nm→H' i=some (rdO l p')→(∀id,id<nx→id≠i→H' id=H id)→K (.tup [.agg (cU c),.agg cells]) H' nx'):aB Try.prog bhC [bkP 2 i] H nx K:=by
 refine bi2 rfl fun Q hQ=> ?_
 unfold bg6
 have hA:bQ nx [i]:=AM.apart (by simp) (by simp;omega)
 simp only[bQ,eZ] at hA
 repeat' (first| (with_reducible first| (refine hK _ _ _ ?_;clear hK K)| (refine hA ?_;clear hA hB A B)| (refine hB ?_;clear hA hB A B)|refine Z1 ?_|refine Z2 ?_|refine Z3 fun KB hKB=> ?_|refine Z4 (by omega) ?_|refine Z5 (by omega) ?_|refine Z6 (fun h=> ?_) fun h=> ?_|refine Z7 (fun h=> ?_) fun h=> ?_|refine fun(cap:Nat) (hcap:_≤cap)=> ?_|refine fun(hcp:_≤cap)=> ?_|refine fun(b:Bool)=> ?_|refine hKX _ _ _ ?_|refine hKY _ _ _ ?_|refine hKZ _ _ _ ?_)| (first| (with_reducible first|refine Y1 fun K hK=> ?_|refine Y2 fun K hK=> ?_|refine Y3 fun A B hA hB=> ?_|refine Y4 (by omega) ?_|refine Y5 (by omega) ?_|refine Y6 (fun h=> ?_) fun h=> ?_| (refine Y7 (fun h=> ?_) (fun h=> ?_)<;>try subst h))| (refine aDJ (p:=p) hl (by omega) (by omega) (by rw[aA.aC (by omega),aA.aC (by omega)];exact ho) (fun pb c capb hb1 hb2 hbok hbfit hb3 hb4=> ?_)))<;>(simp only[go_sem,Nat.add_assoc,Nat.left_eq_add,Nat.add_eq_left,hA];try simp (disch:=omega) only[Iw])| ((with_reducible first|refine Y8 ?_|refine Y9 ?_);try simp only[AQ.then,AQ.blk,reduceIte,Nat.reduceEqDiff])| ((with_reducible refine Y0 ?_);simp only[AQ.then,AQ.blk])| ((with_reducible refine Z8 (fun h=> ?_) (fun h=> ?_))<;>try subst h)|refine⟨by omega,?_⟩| (refine⟨by(rw[List.length_take];omega),?_⟩)| (with_reducible first|refine hKB _ _ _ ?_| (clear hKB KB;refine hKB _ _ _ ?_)| (clear hKB KB;clear hKB KB;refine hKB _ _ _ ?_))|fail)
 generalize hG:aA.set _ (nx+4) _=G
 have g4:G (nx+4)=some ⟨3,1,[[.isl (c.map.map eN),.isl (c.lat.map aJ),.osl 1 (nx+6) 0 3 capb]]⟩:=by rw[←hG];exact aA.bH
 have bkU:G (nx+6)=some ⟨1,capb,c.cP.map jR⟩:=by rw[←hG,aA.aC (by omega)];exact aA.bH
 have gi:G i=some (rdO l pb):=by rw[←hG];simp (disch:=omega) only[aA.aC,aA.bH]
 have g0:G nx=some ⟨3,1,[[.osl 0 0 0 0 0,.osl 0 0 0 0 0,.osl 0 0 0 0 0]]⟩:=by rw[←hG];simp (disch:=omega) only[aA.aC,aA.bH]
 have g1:G (nx+1)=some ⟨5,1,[[.osl 0 0 0 0 0,.osl 0 0 0 0 0,.osl 0 0 0 0 0,.osl 0 0 0 0 0,.osl 0 0 0 0 0]]⟩:=by rw[←hG];simp (disch:=omega) only[aA.aC,aA.bH]
 have gf: ∀id,id<nx→id≠i→G id=H id:=fun id d1 d2=>by rw[←hG];simp (disch:=omega) only[aA.aC]
 clear hG
 refine aB.ao4 (args':=[]) ((G.del (nx+6)).set (nx+4) ⟨3,1,[cU c]⟩) (fun j=>j=nx+6) rfl (fun i d0 d h1 h2=>by simp at h1) (apO (t:=nx+4) (fun j hj=>by rw[hj,aA.aC (by omega)];simp[aA.del]) aA.bH g4 (by omega) (aP (aH (bB rfl) (aH (bB rfl) (aH (bW iR bkU hb3.symm (by omega) rfl) eP)))) (fun j h1 h2=>by rw[aA.aC h1,aA.jG h2])) ?_
 refine bjL (X:=fun j=>j<nx+10) (fun id hid=>hid) fun H1 nx1 nm cells hx1 hR1 hf1=> ?_
 have q4:H1 (nx+4)=some ⟨3,1,[cU c]⟩:=by rw[hf1 _ (by omega)];exact aA.bH
 have qi:H1 i=some (rdO l pb):=by rw[hf1 _ (by omega),aA.aC (by omega),aA.jG (by omega)];exact gi
 have q0:H1 nx=some ⟨3,1,[[.osl 0 0 0 0 0,.osl 0 0 0 0 0,.osl 0 0 0 0 0]]⟩:=by rw[hf1 _ (by omega),aA.aC (by omega),aA.jG (by omega)];exact g0
 have q1:H1 (nx+1)=some ⟨5,1,[[.osl 0 0 0 0 0,.osl 0 0 0 0 0,.osl 0 0 0 0 0,.osl 0 0 0 0 0,.osl 0 0 0 0 0]]⟩:=by rw[hf1 _ (by omega),aA.aC (by omega),aA.jG (by omega)];exact g1
 have qf: ∀id,id<nx→id≠i→H1 id=H id:=fun id d1 d2=>by rw[hf1 _ (by omega),aA.aC (by omega),aA.jG (by omega)];exact gf id d1 d2
 clear g4 bkU gi g0 g1 gf hf1
 have hcl:=hR1.len
 have hrow:cells++List.drop cells.length [D1.osl 0 0 0 0 0,.osl 0 0 0 0 0,.osl 0 0 0 0 0,.osl 0 0 0 0 0,.osl 0 0 0 0 0]=cells:=by rw[hcl];simp
 have hA1:bQ nx1 [i,nx,nx+1,nx+4,nx+8]:=AM.apart (by simp;omega) (by simp;omega)
 simp only[bQ,eZ] at hA1
 (try simp only[go_sem,Nat.add_assoc,Nat.left_eq_add,Nat.add_eq_left,q4,qi,q0,q1,hcl,hrow,hA1,Nat.add_assoc,Nat.left_eq_add,Nat.add_eq_left]);repeat' (first| (with_reducible first| (refine hK _ _ _ ?_;clear hK K)| (refine hA ?_;clear hA hB A B)| (refine hB ?_;clear hA hB A B)|refine Z1 ?_|refine Z2 ?_|refine Z3 fun KB hKB=> ?_|refine Z4 (by omega) ?_|refine Z5 (by omega) ?_|refine Z6 (fun h=> ?_) fun h=> ?_|refine Z7 (fun h=> ?_) fun h=> ?_|refine fun(cap:Nat) (hcap:_≤cap)=> ?_|refine fun(hcp:_≤cap)=> ?_|refine fun(b:Bool)=> ?_|refine hKX _ _ _ ?_|refine hKY _ _ _ ?_|refine hKZ _ _ _ ?_)| (with_reducible first|refine Y1 fun K hK=> ?_|refine Y2 fun K hK=> ?_|refine Y3 fun A B hA hB=> ?_|refine Y4 (by omega) ?_|refine Y5 (by omega) ?_|refine Y6 (fun h=> ?_) fun h=> ?_| (refine Y7 (fun h=> ?_) (fun h=> ?_)<;>try subst h))<;>(simp only[go_sem,Nat.add_assoc,Nat.left_eq_add,Nat.add_eq_left,q4,qi,q0,q1,hcl,hrow,hA1,Nat.add_assoc,Nat.left_eq_add,Nat.add_eq_left];try simp (disch:=omega) only[Iw])| ((with_reducible first|refine Y8 ?_|refine Y9 ?_);try simp only[AQ.then,AQ.blk,reduceIte,Nat.reduceEqDiff])| ((with_reducible refine Y0 ?_);simp only[AQ.then,AQ.blk])| ((with_reducible refine Z8 (fun h=> ?_) (fun h=> ?_))<;>try subst h)|refine⟨by omega,?_⟩| (refine⟨by(rw[List.length_take];omega),?_⟩)| (with_reducible first|refine hKB _ _ _ ?_| (clear hKB KB;refine hKB _ _ _ ?_)| (clear hKB KB;clear hKB KB;refine hKB _ _ _ ?_))|fail)
 generalize hG:H1.set (nx+8) _=G
 have g8:G (nx+8)=some ⟨5,1,[cells]⟩:=by rw[←hG];exact aA.bH
 have gf: ∀id,id≠nx+8→G id=H1 id:=fun id d1=>by rw[←hG,aA.aC d1]
 clear hG
 have hRG:bgJ (fun j=>j<nx+10) G (nx1+3) nm HY cells:=hR1.frame (by omega) fun id _ d2=>gf id (by omega)
 refine biZ (n:=40) (p:=pb) (by omega) hl (by omega) (by omega) (by rw[gf _ (by omega)];exact qi) fun H2 nx2 p2 xs hx2 hp2 hxl hxo hi2 hf2=> ?_
 have hR2:bgJ (fun j=>j<nx+10) H2 nx2 nm HY cells:=hRG.frame hx2 fun id d1 d2=>hf2 id d1 (by omega)
 have aU6:H2 (nx+8)=some ⟨5,1,[cells]⟩:=(hf2 _ (by omega) (by omega)).trans g8
 have r4:=(hf2 (nx+4) (by omega) (by omega)).trans ((gf _ (by omega)).trans q4)
 have r0:=(hf2 nx (by omega) (by omega)).trans ((gf _ (by omega)).trans q0)
 have r1:=(hf2 (nx+1) (by omega) (by omega)).trans ((gf _ (by omega)).trans q1)
 have rf: ∀id,id<nx→id≠i→H2 id=H id:=fun id d1 d2=>(hf2 id (by omega) d2).trans ((gf id (by omega)).trans (qf id d1 d2))
 clear hRG hR1 g8 gf hf2 q4 q0 q1 qi qf
 (try simp only[go_sem,Nat.add_assoc,Nat.left_eq_add,Nat.add_eq_left,Nat.add_assoc,Nat.left_eq_add,Nat.add_eq_left]);repeat' (first| (with_reducible first| (refine hK _ _ _ ?_;clear hK K)| (refine hA ?_;clear hA hB A B)| (refine hB ?_;clear hA hB A B)|refine Z1 ?_|refine Z2 ?_|refine Z3 fun KB hKB=> ?_|refine Z4 (by omega) ?_|refine Z5 (by omega) ?_|refine Z6 (fun h=> ?_) fun h=> ?_|refine Z7 (fun h=> ?_) fun h=> ?_|refine fun(cap:Nat) (hcap:_≤cap)=> ?_|refine fun(hcp:_≤cap)=> ?_|refine fun(b:Bool)=> ?_|refine hKX _ _ _ ?_|refine hKY _ _ _ ?_|refine hKZ _ _ _ ?_)| (with_reducible first|refine Y1 fun K hK=> ?_|refine Y2 fun K hK=> ?_|refine Y3 fun A B hA hB=> ?_|refine Y4 (by omega) ?_|refine Y5 (by omega) ?_|refine Y6 (fun h=> ?_) fun h=> ?_| (refine Y7 (fun h=> ?_) (fun h=> ?_)<;>try subst h))<;>(simp only[go_sem,Nat.add_assoc,Nat.left_eq_add,Nat.add_eq_left,Nat.add_assoc,Nat.left_eq_add,Nat.add_eq_left];try simp (disch:=omega) only[Iw])| ((with_reducible first|refine Y8 ?_|refine Y9 ?_);try simp only[AQ.then,AQ.blk,reduceIte,Nat.reduceEqDiff])| ((with_reducible refine Y0 ?_);simp only[AQ.then,AQ.blk])| ((with_reducible refine Z8 (fun h=> ?_) (fun h=> ?_))<;>try subst h)|refine⟨by omega,?_⟩| (refine⟨by(rw[List.length_take];omega),?_⟩)| (with_reducible first|refine hKB _ _ _ ?_| (clear hKB KB;refine hKB _ _ _ ?_)| (clear hKB KB;clear hKB KB;refine hKB _ _ _ ?_))|fail)
 (have hKX:=hKB;clear hKB)
 refine aM.gP (β:=Nat×CSt×(Nat→Nat)×List D1) (fun u=>en [(7,dI u.1),(6,dS (xs.map eIn)),(5,.one (.c (.ptr 5 (nx+8) 0 0))),(4,.one (.c (.ptr 3 (nx+4) 0 0))),(3,.one (.c (.ptr 5 (nx+1) 0 0))),(2,.one (.c (.ptr 3 nx 0 0)))])
  (fun u H3 n3=>u.1≤xs.length∧COk c u.2.1∧bgJ (fun j=>j<nx+10) H3 n3 u.2.2.1 u.2.1 u.2.2.2∧H3 (nx+8)=some ⟨5,1,[u.2.2.2]⟩∧ ∀id,id<nx+8→H3 id=H2 id)
  (fun u=>xs.length-u.1) (0,HY,nm,cells) ⟨noF,_,by repeat' (first| (with_reducible first|exact C1|refine C2 ?_ ?_|exact C3|refine C4 ?_ ?_|refine aUP ?_ ?_|refine bfY ?_ ?_ ?_|refine aUQ ?_|refine aUR ?_)| ((with_reducible refine C0 ?_);first|exact CB rfl|exact CC| (exact CQ (by omega) rfl rfl (by first|rfl| (simp;done)|omega| (dsimp only;omega)) rfl)|exact CE (by omega) rfl|exact CR (by omega) rfl|exact CF|exact CH (by first|rfl|assumption)| (exact CG (by first|rfl| (simp;done)| (congr 2;omega)| ((try dsimp only);exact dbT (by omega))| ((try dsimp only);exact dbF (by omega))| ((try dsimp only);exact(dbT (by omega)).symm)| ((try dsimp only);exact(dbF (by omega)).symm)| ((try dsimp only);exact dbE (by omega))| ((try dsimp only);exact diE (by omega))) rfl))| ((with_reducible refine D0 ?_);first|exact CA rfl|exact CI rfl (by simp) rfl rfl rfl|refine C9 ?_|refine CJ ?_)|exact C3|refine C4 ?_ ?_|fail),aK,by dsimp only;omega,anK c,hR2.frame (by omega) fun _ _ _=>rfl,aU6,fun _ _=>rfl⟩ ?_
 clear hR2 aU6 hcl hrow
 rintro⟨k,s,nm3,cells3⟩ H3 nx3 hx3 ⟨hk,hsk,hR3,blN,hf3⟩ KL hKL
 dsimp only at hk hsk hR3 blN
 have s4:=(hf3 (nx+4) (by omega)).trans r4
 have s0:=(hf3 nx (by omega)).trans r0
 have s1:=(hf3 (nx+1) (by omega)).trans r1
 have hcl:=hR3.len
 have hA3:bQ nx3 [i,nx,nx+1,nx+4,nx+8]:=AM.apart (by simp;omega) (by simp;omega)
 simp only[bQ,eZ] at hA3
 by_cases hlt:k<xs.length
 ·have hck:vZ (xs.getD k default):=by
   rw[List.getD,List.getElem?_eq_getElem hlt];exact hxo _ (List.getElem_mem hlt)
  obtain⟨x,hx⟩: ∃x,x=xs.getD k default:=⟨_,rfl⟩
  have hx':xs.getD k default=x:=hx.symm
  rw[hx'] at hck
  repeat' (first| (with_reducible first| (refine hK _ _ _ ?_;clear hK K)| (refine hA ?_;clear hA hB A B)| (refine hB ?_;clear hA hB A B)|refine Z1 ?_|refine Z2 ?_|refine Z3 fun KB hKB=> ?_|refine Z4 (by omega) ?_|refine Z5 (by omega) ?_|refine Z6 (fun h=> ?_) fun h=> ?_|refine Z7 (fun h=> ?_) fun h=> ?_|refine fun(cap:Nat) (hcap:_≤cap)=> ?_|refine fun(hcp:_≤cap)=> ?_|refine fun(b:Bool)=> ?_|refine hKX _ _ _ ?_|refine hKY _ _ _ ?_|refine hKZ _ _ _ ?_)| (with_reducible first|refine Y1 fun K hK=> ?_|refine Y2 fun K hK=> ?_|refine Y3 fun A B hA hB=> ?_|refine Y4 (by omega) ?_|refine Y5 (by omega) ?_|refine Y6 (fun h=> ?_) fun h=> ?_| (refine Y7 (fun h=> ?_) (fun h=> ?_)<;>try subst h))<;>(simp only[go_sem,s4,blN,hA3,hcl,hx',Nat.add_assoc,Nat.left_eq_add,Nat.add_eq_left];try simp (disch:=omega) only[Iw])| ((with_reducible first|refine Y8 ?_|refine Y9 ?_);try simp only[AQ.then,AQ.blk,reduceIte,Nat.reduceEqDiff])| ((with_reducible refine Y0 ?_);simp only[AQ.then,AQ.blk])| ((with_reducible refine Z8 (fun h=> ?_) (fun h=> ?_))<;>try subst h)|refine⟨by omega,?_⟩| (refine⟨by(rw[List.length_take];omega),?_⟩)| (with_reducible first|refine hKB _ _ _ ?_| (clear hKB KB;refine hKB _ _ _ ?_)| (clear hKB KB;clear hKB KB;refine hKB _ _ _ ?_))|fail)
  refine bi3 hbok hsk hck (hR3.frame (by omega) fun _ _ _=>rfl) fun H4 nx4 nm4 cells4 hx4 hR4 hf4=> ?_
  have blO:=(hf4 (nx+8) (by show nx+8<nx+10;omega)).trans blN
  have hcl4:=hR4.len
  have hrow:List.drop 5 cells3=[]:=by rw[←hcl];simp
  (try simp only[go_sem,Nat.add_assoc,Nat.left_eq_add,Nat.add_eq_left,blO,hcl4,hrow,List.append_nil,hA3,Nat.add_assoc,Nat.left_eq_add,Nat.add_eq_left]);repeat' (first| (with_reducible first| (refine hK _ _ _ ?_;clear hK K)| (refine hA ?_;clear hA hB A B)| (refine hB ?_;clear hA hB A B)|refine Z1 ?_|refine Z2 ?_|refine Z3 fun KB hKB=> ?_|refine Z4 (by omega) ?_|refine Z5 (by omega) ?_|refine Z6 (fun h=> ?_) fun h=> ?_|refine Z7 (fun h=> ?_) fun h=> ?_|refine fun(cap:Nat) (hcap:_≤cap)=> ?_|refine fun(hcp:_≤cap)=> ?_|refine fun(b:Bool)=> ?_|refine hKX _ _ _ ?_|refine hKY _ _ _ ?_|refine hKZ _ _ _ ?_)| (with_reducible first|refine Y1 fun K hK=> ?_|refine Y2 fun K hK=> ?_|refine Y3 fun A B hA hB=> ?_|refine Y4 (by omega) ?_|refine Y5 (by omega) ?_|refine Y6 (fun h=> ?_) fun h=> ?_| (refine Y7 (fun h=> ?_) (fun h=> ?_)<;>try subst h))<;>(simp only[go_sem,Nat.add_assoc,Nat.left_eq_add,Nat.add_eq_left,blO,hcl4,hrow,List.append_nil,hA3,Nat.add_assoc,Nat.left_eq_add,Nat.add_eq_left];try simp (disch:=omega) only[Iw])| ((with_reducible first|refine Y8 ?_|refine Y9 ?_);try simp only[AQ.then,AQ.blk,reduceIte,Nat.reduceEqDiff])| ((with_reducible refine Y0 ?_);simp only[AQ.then,AQ.blk])| ((with_reducible refine Z8 (fun h=> ?_) (fun h=> ?_))<;>try subst h)|refine⟨by omega,?_⟩| (refine⟨by(rw[List.length_take];omega),?_⟩)| (with_reducible first|refine hKB _ _ _ ?_| (clear hKB KB;refine hKB _ _ _ ?_)| (clear hKB KB;clear hKB KB;refine hKB _ _ _ ?_))|fail)
  refine hKL _ _ _ (k+1,vF c x s,nm4,cells4) noF _ (by omega) (by dsimp only;omega) (by repeat' (first| (with_reducible first|exact C1|refine C2 ?_ ?_|exact C3|refine C4 ?_ ?_|refine aUP ?_ ?_|refine bfY ?_ ?_ ?_|refine aUQ ?_|refine aUR ?_)| ((with_reducible refine C0 ?_);first|exact CB rfl|exact CC| (exact CQ (by omega) rfl rfl (by first|rfl| (simp;done)|omega| (dsimp only;omega)) rfl)|exact CE (by omega) rfl|exact CR (by omega) rfl|exact CF|exact CH (by first|rfl|assumption)| (exact CG (by first|rfl| (simp;done)| (congr 2;omega)| ((try dsimp only);exact dbT (by omega))| ((try dsimp only);exact dbF (by omega))| ((try dsimp only);exact(dbT (by omega)).symm)| ((try dsimp only);exact(dbF (by omega)).symm)| ((try dsimp only);exact dbE (by omega))| ((try dsimp only);exact diE (by omega))) rfl))| ((with_reducible refine D0 ?_);first|exact CA rfl|exact CI rfl (by simp) rfl rfl rfl|refine C9 ?_|refine CJ ?_)|exact C3|refine C4 ?_ ?_|fail)) aK ⟨by dsimp only;omega,PN hbok hsk,hR4.frame (by omega) fun id _ d2=>aA.aC (by omega),aA.bH,fun id hid=> ?_⟩
  rw[aA.aC (by omega),hf4 id (by show id<nx+10;omega)];exact hf3 id hid
 ·repeat' (first| (with_reducible first| (refine hK _ _ _ ?_;clear hK K)| (refine hA ?_;clear hA hB A B)| (refine hB ?_;clear hA hB A B)|refine Z1 ?_|refine Z2 ?_|refine Z3 fun KB hKB=> ?_|refine Z4 (by omega) ?_|refine Z5 (by omega) ?_|refine Z6 (fun h=> ?_) fun h=> ?_|refine Z7 (fun h=> ?_) fun h=> ?_|refine fun(cap:Nat) (hcap:_≤cap)=> ?_|refine fun(hcp:_≤cap)=> ?_|refine fun(b:Bool)=> ?_|refine hKX _ _ _ ?_|refine hKY _ _ _ ?_|refine hKZ _ _ _ ?_)| (with_reducible first|refine Y1 fun K hK=> ?_|refine Y2 fun K hK=> ?_|refine Y3 fun A B hA hB=> ?_|refine Y4 (by omega) ?_|refine Y5 (by omega) ?_|refine Y6 (fun h=> ?_) fun h=> ?_| (refine Y7 (fun h=> ?_) (fun h=> ?_)<;>try subst h))<;>(simp only[go_sem,s4,blN,hA3,hcl,Nat.add_assoc,Nat.left_eq_add,Nat.add_eq_left];try simp (disch:=omega) only[Iw])| ((with_reducible first|refine Y8 ?_|refine Y9 ?_);try simp only[AQ.then,AQ.blk,reduceIte,Nat.reduceEqDiff])| ((with_reducible refine Y0 ?_);simp only[AQ.then,AQ.blk])| ((with_reducible refine Z8 (fun h=> ?_) (fun h=> ?_))<;>try subst h)|refine⟨by omega,?_⟩| (refine⟨by(rw[List.length_take];omega),?_⟩)| (with_reducible first|refine hKB _ _ _ ?_| (clear hKB KB;refine hKB _ _ _ ?_)| (clear hKB KB;clear hKB KB;refine hKB _ _ _ ?_))|fail)
  have hsz:=hsk.sz hbok
  have hav:=hR3.names.av
  refine aB.ao4 (args':=[dA (eI s)]) (without (fun j=>∃k,k<19∧j=nm3 k) H3) (fun j=>∃k,k<19∧j=nm3 k) rfl (fun i d0 d h1 h2=> ?_) kS ?_
  ·match i with
   |0=>
    simp only[List.getElem?_cons_zero,Option.some.injEq] at h1 h2
    subst h1;subst h2
    exact lY (A8 (hR3.rep.VI (fun k hk=>⟨k,hk,rfl⟩) hsz.pl hsz.sl))
   |i+1=>simp at h1
  refine bjQ hsz fun H4 nx4 nm4 cells4 hx4 hR4 hP4 hf4=> ?_
  have wo: ∀id,id<nx+8→H4 id=H2 id:=fun id hid=>by
   rw[hf4 id (by omega),iI (fun⟨k,hk,he⟩=>hav k hk (by show nm3 k<nx+10;omega))];exact hf3 id hid
  have t4:=(wo (nx+4) (by omega)).trans r4
  have aU0:=(wo nx (by omega)).trans r0
  have t1:=(wo (nx+1) (by omega)).trans r1
  have hcl4:cells4.length=5:=by obtain⟨_,_,_,_,_,rfl,_⟩:=hR4.ex;rfl
  have hrow:cells4++List.drop cells4.length [D1.osl 0 0 0 0 0,.osl 0 0 0 0 0,.osl 0 0 0 0 0,.osl 0 0 0 0 0,.osl 0 0 0 0 0]=cells4:=by rw[hcl4];simp
  (try simp only[go_sem,Nat.add_assoc,Nat.left_eq_add,Nat.add_eq_left,t4,aU0,t1,hcl4,hrow,hA3,Nat.add_assoc,Nat.left_eq_add,Nat.add_eq_left]);repeat' (first| (with_reducible first| (refine hK _ _ _ ?_;clear hK K)| (refine hA ?_;clear hA hB A B)| (refine hB ?_;clear hA hB A B)|refine Z1 ?_|refine Z2 ?_|refine Z3 fun KB hKB=> ?_|refine Z4 (by omega) ?_|refine Z5 (by omega) ?_|refine Z6 (fun h=> ?_) fun h=> ?_|refine Z7 (fun h=> ?_) fun h=> ?_|refine fun(cap:Nat) (hcap:_≤cap)=> ?_|refine fun(hcp:_≤cap)=> ?_|refine fun(b:Bool)=> ?_|refine hKX _ _ _ ?_|refine hKY _ _ _ ?_|refine hKZ _ _ _ ?_)| (with_reducible first|refine Y1 fun K hK=> ?_|refine Y2 fun K hK=> ?_|refine Y3 fun A B hA hB=> ?_|refine Y4 (by omega) ?_|refine Y5 (by omega) ?_|refine Y6 (fun h=> ?_) fun h=> ?_| (refine Y7 (fun h=> ?_) (fun h=> ?_)<;>try subst h))<;>(simp only[go_sem,Nat.add_assoc,Nat.left_eq_add,Nat.add_eq_left,t4,aU0,t1,hcl4,hrow,hA3,Nat.add_assoc,Nat.left_eq_add,Nat.add_eq_left];try simp (disch:=omega) only[Iw])| ((with_reducible first|refine Y8 ?_|refine Y9 ?_);try simp only[AQ.then,AQ.blk,reduceIte,Nat.reduceEqDiff])| ((with_reducible refine Y0 ?_);simp only[AQ.then,AQ.blk])| ((with_reducible refine Z8 (fun h=> ?_) (fun h=> ?_))<;>try subst h)|refine⟨by omega,?_⟩| (refine⟨by(rw[List.length_take];omega),?_⟩)| (with_reducible first|refine hKB _ _ _ ?_| (clear hKB KB;refine hKB _ _ _ ?_)| (clear hKB KB;clear hKB KB;refine hKB _ _ _ ?_))|fail)
  refine hQ _ _ _ _ _ (.inr rfl) (bjT rfl ((aA.aC (by omega)).trans aA.bH) rfl rfl aA.bH hcl4) (h _ _ p2 c s nm4 cells4 (by omega) (by omega) hbok hbfit hsk (hR4.frame fun k hk=> ?_) ⟨hP4.inj,fun k hk=>by have:=hP4.rng k hk;omega,fun k hk hj=>by have:=hP4.rng k hk;have hj:nm4 k<nx:=hj;omega⟩ ?_ fun id d1 d2=> ?_)
  ·have:=hP4.rng k hk
   rw[aA.aC (by omega),aA.aC (by omega)]
  ·rw[aA.aC (by omega),aA.aC (by omega),wo i (by omega)];exact hi2
  ·rw[aA.aC (by omega),aA.aC (by omega),wo id (by omega)];exact rf id d1 d2
end
end Go.Proofs.Ytmccpdapaccnoaa
end
section
namespace Go.Proofs.Ytmccpdapaccnoaa
open Go Go.AM
set_option maxRecDepth 100000
def aVO:AC:=
 (.seq (.region [rq 0 4 (.alloc [OZ,OZ])] 1 [0,1,4])
 (.seq (.region [rq 0 7 (.call v7 []),
 rq 1 5 (.alloc [OZ,OZ]),
 rn 2 (.store 2 true (.tm 5) (.tm 7))] 3 [0,1,4,5])
 (.seq (.region [RM 0 8 0,
 rq 1 9 (.call aU9 [(.tm 8),(ki 99999)]),
 RF 2 10 0 5,
 rn 3 (.store 1 true (.tm 10) (.tm 9))] 4 [0,1,4,5])
 (.seq (.seq (.region [rq 0 6 (.move (ki 0))] 1 [0,1,4,5,6])
 (.block 0
 (.loop
 (.seq (.seq (.region [RM 0 11 6,
 RF 1 12 1 5,
 RL 2 13 12,
 rq 3 14 (.len false (.tm 13)),
 rq 4 15 (.bin .lss (.tm 11) (.tm 14))] 5 [0,1,4,5,6,15])
 (.cond (.tm 15)
 .skip
 (.exit 0)))
 (.seq (.block 1
 (.region [RF 0 18 1 5,
 ⟨1,(some 19),.load 1 false (.tm 18),none,[3],[],true⟩,
 RM 2 20 6,
 rq 3 21 (.bC 1 5 [VZ] [(0,1,(.kv (.int .i64 (-1)))),(1,1,(ki 0)),(2,1,(ki 1)),(3,1,(ki 16)),(4,1,(ki 32))]),
 RM 4 22 0,
 ⟨5,(some 23),.call aD [(.tm 22),(ki 5)],none,[3],[1],false⟩,
 rq 6 24 (.idx 1 (.tm 21) (.tm 23)),
 RL 7 25 24,
 rq 8 26 (.idx 1 (.tm 19) (.tm 20)),
 rn 9 (.store 1 false (.tm 26) (.tm 25))] 10 [0,1,4,5,6]))
 (.region [RM 0 16 6,
 rq 1 17 (.bin .add (.tm 16) (ki 1)),
 RM 2 6 17] 3 [0,1,4,5,6]))))))
 (.seq (.seq (.region [RM 0 27 0,
 RM 1 28 1,
 rq 2 29 (.call kE [(.tm 27),(.tm 28)])] 3 [0,4,5,29])
 (.cond (.tm 29)
 (.seq (.region [RM 0 30 0,
 rq 1 31 (.call aD [(.tm 30),(ki 3)])] 2 [0,4,5,31])
 (.block 2
 (.seq (.region [rq 0 41 (.bin .eql (.tm 31) (ki 0)),
 RM 1 40 41] 2 [0,4,5,31,40])
 (.cond (.tm 40)
 (.region [RM 0 42 0,
 rq 1 43 (.call aU9 [(.tm 42),(ki 1)]),
 RF 2 44 0 5,
 rn 3 (.store 1 true (.tm 44) (.tm 43))] 4 [4,5])
 (.seq (.region [rq 0 46 (.bin .eql (.tm 31) (ki 1)),
 RM 1 45 46] 2 [0,4,5,45])
 (.cond (.tm 45)
 (.region [RF 0 47 1 5,
 RL 1 48 47,
 rq 2 49 (.slc 1 (.tm 48) (some (ki 1)) none none),
 RF 3 50 1 5,
 rn 4 (.store 1 false (.tm 50) (.tm 49))] 5 [4,5])
 (.region [RF 0 32 1 5,
 ⟨1,(some 33),.load 1 false (.tm 32),none,[2],[],true⟩,
 rq 2 34 (.bC 1 2 [VZ] [(0,1,(.kv (.int .i64 (-2)))),(1,1,(ki 64))]),
 RM 3 35 0,
 ⟨4,(some 36),.call aD [(.tm 35),(ki 2)],none,[2],[1],false⟩,
 rq 5 37 (.idx 1 (.tm 34) (.tm 36)),
 RL 6 38 37,
 rq 7 39 (.idx 1 (.tm 33) (ki 0)),
 rn 8 (.store 1 false (.tm 39) (.tm 38))] 9 [4,5])))))))
 .skip))
 (.seq (.region [rq 0 51 (.load 2 true (.tm 5)),
 rn 1 (.store 2 true (.tm 4) (.tm 51))] 2 [4])
 .ret))))))
def aWO:List Cert:=[⟨[],[0,1,4]⟩,⟨[],[0,1,4,5]⟩,⟨[],[0,1,4,5]⟩,⟨[],[0,1,4,5,6]⟩,⟨[],[0,1,4,5,6,15]⟩,⟨[cz 0,(1,[3],[],true),cz 2,cz 3,cz 4,(5,[3],[1],false),cz 6,cz 7,cz 8,cz 9],[0,1,4,5,6]⟩,⟨[],[0,1,4,5,6]⟩,⟨[],[0,4,5,29]⟩,⟨[],[0,4,5,31]⟩,⟨[],[0,4,5,31,40]⟩,⟨[],[4,5]⟩,⟨[],[0,4,5,45]⟩,⟨[],[4,5]⟩,⟨[cz 0,(1,[2],[],true),cz 2,cz 3,(4,[2],[1],false),cz 5,cz 6,cz 7,cz 8],[4,5]⟩,⟨[],[4]⟩]
def aVE:List aW:=[.cell 4 2 true]
theorem aWX:aO Try.prog Try.f26 aWO=some (aVO,aVE):=by kernel_rfl
theorem aWW:aN Try.prog aVK Try.f26 aVO aVE:=
 aN.mk Try.func26 (by kernel_rfl) aWX
def aVP:AC:=
 (.seq (.region [rq 0 4 (.alloc [VZ,VZ,OZ])] 1 [0,1,4])
 (.seq (.region [RM 0 7 0,
 rq 1 8 (.call aD [(.tm 7),(ki 2)]),
 RM 2 9 0,
 rq 3 10 (.call aD [(.tm 9),(ki 4)]),
 rq 4 11 (.bin .add (ki 1) (.tm 10)),
 rq 5 12 (.build [VZ,VZ,OZ] [(0,1,(.tm 8)),(1,1,(.tm 11))]),
 rq 6 5 (.alloc [VZ,VZ,OZ]),
 rn 7 (.store 3 true (.tm 5) (.tm 12))] 8 [0,1,4,5])
 (.seq (.seq (.region [RM 0 13 0,
 rq 1 14 (.call aD [(.tm 13),(ki 5)]),
 RM 2 6 14] 3 [0,1,4,5,6])
 (.block 0
 (.loop
 (.seq (.seq (.region [RM 0 15 6,
 rq 1 16 (.bin .gtr (.tm 15) (ki 0))] 2 [0,1,4,5,6,16])
 (.cond (.tm 16)
 .skip
 (.exit 0)))
 (.seq (.block 1
 (.region [RF 0 19 2 5,
 ⟨1,(some 20),.load 1 false (.tm 19),none,[4],[],true⟩,
 RM 2 21 0,
 ⟨3,(some 22),.call aD [(.tm 21),(ki 300)],none,[],[1],false⟩,
 rq 4 23 (.bC 1 1 [VZ] [(0,1,(.tm 22))]),
 rq 5 24 (.append 1 (.tm 20) (.tm 23)),
 RF 6 25 2 5,
 rn 7 (.store 1 false (.tm 25) (.tm 24))] 8 [0,1,4,5,6]))
 (.region [RM 0 17 6,
 rq 1 18 (.bin .sub (.tm 17) (ki 1)),
 RM 2 6 18] 3 [0,1,4,5,6]))))))
 (.seq (.seq (.region [RM 0 26 0,
 RM 1 27 1,
 rq 2 28 (.call kE [(.tm 26),(.tm 27)])] 3 [0,4,5,28])
 (.cond (.tm 28)
 (.seq (.region [RM 0 29 0,
 rq 1 30 (.call aD [(.tm 29),(ki 4)])] 2 [0,4,5,30])
 (.block 2
 (.seq (.region [rq 0 34 (.bin .eql (.tm 30) (ki 0)),
 RM 1 33 34] 2 [0,4,5,30,33])
 (.cond (.tm 33)
 (.region [rq 0 35 (.bC 1 2 [VZ] [(0,1,(.kv (.int .i64 (-1)))),(1,1,(ki 2))]),
 RM 1 36 0,
 rq 2 37 (.call aD [(.tm 36),(ki 2)]),
 rq 3 38 (.idx 1 (.tm 35) (.tm 37)),
 RL 4 39 38,
 RF 5 40 0 5,
 rn 6 (.store 1 false (.tm 40) (.tm 39))] 7 [4,5])
 (.seq (.region [rq 0 42 (.bin .eql (.tm 30) (ki 1)),
 RM 1 41 42] 2 [0,4,5,30,41])
 (.cond (.tm 41)
 (.region [rq 0 43 (.bC 1 2 [VZ] [(0,1,(ki 0)),(1,1,(ki 5))]),
 RM 1 44 0,
 rq 2 45 (.call aD [(.tm 44),(ki 2)]),
 rq 3 46 (.idx 1 (.tm 43) (.tm 45)),
 RL 4 47 46,
 RF 5 48 1 5,
 rn 6 (.store 1 false (.tm 48) (.tm 47))] 7 [4,5])
 (.seq (.region [rq 0 50 (.bin .eql (.tm 30) (ki 2)),
 RM 1 49 50] 2 [4,5,49])
 (.cond (.tm 49)
 (.region [rq 0 51 (.bC 1 1 [VZ] [(0,1,(.kv (.int .i64 (-1))))]),
 RF 1 52 2 5,
 rn 2 (.store 1 false (.tm 52) (.tm 51))] 3 [4,5])
 (.region [rq 0 31 (.bC 1 5 [VZ] [(0,1,(ki 1)),(1,1,(ki 2)),(2,1,(ki 3)),(3,1,(ki 4)),(4,1,(ki 5))]),
 RF 1 32 2 5,
 rn 2 (.store 1 false (.tm 32) (.tm 31))] 3 [4,5])))))))))
 .skip))
 (.seq (.region [rq 0 53 (.load 3 true (.tm 5)),
 rn 1 (.store 3 true (.tm 4) (.tm 53))] 2 [4])
 .ret)))))
def aWY:List Cert:=[⟨[],[0,1,4]⟩,⟨[],[0,1,4,5]⟩,⟨[],[0,1,4,5,6]⟩,⟨[],[0,1,4,5,6,16]⟩,⟨[cz 0,(1,[4],[],true),cz 2,(3,[],[1],false),cz 4,cz 5,cz 6,cz 7],[0,1,4,5,6]⟩,⟨[],[0,1,4,5,6]⟩,⟨[],[0,4,5,28]⟩,⟨[],[0,4,5,30]⟩,⟨[],[0,4,5,30,33]⟩,⟨[],[4,5]⟩,⟨[],[0,4,5,30,41]⟩,⟨[],[4,5]⟩,⟨[],[4,5,49]⟩,⟨[],[4,5]⟩,⟨[],[4,5]⟩,⟨[],[4]⟩]
def aVF:List aW:=[.cell 4 3 true]
theorem aW3:aO Try.prog Try.f27 aWY=some (aVP,aVF):=by kernel_rfl
theorem aW2:aN Try.prog aVA Try.f27 aVP aVF:=
 aN.mk Try.func27 (by kernel_rfl) aW3
def at4:AC:=
 (.seq (.region [rq 0 4 (.alloc [OZ,OZ,OZ])] 1 [0,1,4])
 (.seq (.region [RM 0 6 0,
 rq 1 7 (.call lJ [(.tm 6),(ki 6)]),
 rq 2 5 (.alloc [OZ,OZ,OZ]),
 rn 3 (.store 3 true (.tm 5) (.tm 7))] 4 [0,1,4,5])
 (.seq (.seq (.region [RM 0 8 0,
 RM 1 9 1,
 rq 2 10 (.call kE [(.tm 8),(.tm 9)])] 3 [0,4,5,10])
 (.cond (.tm 10)
 (.seq (.region [RM 0 11 0,
 rq 1 12 (.call aD [(.tm 11),(ki 5)])] 2 [0,4,5,12])
 (.block 0
 (.seq (.region [rq 0 25 (.bin .eql (.tm 12) (ki 0)),
 RM 1 24 25] 2 [0,4,5,12,24])
 (.cond (.tm 24)
 (.region [RM 0 26 0,
 rq 1 27 (.call tN [(.tm 26),(ki 1)]),
 RF 2 28 0 5,
 rn 3 (.store 1 false (.tm 28) (.tm 27))] 4 [4,5])
 (.seq (.region [rq 0 30 (.bin .eql (.tm 12) (ki 1)),
 RM 1 29 30] 2 [0,4,5,12,29])
 (.cond (.tm 29)
 (.region [RF 0 31 1 5,
 ⟨1,(some 32),.load 1 false (.tm 31),none,[4],[],true⟩,
 RM 2 33 0,
 rq 4 35 (.bC 1 2 [VZ] [(0,1,(.kv (.int .i64 (-1)))),(1,1,(ki 4))]),
 RM 5 36 0,
 ⟨3,(some 34),.call aD [(.tm 33),(ki 4)],none,[4],[1],false⟩,
 ⟨6,(some 37),.call aD [(.tm 36),(ki 2)],none,[4],[1],false⟩,
 rq 7 38 (.idx 1 (.tm 35) (.tm 37)),
 RL 8 39 38,
 rq 9 40 (.idx 1 (.tm 32) (.tm 34)),
 rn 10 (.store 1 false (.tm 40) (.tm 39))] 11 [4,5])
 (.seq (.region [rq 0 42 (.bin .eql (.tm 12) (ki 2)),
 RM 1 41 42] 2 [0,4,5,12,41])
 (.cond (.tm 41)
 (.region [RF 0 43 1 5,
 RL 1 44 43,
 rq 2 45 (.slc 1 (.tm 44) (some (ki 1)) none none),
 RF 3 46 1 5,
 rn 4 (.store 1 false (.tm 46) (.tm 45))] 5 [4,5])
 (.seq (.region [rq 0 48 (.bin .eql (.tm 12) (ki 3)),
 RM 1 47 48] 2 [0,4,5,47])
 (.cond (.tm 47)
 (.region [RF 0 49 2 5,
 RL 1 50 49,
 rq 2 51 (.slc 1 (.tm 50) (some (ki 1)) none none),
 RF 3 52 2 5,
 rn 4 (.store 1 false (.tm 52) (.tm 51))] 5 [4,5])
 (.region [RF 0 13 2 5,
 ⟨1,(some 14),.load 1 false (.tm 13),none,[8],[],true⟩,
 RF 2 15 2 5,
 ⟨3,(some 16),.load 1 false (.tm 15),none,[8],[],true⟩,
 rq 4 17 (.idx 1 (.tm 16) (ki 0)),
 ⟨5,(some 18),.load 1 false (.tm 17),none,[8],[],true⟩,
 RM 6 19 0,
 ⟨7,(some 20),.call tS [(.tm 19),(ki 1)],none,[],[1,3,5],false⟩,
 rq 8 21 (.bC 7 1 [VZ,VZ,VZ,VZ,(.v (.bool false)),OZ,OZ] [(0,7,(.tm 20))]),
 ⟨9,(some 22),.append 7 (.tm 18) (.tm 21),none,[],[1],false⟩,
 rq 10 23 (.idx 1 (.tm 14) (ki 0)),
 rn 11 (.store 1 false (.tm 23) (.tm 22))] 12 [4,5])))))))))))
 .skip))
 (.seq (.region [rq 0 53 (.load 3 true (.tm 5)),
 rn 1 (.store 3 true (.tm 4) (.tm 53))] 2 [4])
 .ret))))
def aPU:List Cert:=[⟨[],[0,1,4]⟩,⟨[],[0,1,4,5]⟩,⟨[],[0,4,5,10]⟩,⟨[],[0,4,5,12]⟩,⟨[],[0,4,5,12,24]⟩,⟨[],[4,5]⟩,⟨[],[0,4,5,12,29]⟩,⟨[cz 0,(1,[4],[],true),cz 2,cz 4,cz 5,(3,[4],[1],false),(6,[4],[1],false),cz 7,cz 8,cz 9,cz 10],[4,5]⟩,⟨[],[0,4,5,12,41]⟩,⟨[],[4,5]⟩,⟨[],[0,4,5,47]⟩,⟨[],[4,5]⟩,⟨[cz 0,(1,[8],[],true),cz 2,(3,[8],[],true),cz 4,(5,[8],[],true),cz 6,(7,[],[1,3,5],false),cz 8,(9,[],[1],false),cz 10,cz 11],[4,5]⟩,⟨[],[4]⟩]
def aOA:List aW:=[.cell 4 3 true]
theorem aPQ:aO Try.prog Try.f28 aPU=some (at4,aOA):=by kernel_rfl
def aVN:AC:=
 (.seq (.region [rq 0 4 (.alloc [OZ])] 1 [0,1,4])
 (.seq (.region [rq 0 7 (.call v8 []),
 rq 1 5 (.alloc [OZ]),
 rn 2 (.store 1 true (.tm 5) (.tm 7))] 3 [0,1,4,5])
 (.seq (.seq (.region [RM 0 8 0,
 rq 1 9 (.call aD [(.tm 8),(ki 8)]),
 RM 2 6 9] 3 [0,1,4,5,6])
 (.block 0
 (.loop
 (.seq (.seq (.region [RM 0 10 6,
 rq 1 11 (.bin .gtr (.tm 10) (ki 0))] 2 [0,1,4,5,6,11])
 (.cond (.tm 11)
 .skip
 (.exit 0)))
 (.seq (.block 1
 (.region [RF 0 14 0 5,
 ⟨1,(some 15),.load 1 false (.tm 14),none,[],[],true⟩,
 RM 2 16 0,
 RM 4 18 0,
 ⟨3,(some 17),.call qM [(.tm 16)],none,[],[1],false⟩,
 ⟨5,(some 19),.call aD [(.tm 18),(ki 256)],none,[],[1],false⟩,
 rq 6 20 (.bin .mul (.tm 19) (ki 257)),
 rq 7 21 (.idx 1 (.tm 15) (.tm 17)),
 rn 8 (.store 1 false (.tm 21) (.tm 20))] 9 [0,1,4,5,6]))
 (.region [RM 0 12 6,
 rq 1 13 (.bin .sub (.tm 12) (ki 1)),
 RM 2 6 13] 3 [0,1,4,5,6]))))))
 (.seq (.seq (.region [RM 0 22 0,
 RM 1 23 1,
 rq 2 24 (.call kE [(.tm 22),(.tm 23)])] 3 [0,4,5,24])
 (.cond (.tm 24)
 (.seq (.region [RM 0 25 0,
 rq 1 26 (.call aD [(.tm 25),(ki 3)])] 2 [0,4,5,26])
 (.block 2
 (.seq (.region [rq 0 33 (.bin .eql (.tm 26) (ki 0)),
 RM 1 32 33] 2 [0,4,5,26,32])
 (.cond (.tm 32)
 (.region [RF 0 34 0 5,
 RL 1 35 34,
 rq 2 36 (.slc 1 (.tm 35) (some (ki 1)) none none),
 RF 3 37 0 5,
 rn 4 (.store 1 false (.tm 37) (.tm 36))] 5 [4,5])
 (.seq (.region [rq 0 39 (.bin .eql (.tm 26) (ki 1)),
 RM 1 38 39] 2 [0,4,5,38])
 (.cond (.tm 38)
 (.region [RF 0 40 0 5,
 ⟨1,(some 41),.load 1 false (.tm 40),none,[4],[],true⟩,
 RM 2 42 0,
 rq 4 44 (.bC 1 2 [VZ] [(0,1,(.kv (.int .i64 (-1)))),(1,1,(ki 65536))]),
 RM 5 45 0,
 ⟨3,(some 43),.call aD [(.tm 42),(ki 64)],none,[4],[1],false⟩,
 ⟨6,(some 46),.call aD [(.tm 45),(ki 2)],none,[4],[1],false⟩,
 rq 7 47 (.idx 1 (.tm 44) (.tm 46)),
 RL 8 48 47,
 rq 9 49 (.idx 1 (.tm 41) (.tm 43)),
 rn 10 (.store 1 false (.tm 49) (.tm 48))] 11 [4,5])
 (.region [RF 0 27 0 5,
 RL 1 28 27,
 rq 2 29 (.bC 1 1 [VZ] [(0,1,(ki 0))]),
 rq 3 30 (.append 1 (.tm 28) (.tm 29)),
 RF 4 31 0 5,
 rn 5 (.store 1 false (.tm 31) (.tm 30))] 6 [4,5])))))))
 .skip))
 (.seq (.region [rq 0 50 (.load 1 true (.tm 5)),
 rn 1 (.store 1 true (.tm 4) (.tm 50))] 2 [4])
 .ret)))))
def aWV:List Cert:=[⟨[],[0,1,4]⟩,⟨[],[0,1,4,5]⟩,⟨[],[0,1,4,5,6]⟩,⟨[],[0,1,4,5,6,11]⟩,⟨[cz 0,(1,[],[],true),cz 2,cz 4,(3,[],[1],false),(5,[],[1],false),cz 6,cz 7,cz 8],[0,1,4,5,6]⟩,⟨[],[0,1,4,5,6]⟩,⟨[],[0,4,5,24]⟩,⟨[],[0,4,5,26]⟩,⟨[],[0,4,5,26,32]⟩,⟨[],[4,5]⟩,⟨[],[0,4,5,38]⟩,⟨[cz 0,(1,[4],[],true),cz 2,cz 4,cz 5,(3,[4],[1],false),(6,[4],[1],false),cz 7,cz 8,cz 9,cz 10],[4,5]⟩,⟨[],[4,5]⟩,⟨[],[4]⟩]
def aVH:List aW:=[.cell 4 1 true]
theorem aWP:aO Try.prog Try.f45 aWV=some (aVN,aVH):=by kernel_rfl
theorem aWR:aN Try.prog aU9 Try.f45 aVN aVH:=
 aN.mk Try.func45 (by kernel_rfl) aWP
end Go.Proofs.Ytmccpdapaccnoaa
end
section
namespace Go.Proofs.Ytmccpdapaccnoaa
open Go Go.AM
set_option maxRecDepth 100000
set_option maxHeartbeats 16000000
section
variable {H : aA} {nx : Nat} {K : D → aA → Nat → Prop}
theorem aPB {l:List Int} {p:Nat} {Q:AQ} (hQ: ∀ex e2 H2 nx2 d nh d2 H3 F σ,ex=AEx.normal∨ex=AEx.ret→yT H2 e2 GO=some d→CvR 1 d H2 nh d2 H3 F σ→(nh=1∧ ∃o',H3=hp [(0,o')]∧C7 o'∧ ∃(p':Nat) (m:List Rng),o'=rdO l p'∧p≤p'∧p'≤p+20∧d2=dS (m.map eN)∧(m.length≤8))→Q ex e2 H2 nx2)
 {e2:Env} {H2:aA} {nx2 b n cap ext p':Nat} {rows:List (List D1)} {m:List Rng} (h1:yT H2 e2 GO=some (.one (.c (.osl 4 b 0 n cap)))) (h2:H2 0=some (rdO l p')) (h3:H2 b=some ⟨4,ext,rows⟩) (h4:p≤p') (h5:p'≤p+20) (h6:rows.take n=m.map eN) (h7:m.length≤8∧n≤cap∧b≠0∧n≤rows.length):Q .ret e2 H2 nx2:=by
 obtain⟨h7,h8,h9,h10⟩:=h7
 have hn:n=(m.map eN).length:=by rw[←h6];simp;omega
 exact lA hQ (dS (m.map eN)) _ _ h1 (DJ (rows:=m.map eN) (aG K3 _) hn h9 h3 rfl (by rw[←hn];exact h6) (by omega)) h2 (aV _ _) ⟨p',m,rfl,h4,h5,rfl,h7⟩
theorem aPJ (l:List Int) (p:Nat) (n:Int) (hn:0<n∧n<9000) (hl:kZ l) (hp50:p+1<2^50):aB Try.prog kE [bkP 2 0,dI n] (hp [(0,rdO l p)]) 1
 fun rr H' n'=>n'=1∧ ∃o',H'=hp [(0,o')]∧C7 o'∧ ∃(p':Nat) (b:Bool),o'=rdO l p'∧p≤p'∧p'≤p+1∧rr=dB b∧(True):=by
 refine LF rfl fun Q hQ=> ?_
 unfold rH
 repeat' (first| (with_reducible first| (refine hK _ _ _ ?_;clear hK K)|refine Z1 ?_)| (first| (with_reducible first|refine Y2 fun K hK=> ?_|refine Y4 (by omega) ?_)| (refine aX hl (by omega) (by omega) (by omega) rfl (fun x h1 h2=> ?_)))<;>(simp only[go_sem];try simp (disch:=omega) only[Iw])| ((with_reducible refine Y8 ?_);try simp only[AQ.then,AQ.blk,reduceIte,Nat.reduceEqDiff])|fail)
 exact lA hQ (dB _) _ _ rfl (aE rfl) rfl (aV _ _) ⟨_,_,rfl,by omega,by omega,rfl,trivial⟩
theorem d6 {l:List Int} {p i:Nat} {n:Int} (hn:0<n∧n<9000) (hl:kZ l) (hp50:p+1<2^50) (hi:i<nx) (ho:H i=some (rdO l p)) (h: ∀(p':Nat) (b:Bool),p≤p'→p'≤p+1→(True)→K (dB b) (H.set i (rdO l p')) nx):
 aB Try.prog kE [bkP 2 i,dI n] H nx K:=
 (aPJ l p n hn hl hp50).OU i rfl (gW ⟨DG (by omega) rfl,aE rfl,trivial⟩) hi ho (aV l p) fun r o' ⟨p',b,h1,h2,h3,h4,h5⟩=>by
  subst h1;subst h4;exact EW (A:=fun d=>K d (H.set i (rdO l p')) nx) rfl (h p' b h2 h3 h5)
theorem aQP (l:List Int) (p:Nat) (hl:kZ l) (hp50:p+20<2^50):aB Try.prog tN [bkP 2 0,dI 1] (hp [(0,rdO l p)]) 1
 fun rr H' n'=>n'=1∧ ∃o',H'=hp [(0,o')]∧C7 o'∧ ∃(p':Nat) (m:List Rng),o'=rdO l p'∧p≤p'∧p'≤p+20∧rr=dS (m.map eN)∧(m.length≤8):=by
 refine RN rfl fun Q hQ=> ?_
 unfold w9
 repeat' (first| (with_reducible first| (refine hK _ _ _ ?_;clear hK K)| (refine hA ?_;clear hA hB A B)| (refine hB ?_;clear hA hB A B)|refine Z1 ?_|refine Z2 ?_|refine Z3 fun KB hKB=> ?_|refine Z6 (fun h=> ?_) fun h=> ?_)| (first| (with_reducible first|refine Y2 fun K hK=> ?_|refine Y3 fun A B hA hB=> ?_)| (refine aX hl (by omega) (by omega) (by omega) rfl (fun x h1 h2=> ?_)))<;>(simp only[go_sem];try simp (disch:=omega) only[Iw])| ((with_reducible refine Y0 ?_);simp only[AQ.then,AQ.blk])|refine⟨by omega,?_⟩| (with_reducible refine hKB _ _ _ ?_)|fail)
 case' refine_2.refine_1=>(have hx:x=0∨x=1∨x=2:=by omega);rcases hx with rfl|rfl|rfl
 all_goals (refine(fun(h: ∀b:Bool,_)=>d6 (n:=1) (by omega) hl (by omega) (by omega) rfl (fun p1 b hp1 hp2 _=> ?_)) (fun _=>trivial);cases b)
 all_goals (simp only[go_sem];refine hK _ _ _ ?_;clear hK K)
 all_goals repeat' (first| (with_reducible first| (refine hK _ _ _ ?_;clear hK K)| (refine hA ?_;clear hA hB A B)| (refine hB ?_;clear hA hB A B)|refine Z1 ?_|refine Z2 ?_)| (with_reducible first|refine Y2 fun K hK=> ?_|refine Y3 fun A B hA hB=> ?_)<;>(simp only[go_sem])| ((with_reducible refine Y8 ?_);try simp only[AQ.then,AQ.blk,reduceIte,Nat.reduceEqDiff])|fail)
 all_goals first
  | (refine aX hl (by omega) (by omega) (by omega) rfl (fun k hk1 hk2=> ?_)
     have hk:k=0∨k=1∨k=2∨k=3:=by omega
     rcases hk with rfl|rfl|rfl|rfl
     all_goals first| (exfalso;omega)| (simp only[go_sem];refine hK _ _ _ ?_;clear hK K))
  |skip
 all_goals try repeat' (first| (with_reducible first| (refine hK _ _ _ ?_;clear hK K)| (refine hA ?_;clear hA hB A B)| (refine hB ?_;clear hA hB A B)|refine Z1 ?_|refine Z3 fun KB hKB=> ?_|refine Z6 (fun h=> ?_) fun h=> ?_|refine fun(cap:Nat) (hcap:_≤cap)=> ?_|refine fun(hcp:_≤cap)=> ?_)| (first| (with_reducible first|refine Y2 fun K hK=> ?_|refine Y3 fun A B hA hB=> ?_)| (refine aX hl (by omega) (by omega) (by omega) rfl (fun x h1 h2=> ?_)))<;>(simp only[go_sem];try simp (disch:=omega) only[Iw])| ((with_reducible refine Y8 ?_);try simp only[AQ.then,AQ.blk,reduceIte,Nat.reduceEqDiff])| ((with_reducible refine Y0 ?_);simp only[AQ.then,AQ.blk])|refine⟨by omega,?_⟩| (with_reducible refine hKB _ _ _ ?_)|fail)
 all_goals first
  | (have hx:x=0∨x=1∨x=2:=by omega
     rcases hx with rfl|rfl|rfl
     all_goals first| (exfalso;omega)| (simp only[go_sem];try simp (disch:=omega) only[Iw];(refine⟨by omega,hK _ _ _ ?_⟩;clear hK K);skip)|skip)
  |skip
 all_goals try refine⟨by omega,?_⟩
 all_goals try (refine hK _ _ _ ?_;clear hK K;repeat' (first| (with_reducible first| (refine hK _ _ _ ?_;clear hK K)|refine Z1 ?_)| (with_reducible refine Y2 fun K hK=> ?_)<;>(simp only[go_sem])| ((with_reducible refine Y8 ?_);try simp only[AQ.then,AQ.blk,reduceIte,Nat.reduceEqDiff])| ((with_reducible refine Y0 ?_);simp only[AQ.then,AQ.blk])| (with_reducible refine hKB _ _ _ ?_)|fail))
 all_goals first
  |exact aPB hQ (m:=[⟨_,_,_,_⟩]) rfl rfl rfl (by omega) (by omega) rfl ⟨by simp,by omega,by decide,by simp⟩
  |exact aPB hQ (m:=[⟨_,_,_,_⟩,⟨_,_,_,_⟩]) rfl rfl rfl (by omega) (by omega) rfl ⟨by simp,by omega,by decide,by simp⟩
  |exact aPB hQ (m:=[⟨_,_,_,_⟩,⟨_,_,_,_⟩,⟨_,_,_,_⟩]) rfl rfl rfl (by omega) (by omega) rfl ⟨by simp,by omega,by decide,by simp⟩
  |exact aPB hQ (m:=[⟨_,_,_,_⟩,⟨_,_,_,_⟩,⟨_,_,_,_⟩,⟨_,_,_,_⟩]) rfl rfl rfl (by omega) (by omega) rfl ⟨by simp,by omega,by decide,by simp⟩
  |exact aPB hQ (m:=[⟨_,_,_,_⟩,⟨_,_,_,_⟩,⟨_,_,_,_⟩,⟨_,_,_,_⟩,⟨_,_,_,_⟩]) rfl rfl rfl (by omega) (by omega) rfl ⟨by simp,by omega,by decide,by simp⟩
  |exact aPB hQ (m:=[⟨_,_,_,_⟩,⟨_,_,_,_⟩,⟨_,_,_,_⟩,⟨_,_,_,_⟩,⟨_,_,_,_⟩,⟨_,_,_,_⟩]) rfl rfl rfl (by omega) (by omega) rfl ⟨by simp,by omega,by decide,by simp⟩
  |exact aPB hQ (m:=[⟨_,_,_,_⟩,⟨_,_,_,_⟩,⟨_,_,_,_⟩,⟨_,_,_,_⟩,⟨_,_,_,_⟩,⟨_,_,_,_⟩,⟨_,_,_,_⟩]) rfl rfl rfl (by omega) (by omega) rfl ⟨by simp,by omega,by decide,by simp⟩
theorem aQQ {l:List Int} {p i:Nat} (hl:kZ l) (hp50:p+20<2^50) (hi:i<nx) (ho:H i=some (rdO l p)) (h: ∀(p':Nat) (m:List Rng),p≤p'→p'≤p+20→(m.length≤8)→K (dS (m.map eN)) (H.set i (rdO l p')) nx):
 aB Try.prog tN [bkP 2 i,dI 1] H nx K:=
 (aQP l p hl hp50).OU i rfl (gW ⟨DG (by omega) rfl,aE rfl,trivial⟩) hi ho (aV l p) fun r o' ⟨p',m,h1,h2,h3,h4,h5⟩=>by
  subst h1;subst h4;exact EW (A:=fun d=>K d (H.set i (rdO l p')) nx) rfl (h p' m h2 h3 h5)
end
end Go.Proofs.Ytmccpdapaccnoaa
end
