/- Texts laid together by a program: rules, contracts and the walk that leads to the law. -/
import Derived.Test.YtmccpdapaccnoaaPG17
import Derived.Test.YtmccpdapaccnoaaPG11
set_option linter.unusedVariables false
set_option linter.unusedSimpArgs false
set_option linter.unusedSectionVars false
namespace Go.AM
def blD (c:Cfg) (f:CSt→Nat→Option Mic) (l:List Nat) (s S:CSt):Prop:=dR c s (vE c f s l)=S
theorem blD.next {c:Cfg} {f:CSt→Nat→Option Mic} {s S:CSt} {k:Nat} {l:List Nat} (h:blD c f (k::l) s S):blD c f l (atS c s (f s k)) S:=by
 unfold blD at h
 cases hf:f s k with
 |none=>rw[GZ hf] at h;exact h
 |some m=>rw[NH hf] at h;exact h
theorem blD.nil {c:Cfg} {f:CSt→Nat→Option Mic} {s S:CSt} (h:blD c f [] s S):s=S:=h
theorem bj1 {c:Cfg} {s:CSt} {o:Option Mic} (hb:aQ c) (hs:COk c s) (h: ∀m,o=some m→EH c s m):COk c (atS c s o):=by
 cases o with
 |none=>exact hs
 |some m=>exact o9 hb hs (h m rfl)
theorem bgJ.sub {X X2:Nat→Prop} {H:aA} {nx:Nat} {nm:Nat→Nat} {s:CSt} {cells:List D1} (h:bgJ X2 H nx nm s cells) (hs: ∀id,X id→X2 id):bgJ X H nx nm s cells:=
 ⟨h.rep,⟨h.names.inj,h.names.lt,fun k hk hn=>h.names.av k hk (hs _ hn)⟩,fun id hid=>h.x id (hs id hid)⟩
theorem blD.none {c:Cfg} {f:CSt→Nat→Option Mic} {s S:CSt} {k:Nat} {l:List Nat} (h:blD c f (k::l) s S) (hf:f s k=none):blD c f l s S:=by
 have:=h.next
 rwa [hf] at this
theorem LV.bkK {c:Cfg} {s S:CSt} {u:List Bool} {k:Nat} {l:List Nat} (hl:LV c (k::l) s u S):LV c l (Go.Proofs.Ytmccpdapaccnoaa.bhV c s u k).1 (Go.Proofs.Ytmccpdapaccnoaa.bhV c s u k).2 S:=by
 unfold Go.Proofs.Ytmccpdapaccnoaa.bhV
 cases h:AO c s u k with
 |none=>exact hl.none h
 |some who=>exact hl.some h
end Go.AM
namespace Go.Proofs.Ytmccpdapaccnoaa
open Go Go.AM
set_option maxRecDepth 100000
set_option maxHeartbeats 8000000
section
variable {H : aA} {nx : Nat} {K : D → aA → Nat → Prop}
theorem bkC {c:Cfg} {s:CSt} {u:List Bool} {st:Nat} (hb:aQ c) (hs:COk c s) (hst:st<4) (hu:u.length=3):COk c (bhV c s u st).1∧(bhV c s u st).2.length=3:=by
 unfold bhV
 cases h:AO c s u st with
 |none=>exact⟨hs,hu⟩
 |some who=>exact⟨o9 hb hs (XH hst h),by simpa using hu⟩
theorem biI:cJ Try.prog bgZ Try.f42 bgT bhK:=cJ.mk Try.func42 (by kernel_rfl) biJ
theorem bi3 {X:Nat→Prop} {c:Cfg} {i:CIn} {s:CSt} {nm:Nat→Nat} {cells:List D1} (hb:aQ c) (hs:COk c s) (hi:vZ i) (hR:bgJ X H nx nm s cells)
 (h: ∀H' nx' nm' cells',nx≤nx'→bgJ X H' nx' nm' (vF c i s) cells'→(∀id,X id→H' id=H id)→K (dA cells') H' nx'):
 aB Try.prog bgZ [dA (cU c),dA cells,dA (eIn i)] H nx K:=by
 refine biI rfl fun Q hQ=> ?_
 unfold bgT
 have hX:=hR.x
 obtain⟨hp3,hpr⟩:=hC hb
 obtain⟨hi1,hi2,hi3⟩:=hi
 obtain⟨X',hX'⟩: ∃X':Nat→Prop,X'=fun id=>X id∨id=nx∨id=nx+1∨id=nx+2∨id=nx+3:=⟨_,rfl⟩
 have x0:X' nx:=by rw[hX'];exact .inr (.inl rfl)
 have x1:X' (nx+1):=by rw[hX'];exact .inr (.inr (.inl rfl))
 have x2:X' (nx+2):=by rw[hX'];exact .inr (.inr (.inr (.inl rfl)))
 have aYM:X' (nx+3):=by rw[hX'];exact .inr (.inr (.inr (.inr rfl)))
 have blE: ∀id,X id→X' id:=fun id h=>by rw[hX'];exact .inl h
 have hXn: ∀id,X' id→id<nx∧X id∨nx≤id∧id≤nx+3:=fun id h=>by
  rw[hX'] at h
  rcases h with h|h|h|h|h
  ·exact .inl ⟨hX id h,h⟩
  all_goals exact .inr (by omega)
 have hRc:=hR
 obtain⟨wc,hc,pc,vc,tc,mp,rp,mv,rv,hcell,g1,g2,g3,g4,g5,bkU,bkV,g8,g9,ga,gb⟩:=hR.get
 subst hcell
 repeat' (first| (with_reducible first| (refine hK _ _ _ ?_;clear hK K)| (refine hA ?_;clear hA hB A B)| (refine hB ?_;clear hA hB A B)|refine Z1 ?_|refine Z2 ?_|refine Z3 fun KB hKB=> ?_|refine Z4 (by omega) ?_|refine Z5 (by omega) ?_|refine Z6 (fun h=> ?_) fun h=> ?_|refine Z7 (fun h=> ?_) fun h=> ?_|refine fun(cap:Nat) (hcap:_≤cap)=> ?_|refine fun(hcp:_≤cap)=> ?_|refine fun(b:Bool)=> ?_|refine hKX _ _ _ ?_|refine hKY _ _ _ ?_|refine hKZ _ _ _ ?_)| (with_reducible first|refine Y1 fun K hK=> ?_|refine Y2 fun K hK=> ?_|refine Y3 fun A B hA hB=> ?_|refine Y4 (by omega) ?_|refine Y5 (by omega) ?_|refine Y6 (fun h=> ?_) fun h=> ?_| (refine Y7 (fun h=> ?_) (fun h=> ?_)<;>try subst h))<;>(simp only[go_sem,Nat.add_assoc,Nat.left_eq_add,Nat.add_eq_left];try simp (disch:=omega) only[Iw])| ((with_reducible first|refine Y8 ?_|refine Y9 ?_);try simp only[AQ.then,AQ.blk,reduceIte,Nat.reduceEqDiff])| ((with_reducible refine Y0 ?_);simp only[AQ.then,AQ.blk])| ((with_reducible refine Z8 (fun h=> ?_) (fun h=> ?_))<;>try subst h)|refine⟨by omega,?_⟩| (refine⟨by(rw[List.length_take];omega),?_⟩)| (with_reducible first|refine hKB _ _ _ ?_| (clear hKB KB;refine hKB _ _ _ ?_)| (clear hKB KB;clear hKB KB;refine hKB _ _ _ ?_))|fail)
 (have hKX:=hKB;clear hKB)
 refine aM.aTJ fun G hG=> ?_
 have bfZ:G nx=some ⟨3,1,[cU c]⟩:=by rw[hG,aA.aC (by omega),aA.aC (by omega),aA.aC (by omega)];exact aA.bH
 have f1:G (nx+1)=some ⟨5,1,[[.osl 1 (nm 0) 0 s.words.length wc,.osl 1 (nm 1) 0 s.holds.length hc,.osl 4 (nm 2) 0 3 pc,.osl 3 (nm 3) 0 4 vc,.osl 5 (nm 4) 0 s.told.length tc]]⟩:=by rw[hG,aA.aC (by omega),aA.aC (by omega)];exact aA.bH
 have f2:G (nx+2)=some ⟨3,1,[eIn i]⟩:=by rw[hG,aA.aC (by omega)];exact aA.bH
 have f3:G (nx+3)=some ⟨5,1,[[D1.osl 0 0 0 0 0,D1.osl 0 0 0 0 0,D1.osl 0 0 0 0 0,D1.osl 0 0 0 0 0,D1.osl 0 0 0 0 0]]⟩:=by rw[hG];exact aA.bH
 have ff: ∀id,id<nx→G id=H id:=fun id hid=>by rw[hG,aA.aC (by omega),aA.aC (by omega),aA.aC (by omega),aA.aC (by omega)]
 clear hG
 have hR0:bgJ X' G (nx+4) nm s [.osl 1 (nm 0) 0 s.words.length wc,.osl 1 (nm 1) 0 s.holds.length hc,.osl 4 (nm 2) 0 3 pc,.osl 3 (nm 3) 0 4 vc,.osl 5 (nm 4) 0 s.told.length tc]:=
  ⟨hRc.rep.frame fun k hk=>ff _ (hRc.names.lt k hk),⟨hRc.names.inj,fun k hk=>by have:=hRc.names.lt k hk;omega,fun k hk hn=>by
   have h1:=hRc.names.lt k hk
   rcases hXn _ hn with⟨_,h2⟩|h2
   ·exact hRc.names.av k hk h2
   ·omega⟩,fun id hid=>by rcases hXn id hid with h|h<;>omega⟩
 clear hR hRc g1 g2 g3 g4 g5 bkU bkV g8 g9 ga gb
 refine aM.gP (β:=Nat×(Nat→Nat)×List D1×CSt) (fun u=>en [(7,dI u.1),(6,.one (.c (.ptr 5 (nx+3) 0 0))),(5,.one (.c (.ptr 3 (nx+2) 0 0))),(4,.one (.c (.ptr 5 (nx+1) 0 0))),(3,.one (.c (.ptr 3 nx 0 0)))])
  (fun u H1 nx1=>u.1≤3∧COk c u.2.2.2∧bgJ X' H1 nx1 u.2.1 u.2.2.2 u.2.2.1∧H1 (nx+1)=some ⟨5,1,[u.2.2.1]⟩∧blD c (vT i) ([0,1,2].drop u.1) u.2.2.2 (CW c i s)∧ ∀id,X' id→id≠nx+1→H1 id=G id) (fun u=>3-u.1) (0,nm,_,s)
  ⟨noF,_,by repeat' (first| (with_reducible first|exact C1|refine C2 ?_ ?_|exact C3|refine C4 ?_ ?_|refine aUP ?_ ?_|refine bfY ?_ ?_ ?_|refine aUQ ?_|refine aUR ?_)| ((with_reducible refine C0 ?_);first|exact CB rfl|exact CC| (exact CQ (by omega) rfl rfl (by first|rfl| (simp;done)|omega| (dsimp only;omega)) rfl)|exact CE (by omega) rfl|exact CR (by omega) rfl|exact CF|exact CH (by first|rfl|assumption)| (exact CG (by first|rfl| (simp;done)| (congr 2;omega)| ((try dsimp only);exact dbT (by omega))| ((try dsimp only);exact dbF (by omega))| ((try dsimp only);exact(dbT (by omega)).symm)| ((try dsimp only);exact(dbF (by omega)).symm)| ((try dsimp only);exact dbE (by omega))| ((try dsimp only);exact diE (by omega))) rfl))| ((with_reducible refine D0 ?_);first|exact CA rfl|exact CI rfl (by simp) rfl rfl rfl|refine C9 ?_|refine CJ ?_)|exact C3|refine C4 ?_ ?_|fail),aK,by dsimp only;omega,hs,hR0.frame (by omega) (fun _ _ _=>rfl),f1,rfl,fun _ _ _=>rfl⟩ ?_
 rintro⟨k,nm1,cl1,s1⟩ H1 nx1 hnx1 ⟨hk,hs1,hR1,e1,hL,hfr⟩ KL hKL
 dsimp only at hk hs1 hR1 e1 hL hfr
 have e0:=(hfr nx x0 (by omega)).trans bfZ
 have e2:=(hfr (nx+2) x2 (by omega)).trans f2
 have e3:=(hfr (nx+3) aYM (by omega)).trans f3
 obtain⟨wc,hc,pc,vc,tc,mp,rp,mv,rv,hcell,g1,g2,g3,g4,g5,bkU,bkV,g8,g9,ga,gb⟩:=hR1.get
 subst hcell
 have hB:bQ nx1 [nx,nx+1,nx+2,nx+3]:=AM.apart (by simp) (by simp;omega)
 simp only[bQ,eZ] at hB
 by_cases hlt:k<3
 ·rw[ap4 hlt] at hL
  cases hr:i.ready.getD k default with
  |false=>
   repeat' (first| (with_reducible first| (refine hK _ _ _ ?_;clear hK K)| (refine hA ?_;clear hA hB A B)| (refine hB ?_;clear hA hB A B)|refine Z1 ?_|refine Z2 ?_|refine Z3 fun KB hKB=> ?_|refine Z4 (by omega) ?_|refine Z5 (by omega) ?_|refine Z6 (fun h=> ?_) fun h=> ?_|refine Z7 (fun h=> ?_) fun h=> ?_|refine fun(cap:Nat) (hcap:_≤cap)=> ?_|refine fun(hcp:_≤cap)=> ?_|refine fun(b:Bool)=> ?_|refine hKX _ _ _ ?_|refine hKY _ _ _ ?_|refine hKZ _ _ _ ?_)| (with_reducible first|refine Y1 fun K hK=> ?_|refine Y2 fun K hK=> ?_|refine Y3 fun A B hA hB=> ?_|refine Y4 (by omega) ?_|refine Y5 (by omega) ?_|refine Y6 (fun h=> ?_) fun h=> ?_| (refine Y7 (fun h=> ?_) (fun h=> ?_)<;>try subst h))<;>(simp only[go_sem,Nat.add_assoc,Nat.left_eq_add,Nat.add_eq_left,e0,e1,e2,hr,hB];try simp (disch:=omega) only[Iw])| ((with_reducible first|refine Y8 ?_|refine Y9 ?_);try simp only[AQ.then,AQ.blk,reduceIte,Nat.reduceEqDiff])| ((with_reducible refine Y0 ?_);simp only[AQ.then,AQ.blk])| ((with_reducible refine Z8 (fun h=> ?_) (fun h=> ?_))<;>try subst h)|refine⟨by omega,?_⟩| (refine⟨by(rw[List.length_take];omega),?_⟩)| (with_reducible first|refine hKB _ _ _ ?_| (clear hKB KB;refine hKB _ _ _ ?_)| (clear hKB KB;clear hKB KB;refine hKB _ _ _ ?_))|fail)
   all_goals exact hKL _ _ _ (k+1,nm1,_,s1) noF _ (by omega) (by dsimp only;omega) (by repeat' (first| (with_reducible first|exact C1|refine C2 ?_ ?_|exact C3|refine C4 ?_ ?_|refine aUP ?_ ?_|refine bfY ?_ ?_ ?_|refine aUQ ?_|refine aUR ?_)| ((with_reducible refine C0 ?_);first|exact CB rfl|exact CC| (exact CQ (by omega) rfl rfl (by first|rfl| (simp;done)|omega| (dsimp only;omega)) rfl)|exact CE (by omega) rfl|exact CR (by omega) rfl|exact CF|exact CH (by first|rfl|assumption)| (exact CG (by first|rfl| (simp;done)| (congr 2;omega)| ((try dsimp only);exact dbT (by omega))| ((try dsimp only);exact dbF (by omega))| ((try dsimp only);exact(dbT (by omega)).symm)| ((try dsimp only);exact(dbF (by omega)).symm)| ((try dsimp only);exact dbE (by omega))| ((try dsimp only);exact diE (by omega))) rfl))| ((with_reducible refine D0 ?_);first|exact CA rfl|exact CI rfl (by simp) rfl rfl rfl|refine C9 ?_|refine CJ ?_)|exact C3|refine C4 ?_ ?_|fail)) aK ⟨by dsimp only;omega,hs1,hR1.frame (by omega) (fun _ _ _=>rfl),e1,hL.none (agJ hr),hfr⟩
  |true=>
   repeat' (first| (with_reducible first| (refine hK _ _ _ ?_;clear hK K)| (refine hA ?_;clear hA hB A B)| (refine hB ?_;clear hA hB A B)|refine Z1 ?_|refine Z2 ?_|refine Z3 fun KB hKB=> ?_|refine Z4 (by omega) ?_|refine Z5 (by omega) ?_|refine Z6 (fun h=> ?_) fun h=> ?_|refine Z7 (fun h=> ?_) fun h=> ?_|refine fun(cap:Nat) (hcap:_≤cap)=> ?_|refine fun(hcp:_≤cap)=> ?_|refine fun(b:Bool)=> ?_|refine hKX _ _ _ ?_|refine hKY _ _ _ ?_|refine hKZ _ _ _ ?_)| (with_reducible first|refine Y1 fun K hK=> ?_|refine Y2 fun K hK=> ?_|refine Y3 fun A B hA hB=> ?_|refine Y4 (by omega) ?_|refine Y5 (by omega) ?_|refine Y6 (fun h=> ?_) fun h=> ?_| (refine Y7 (fun h=> ?_) (fun h=> ?_)<;>try subst h))<;>(simp only[go_sem,Nat.add_assoc,Nat.left_eq_add,Nat.add_eq_left,e0,e1,e2,hr,hB];try simp (disch:=omega) only[Iw])| ((with_reducible first|refine Y8 ?_|refine Y9 ?_);try simp only[AQ.then,AQ.blk,reduceIte,Nat.reduceEqDiff])| ((with_reducible refine Y0 ?_);simp only[AQ.then,AQ.blk])| ((with_reducible refine Z8 (fun h=> ?_) (fun h=> ?_))<;>try subst h)|refine⟨by omega,?_⟩| (refine⟨by(rw[List.length_take];omega),?_⟩)| (with_reducible first|refine hKB _ _ _ ?_| (clear hKB KB;refine hKB _ _ _ ?_)| (clear hKB KB;clear hKB KB;refine hKB _ _ _ ?_))|fail)
   refine bjM (X:=X') hb hs1 hlt hr (hR1.frame (nx':=nx1+11) (by omega) (fun _ _ _=>rfl)) fun H' nx' nm' cells' hx' hR' hf'=> ?_
   have q1:=(hf' (nx+1) x1).trans e1
   obtain⟨wc',hc',pc',vc',tc',_,_,_,_,hcell',_⟩:=hR'.get
   subst hcell'
   have hs':=bj1 hb hs1 (o:=vT i s1 k) (fun m hm=>TB hs1 hlt hm)
   (try simp only[go_sem,Nat.add_assoc,Nat.left_eq_add,Nat.add_eq_left,q1]);repeat' (first| (with_reducible first| (refine hK _ _ _ ?_;clear hK K)| (refine hA ?_;clear hA hB A B)| (refine hB ?_;clear hA hB A B)|refine Z1 ?_|refine Z2 ?_|refine Z3 fun KB hKB=> ?_|refine Z4 (by omega) ?_|refine Z5 (by omega) ?_|refine Z6 (fun h=> ?_) fun h=> ?_|refine Z7 (fun h=> ?_) fun h=> ?_|refine fun(cap:Nat) (hcap:_≤cap)=> ?_|refine fun(hcp:_≤cap)=> ?_|refine fun(b:Bool)=> ?_|refine hKX _ _ _ ?_|refine hKY _ _ _ ?_|refine hKZ _ _ _ ?_)| (with_reducible first|refine Y1 fun K hK=> ?_|refine Y2 fun K hK=> ?_|refine Y3 fun A B hA hB=> ?_|refine Y4 (by omega) ?_|refine Y5 (by omega) ?_|refine Y6 (fun h=> ?_) fun h=> ?_| (refine Y7 (fun h=> ?_) (fun h=> ?_)<;>try subst h))<;>(simp only[go_sem,Nat.add_assoc,Nat.left_eq_add,Nat.add_eq_left,q1];try simp (disch:=omega) only[Iw])| ((with_reducible first|refine Y8 ?_|refine Y9 ?_);try simp only[AQ.then,AQ.blk,reduceIte,Nat.reduceEqDiff])| ((with_reducible refine Y0 ?_);simp only[AQ.then,AQ.blk])| ((with_reducible refine Z8 (fun h=> ?_) (fun h=> ?_))<;>try subst h)|refine⟨by omega,?_⟩| (refine⟨by(rw[List.length_take];omega),?_⟩)| (with_reducible first|refine hKB _ _ _ ?_| (clear hKB KB;refine hKB _ _ _ ?_)| (clear hKB KB;clear hKB KB;refine hKB _ _ _ ?_))|fail)
   exact hKL _ _ _ (k+1,nm',_,atS c s1 (vT i s1 k)) noF _ (by omega) (by dsimp only;omega) (by repeat' (first| (with_reducible first|exact C1|refine C2 ?_ ?_|exact C3|refine C4 ?_ ?_|refine aUP ?_ ?_|refine bfY ?_ ?_ ?_|refine aUQ ?_|refine aUR ?_)| ((with_reducible refine C0 ?_);first|exact CB rfl|exact CC| (exact CQ (by omega) rfl rfl (by first|rfl| (simp;done)|omega| (dsimp only;omega)) rfl)|exact CE (by omega) rfl|exact CR (by omega) rfl|exact CF|exact CH (by first|rfl|assumption)| (exact CG (by first|rfl| (simp;done)| (congr 2;omega)| ((try dsimp only);exact dbT (by omega))| ((try dsimp only);exact dbF (by omega))| ((try dsimp only);exact(dbT (by omega)).symm)| ((try dsimp only);exact(dbF (by omega)).symm)| ((try dsimp only);exact dbE (by omega))| ((try dsimp only);exact diE (by omega))) rfl))| ((with_reducible refine D0 ?_);first|exact CA rfl|exact CI rfl (by simp) rfl rfl rfl|refine C9 ?_|refine CJ ?_)|exact C3|refine C4 ?_ ?_|fail)) aK ⟨by dsimp only;omega,hs',hR'.frame (by omega) (fun id h1 h2=>aA.aC fun he=>h2 (he▸x1)),aA.bH,hL.next,fun id hid hne=>by rw[aA.aC hne,hf' id hid];exact hfr id hid hne⟩
 ·have hk3:k=3:=by omega
  subst hk3
  have hL:=blD.nil hL
  subst hL
  repeat' (first| (with_reducible first| (refine hK _ _ _ ?_;clear hK K)| (refine hA ?_;clear hA hB A B)| (refine hB ?_;clear hA hB A B)|refine Z1 ?_|refine Z2 ?_|refine Z3 fun KB hKB=> ?_|refine Z4 (by omega) ?_|refine Z5 (by omega) ?_|refine Z6 (fun h=> ?_) fun h=> ?_|refine Z7 (fun h=> ?_) fun h=> ?_|refine fun(cap:Nat) (hcap:_≤cap)=> ?_|refine fun(hcp:_≤cap)=> ?_|refine fun(b:Bool)=> ?_|refine hKX _ _ _ ?_|refine hKY _ _ _ ?_|refine hKZ _ _ _ ?_)| (with_reducible first|refine Y1 fun K hK=> ?_|refine Y2 fun K hK=> ?_|refine Y3 fun A B hA hB=> ?_|refine Y4 (by omega) ?_|refine Y5 (by omega) ?_|refine Y6 (fun h=> ?_) fun h=> ?_| (refine Y7 (fun h=> ?_) (fun h=> ?_)<;>try subst h))<;>(simp only[go_sem];try simp (disch:=omega) only[Iw])| ((with_reducible first|refine Y8 ?_|refine Y9 ?_);try simp only[AQ.then,AQ.blk,reduceIte,Nat.reduceEqDiff])| ((with_reducible refine Y0 ?_);simp only[AQ.then,AQ.blk])| ((with_reducible refine Z8 (fun h=> ?_) (fun h=> ?_))<;>try subst h)|refine⟨by omega,?_⟩| (refine⟨by(rw[List.length_take];omega),?_⟩)| (with_reducible first|refine hKB _ _ _ ?_| (clear hKB KB;refine hKB _ _ _ ?_)| (clear hKB KB;clear hKB KB;refine hKB _ _ _ ?_))|fail)
  (have hKY:=hKB;clear hKB)
  refine aM.gP (β:=Nat×(Nat→Nat)×List D1×CSt) (fun u=>en [(8,dI u.1),(6,.one (.c (.ptr 5 (nx+3) 0 0))),(5,.one (.c (.ptr 3 (nx+2) 0 0))),(4,.one (.c (.ptr 5 (nx+1) 0 0))),(3,.one (.c (.ptr 3 nx 0 0)))])
   (fun u H1 nx1=>u.1≤4∧COk c u.2.2.2∧bgJ X' H1 nx1 u.2.1 u.2.2.2 u.2.2.1∧H1 (nx+1)=some ⟨5,1,[u.2.2.1]⟩∧blD c (qW i) ([0,1,2,3].drop u.1) u.2.2.2 (QD c i s)∧ ∀id,X' id→id≠nx+1→H1 id=G id) (fun u=>4-u.1) (0,nm1,_,CW c i s)
   ⟨noF,_,by repeat' (first| (with_reducible first|exact C1|refine C2 ?_ ?_|exact C3|refine C4 ?_ ?_|refine aUP ?_ ?_|refine bfY ?_ ?_ ?_|refine aUQ ?_|refine aUR ?_)| ((with_reducible refine C0 ?_);first|exact CB rfl|exact CC| (exact CQ (by omega) rfl rfl (by first|rfl| (simp;done)|omega| (dsimp only;omega)) rfl)|exact CE (by omega) rfl|exact CR (by omega) rfl|exact CF|exact CH (by first|rfl|assumption)| (exact CG (by first|rfl| (simp;done)| (congr 2;omega)| ((try dsimp only);exact dbT (by omega))| ((try dsimp only);exact dbF (by omega))| ((try dsimp only);exact(dbT (by omega)).symm)| ((try dsimp only);exact(dbF (by omega)).symm)| ((try dsimp only);exact dbE (by omega))| ((try dsimp only);exact diE (by omega))) rfl))| ((with_reducible refine D0 ?_);first|exact CA rfl|exact CI rfl (by simp) rfl rfl rfl|refine C9 ?_|refine CJ ?_)|exact C3|refine C4 ?_ ?_|fail),aK,by dsimp only;omega,hs1,hR1.frame (by omega) (fun _ _ _=>rfl),e1,rfl,hfr⟩ ?_
  clear hR1 e1 hfr e0 e2 e3 hB g1 g2 g3 g4 g5 bkU bkV g8 g9 ga gb hs1
  rintro⟨k,nm2,cl2,s2⟩ H2 nx2 hnx2 ⟨hk,hs2,hR2,e1,hL,hfr⟩ KM hKM
  dsimp only at hk hs2 hR2 e1 hL hfr
  have e0:=(hfr nx x0 (by omega)).trans bfZ
  have e2:=(hfr (nx+2) x2 (by omega)).trans f2
  obtain⟨wc,hc,pc,vc,tc,mp,rp,mv,rv,hcell,g1,g2,g3,g4,g5,bkU,bkV,g8,g9,ga,gb⟩:=hR2.get
  subst hcell
  have hB:bQ nx2 [nx,nx+1,nx+2,nx+3]:=AM.apart (by simp) (by simp;omega)
  simp only[bQ,eZ] at hB
  by_cases hlt:k<4
  ·rw[apX hlt] at hL
   cases hr:i.n9.getD k default with
   |true=>
    repeat' (first| (with_reducible first| (refine hK _ _ _ ?_;clear hK K)| (refine hA ?_;clear hA hB A B)| (refine hB ?_;clear hA hB A B)|refine Z1 ?_|refine Z2 ?_|refine Z3 fun KB hKB=> ?_|refine Z4 (by omega) ?_|refine Z5 (by omega) ?_|refine Z6 (fun h=> ?_) fun h=> ?_|refine Z7 (fun h=> ?_) fun h=> ?_|refine fun(cap:Nat) (hcap:_≤cap)=> ?_|refine fun(hcp:_≤cap)=> ?_|refine fun(b:Bool)=> ?_|refine hKX _ _ _ ?_|refine hKY _ _ _ ?_|refine hKZ _ _ _ ?_)| (with_reducible first|refine Y1 fun K hK=> ?_|refine Y2 fun K hK=> ?_|refine Y3 fun A B hA hB=> ?_|refine Y4 (by omega) ?_|refine Y5 (by omega) ?_|refine Y6 (fun h=> ?_) fun h=> ?_| (refine Y7 (fun h=> ?_) (fun h=> ?_)<;>try subst h))<;>(simp only[go_sem,Nat.add_assoc,Nat.left_eq_add,Nat.add_eq_left,e0,e1,e2,hr,hB];try simp (disch:=omega) only[Iw])| ((with_reducible first|refine Y8 ?_|refine Y9 ?_);try simp only[AQ.then,AQ.blk,reduceIte,Nat.reduceEqDiff])| ((with_reducible refine Y0 ?_);simp only[AQ.then,AQ.blk])| ((with_reducible refine Z8 (fun h=> ?_) (fun h=> ?_))<;>try subst h)|refine⟨by omega,?_⟩| (refine⟨by(rw[List.length_take];omega),?_⟩)| (with_reducible first|refine hKB _ _ _ ?_| (clear hKB KB;refine hKB _ _ _ ?_)| (clear hKB KB;clear hKB KB;refine hKB _ _ _ ?_))|fail)
    all_goals exact hKM _ _ _ (k+1,nm2,_,s2) noF _ (by omega) (by dsimp only;omega) (by repeat' (first| (with_reducible first|exact C1|refine C2 ?_ ?_|exact C3|refine C4 ?_ ?_|refine aUP ?_ ?_|refine bfY ?_ ?_ ?_|refine aUQ ?_|refine aUR ?_)| ((with_reducible refine C0 ?_);first|exact CB rfl|exact CC| (exact CQ (by omega) rfl rfl (by first|rfl| (simp;done)|omega| (dsimp only;omega)) rfl)|exact CE (by omega) rfl|exact CR (by omega) rfl|exact CF|exact CH (by first|rfl|assumption)| (exact CG (by first|rfl| (simp;done)| (congr 2;omega)| ((try dsimp only);exact dbT (by omega))| ((try dsimp only);exact dbF (by omega))| ((try dsimp only);exact(dbT (by omega)).symm)| ((try dsimp only);exact(dbF (by omega)).symm)| ((try dsimp only);exact dbE (by omega))| ((try dsimp only);exact diE (by omega))) rfl))| ((with_reducible refine D0 ?_);first|exact CA rfl|exact CI rfl (by simp) rfl rfl rfl|refine C9 ?_|refine CJ ?_)|exact C3|refine C4 ?_ ?_|fail)) aK ⟨by dsimp only;omega,hs2,hR2.frame (by omega) (fun _ _ _=>rfl),e1,hL.none (aa0 (.inl hr)),hfr⟩
   |false=>
    repeat' (first| (with_reducible first| (refine hK _ _ _ ?_;clear hK K)| (refine hA ?_;clear hA hB A B)| (refine hB ?_;clear hA hB A B)|refine Z1 ?_|refine Z2 ?_|refine Z3 fun KB hKB=> ?_|refine Z4 (by omega) ?_|refine Z5 (by omega) ?_|refine Z6 (fun h=> ?_) fun h=> ?_|refine Z7 (fun h=> ?_) fun h=> ?_|refine fun(cap:Nat) (hcap:_≤cap)=> ?_|refine fun(hcp:_≤cap)=> ?_|refine fun(b:Bool)=> ?_|refine hKX _ _ _ ?_|refine hKY _ _ _ ?_|refine hKZ _ _ _ ?_)| (with_reducible first|refine Y1 fun K hK=> ?_|refine Y2 fun K hK=> ?_|refine Y3 fun A B hA hB=> ?_|refine Y4 (by omega) ?_|refine Y5 (by omega) ?_|refine Y6 (fun h=> ?_) fun h=> ?_| (refine Y7 (fun h=> ?_) (fun h=> ?_)<;>try subst h))<;>(simp only[go_sem,Nat.add_assoc,Nat.left_eq_add,Nat.add_eq_left,e0,e1,e2,hr,hB];try simp (disch:=omega) only[Iw])| ((with_reducible first|refine Y8 ?_|refine Y9 ?_);try simp only[AQ.then,AQ.blk,reduceIte,Nat.reduceEqDiff])| ((with_reducible refine Y0 ?_);simp only[AQ.then,AQ.blk])| ((with_reducible refine Z8 (fun h=> ?_) (fun h=> ?_))<;>try subst h)|refine⟨by omega,?_⟩| (refine⟨by(rw[List.length_take];omega),?_⟩)| (with_reducible first|refine hKB _ _ _ ?_| (clear hKB KB;refine hKB _ _ _ ?_)| (clear hKB KB;clear hKB KB;refine hKB _ _ _ ?_))|fail)
    refine bjR (X:=X') hb hs2 hlt hr (hR2.frame (nx':=nx2+13) (by omega) (fun _ _ _=>rfl)) fun H' nx' nm' cells' hx' hR' hf'=> ?_
    have q1:=(hf' (nx+1) x1).trans e1
    obtain⟨wc',hc',pc',vc',tc',_,_,_,_,hcell',_⟩:=hR'.get
    subst hcell'
    have hs':=bj1 hb hs2 (o:=qW i s2 k) (fun m hm=>LM hs2 hlt hm)
    (try simp only[go_sem,Nat.add_assoc,Nat.left_eq_add,Nat.add_eq_left,q1]);repeat' (first| (with_reducible first| (refine hK _ _ _ ?_;clear hK K)| (refine hA ?_;clear hA hB A B)| (refine hB ?_;clear hA hB A B)|refine Z1 ?_|refine Z2 ?_|refine Z3 fun KB hKB=> ?_|refine Z4 (by omega) ?_|refine Z5 (by omega) ?_|refine Z6 (fun h=> ?_) fun h=> ?_|refine Z7 (fun h=> ?_) fun h=> ?_|refine fun(cap:Nat) (hcap:_≤cap)=> ?_|refine fun(hcp:_≤cap)=> ?_|refine fun(b:Bool)=> ?_|refine hKX _ _ _ ?_|refine hKY _ _ _ ?_|refine hKZ _ _ _ ?_)| (with_reducible first|refine Y1 fun K hK=> ?_|refine Y2 fun K hK=> ?_|refine Y3 fun A B hA hB=> ?_|refine Y4 (by omega) ?_|refine Y5 (by omega) ?_|refine Y6 (fun h=> ?_) fun h=> ?_| (refine Y7 (fun h=> ?_) (fun h=> ?_)<;>try subst h))<;>(simp only[go_sem,Nat.add_assoc,Nat.left_eq_add,Nat.add_eq_left,q1];try simp (disch:=omega) only[Iw])| ((with_reducible first|refine Y8 ?_|refine Y9 ?_);try simp only[AQ.then,AQ.blk,reduceIte,Nat.reduceEqDiff])| ((with_reducible refine Y0 ?_);simp only[AQ.then,AQ.blk])| ((with_reducible refine Z8 (fun h=> ?_) (fun h=> ?_))<;>try subst h)|refine⟨by omega,?_⟩| (refine⟨by(rw[List.length_take];omega),?_⟩)| (with_reducible first|refine hKB _ _ _ ?_| (clear hKB KB;refine hKB _ _ _ ?_)| (clear hKB KB;clear hKB KB;refine hKB _ _ _ ?_))|fail)
    exact hKM _ _ _ (k+1,nm',_,atS c s2 (qW i s2 k)) noF _ (by omega) (by dsimp only;omega) (by repeat' (first| (with_reducible first|exact C1|refine C2 ?_ ?_|exact C3|refine C4 ?_ ?_|refine aUP ?_ ?_|refine bfY ?_ ?_ ?_|refine aUQ ?_|refine aUR ?_)| ((with_reducible refine C0 ?_);first|exact CB rfl|exact CC| (exact CQ (by omega) rfl rfl (by first|rfl| (simp;done)|omega| (dsimp only;omega)) rfl)|exact CE (by omega) rfl|exact CR (by omega) rfl|exact CF|exact CH (by first|rfl|assumption)| (exact CG (by first|rfl| (simp;done)| (congr 2;omega)| ((try dsimp only);exact dbT (by omega))| ((try dsimp only);exact dbF (by omega))| ((try dsimp only);exact(dbT (by omega)).symm)| ((try dsimp only);exact(dbF (by omega)).symm)| ((try dsimp only);exact dbE (by omega))| ((try dsimp only);exact diE (by omega))) rfl))| ((with_reducible refine D0 ?_);first|exact CA rfl|exact CI rfl (by simp) rfl rfl rfl|refine C9 ?_|refine CJ ?_)|exact C3|refine C4 ?_ ?_|fail)) aK ⟨by dsimp only;omega,hs',hR'.frame (by omega) (fun id h1 h2=>aA.aC fun he=>h2 (he▸x1)),aA.bH,hL.next,fun id hid hne=>by rw[aA.aC hne,hf' id hid];exact hfr id hid hne⟩
  ·have hk4:k=4:=by omega
   subst hk4
   have hL:=blD.nil hL
   subst hL
   repeat' (first| (with_reducible first| (refine hK _ _ _ ?_;clear hK K)| (refine hA ?_;clear hA hB A B)| (refine hB ?_;clear hA hB A B)|refine Z1 ?_|refine Z2 ?_|refine Z3 fun KB hKB=> ?_|refine Z4 (by omega) ?_|refine Z5 (by omega) ?_|refine Z6 (fun h=> ?_) fun h=> ?_|refine Z7 (fun h=> ?_) fun h=> ?_|refine fun(cap:Nat) (hcap:_≤cap)=> ?_|refine fun(hcp:_≤cap)=> ?_|refine fun(b:Bool)=> ?_|refine hKX _ _ _ ?_|refine hKY _ _ _ ?_|refine hKZ _ _ _ ?_)| (with_reducible first|refine Y1 fun K hK=> ?_|refine Y2 fun K hK=> ?_|refine Y3 fun A B hA hB=> ?_|refine Y4 (by omega) ?_|refine Y5 (by omega) ?_|refine Y6 (fun h=> ?_) fun h=> ?_| (refine Y7 (fun h=> ?_) (fun h=> ?_)<;>try subst h))<;>(simp only[go_sem];try simp (disch:=omega) only[Iw])| ((with_reducible first|refine Y8 ?_|refine Y9 ?_);try simp only[AQ.then,AQ.blk,reduceIte,Nat.reduceEqDiff])| ((with_reducible refine Y0 ?_);simp only[AQ.then,AQ.blk])| ((with_reducible refine Z8 (fun h=> ?_) (fun h=> ?_))<;>try subst h)|refine⟨by omega,?_⟩| (refine⟨by(rw[List.length_take];omega),?_⟩)| (with_reducible first|refine hKB _ _ _ ?_| (clear hKB KB;refine hKB _ _ _ ?_)| (clear hKB KB;clear hKB KB;refine hKB _ _ _ ?_))|fail)
   (have hKZ:=hKB;clear hKB)
   obtain⟨ub,hub⟩: ∃ub,ub=nx2+2:=⟨_,rfl⟩
   rw[←hub]
   obtain⟨X2,hX2⟩: ∃X2:Nat→Prop,X2=fun id=>X' id∨id=ub:=⟨_,rfl⟩
   have y1:X2 (nx+1):=by rw[hX2];exact .inl x1
   have yu:X2 ub:=by rw[hX2];exact .inr rfl
   have blF: ∀id,X' id→X2 id:=fun id h=>by rw[hX2];exact .inl h
   have hX2n: ∀id,X2 id→X' id∨id=ub:=fun id h=>by rw[hX2] at h;exact h
   have hX'l: ∀id,X' id→id<nx+4:=fun id h=>by rcases hXn id h with h|h<;>omega
   obtain⟨aID,hG2⟩: ∃aID,aID=H2.set ub ⟨1,3,[false,false,false].map eH⟩:=⟨_,rfl⟩
   have hG2':aA.set H2 ub ⟨1,3,[[D1.v (Value.bool false)],[D1.v (Value.bool false)],[D1.v (Value.bool false)]]⟩=aID:=hG2.symm
   rw[hG2']
   have j1:aID (nx+1)=_:=(by rw[hG2];exact aA.aC (by omega):aID (nx+1)=H2 (nx+1)).trans e1
   have ju:aID ub=some ⟨1,3,[false,false,false].map eH⟩:=by rw[hG2];exact aA.bH
   have jfr: ∀id,X' id→id≠nx+1→aID id=G id:=fun id hid hne=>by rw[hG2,aA.aC (by have:=hX'l id hid;omega)];exact hfr id hid hne
   have blG:bgJ X2 aID (nx2+5) nm2 (QD c i s) [.osl 1 (nm2 0) 0 (QD c i s).words.length wc,.osl 1 (nm2 1) 0 (QD c i s).holds.length hc,.osl 4 (nm2 2) 0 3 pc,.osl 3 (nm2 3) 0 4 vc,.osl 5 (nm2 4) 0 (QD c i s).told.length tc]:=
    ⟨hR2.rep.frame fun k hk=>by rw[hG2];exact aA.aC (by have:=hR2.names.lt k hk;omega),⟨hR2.names.inj,fun k hk=>by have:=hR2.names.lt k hk;omega,fun k hk hn=>by
     rcases hX2n _ hn with h|h
     ·exact hR2.names.av k hk h
     ·have:=hR2.names.lt k hk;omega⟩,fun id hid=>by
     rcases hX2n id hid with h|h
     ·have:=hX'l id h;omega
     ·omega⟩
   clear hR2 e1 hfr e0 e2 hB g1 g2 g3 g4 g5 bkU bkV g8 g9 ga gb hG2 hG2'
   refine aM.gP (β:=Nat×(Nat→Nat)×List D1×CSt×List Bool) (fun u=>en [(10,dI u.1),(9,.one (.c (.osl 1 ub 0 3 3))),(6,.one (.c (.ptr 5 (nx+3) 0 0))),(5,.one (.c (.ptr 3 (nx+2) 0 0))),(4,.one (.c (.ptr 5 (nx+1) 0 0))),(3,.one (.c (.ptr 3 nx 0 0)))])
    (fun u H1 nx1=>u.1≤4∧COk c u.2.2.2.1∧u.2.2.2.2.length=3∧bgJ X2 H1 nx1 u.2.1 u.2.2.2.1 u.2.2.1∧H1 (nx+1)=some ⟨5,1,[u.2.2.1]⟩∧H1 ub=some ⟨1,3,u.2.2.2.2.map eH⟩∧LV c ([0,1,2,3].drop u.1) u.2.2.2.1 u.2.2.2.2 (OI c i s)∧ ∀id,X' id→id≠nx+1→H1 id=G id) (fun u=>4-u.1) (0,nm2,_,QD c i s,[false,false,false])
    ⟨noF,_,by repeat' (first| (with_reducible first|exact C1|refine C2 ?_ ?_|exact C3|refine C4 ?_ ?_|refine aUP ?_ ?_|refine bfY ?_ ?_ ?_|refine aUQ ?_|refine aUR ?_)| ((with_reducible refine C0 ?_);first|exact CB rfl|exact CC| (exact CQ (by omega) rfl rfl (by first|rfl| (simp;done)|omega| (dsimp only;omega)) rfl)|exact CE (by omega) rfl|exact CR (by omega) rfl|exact CF|exact CH (by first|rfl|assumption)| (exact CG (by first|rfl| (simp;done)| (congr 2;omega)| ((try dsimp only);exact dbT (by omega))| ((try dsimp only);exact dbF (by omega))| ((try dsimp only);exact(dbT (by omega)).symm)| ((try dsimp only);exact(dbF (by omega)).symm)| ((try dsimp only);exact dbE (by omega))| ((try dsimp only);exact diE (by omega))) rfl))| ((with_reducible refine D0 ?_);first|exact CA rfl|exact CI rfl (by simp) rfl rfl rfl|refine C9 ?_|refine CJ ?_)|exact C3|refine C4 ?_ ?_|fail),aK,by dsimp only;omega,hs2,rfl,blG.frame (by omega) (fun _ _ _=>rfl),j1,ju,rfl,jfr⟩ ?_
   clear blG j1 ju jfr hs2
   rintro⟨k,nm3,cl3,s3,aIG⟩ H3 nx3 hnx3 ⟨hk,hs3,hul,hR3,e1,eu,hL,hfr⟩ KN hKN
   dsimp only at hk hs3 hul hR3 e1 eu hL hfr
   have e0:=(hfr nx x0 (by omega)).trans bfZ
   have e2:=(hfr (nx+2) x2 (by omega)).trans f2
   obtain⟨wc,hc,pc,vc,tc,mp,rp,mv,rv,hcell,g1,g2,g3,g4,g5,bkU,bkV,g8,g9,ga,gb⟩:=hR3.get
   subst hcell
   have hB:bQ nx3 [nx,nx+1,nx+2,nx+3]:=AM.apart (by simp) (by simp;omega)
   simp only[bQ,eZ] at hB
   by_cases hlt:k<4
   ·rw[apX hlt] at hL
    repeat' (first| (with_reducible first| (refine hK _ _ _ ?_;clear hK K)| (refine hA ?_;clear hA hB A B)| (refine hB ?_;clear hA hB A B)|refine Z1 ?_|refine Z2 ?_|refine Z3 fun KB hKB=> ?_|refine Z4 (by omega) ?_|refine Z5 (by omega) ?_|refine Z6 (fun h=> ?_) fun h=> ?_|refine Z7 (fun h=> ?_) fun h=> ?_|refine fun(cap:Nat) (hcap:_≤cap)=> ?_|refine fun(hcp:_≤cap)=> ?_|refine fun(b:Bool)=> ?_|refine hKX _ _ _ ?_|refine hKY _ _ _ ?_|refine hKZ _ _ _ ?_)| (with_reducible first|refine Y1 fun K hK=> ?_|refine Y2 fun K hK=> ?_|refine Y3 fun A B hA hB=> ?_|refine Y4 (by omega) ?_|refine Y5 (by omega) ?_|refine Y6 (fun h=> ?_) fun h=> ?_| (refine Y7 (fun h=> ?_) (fun h=> ?_)<;>try subst h))<;>(simp only[go_sem,Nat.add_assoc,Nat.left_eq_add,Nat.add_eq_left,e0,e1,e2,hB];try simp (disch:=omega) only[Iw])| ((with_reducible first|refine Y8 ?_|refine Y9 ?_);try simp only[AQ.then,AQ.blk,reduceIte,Nat.reduceEqDiff])| ((with_reducible refine Y0 ?_);simp only[AQ.then,AQ.blk])| ((with_reducible refine Z8 (fun h=> ?_) (fun h=> ?_))<;>try subst h)|refine⟨by omega,?_⟩| (refine⟨by(rw[List.length_take];omega),?_⟩)| (with_reducible first|refine hKB _ _ _ ?_| (clear hKB KB;refine hKB _ _ _ ?_)| (clear hKB KB;clear hKB KB;refine hKB _ _ _ ?_))|fail)
    refine bjU (X:=X2) (um:=3) hb hs3 hlt hul (hR3.frame (by omega) (fun _ _ _=>rfl)) yu eu (by omega) fun H' nx' nm' cells' hx' hR' hu' hf'=> ?_
    have q1:=(hf' (nx+1) y1 (by omega)).trans e1
    obtain⟨wc',hc',pc',vc',tc',_,_,_,_,hcell',_⟩:=hR'.get
    subst hcell'
    obtain⟨hs',hu2⟩:=bkC (u:=aIG) hb hs3 hlt hul
    (try simp only[go_sem,Nat.add_assoc,Nat.left_eq_add,Nat.add_eq_left,q1]);repeat' (first| (with_reducible first| (refine hK _ _ _ ?_;clear hK K)| (refine hA ?_;clear hA hB A B)| (refine hB ?_;clear hA hB A B)|refine Z1 ?_|refine Z2 ?_|refine Z3 fun KB hKB=> ?_|refine Z4 (by omega) ?_|refine Z5 (by omega) ?_|refine Z6 (fun h=> ?_) fun h=> ?_|refine Z7 (fun h=> ?_) fun h=> ?_|refine fun(cap:Nat) (hcap:_≤cap)=> ?_|refine fun(hcp:_≤cap)=> ?_|refine fun(b:Bool)=> ?_|refine hKX _ _ _ ?_|refine hKY _ _ _ ?_|refine hKZ _ _ _ ?_)| (with_reducible first|refine Y1 fun K hK=> ?_|refine Y2 fun K hK=> ?_|refine Y3 fun A B hA hB=> ?_|refine Y4 (by omega) ?_|refine Y5 (by omega) ?_|refine Y6 (fun h=> ?_) fun h=> ?_| (refine Y7 (fun h=> ?_) (fun h=> ?_)<;>try subst h))<;>(simp only[go_sem,Nat.add_assoc,Nat.left_eq_add,Nat.add_eq_left,q1];try simp (disch:=omega) only[Iw])| ((with_reducible first|refine Y8 ?_|refine Y9 ?_);try simp only[AQ.then,AQ.blk,reduceIte,Nat.reduceEqDiff])| ((with_reducible refine Y0 ?_);simp only[AQ.then,AQ.blk])| ((with_reducible refine Z8 (fun h=> ?_) (fun h=> ?_))<;>try subst h)|refine⟨by omega,?_⟩| (refine⟨by(rw[List.length_take];omega),?_⟩)| (with_reducible first|refine hKB _ _ _ ?_| (clear hKB KB;refine hKB _ _ _ ?_)| (clear hKB KB;clear hKB KB;refine hKB _ _ _ ?_))|fail)
    exact hKN _ _ _ (k+1,nm',_,(bhV c s3 aIG k).1,(bhV c s3 aIG k).2) noF _ (by omega) (by dsimp only;omega) (by repeat' (first| (with_reducible first|exact C1|refine C2 ?_ ?_|exact C3|refine C4 ?_ ?_|refine aUP ?_ ?_|refine bfY ?_ ?_ ?_|refine aUQ ?_|refine aUR ?_)| ((with_reducible refine C0 ?_);first|exact CB rfl|exact CC| (exact CQ (by omega) rfl rfl (by first|rfl| (simp;done)|omega| (dsimp only;omega)) rfl)|exact CE (by omega) rfl|exact CR (by omega) rfl|exact CF|exact CH (by first|rfl|assumption)| (exact CG (by first|rfl| (simp;done)| (congr 2;omega)| ((try dsimp only);exact dbT (by omega))| ((try dsimp only);exact dbF (by omega))| ((try dsimp only);exact(dbT (by omega)).symm)| ((try dsimp only);exact(dbF (by omega)).symm)| ((try dsimp only);exact dbE (by omega))| ((try dsimp only);exact diE (by omega))) rfl))| ((with_reducible refine D0 ?_);first|exact CA rfl|exact CI rfl (by simp) rfl rfl rfl|refine C9 ?_|refine CJ ?_)|exact C3|refine C4 ?_ ?_|fail)) aK ⟨by dsimp only;omega,hs',hu2,hR'.frame (by omega) (fun id h1 h2=>aA.aC fun he=>h2 (he▸y1)),aA.bH,by rw[aA.aC (by omega)];exact hu',hL.bkK,fun id hid hne=>by rw[aA.aC hne,hf' id (blF id hid) (by have:=hX'l id hid;omega)];exact hfr id hid hne⟩
   ·have hk4:k=4:=by omega
    subst hk4
    have hL:s3=OI c i s:=hL
    subst hL
    repeat' (first| (with_reducible first| (refine hK _ _ _ ?_;clear hK K)| (refine hA ?_;clear hA hB A B)| (refine hB ?_;clear hA hB A B)|refine Z1 ?_|refine Z2 ?_|refine Z3 fun KB hKB=> ?_|refine Z4 (by omega) ?_|refine Z5 (by omega) ?_|refine Z6 (fun h=> ?_) fun h=> ?_|refine Z7 (fun h=> ?_) fun h=> ?_|refine fun(cap:Nat) (hcap:_≤cap)=> ?_|refine fun(hcp:_≤cap)=> ?_|refine fun(b:Bool)=> ?_|refine hKX _ _ _ ?_|refine hKY _ _ _ ?_|refine hKZ _ _ _ ?_)| (with_reducible first|refine Y1 fun K hK=> ?_|refine Y2 fun K hK=> ?_|refine Y3 fun A B hA hB=> ?_|refine Y4 (by omega) ?_|refine Y5 (by omega) ?_|refine Y6 (fun h=> ?_) fun h=> ?_| (refine Y7 (fun h=> ?_) (fun h=> ?_)<;>try subst h))<;>(simp only[go_sem];try simp (disch:=omega) only[Iw])| ((with_reducible first|refine Y8 ?_|refine Y9 ?_);try simp only[AQ.then,AQ.blk,reduceIte,Nat.reduceEqDiff])| ((with_reducible refine Y0 ?_);simp only[AQ.then,AQ.blk])| ((with_reducible refine Z8 (fun h=> ?_) (fun h=> ?_))<;>try subst h)|refine⟨by omega,?_⟩| (refine⟨by(rw[List.length_take];omega),?_⟩)| (with_reducible first|refine hKB _ _ _ ?_| (clear hKB KB;refine hKB _ _ _ ?_)| (clear hKB KB;clear hKB KB;refine hKB _ _ _ ?_))|fail)
    (have hKW:=hKB;clear hKB)
    have blG:=hR3.sub blF
    clear hR3 e0 e2 hB g1 g2 g3 g4 g5 bkU bkV g8 g9 ga gb eu
    refine aM.gP (β:=Nat×(Nat→Nat)×List D1×CSt) (fun u=>en [(11,dI u.1),(6,.one (.c (.ptr 5 (nx+3) 0 0))),(5,.one (.c (.ptr 3 (nx+2) 0 0))),(4,.one (.c (.ptr 5 (nx+1) 0 0))),(3,.one (.c (.ptr 3 nx 0 0)))])
     (fun u H1 nx1=>u.1≤3∧COk c u.2.2.2∧bgJ X' H1 nx1 u.2.1 u.2.2.2 u.2.2.1∧H1 (nx+1)=some ⟨5,1,[u.2.2.1]⟩∧blD c (PA c i) ([0,1,2].drop u.1) u.2.2.2 (vF c i s)∧ ∀id,X' id→id≠nx+1→H1 id=G id) (fun u=>3-u.1) (0,nm3,_,OI c i s)
     ⟨noF,_,by repeat' (first| (with_reducible first|exact C1|refine C2 ?_ ?_|exact C3|refine C4 ?_ ?_|refine aUP ?_ ?_|refine bfY ?_ ?_ ?_|refine aUQ ?_|refine aUR ?_)| ((with_reducible refine C0 ?_);first|exact CB rfl|exact CC| (exact CQ (by omega) rfl rfl (by first|rfl| (simp;done)|omega| (dsimp only;omega)) rfl)|exact CE (by omega) rfl|exact CR (by omega) rfl|exact CF|exact CH (by first|rfl|assumption)| (exact CG (by first|rfl| (simp;done)| (congr 2;omega)| ((try dsimp only);exact dbT (by omega))| ((try dsimp only);exact dbF (by omega))| ((try dsimp only);exact(dbT (by omega)).symm)| ((try dsimp only);exact(dbF (by omega)).symm)| ((try dsimp only);exact dbE (by omega))| ((try dsimp only);exact diE (by omega))) rfl))| ((with_reducible refine D0 ?_);first|exact CA rfl|exact CI rfl (by simp) rfl rfl rfl|refine C9 ?_|refine CJ ?_)|exact C3|refine C4 ?_ ?_|fail),aK,by dsimp only;omega,hs3,blG.frame (by omega) (fun _ _ _=>rfl),e1,rfl,hfr⟩ ?_
    clear blG e1 hfr hs3
    rintro⟨k,nm4,cl4,s4⟩ H4 nx4 hnx4 ⟨hk,hs4,hR4,e1,hL,hfr⟩ aNB hKO
    dsimp only at hk hs4 hR4 e1 hL hfr
    have e0:=(hfr nx x0 (by omega)).trans bfZ
    have e2:=(hfr (nx+2) x2 (by omega)).trans f2
    have e3:=(hfr (nx+3) aYM (by omega)).trans f3
    have hRc:=hR4
    obtain⟨wc,hc,pc,vc,tc,mp,rp,mv,rv,hcell,g1,g2,g3,g4,g5,bkU,bkV,g8,g9,ga,gb⟩:=hR4.get
    subst hcell
    have hB:bQ nx4 [nx,nx+1,nx+2,nx+3]:=AM.apart (by simp) (by simp;omega)
    simp only[bQ,eZ] at hB
    by_cases hlt:k<3
    ·rw[ap4 hlt] at hL
     by_cases hg:i.send.getD k default=true∧(aF s4 k).queue.length<2∧(aF s4 k).next<(c.cP.getD k default).length
     case neg=>
      have hO:PA c i s4 k=none:=by unfold PA;exact if_neg hg
      cases hr:i.send.getD k default with
      |false=>
       repeat' (first| (with_reducible first| (refine hK _ _ _ ?_;clear hK K)| (refine hA ?_;clear hA hB A B)| (refine hB ?_;clear hA hB A B)|refine Z1 ?_|refine Z2 ?_|refine Z3 fun KB hKB=> ?_|refine Z4 (by omega) ?_|refine Z5 (by omega) ?_|refine Z6 (fun h=> ?_) fun h=> ?_|refine Z7 (fun h=> ?_) fun h=> ?_|refine fun(cap:Nat) (hcap:_≤cap)=> ?_|refine fun(hcp:_≤cap)=> ?_|refine fun(b:Bool)=> ?_|refine hKX _ _ _ ?_|refine hKY _ _ _ ?_|refine hKZ _ _ _ ?_)| (with_reducible first|refine Y1 fun K hK=> ?_|refine Y2 fun K hK=> ?_|refine Y3 fun A B hA hB=> ?_|refine Y4 (by omega) ?_|refine Y5 (by omega) ?_|refine Y6 (fun h=> ?_) fun h=> ?_| (refine Y7 (fun h=> ?_) (fun h=> ?_)<;>try subst h))<;>(simp only[go_sem,Nat.add_assoc,Nat.left_eq_add,Nat.add_eq_left,e0,e1,e2,hr,hB];try simp (disch:=omega) only[Iw])| ((with_reducible first|refine Y8 ?_|refine Y9 ?_);try simp only[AQ.then,AQ.blk,reduceIte,Nat.reduceEqDiff])| ((with_reducible refine Y0 ?_);simp only[AQ.then,AQ.blk])| ((with_reducible refine Z8 (fun h=> ?_) (fun h=> ?_))<;>try subst h)|refine⟨by omega,?_⟩| (refine⟨by(rw[List.length_take];omega),?_⟩)| (with_reducible first|refine hKB _ _ _ ?_| (clear hKB KB;refine hKB _ _ _ ?_)| (clear hKB KB;clear hKB KB;refine hKB _ _ _ ?_))|fail)
       all_goals exact hKO _ _ _ (k+1,nm4,_,s4) noF _ (by omega) (by dsimp only;omega) (by repeat' (first| (with_reducible first|exact C1|refine C2 ?_ ?_|exact C3|refine C4 ?_ ?_|refine aUP ?_ ?_|refine bfY ?_ ?_ ?_|refine aUQ ?_|refine aUR ?_)| ((with_reducible refine C0 ?_);first|exact CB rfl|exact CC| (exact CQ (by omega) rfl rfl (by first|rfl| (simp;done)|omega| (dsimp only;omega)) rfl)|exact CE (by omega) rfl|exact CR (by omega) rfl|exact CF|exact CH (by first|rfl|assumption)| (exact CG (by first|rfl| (simp;done)| (congr 2;omega)| ((try dsimp only);exact dbT (by omega))| ((try dsimp only);exact dbF (by omega))| ((try dsimp only);exact(dbT (by omega)).symm)| ((try dsimp only);exact(dbF (by omega)).symm)| ((try dsimp only);exact dbE (by omega))| ((try dsimp only);exact diE (by omega))) rfl))| ((with_reducible refine D0 ?_);first|exact CA rfl|exact CI rfl (by simp) rfl rfl rfl|refine C9 ?_|refine CJ ?_)|exact C3|refine C4 ?_ ?_|fail)) aK ⟨by dsimp only;omega,hs4,hR4.frame (by omega) (fun _ _ _=>rfl),e1,hL.none hO,hfr⟩
      |true=>
       have hsd:decide ((aF s4 k).queue.length<2∧(aF s4 k).next<(c.cP.getD k default).length)=false:=decide_eq_false fun h=>hg ⟨hr,h⟩
       repeat' (first| (with_reducible first| (refine hK _ _ _ ?_;clear hK K)| (refine hA ?_;clear hA hB A B)| (refine hB ?_;clear hA hB A B)|refine Z1 ?_|refine Z2 ?_|refine Z3 fun KB hKB=> ?_|refine Z4 (by omega) ?_|refine Z5 (by omega) ?_|refine Z6 (fun h=> ?_) fun h=> ?_|refine Z7 (fun h=> ?_) fun h=> ?_|refine fun(cap:Nat) (hcap:_≤cap)=> ?_|refine fun(hcp:_≤cap)=> ?_|refine fun(b:Bool)=> ?_|refine hKX _ _ _ ?_|refine hKY _ _ _ ?_|refine hKZ _ _ _ ?_)| (first| (with_reducible first|refine Y1 fun K hK=> ?_|refine Y2 fun K hK=> ?_|refine Y3 fun A B hA hB=> ?_|refine Y4 (by omega) ?_|refine Y5 (by omega) ?_|refine Y6 (fun h=> ?_) fun h=> ?_| (refine Y7 (fun h=> ?_) (fun h=> ?_)<;>try subst h))| (refine bhT hb hs4 hlt (hRc.ar5 hs4.pl hs4.sl (fun id hid=>rfl)) ?_))<;>(simp only[go_sem,Nat.add_assoc,Nat.left_eq_add,Nat.add_eq_left,e0,e1,e2,hr,hsd,hB];try simp (disch:=omega) only[Iw])| ((with_reducible first|refine Y8 ?_|refine Y9 ?_);try simp only[AQ.then,AQ.blk,reduceIte,Nat.reduceEqDiff])| ((with_reducible refine Y0 ?_);simp only[AQ.then,AQ.blk])| ((with_reducible refine Z8 (fun h=> ?_) (fun h=> ?_))<;>try subst h)|refine⟨by omega,?_⟩| (refine⟨by(rw[List.length_take];omega),?_⟩)| (with_reducible first|refine hKB _ _ _ ?_| (clear hKB KB;refine hKB _ _ _ ?_)| (clear hKB KB;clear hKB KB;refine hKB _ _ _ ?_))|fail)
       all_goals exact hKO _ _ _ (k+1,nm4,_,s4) noF _ (by omega) (by dsimp only;omega) (by repeat' (first| (with_reducible first|exact C1|refine C2 ?_ ?_|exact C3|refine C4 ?_ ?_|refine aUP ?_ ?_|refine bfY ?_ ?_ ?_|refine aUQ ?_|refine aUR ?_)| ((with_reducible refine C0 ?_);first|exact CB rfl|exact CC| (exact CQ (by omega) rfl rfl (by first|rfl| (simp;done)|omega| (dsimp only;omega)) rfl)|exact CE (by omega) rfl|exact CR (by omega) rfl|exact CF|exact CH (by first|rfl|assumption)| (exact CG (by first|rfl| (simp;done)| (congr 2;omega)| ((try dsimp only);exact dbT (by omega))| ((try dsimp only);exact dbF (by omega))| ((try dsimp only);exact(dbT (by omega)).symm)| ((try dsimp only);exact(dbF (by omega)).symm)| ((try dsimp only);exact dbE (by omega))| ((try dsimp only);exact diE (by omega))) rfl))| ((with_reducible refine D0 ?_);first|exact CA rfl|exact CI rfl (by simp) rfl rfl rfl|refine C9 ?_|refine CJ ?_)|exact C3|refine C4 ?_ ?_|fail)) aK ⟨by dsimp only;omega,hs4,hR4.frame (by omega) (fun _ _ _=>rfl),e1,hL.none hO,hfr⟩
     have hO:PA c i s4 k=some (.ask k):=by unfold PA;exact if_pos hg
     obtain⟨hr,hq2,hn2⟩:=hg
     have hsd:decide ((aF s4 k).queue.length<2∧(aF s4 k).next<(c.cP.getD k default).length)=true:=decide_eq_true ⟨hq2,hn2⟩
     obtain⟨p,hp⟩: ∃p,aF s4 k=p:=⟨_,rfl⟩
     obtain⟨qo,qc,oc,gr,gq,go⟩:=ga k hlt
     rw[hp] at gr gq go hq2 hn2
     obtain⟨hnx1',_⟩:=(hs4.port k hlt).next
     rw[hp] at hnx1'
     have hpk:=hpr k
     have lt:=hR4.names.lt
     have n2:=lt 2 (by omega)
     have az8:=lt (5+k) (by omega)
     have az2: ∀x,X' x→nm4 2≠x:=fun x hx he=>hR4.names.av 2 (by omega) (he▸hx)
     have aAA: ∀x,X' x→nm4 (5+k)≠x:=fun x hx he=>hR4.names.av (5+k) (by omega) (he▸hx)
     have hA4:bQ nx4 ([2,5+k].map nm4):=AM.apart (hR4.names.list (by simp;omega) (by simp;omega)) (fun x hx=>by obtain⟨j,hj,rfl⟩:=List.mem_map.1 hx;exact lt j (by simp at hj;omega))
     simp only[bQ,eZ,List.map] at hA4
     have b20:=eq_false (az2 _ x0)
     have b21:=eq_false (az2 _ x1)
     have b22:=eq_false (az2 _ x2)
     have b23:=eq_false (az2 _ aYM)
     have b50:=eq_false (aAA _ x0)
     have b51:=eq_false (aAA _ x1)
     have b52:=eq_false (aAA _ x2)
     have b53:=eq_false (aAA _ aYM)
     have d20:=eq_false (az2 _ x0).symm
     have d21:=eq_false (az2 _ x1).symm
     have d22:=eq_false (az2 _ x2).symm
     have d51:=eq_false (aAA _ x1).symm
     have k1: ∀(G:aA) (b k:Nat),msk (nx4+b) [k] G (nx+1)=G (nx+1):=fun G b k=>mk1 (by omega)
     have k2: ∀(G:aA) (b k:Nat),msk (nx4+b) [k] G (nm4 2)=G (nm4 2):=fun G b k=>mk1 (by omega)
     have k5: ∀(G:aA) (b j:Nat),msk (nx4+b) [j] G (nm4 (5+k))=G (nm4 (5+k)):=fun G b j=>mk1 (by omega)
     obtain⟨mq,rq0,blH,blI,aEP,blJ,aEQ,blK⟩:=gq.ex
     rw[List.length_map] at blJ
     have htk:List.take p.queue.length (List.drop qo rq0)=p.queue.map aJ:=by rw[blI,List.take_of_length_le (by simp)]
     have hgk: ∀r,(rp.set k r)[k]?=some r:=fun r=>by rw[List.getElem?_set_self (by omega)]
     repeat' (first| (with_reducible first| (refine hK _ _ _ ?_;clear hK K)| (refine hA ?_;clear hA hB A B)| (refine hB ?_;clear hA hB A B)|refine Z1 ?_|refine Z2 ?_|refine Z3 fun KB hKB=> ?_|refine Z4 (by omega) ?_|refine Z5 (by omega) ?_|refine Z6 (fun h=> ?_) fun h=> ?_|refine Z7 (fun h=> ?_) fun h=> ?_|refine fun(cap:Nat) (hcap:_≤cap)=> ?_|refine fun(hcp:_≤cap)=> ?_|refine fun(b:Bool)=> ?_|refine hKX _ _ _ ?_|refine hKY _ _ _ ?_|refine hKZ _ _ _ ?_)| (first| (with_reducible first|refine Y1 fun K hK=> ?_|refine Y2 fun K hK=> ?_|refine Y3 fun A B hA hB=> ?_|refine Y4 (by omega) ?_|refine Y5 (by omega) ?_|refine Y6 (fun h=> ?_) fun h=> ?_| (refine Y7 (fun h=> ?_) (fun h=> ?_)<;>try subst h))| (refine bhT hb hs4 hlt (hRc.ar5 hs4.pl hs4.sl (fun id hid=>rfl)) ?_))<;>(simp only[go_sem,Nat.add_assoc,Nat.left_eq_add,Nat.add_eq_left,e0,e1,e2,hr,hsd,g1,gr,blH,htk,hgk,k1,k2,k5,List.set_set,hB,hA4,b20,b21,b22,b23,b50,b51,b52,b53,d20,d21,d22,d51];try simp (disch:=omega) only[Iw])| ((with_reducible first|refine Y8 ?_|refine Y9 ?_);try simp only[AQ.then,AQ.blk,reduceIte,Nat.reduceEqDiff])| ((with_reducible refine Y0 ?_);simp only[AQ.then,AQ.blk])| ((with_reducible refine Z8 (fun h=> ?_) (fun h=> ?_))<;>try subst h)|refine⟨by omega,?_⟩| (refine⟨by(rw[List.length_take];omega),?_⟩)| (with_reducible first|refine hKB _ _ _ ?_| (clear hKB KB;refine hKB _ _ _ ?_)| (clear hKB KB;clear hKB KB;refine hKB _ _ _ ?_))|fail)
     have hex:(p.queue++[p.next]).map aJ=(p.queue++[p.next]).map aJ:=rfl
     obtain⟨s',hs'⟩: ∃s',s'=aR c s4 (.ask k):=⟨_,rfl⟩
     have hok':COk c s':=by rw[hs'];exact o9 hb hs4 (YH hs4 hlt hO)
     have hL:=hL.next
     rw[hO,show atS c s4 (some (.ask k))=s' from hs'.symm] at hL
     have hpd':aF s' k= {p with queue:=p.queue++[p.next],next:=p.next+1}:=by rw[hs',bL rfl (by rw[hs4.pl];omega),if_pos rfl,hp]
     have inj:=hR4.names.inj
     refine af0 (K:=aNB) fun W aYL=> ?_
     have w29:W (nx4+29)=some ⟨1,cap,(p.queue++[p.next]).map aJ⟩:=by rw[aYL];simp (disch:=omega) only[aA.aC,aA.bH]
     have w2:W (nm4 2)=some ⟨4,mp,rp.set k [cI (p.next+1),.osl 1 (nx4+29) 0 (p.queue.length+1) cap,.osl 3 (nm4 (8+k)) 0 p.out.length oc,cI p.last]⟩:=by rw[aYL];exact aA.bH
     have wf: ∀id,id<nx4→id≠nm4 2→id≠nm4 (5+k)→W id=H4 id:=fun id h1 h2 h3=>by
      rw[aYL];simp (disch:=omega) only[aA.aC,aA.jG]
     clear aYL
     have blL: ∀id,X' id→W id=H4 id:=fun id hid=>wf id (by have:=hX'l id hid;omega) (fun he=>az2 id hid he.symm) (fun he=>aAA id hid he.symm)
     have wk: ∀a,a<19→a≠2→a≠5+k→W (nm4 a)=H4 (nm4 a):=fun a h1 h2 h3=>wf _ (lt a h1) (fun he=>h2 (inj a 2 h1 (by omega) he)) (fun he=>h3 (inj a (5+k) h1 (by omega) he))
     obtain⟨nm',hnm'⟩: ∃nm',nm'=put nm4 (5+k) (nx4+29):=⟨_,rfl⟩
     have pn: ∀a,a≠5+k→nm' a=nm4 a:=fun a h1=>by rw[hnm',jE h1]
     have p5':nm' (5+k)=nx4+29:=by rw[hnm',t8]
     have hN:Names X' (nx4+49) nm':=by
      rw[hnm']
      exact hR4.names.put (by omega) (by omega) (fun hn=>by have:=hX'l _ hn;omega)
     have ews:s'.words=s4.words:=by rw[hs'];rfl
     have ehs:s'.holds=s4.holds:=by rw[hs'];rfl
     have ets:s'.told=s4.told:=by rw[hs'];rfl
     have w1:W (nx+1)=some ⟨5,1,[[.osl 1 (nm' 0) 0 s'.words.length wc,.osl 1 (nm' 1) 0 s'.holds.length hc,.osl 4 (nm' 2) 0 3 pc,.osl 3 (nm' 3) 0 4 vc,.osl 5 (nm' 4) 0 s'.told.length tc]]⟩:=by
      rw[blL _ x1,e1,ews,ehs,ets,pn 0 (by omega),pn 1 (by omega),pn 2 (by omega),pn 3 (by omega),pn 4 (by omega)]
     refine hKO _ _ _ (k+1,nm',_,s') noF _ (by omega) (by dsimp only;omega) (by repeat' (first| (with_reducible first|exact C1|refine C2 ?_ ?_|exact C3|refine C4 ?_ ?_|refine aUP ?_ ?_|refine bfY ?_ ?_ ?_|refine aUQ ?_|refine aUR ?_)| ((with_reducible refine C0 ?_);first|exact CB rfl|exact CC| (exact CQ (by omega) rfl rfl (by first|rfl| (simp;done)|omega| (dsimp only;omega)) rfl)|exact CE (by omega) rfl|exact CR (by omega) rfl|exact CF|exact CH (by first|rfl|assumption)| (exact CG (by first|rfl| (simp;done)| (congr 2;omega)| ((try dsimp only);exact dbT (by omega))| ((try dsimp only);exact dbF (by omega))| ((try dsimp only);exact(dbT (by omega)).symm)| ((try dsimp only);exact(dbF (by omega)).symm)| ((try dsimp only);exact dbE (by omega))| ((try dsimp only);exact diE (by omega))) rfl))| ((with_reducible refine D0 ?_);first|exact CA rfl|exact CI rfl (by simp) rfl rfl rfl|refine C9 ?_|refine CJ ?_)|exact C3|refine C4 ?_ ?_|fail)) aK ⟨by dsimp only;omega,hok',⟨⟨⟨wc,hc,pc,vc,tc,rfl,?_,?_,?_,bkU,bkV⟩,⟨mp,rp.set k [cI (p.next+1),.osl 1 (nx4+29) 0 (p.queue.length+1) cap,.osl 3 (nm4 (8+k)) 0 p.out.length oc,cI p.last],?_,by rw[List.length_set,g8],fun j hj=> ?_⟩,⟨mv,rv,?_,g9,fun j hj=> ?_⟩⟩,hN,fun id hid=>by have:=hX'l id hid;omega⟩,w1,hL,fun id hid hne=>(blL id hid).trans (hfr id hid hne)⟩
     ·dsimp only;rw[ews,pn 0 (by omega)];exact g3.frame (wk 0 (by omega) (by omega) (by omega))
     ·dsimp only;rw[ehs,pn 1 (by omega)];exact g4.frame (wk 1 (by omega) (by omega) (by omega))
     ·dsimp only;rw[ets,pn 4 (by omega)];exact g5.frame (wk 4 (by omega) (by omega) (by omega))
     ·dsimp only;rw[pn 2 (by omega)];exact w2
     ·dsimp only
      by_cases hjk:j=k
      ·subst hjk
       refine⟨_,hgk _,⟨0,cap,oc,?_,?_,?_⟩⟩
       ·rw[hpd',p5',pn (8+j) (by omega)];simp only[af5,List.length_append,List.length_singleton]
       ·rw[hpd',p5']
        exact⟨cap,_,w29,rfl,by simp,by simp,by simp;omega,by omega⟩
       ·rw[hpd',pn (8+j) (by omega)];exact go.frame (wk (8+j) (by omega) (by omega) (by omega))
      ·obtain⟨qo',qc',oc',v1,v2,aXN⟩:=ga j hj
       have e:aF s' j=aF s4 j:=by rw[hs',bL rfl (by rw[hs4.pl];omega),if_neg hjk]
       refine⟨_,by rw[List.getElem?_set_ne (Ne.symm hjk)];exact v1,⟨qo',qc',oc',?_,?_,?_⟩⟩
       ·rw[e,pn (5+j) (by omega),pn (8+j) (by omega)];rfl
       ·rw[e,pn (5+j) (by omega)];exact v2.frame (wk (5+j) (by omega) (by omega) (by omega))
       ·rw[e,pn (8+j) (by omega)];exact aXN.frame (wk (8+j) (by omega) (by omega) (by omega))
     ·dsimp only;rw[pn 3 (by omega)];exact(wk 3 (by omega) (by omega) (by omega)).trans g2
     ·dsimp only
      obtain⟨po',pc',do',dc',v1,v2,aXN⟩:=gb j hj
      have e:aL s' j=aL s4 j:=by rw[hs'];rfl
      refine⟨_,v1,⟨po',pc',do',dc',?_,?_,?_⟩⟩
      ·rw[e,pn (11+j) (by omega),pn (15+j) (by omega)];rfl
      ·rw[e,pn (11+j) (by omega)];exact v2.frame (wk (11+j) (by omega) (by omega) (by omega))
      ·rw[e,pn (15+j) (by omega)];exact aXN.frame (wk (15+j) (by omega) (by omega) (by omega))
    ·have hk3:k=3:=by omega
     subst hk3
     have hL:=blD.nil hL
     subst hL
     repeat' (first| (with_reducible first| (refine hK _ _ _ ?_;clear hK K)| (refine hA ?_;clear hA hB A B)| (refine hB ?_;clear hA hB A B)|refine Z1 ?_|refine Z2 ?_|refine Z3 fun KB hKB=> ?_|refine Z4 (by omega) ?_|refine Z5 (by omega) ?_|refine Z6 (fun h=> ?_) fun h=> ?_|refine Z7 (fun h=> ?_) fun h=> ?_|refine fun(cap:Nat) (hcap:_≤cap)=> ?_|refine fun(hcp:_≤cap)=> ?_|refine fun(b:Bool)=> ?_|refine hKX _ _ _ ?_|refine hKY _ _ _ ?_|refine hKZ _ _ _ ?_)| (with_reducible first|refine Y1 fun K hK=> ?_|refine Y2 fun K hK=> ?_|refine Y3 fun A B hA hB=> ?_|refine Y4 (by omega) ?_|refine Y5 (by omega) ?_|refine Y6 (fun h=> ?_) fun h=> ?_| (refine Y7 (fun h=> ?_) (fun h=> ?_)<;>try subst h))<;>(simp only[go_sem];try simp (disch:=omega) only[Iw])| ((with_reducible first|refine Y8 ?_|refine Y9 ?_);try simp only[AQ.then,AQ.blk,reduceIte,Nat.reduceEqDiff])| ((with_reducible refine Y0 ?_);simp only[AQ.then,AQ.blk])| ((with_reducible refine Z8 (fun h=> ?_) (fun h=> ?_))<;>try subst h)|refine⟨by omega,?_⟩| (refine⟨by(rw[List.length_take];omega),?_⟩)| (with_reducible first|refine hKB _ _ _ ?_| (clear hKB KB;refine hKB _ _ _ ?_)| (clear hKB KB;clear hKB KB;refine hKB _ _ _ ?_))|fail)
     refine hKW _ _ _ ?_
     repeat' (first| (with_reducible first| (refine hK _ _ _ ?_;clear hK K)| (refine hA ?_;clear hA hB A B)| (refine hB ?_;clear hA hB A B)|refine Z1 ?_|refine Z2 ?_|refine Z3 fun KB hKB=> ?_|refine Z4 (by omega) ?_|refine Z5 (by omega) ?_|refine Z6 (fun h=> ?_) fun h=> ?_|refine Z7 (fun h=> ?_) fun h=> ?_|refine fun(cap:Nat) (hcap:_≤cap)=> ?_|refine fun(hcp:_≤cap)=> ?_|refine fun(b:Bool)=> ?_|refine hKX _ _ _ ?_|refine hKY _ _ _ ?_|refine hKZ _ _ _ ?_)| (with_reducible first|refine Y1 fun K hK=> ?_|refine Y2 fun K hK=> ?_|refine Y3 fun A B hA hB=> ?_|refine Y4 (by omega) ?_|refine Y5 (by omega) ?_|refine Y6 (fun h=> ?_) fun h=> ?_| (refine Y7 (fun h=> ?_) (fun h=> ?_)<;>try subst h))<;>(simp only[go_sem,e1,e3,hB,Nat.add_assoc,Nat.left_eq_add,Nat.add_eq_left];try simp (disch:=omega) only[Iw])| ((with_reducible first|refine Y8 ?_|refine Y9 ?_);try simp only[AQ.then,AQ.blk,reduceIte,Nat.reduceEqDiff])| ((with_reducible refine Y0 ?_);simp only[AQ.then,AQ.blk])| ((with_reducible refine Z8 (fun h=> ?_) (fun h=> ?_))<;>try subst h)|refine⟨by omega,?_⟩| (refine⟨by(rw[List.length_take];omega),?_⟩)| (with_reducible first|refine hKB _ _ _ ?_| (clear hKB KB;refine hKB _ _ _ ?_)| (clear hKB KB;clear hKB KB;refine hKB _ _ _ ?_))|fail)
     refine hQ _ _ _ _ _ (.inr rfl) (LL rfl aA.bH rfl) ?_
     refine h _ _ nm4 _ (by omega) ((hR4.frame (by omega) fun id h1 h2=>aA.aC fun he=>h2 (he▸aYM)).sub blE) fun id hid=> ?_
     rw[aA.aC (by have:=hX id hid;omega),hfr id (blE id hid) (by have:=hX id hid;omega)];exact ff id (hX id hid)
end
end Go.Proofs.Ytmccpdapaccnoaa
