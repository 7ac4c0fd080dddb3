/- Texts laid together by a program: rules, contracts and the walk that leads to the law. -/
import Derived.Test.YtmccpdapaccnoaaGreatPD20
import Derived.Test.YtmccpdapaccnoaaGreatPD19
import Derived.Test.YtmccpdapaccnoaaGreatPD14
import Derived.Test.YtmccpdapaccnoaaGreatPD21
set_option linter.unusedVariables false
set_option linter.unusedSimpArgs false
set_option linter.unusedSectionVars false
set_option maxRecDepth 100000
set_option maxHeartbeats 8000000
namespace Go.AM
def blD (c:Cfg) (f:CSt→Nat→Option Mic) (l:List Nat) (s S:CSt):Prop:=dR c s (vE c f s l)=S
theorem blD.next {c:Cfg} {f:CSt→Nat→Option Mic} {s S:CSt} {k:Nat} {l:List Nat} (h:blD c f (k::l) s S):blD c f l (atS c s (f s k)) S:=by
 unfold blD at h
 cases hf:f s k with
 |none=>rw[GZ hf] at h;exact h
 |some m=>rw[NH hf] at h;exact h
theorem blD.nil {c:Cfg} {f:CSt→Nat→Option Mic} {s S:CSt} (h:blD c f [] s S):s=S:=h
theorem bj1 {c:Cfg} {s:CSt} {o:Option Mic} (hb:aQ c) (hs:COk c s) (h: ∀m,o=some m→EH c s m):COk c (atS c s o):=by
 cases o with
 |none=>exact hs
 |some m=>exact o9 hb hs (h m rfl)
theorem bgJ.sub {X X2:Nat→Prop} {H:aA} {nx:Nat} {nm:Nat→Nat} {s:CSt} {cells:List D1} (h:bgJ X2 H nx nm s cells) (hs: ∀id,X id→X2 id):bgJ X H nx nm s cells:=⟨h.rep,⟨h.names.inj,h.names.lt,fun k hk hn=>h.names.av k hk (hs _ hn)⟩,fun id hid=>h.x id (hs id hid)⟩
theorem blD.none {c:Cfg} {f:CSt→Nat→Option Mic} {s S:CSt} {k:Nat} {l:List Nat} (h:blD c f (k::l) s S) (hf:f s k=none):blD c f l s S:=by have:=h.next;rwa [hf] at this
theorem LV.bkK {c:Cfg} {s S:CSt} {u:List Bool} {k:Nat} {l:List Nat} (hl:LV c (k::l) s u S):LV c l (Go.Proofs.YtmccpdapaccnoaaGreat.bhV c s u k).1 (Go.Proofs.YtmccpdapaccnoaaGreat.bhV c s u k).2 S:=by
 unfold Go.Proofs.YtmccpdapaccnoaaGreat.bhV
 cases h:AO c s u k with
 |none=>exact hl.none h
 |some who=>exact hl.some h
end Go.AM
namespace Go.Proofs.YtmccpdapaccnoaaGreat
open Go Go.AM
attribute [local irreducible] aM wv aB vd wvH
section
variable {H : aA} {nx : Nat} {K : D → aA → Nat → Prop}
theorem bkC {c:Cfg} {s:CSt} {u:List Bool} {st:Nat} (hb:aQ c) (hs:COk c s) (hst:st<4) (hu:u.length=3):COk c (bhV c s u st).1∧(bhV c s u st).2.length=3:=by
 unfold bhV
 cases h:AO c s u st with
 |none=>exact⟨hs,hu⟩
 |some who=>exact⟨o9 hb hs (XH hst h),by simpa using hu⟩
theorem biI:cJ Tryz.prog bgZ Tryz.f137 bgT bhK:=cJ.mk Tryz.func137 (by kernel_rfl) biJ
theorem bi3 {X:Nat→Prop} {c:Cfg} {i:CIn} {s:CSt} {nm:Nat→Nat} {cells:List D1} (hb:aQ c) (hs:COk c s) (hi:vZ i) (hR:bgJ X H nx nm s cells)
 (h: ∀H' nx' nm' cells',nx≤nx'→bgJ X H' nx' nm' (vF c i s) cells'→(∀id,X id→H' id=H id)→K (boR cells') H' nx'):
 aB Tryz.prog bgZ [boR (cU c),boR cells,boR (eIn i)] H nx K:=by
 refine biI rfl fun Q hQ=> ?_
 unfold bgT
 have hX:=hR.x
 obtain⟨hp3,hpr⟩:=hC hb
 obtain⟨hi1,hi2,hi3⟩:=hi
 obtain⟨X',hX'⟩: ∃X':Nat→Prop,X'=fun id=>X id∨id=nx∨id=nx+1∨id=nx+2∨id=nx+3:=⟨_,rfl⟩
 have x0:X' nx:=by rw[hX'];exact .inr (.inl rfl)
 have x1:X' (nx+1):=by rw[hX'];exact .inr (.inr (.inl rfl))
 have bpZ:X' (nx+2):=by rw[hX'];exact .inr (.inr (.inr (.inl rfl)))
 have aYM:X' (nx+3):=by rw[hX'];exact .inr (.inr (.inr (.inr rfl)))
 have blE: ∀id,X id→X' id:=fun id h=>by rw[hX'];exact .inl h
 have hXn: ∀id,X' id→id<nx∧X id∨nx≤id∧id≤nx+3:=fun id h=>by
  rw[hX'] at h;rcases h with h|h|h|h|h;·exact .inl ⟨hX id h,h⟩
  all_goals exact .inr (by omega)
 have hRc:=hR
 obtain⟨wc,hc,pc,vc,tc,mp,rp,mv,rv,hcell,g1,g2,g3,g4,g5,bkU,bkV,bp4,bp5,ga,gb⟩:=hR.get
 subst hcell
 repeat' first|apply bn1<;>(simp only[go_sem,boC])|fail
 refine aM.aTJ fun G bqK=> ?_
 have bfZ:G nx=some ⟨3,1,[cU c]⟩:=by rw[bqK,aA.aC (by omega),aA.aC (by omega),aA.aC (by omega)];exact aA.bH
 have bpR:G (nx+1)=some ⟨5,1,[[.osl 1 (nm 0) 0 s.words.length wc,.osl 1 (nm 1) 0 s.holds.length hc,.osl 4 (nm 2) 0 3 pc,.osl 3 (nm 3) 0 4 vc,.osl 5 (nm 4) 0 s.told.length tc]]⟩:=by rw[bqK,aA.aC (by omega),aA.aC (by omega)];exact aA.bH
 have f2:G (nx+2)=some ⟨3,1,[eIn i]⟩:=by rw[bqK,aA.aC (by omega)];exact aA.bH
 have bpS:G (nx+3)=some ⟨5,1,[[D1.osl 0 0 0 0 0,D1.osl 0 0 0 0 0,D1.osl 0 0 0 0 0,D1.osl 0 0 0 0 0,D1.osl 0 0 0 0 0]]⟩:=by rw[bqK];exact aA.bH
 have ff: ∀id,id<nx→G id=H id:=fun id hid=>by rw[bqK,aA.aC (by omega),aA.aC (by omega),aA.aC (by omega),aA.aC (by omega)]
 clear bqK
 have hR0:bgJ X' G (nx+4) nm s [.osl 1 (nm 0) 0 s.words.length wc,.osl 1 (nm 1) 0 s.holds.length hc,.osl 4 (nm 2) 0 3 pc,.osl 3 (nm 3) 0 4 vc,.osl 5 (nm 4) 0 s.told.length tc]:=
  ⟨hRc.rep.frame fun k hk=>ff _ (hRc.names.lt k hk),⟨hRc.names.inj,fun k hk=>by have:=hRc.names.lt k hk;omega,fun k hk hn=>by
   have h1:=hRc.names.lt k hk
   rcases hXn _ hn with⟨_,h2⟩|h2
   ·exact hRc.names.av k hk h2
   ·omega⟩,fun id hid=>by rcases hXn id hid with h|h<;>omega⟩
 clear hR hRc g1 g2 g3 g4 g5 bkU bkV bp4 bp5 ga gb
 refine aM.gP (β:=Nat×(Nat→Nat)×List D1×CSt) (fun u=>en [(7,boP u.1),(6,.one (.c (.ptr 5 (nx+3) 0 0))),(5,.one (.c (.ptr 3 (nx+2) 0 0))),(4,.one (.c (.ptr 5 (nx+1) 0 0))),(3,.one (.c (.ptr 3 nx 0 0)))])
  (fun u H1 nx1=>u.1≤3∧COk c u.2.2.2∧bgJ X' H1 nx1 u.2.1 u.2.2.2 u.2.2.1∧H1 (nx+1)=some ⟨5,1,[u.2.2.1]⟩∧blD c (vT i) ([0,1,2].drop u.1) u.2.2.2 (CW c i s)∧ ∀id,X' id→id≠nx+1→H1 id=G id) (fun u=>3-u.1) (0,nm,_,s)
  ⟨noF,_,by repeat' first|exact bo2|refine xqI rfl rfl ?_|refine xqP (by omega) rfl rfl ?_|fail,aK,by dsimp only;omega,hs,hR0.frame (by omega) (fun _ _ _=>rfl),bpR,rfl,fun _ _ _=>rfl⟩ ?_
 rintro⟨k,nm1,cl1,s1⟩ H1 nx1 hnx1 ⟨hk,hs1,hR1,e1,hL,hfr⟩ bpQ hKL
 dsimp only at hk hs1 hR1 e1 hL hfr
 have boU:=(hfr nx x0 (by omega)).trans bfZ
 have e2:=(hfr (nx+2) bpZ (by omega)).trans f2
 have e3:=(hfr (nx+3) aYM (by omega)).trans bpS
 obtain⟨wc,hc,pc,vc,tc,mp,rp,mv,rv,hcell,g1,g2,g3,g4,g5,bkU,bkV,bp4,bp5,ga,gb⟩:=hR1.get
 subst hcell
 have hB:bQ nx1 [nx,nx+1,nx+2,nx+3]:=AM.apart (by simp) (by simp;omega)
 simp only[bQ,eZ] at hB
 by_cases hlt:k<3
 ·rw[ap4 hlt] at hL
  cases hr:i.ready.getD k default with
  |false=>
   repeat' first|apply bn1<;>(simp only[go_sem,boC,boU,e1,e2,hr,hB];try simp (disch:=omega) only[Iw])|apply bn2 (by omega)|refine⟨by omega,?_⟩|fail
   all_goals exact hKL _ _ _ (k+1,nm1,_,s1) noF _ (by omega) (by dsimp only;omega) (by repeat' first|exact bo2|refine xqI rfl rfl ?_|refine xqP (by omega) rfl rfl ?_|fail) aK ⟨by dsimp only;omega,hs1,hR1.frame (by omega) (fun _ _ _=>rfl),e1,hL.none (agJ hr),hfr⟩
  |true=>
   repeat' first|apply bn1<;>(simp only[go_sem,boC,boU,e1,e2,hr,hB])|apply bn2 (by omega)|refine⟨by omega,?_⟩|fail
   refine bjM (X:=X') hb hs1 hlt hr (hR1.frame (nx':=nx1+11) (by omega) (fun _ _ _=>rfl)) fun H' nx' nm' cells' hx' hR' hf'=> ?_;have q1:=(hf' (nx+1) x1).trans e1;obtain⟨wc',hc',pc',vc',tc',_,_,_,_,hcell',_⟩:=hR'.get;subst hcell';have hs':=bj1 hb hs1 (o:=vT i s1 k) (fun m hm=>TB hs1 hlt hm);(try simp only[go_sem,boC,q1]);repeat' first|apply bn1<;>(simp only[go_sem,boC,q1];try simp (disch:=omega) only[Iw])|fail
   exact hKL _ _ _ (k+1,nm',_,atS c s1 (vT i s1 k)) noF _ (by omega) (by dsimp only;omega) (by repeat' first|exact bo2|refine xqI rfl rfl ?_|refine xqP (by omega) rfl rfl ?_|fail) aK ⟨by dsimp only;omega,hs',hR'.frame (by omega) (fun id h1 h2=>aA.aC fun he=>h2 (he▸x1)),aA.bH,hL.next,fun id hid hne=>by rw[aA.aC hne,hf' id hid];exact hfr id hid hne⟩
 ·have hk3:k=3:=by omega
  subst hk3;have hL:=blD.nil hL;subst hL;repeat' first|apply bn1<;>(simp only[go_sem])|apply bn3 (by omega)|fail
  refine aM.gP (β:=Nat×(Nat→Nat)×List D1×CSt) (fun u=>en [(8,boP u.1),(6,.one (.c (.ptr 5 (nx+3) 0 0))),(5,.one (.c (.ptr 3 (nx+2) 0 0))),(4,.one (.c (.ptr 5 (nx+1) 0 0))),(3,.one (.c (.ptr 3 nx 0 0)))])
   (fun u H1 nx1=>u.1≤4∧COk c u.2.2.2∧bgJ X' H1 nx1 u.2.1 u.2.2.2 u.2.2.1∧H1 (nx+1)=some ⟨5,1,[u.2.2.1]⟩∧blD c (qW i) ([0,1,2,3].drop u.1) u.2.2.2 (QD c i s)∧ ∀id,X' id→id≠nx+1→H1 id=G id) (fun u=>4-u.1) (0,nm1,_,CW c i s)
   ⟨noF,_,by repeat' first|exact bo2|refine xqI rfl rfl ?_|refine xqP (by omega) rfl rfl ?_|fail,aK,by dsimp only;omega,hs1,hR1.frame (by omega) (fun _ _ _=>rfl),e1,rfl,hfr⟩ ?_
  clear hR1 e1 hfr boU e2 e3 hB g1 g2 g3 g4 g5 bkU bkV bp4 bp5 ga gb hs1;rintro⟨k,nm2,cl2,s2⟩ H2 nx2 hnx2 ⟨hk,hs2,hR2,e1,hL,hfr⟩ bqG hKM;dsimp only at hk hs2 hR2 e1 hL hfr;have boU:=(hfr nx x0 (by omega)).trans bfZ;have e2:=(hfr (nx+2) bpZ (by omega)).trans f2;obtain⟨wc,hc,pc,vc,tc,mp,rp,mv,rv,hcell,g1,g2,g3,g4,g5,bkU,bkV,bp4,bp5,ga,gb⟩:=hR2.get;subst hcell;have hB:bQ nx2 [nx,nx+1,nx+2,nx+3]:=AM.apart (by simp) (by simp;omega);simp only[bQ,eZ] at hB;by_cases hlt:k<4
  ·rw[apX hlt] at hL
   cases hr:i.n9.getD k default with
   |true=>
    repeat' first|apply bn1<;>(simp only[go_sem,boC,boU,e1,e2,hr,hB];try simp (disch:=omega) only[Iw])|apply bn2 (by omega)|refine⟨by omega,?_⟩|fail
    all_goals exact hKM _ _ _ (k+1,nm2,_,s2) noF _ (by omega) (by dsimp only;omega) (by repeat' first|exact bo2|refine xqI rfl rfl ?_|refine xqP (by omega) rfl rfl ?_|fail) aK ⟨by dsimp only;omega,hs2,hR2.frame (by omega) (fun _ _ _=>rfl),e1,hL.none (aa0 (.inl hr)),hfr⟩
   |false=>
    repeat' first|apply bn1<;>(simp only[go_sem,boC,boU,e1,e2,hr,hB])|apply bn2 (by omega)|refine⟨by omega,?_⟩|fail
    refine bjR (X:=X') hb hs2 hlt hr (hR2.frame (nx':=nx2+13) (by omega) (fun _ _ _=>rfl)) fun H' nx' nm' cells' hx' hR' hf'=> ?_;have q1:=(hf' (nx+1) x1).trans e1;obtain⟨wc',hc',pc',vc',tc',_,_,_,_,hcell',_⟩:=hR'.get;subst hcell';have hs':=bj1 hb hs2 (o:=qW i s2 k) (fun m hm=>LM hs2 hlt hm);(try simp only[go_sem,boC,q1]);repeat' first|apply bn1<;>(simp only[go_sem,boC,q1];try simp (disch:=omega) only[Iw])|fail
    exact hKM _ _ _ (k+1,nm',_,atS c s2 (qW i s2 k)) noF _ (by omega) (by dsimp only;omega) (by repeat' first|exact bo2|refine xqI rfl rfl ?_|refine xqP (by omega) rfl rfl ?_|fail) aK ⟨by dsimp only;omega,hs',hR'.frame (by omega) (fun id h1 h2=>aA.aC fun he=>h2 (he▸x1)),aA.bH,hL.next,fun id hid hne=>by rw[aA.aC hne,hf' id hid];exact hfr id hid hne⟩
  ·have hk4:k=4:=(by omega);subst hk4;have hL:=blD.nil hL;subst hL;repeat' first|apply bn1<;>(simp only[go_sem])|apply bn3 (by omega)|fail
   obtain⟨ub,hub⟩: ∃ub,ub=nx2+2:=⟨_,rfl⟩
   rw[←hub];obtain⟨X2,hX2⟩: ∃X2:Nat→Prop,X2=fun id=>X' id∨id=ub:=⟨_,rfl⟩
   have y1:X2 (nx+1):=(by rw[hX2];exact .inl x1);have yu:X2 ub:=(by rw[hX2];exact .inr rfl);have blF: ∀id,X' id→X2 id:=fun id h=>by rw[hX2];exact .inl h
   have hX2n: ∀id,X2 id→X' id∨id=ub:=fun id h=>by rw[hX2] at h;exact h
   have hX'l: ∀id,X' id→id<nx+4:=fun id h=>by rcases hXn id h with h|h<;>omega
   obtain⟨aID,hG2⟩: ∃aID,aID=H2.set ub ⟨1,3,[false,false,false].map eH⟩:=⟨_,rfl⟩
   have hG2':aA.set H2 ub ⟨1,3,[[D1.v (Value.bool false)],[D1.v (Value.bool false)],[D1.v (Value.bool false)]]⟩=aID:=hG2.symm;rw[hG2'];have j1:aID (nx+1)=_:=(by rw[hG2];exact aA.aC (by omega):aID (nx+1)=H2 (nx+1)).trans e1;have ju:aID ub=some ⟨1,3,[false,false,false].map eH⟩:=(by rw[hG2];exact aA.bH);have jfr: ∀id,X' id→id≠nx+1→aID id=G id:=fun id hid hne=>by rw[hG2,aA.aC (by have:=hX'l id hid;omega)];exact hfr id hid hne
   have blG:bgJ X2 aID (nx2+5) nm2 (QD c i s) [.osl 1 (nm2 0) 0 (QD c i s).words.length wc,.osl 1 (nm2 1) 0 (QD c i s).holds.length hc,.osl 4 (nm2 2) 0 3 pc,.osl 3 (nm2 3) 0 4 vc,.osl 5 (nm2 4) 0 (QD c i s).told.length tc]:=
    ⟨hR2.rep.frame fun k hk=>by rw[hG2];exact aA.aC (by have:=hR2.names.lt k hk;omega),⟨hR2.names.inj,fun k hk=>by have:=hR2.names.lt k hk;omega,fun k hk hn=>by
     rcases hX2n _ hn with h|h
     ·exact hR2.names.av k hk h
     ·have:=hR2.names.lt k hk;omega⟩,fun id hid=>by
     rcases hX2n id hid with h|h
     ·have:=hX'l id h;omega
     ·omega⟩
   clear hR2 e1 hfr boU e2 hB g1 g2 g3 g4 g5 bkU bkV bp4 bp5 ga gb hG2 hG2'
   refine aM.gP (β:=Nat×(Nat→Nat)×List D1×CSt×List Bool) (fun u=>en [(10,boP u.1),(9,.one (.c (.osl 1 ub 0 3 3))),(6,.one (.c (.ptr 5 (nx+3) 0 0))),(5,.one (.c (.ptr 3 (nx+2) 0 0))),(4,.one (.c (.ptr 5 (nx+1) 0 0))),(3,.one (.c (.ptr 3 nx 0 0)))])
    (fun u H1 nx1=>u.1≤4∧COk c u.2.2.2.1∧u.2.2.2.2.length=3∧bgJ X2 H1 nx1 u.2.1 u.2.2.2.1 u.2.2.1∧H1 (nx+1)=some ⟨5,1,[u.2.2.1]⟩∧H1 ub=some ⟨1,3,u.2.2.2.2.map eH⟩∧LV c ([0,1,2,3].drop u.1) u.2.2.2.1 u.2.2.2.2 (OI c i s)∧ ∀id,X' id→id≠nx+1→H1 id=G id) (fun u=>4-u.1) (0,nm2,_,QD c i s,[false,false,false])
    ⟨noF,_,by repeat' first|exact bo2|refine xqI rfl rfl ?_|refine xqP (by omega) rfl rfl ?_|refine xqO (by omega) rfl rfl (by rfl) ?_|fail,aK,by dsimp only;omega,hs2,rfl,blG.frame (by omega) (fun _ _ _=>rfl),j1,ju,rfl,jfr⟩ ?_
   clear blG j1 ju jfr hs2;rintro⟨k,nm3,cl3,bp7,aIG⟩ H3 nx3 hnx3 ⟨hk,hs3,hul,hR3,e1,eu,hL,hfr⟩ bqR hKN;dsimp only at hk hs3 hul hR3 e1 eu hL hfr;have boU:=(hfr nx x0 (by omega)).trans bfZ;have e2:=(hfr (nx+2) bpZ (by omega)).trans f2;obtain⟨wc,hc,pc,vc,tc,mp,rp,mv,rv,hcell,g1,g2,g3,g4,g5,bkU,bkV,bp4,bp5,ga,gb⟩:=hR3.get;subst hcell;have hB:bQ nx3 [nx,nx+1,nx+2,nx+3]:=AM.apart (by simp) (by simp;omega);simp only[bQ,eZ] at hB;by_cases hlt:k<4
   ·rw[apX hlt] at hL;repeat' first|apply bn1<;>(simp only[go_sem,boC,boU,e1,e2,hB])|apply bn2 (by omega)|fail
    refine bjU (X:=X2) (um:=3) hb hs3 hlt hul (hR3.frame (by omega) (fun _ _ _=>rfl)) yu eu (by omega) fun H' nx' nm' cells' hx' hR' hu' hf'=> ?_;have q1:=(hf' (nx+1) y1 (by omega)).trans e1;obtain⟨wc',hc',pc',vc',tc',_,_,_,_,hcell',_⟩:=hR'.get;subst hcell';obtain⟨hs',hu2⟩:=bkC (u:=aIG) hb hs3 hlt hul;(try simp only[go_sem,boC,q1]);repeat' first|apply bn1<;>(simp only[go_sem,boC,q1];try simp (disch:=omega) only[Iw])|fail
    exact hKN _ _ _ (k+1,nm',_,(bhV c bp7 aIG k).1,(bhV c bp7 aIG k).2) noF _ (by omega) (by dsimp only;omega) (by repeat' first|exact bo2|refine xqI rfl rfl ?_|refine xqP (by omega) rfl rfl ?_|refine xqO (by omega) rfl rfl (by rfl) ?_|fail) aK ⟨by dsimp only;omega,hs',hu2,hR'.frame (by omega) (fun id h1 h2=>aA.aC fun he=>h2 (he▸y1)),aA.bH,by rw[aA.aC (by omega)];exact hu',hL.bkK,fun id hid hne=>by rw[aA.aC hne,hf' id (blF id hid) (by have:=hX'l id hid;omega)];exact hfr id hid hne⟩
   ·have hk4:k=4:=(by omega);subst hk4;have hL:bp7=OI c i s:=hL;subst hL;repeat' first|apply bn1<;>(simp only[go_sem])|apply bn3 (by omega)|fail
    have blG:=hR3.sub blF;clear hR3 boU e2 hB g1 g2 g3 g4 g5 bkU bkV bp4 bp5 ga gb eu
    refine aM.gP (β:=Nat×(Nat→Nat)×List D1×CSt) (fun u=>en [(11,boP u.1),(6,.one (.c (.ptr 5 (nx+3) 0 0))),(5,.one (.c (.ptr 3 (nx+2) 0 0))),(4,.one (.c (.ptr 5 (nx+1) 0 0))),(3,.one (.c (.ptr 3 nx 0 0)))])
     (fun u H1 nx1=>u.1≤3∧COk c u.2.2.2∧bgJ X' H1 nx1 u.2.1 u.2.2.2 u.2.2.1∧H1 (nx+1)=some ⟨5,1,[u.2.2.1]⟩∧blD c (PA c i) ([0,1,2].drop u.1) u.2.2.2 (vF c i s)∧ ∀id,X' id→id≠nx+1→H1 id=G id) (fun u=>3-u.1) (0,nm3,_,OI c i s)
     ⟨noF,_,by repeat' first|exact bo2|refine xqI rfl rfl ?_|refine xqP (by omega) rfl rfl ?_|fail,aK,by dsimp only;omega,hs3,blG.frame (by omega) (fun _ _ _=>rfl),e1,rfl,hfr⟩ ?_
    clear blG e1 hfr hs3;rintro⟨k,nm4,cl4,bp8⟩ bqL nx4 hnx4 ⟨hk,hs4,hR4,e1,hL,hfr⟩ aNB hKO;dsimp only at hk hs4 hR4 e1 hL hfr;have boU:=(hfr nx x0 (by omega)).trans bfZ;have e2:=(hfr (nx+2) bpZ (by omega)).trans f2;have e3:=(hfr (nx+3) aYM (by omega)).trans bpS;have hRc:=hR4;obtain⟨wc,hc,pc,vc,tc,mp,rp,mv,rv,hcell,g1,g2,g3,g4,g5,bkU,bkV,bp4,bp5,ga,gb⟩:=hR4.get;subst hcell;have hB:bQ nx4 [nx,nx+1,nx+2,nx+3]:=AM.apart (by simp) (by simp;omega);simp only[bQ,eZ] at hB;by_cases hlt:k<3
    ·rw[ap4 hlt] at hL;by_cases hg:i.send.getD k default=true∧(aF bp8 k).queue.length<2∧(aF bp8 k).next<(c.cP.getD k default).length
     case neg=>
      have boT:PA c i bp8 k=none:=by unfold PA;exact if_neg hg
      cases hr:i.send.getD k default with
      |false=>
       repeat' first|apply bn1<;>(simp only[go_sem,boC,boU,e1,e2,hr,hB];try simp (disch:=omega) only[Iw])|apply bn2 (by omega)|refine⟨by omega,?_⟩|fail
       all_goals exact hKO _ _ _ (k+1,nm4,_,bp8) noF _ (by omega) (by dsimp only;omega) (by repeat' first|exact bo2|refine xqI rfl rfl ?_|refine xqP (by omega) rfl rfl ?_|fail) aK ⟨by dsimp only;omega,hs4,hR4.frame (by omega) (fun _ _ _=>rfl),e1,hL.none boT,hfr⟩
      |true=>
       have hsd:decide ((aF bp8 k).queue.length<2∧(aF bp8 k).next<(c.cP.getD k default).length)=false:=decide_eq_false fun h=>hg ⟨hr,h⟩;repeat' first| (first|apply bn1|refine bhT hb hs4 hlt (hRc.ar5 hs4.pl hs4.sl (fun id hid=>rfl)) ?_)<;>(simp only[go_sem,boC,boU,e1,e2,hr,hsd,hB];try simp (disch:=omega) only[Iw])|apply bn2 (by omega)|refine⟨by omega,?_⟩|fail
       all_goals exact hKO _ _ _ (k+1,nm4,_,bp8) noF _ (by omega) (by dsimp only;omega) (by repeat' first|exact bo2|refine xqI rfl rfl ?_|refine xqP (by omega) rfl rfl ?_|fail) aK ⟨by dsimp only;omega,hs4,hR4.frame (by omega) (fun _ _ _=>rfl),e1,hL.none boT,hfr⟩
     have boT:PA c i bp8 k=some (.ask k):=(by unfold PA;exact if_pos hg);obtain⟨hr,hq2,hn2⟩:=hg;have hsd:decide ((aF bp8 k).queue.length<2∧(aF bp8 k).next<(c.cP.getD k default).length)=true:=decide_eq_true ⟨hq2,hn2⟩;obtain⟨p,hp⟩: ∃p,aF bp8 k=p:=⟨_,rfl⟩
     obtain⟨qo,qc,oc,gr,gq,go⟩:=ga k hlt;rw[hp] at gr gq go hq2 hn2;obtain⟨hnx1',_⟩:=(hs4.port k hlt).next;rw[hp] at hnx1';have hpk:=hpr k;have lt:=hR4.names.lt;have n2:=lt 2 (by omega);have az8:=lt (5+k) (by omega);have az2: ∀x,X' x→nm4 2≠x:=fun x hx he=>hR4.names.av 2 (by omega) (he▸hx);have aAA: ∀x,X' x→nm4 (5+k)≠x:=fun x hx he=>hR4.names.av (5+k) (by omega) (he▸hx);have hA4:bQ nx4 ([2,5+k].map nm4):=AM.apart (hR4.names.list (by simp;omega) (by simp;omega)) (fun x hx=>by obtain⟨j,hj,rfl⟩:=CF.1 hx;exact lt j (by simp at hj;omega));simp only[bQ,eZ,List.map] at hA4;have b20:=eq_false (az2 _ x0);have b21:=eq_false (az2 _ x1);have b22:=eq_false (az2 _ bpZ);have b23:=eq_false (az2 _ aYM);have b50:=eq_false (aAA _ x0);have b51:=eq_false (aAA _ x1);have b52:=eq_false (aAA _ bpZ);have b53:=eq_false (aAA _ aYM);have d20:=eq_false (az2 _ x0).symm;have d21:=eq_false (az2 _ x1).symm;have d22:=eq_false (az2 _ bpZ).symm;have d51:=eq_false (aAA _ x1).symm;have k1: ∀(G:aA) (b k:Nat),msk (nx4+b) [k] G (nx+1)=G (nx+1):=fun G b k=>mk1 (by omega);have k2: ∀(G:aA) (b k:Nat),msk (nx4+b) [k] G (nm4 2)=G (nm4 2):=fun G b k=>mk1 (by omega);have k5: ∀(G:aA) (b j:Nat),msk (nx4+b) [j] G (nm4 (5+k))=G (nm4 (5+k)):=fun G b j=>mk1 (by omega);obtain⟨mq,rq0,blH,blI,aEP,blJ,aEQ,blK⟩:=gq.ex;rw[bqW] at blJ;have htk:List.take p.queue.length (List.drop qo rq0)=p.queue.map aJ:=(by rw[blI,boL (by simp)]);have hgk: ∀r,(rp.set k r)[k]?=some r:=fun r=>by rw[bqZ (by omega)]
     repeat' first| (first|apply bn1|refine bhT hb hs4 hlt (hRc.ar5 hs4.pl hs4.sl (fun id hid=>rfl)) ?_)<;>(simp only[go_sem,boC,boU,e1,e2,hr,hsd,g1,gr,blH,htk,hgk,k1,k2,k5,bq1,hB,hA4,b20,b21,b22,b23,b50,b51,b52,b53,d20,d21,d22,d51];try simp (disch:=omega) only[Iw])|apply bn2 (by omega)| (with_reducible first|refine fun(cap:Nat) (hcap:_≤cap)=> ?_|refine fun(hcp:_≤cap)=> ?_)|refine⟨by omega,?_⟩|fail
     have hex:(p.queue++[p.next]).map aJ=(p.queue++[p.next]).map aJ:=rfl;obtain⟨s',hs'⟩: ∃s',s'=aR c bp8 (.ask k):=⟨_,rfl⟩
     have hok':COk c s':=(by rw[hs'];exact o9 hb hs4 (YH hs4 hlt boT));have hL:=hL.next;rw[boT,show atS c bp8 (some (.ask k))=s' from hs'.symm] at hL;have hpd':aF s' k= {p with queue:=p.queue++[p.next],next:=p.next+1}:=(by rw[hs',bL rfl (by rw[hs4.pl];omega),if_pos rfl,hp]);have inj:=hR4.names.inj;refine af0 (K:=aNB) fun W aYL=> ?_;have w29:W (nx4+29)=some ⟨1,cap,(p.queue++[p.next]).map aJ⟩:=(by rw[aYL];simp (disch:=omega) only[aA.aC,aA.bH]);have bqI:W (nm4 2)=some ⟨4,mp,rp.set k [cI (p.next+1),.osl 1 (nx4+29) 0 (p.queue.length+1) cap,.osl 3 (nm4 (8+k)) 0 p.out.length oc,cI p.last]⟩:=(by rw[aYL];exact aA.bH);have wf: ∀id,id<nx4→id≠nm4 2→id≠nm4 (5+k)→W id=bqL id:=fun id h1 h2 h3=>by rw[aYL];simp (disch:=omega) only[aA.aC,aA.jG]
     clear aYL;have blL: ∀id,X' id→W id=bqL id:=fun id hid=>wf id (by have:=hX'l id hid;omega) (fun he=>az2 id hid he.symm) (fun he=>aAA id hid he.symm);have wk: ∀a,a<19→a≠2→a≠5+k→W (nm4 a)=bqL (nm4 a):=fun a h1 h2 h3=>wf _ (lt a h1) (fun he=>h2 (inj a 2 h1 (by omega) he)) (fun he=>h3 (inj a (5+k) h1 (by omega) he));obtain⟨nm',hnm'⟩: ∃nm',nm'=put nm4 (5+k) (nx4+29):=⟨_,rfl⟩
     have pn: ∀a,a≠5+k→nm' a=nm4 a:=fun a h1=>by rw[hnm',jE h1]
     have p5':nm' (5+k)=nx4+29:=(by rw[hnm',t8]);have hN:Names X' (nx4+49) nm':=(by rw[hnm'];exact hR4.names.put (by omega) (by omega) (fun hn=>by have:=hX'l _ hn;omega));have ews:s'.words=bp8.words:=(by rw[hs'];rfl);have ehs:s'.holds=bp8.holds:=(by rw[hs'];rfl);have ets:s'.told=bp8.told:=(by rw[hs'];rfl);have bqH:W (nx+1)=some ⟨5,1,[[.osl 1 (nm' 0) 0 s'.words.length wc,.osl 1 (nm' 1) 0 s'.holds.length hc,.osl 4 (nm' 2) 0 3 pc,.osl 3 (nm' 3) 0 4 vc,.osl 5 (nm' 4) 0 s'.told.length tc]]⟩:=(by rw[blL _ x1,e1,ews,ehs,ets,pn 0 (by omega),pn 1 (by omega),pn 2 (by omega),pn 3 (by omega),pn 4 (by omega)]);refine hKO _ _ _ (k+1,nm',_,s') noF _ (by omega) (by dsimp only;omega) (by repeat' first|exact bo2|refine xqI rfl rfl ?_|refine xqP (by omega) rfl rfl ?_|fail) aK ⟨by dsimp only;omega,hok',⟨⟨⟨wc,hc,pc,vc,tc,rfl,?_,?_,?_,bkU,bkV⟩,⟨mp,rp.set k [cI (p.next+1),.osl 1 (nx4+29) 0 (p.queue.length+1) cap,.osl 3 (nm4 (8+k)) 0 p.out.length oc,cI p.last],?_,by rw[Y5,bp4],fun j hj=> ?_⟩,⟨mv,rv,?_,bp5,fun j hj=> ?_⟩⟩,hN,fun id hid=>by have:=hX'l id hid;omega⟩,bqH,hL,fun id hid hne=>(blL id hid).trans (hfr id hid hne)⟩;·dsimp only;rw[ews,pn 0 (by omega)];exact g3.frame (wk 0 (by omega) (by omega) (by omega))
     ·dsimp only;rw[ehs,pn 1 (by omega)];exact g4.frame (wk 1 (by omega) (by omega) (by omega))
     ·dsimp only;rw[ets,pn 4 (by omega)];exact g5.frame (wk 4 (by omega) (by omega) (by omega))
     ·dsimp only;rw[pn 2 (by omega)];exact bqI
     ·dsimp only;by_cases hjk:j=k
      ·subst hjk;refine⟨_,hgk _,⟨0,cap,oc,?_,?_,?_⟩⟩;·rw[hpd',p5',pn (8+j) (by omega)];simp only[af5,t2,List.length_singleton]
       ·rw[hpd',p5'];exact⟨cap,_,w29,rfl,by simp,by simp,by simp;omega,by omega⟩
       ·rw[hpd',pn (8+j) (by omega)];exact go.frame (wk (8+j) (by omega) (by omega) (by omega))
      ·obtain⟨qo',qc',oc',v1,v2,aXN⟩:=ga j hj;have e:aF s' j=aF bp8 j:=(by rw[hs',bL rfl (by rw[hs4.pl];omega),if_neg hjk]);refine⟨_,by rw[bq0 (Ne.symm hjk)];exact v1,⟨qo',qc',oc',?_,?_,?_⟩⟩;·rw[e,pn (5+j) (by omega),pn (8+j) (by omega)];rfl
       ·rw[e,pn (5+j) (by omega)];exact v2.frame (wk (5+j) (by omega) (by omega) (by omega))
       ·rw[e,pn (8+j) (by omega)];exact aXN.frame (wk (8+j) (by omega) (by omega) (by omega))
     ·dsimp only;rw[pn 3 (by omega)];exact(wk 3 (by omega) (by omega) (by omega)).trans g2
     ·dsimp only;obtain⟨po',pc',do',dc',v1,v2,aXN⟩:=gb j hj;have e:aL s' j=aL bp8 j:=(by rw[hs'];rfl);refine⟨_,v1,⟨po',pc',do',dc',?_,?_,?_⟩⟩;·rw[e,pn (11+j) (by omega),pn (15+j) (by omega)];rfl
      ·rw[e,pn (11+j) (by omega)];exact v2.frame (wk (11+j) (by omega) (by omega) (by omega))
      ·rw[e,pn (15+j) (by omega)];exact aXN.frame (wk (15+j) (by omega) (by omega) (by omega))
    ·have hk3:k=3:=(by omega);subst hk3;have hL:=blD.nil hL;subst hL;repeat' first|apply bn1<;>(simp only[go_sem,e1,e3,hB,boC])|apply bn3 (by omega)|fail
     refine hQ _ _ _ _ _ (.inr rfl) (LL rfl aA.bH rfl) ?_;refine h _ _ nm4 _ (by omega) ((hR4.frame (by omega) fun id h1 h2=>aA.aC fun he=>h2 (he▸aYM)).sub blE) fun id hid=> ?_;rw[aA.aC (by have:=hX id hid;omega),hfr id (blE id hid) (by have:=hX id hid;omega)];exact ff id (hX id hid)
end
end Go.Proofs.YtmccpdapaccnoaaGreat
namespace Go.AM
theorem bjS {H:aA} {nh n m m':Nat} {R rows' rows:List (List D1)} {r' r:List D1} (e':rows'=R++[r']) (e:rows=R++[r]) (hR: ∀r∈R,∀x∈r,x.dQ=true∨ ∃n id,x= .osl n id 0 0 0) (hm:m'=m) (h:CvL H noF id nh r' r):CvO H noF id nh ⟨n,m',rows'⟩ ⟨n,m,rows⟩:=by
 subst e';subst e;subst hm;refine⟨rfl,rfl,by simp,fun _ h=>by simp at h,fun i r1 h1=> ?_⟩;simp only[o5] at h1 ⊢;by_cases hi:i<R.length
 ·rw[if_pos hi] at h1 ⊢;refine⟨r1,h1,rfl,fun j x y hx hy=> ?_⟩;obtain rfl:x=y:=by rw[hx] at hy;exact Option.some.inj hy
  rcases hR r1 (s3 h1) x (s3 hx) with h2|⟨n,k,rfl⟩
  ·exact bB h2
  ·exact .VS ..
 ·rw[if_neg hi] at h1 ⊢;rw[bsH] at h1 ⊢;split at h1;·rename_i h0;cases h1;exact⟨r,if_pos h0,h⟩
  ·cases h1
theorem bhO {H:aA} {n id:Nat} (h:H id=some ⟨n,0,[]⟩):tZ H n id 0 0 0 []:=⟨⟨0,[],h,rfl,by simp,rfl,by omega,by omega⟩⟩
def bhX (nx b iv:Nat):Nat→Nat:=fun a=>if a=0 then nx+22 else if a=1 then nx+23 else if a=2 then b else if a=3 then iv else if a=4 then nx+14 else if a<8 then nx+(a-5) else if a<11 then nx+3+(a-8) else if a<15 then nx+6+(a-11) else nx+10+(a-15)
theorem bjV {X:Nat→Prop} {nx b iv nx':Nat} (hX: ∀id,X id→id<nx) (hb:b=nx+15∨nx+25≤b∧b<nx') (hi:iv=nx+16∨nx+25≤iv∧iv<nx'∧iv≠b) (h:nx+25≤nx'):Names X nx' (bhX nx b iv):=by
 have key: ∀a,a<19→(a=0∧bhX nx b iv a=nx+22)∨(a=1∧bhX nx b iv a=nx+23)∨(a=2∧bhX nx b iv a=b)∨(a=3∧bhX nx b iv a=iv)∨(a=4∧bhX nx b iv a=nx+14)∨(5≤a∧bhX nx b iv a+5=nx+a∧a<15)∨(15≤a∧bhX nx b iv a+5=nx+a):=fun a ha=>by
  unfold bhX;repeat' split
  all_goals omega
 refine⟨fun j k hj hk he=> ?_,fun k hk=> ?_,fun k hk h0=> ?_⟩;·have h1:=key j hj;have h2:=key k hk;omega
 ·have h1:=key k hk;omega
 ·have h1:=key k hk;have h2:=hX _ h0;omega
end Go.AM
namespace Go.Proofs.YtmccpdapaccnoaaGreat
open Go Go.AM
attribute [local irreducible] aM wv aB vd wvH
section
variable {H : aA} {nx : Nat} {K : D → aA → Nat → Prop}
theorem bjF:cJ Tryz.prog bhA Tryz.f271 bgW bhP:=cJ.mk Tryz.func271 (by kernel_rfl) bi6
def biG (nx k:Nat):List (List D1):=(List.range k).map fun j=>[cI 0,.osl 1 (nx+j) 0 0 0,.osl 3 (nx+3+j) 0 0 0,cI 3]
def bi8 (nx k:Nat):List (List D1):=(List.range k).map fun j=>[.osl 3 (nx+6+j) 0 0 0,.osl 5 (nx+10+j) 0 0 0,cI 2]
theorem bjW {nx k:Nat}:(biG nx k).length=k:=by simp[biG]
theorem bjX {nx k:Nat}:(bi8 nx k).length=k:=by simp[bi8]
theorem bj5 {nx k:Nat}:biG nx (k+1)=biG nx k++[[cI 0,.osl 1 (nx+k) 0 0 0,.osl 3 (nx+3+k) 0 0 0,cI 3]]:=by simp[biG,brP]
theorem bj8 {nx k:Nat}:bi8 nx (k+1)=bi8 nx k++[[.osl 3 (nx+6+k) 0 0 0,.osl 5 (nx+10+k) 0 0 0,cI 2]]:=by simp[bi8,brP]
theorem bjL {X:Nat→Prop} (hX: ∀id,X id→id<nx)
 (h: ∀H' nx' nm cells,nx≤nx'→bgJ X H' nx' nm HY cells→(∀id,id<nx→H' id=H id)→K (boR cells) H' nx'):
 aB Tryz.prog bhA [] H nx K:=by
 refine bjF rfl fun Q hQ=> ?_
 unfold bgW
 refine aM.EJ 1 (aM.EJ 1 (aM.EJ 1 (aM.EJ 3 (aM.EJ 3 (aM.EJ 3 (aM.EJ 3 (aM.EJ 3 (aM.EJ 3 (aM.EJ 3 (aM.EJ 5 (aM.EJ 5 (aM.EJ 5 (aM.EJ 5 (aM.EJ 5 (aM.EJ 4 (aM.EJ 3 ?_))))))))))))))))
 refine aM.aTJ fun bqO hG0=> ?_
 have c1: ∀k,k<3→bqO (nx+k)=some ⟨1,0,[]⟩:=fun k hk=>by
  rw[hG0];obtain rfl|rfl|rfl:k=0∨k=1∨k=2:=by omega
  all_goals (simp (disch:=omega) only[aA.aC,aA.bH,t1,Nat.reduceAdd,Nat.add_zero])
 have c3: ∀k,3≤k→k<10→bqO (nx+k)=some ⟨3,0,[]⟩:=fun k hk hk2=>by
  rw[hG0];obtain rfl|rfl|rfl|rfl|rfl|rfl|rfl:k=3∨k=4∨k=5∨k=6∨k=7∨k=8∨k=9:=by omega
  all_goals (simp (disch:=omega) only[aA.aC,aA.bH,t1,Nat.reduceAdd,Nat.add_zero])
 have c5: ∀k,10≤k→k<15→bqO (nx+k)=some ⟨5,0,[]⟩:=fun k hk hk2=>by
  rw[hG0];obtain rfl|rfl|rfl|rfl|rfl:k=10∨k=11∨k=12∨k=13∨k=14:=by omega
  all_goals (simp (disch:=omega) only[aA.aC,aA.bH,t1,Nat.reduceAdd,Nat.add_zero])
 have cp:bqO (nx+15)=some ⟨4,0,[]⟩:=by rw[hG0];simp (disch:=omega) only[aA.aC,aA.bH,t1,Nat.reduceAdd,Nat.add_zero]
 have cv:bqO (nx+16)=some ⟨3,0,[]⟩:=by rw[hG0];simp (disch:=omega) only[aA.aC,aA.bH,t1,Nat.reduceAdd,Nat.add_zero]
 have cf: ∀id,id<nx→bqO id=H id:=fun id hid=>by rw[hG0];simp (disch:=omega) only[aA.aC]
 clear hG0
 simp only[t1,Nat.reduceAdd]
 repeat' first| (first|apply bn1|refine aR5 (fun hc0 hhc=> ?_))<;>(simp only[go_sem,boC])|fail
 have hnP: ∀k,∀r∈biG nx k,∀x∈r,x.dQ=true∨ ∃n id,x= .osl n id 0 0 0:=fun k r hr x hx=>by
  obtain⟨j,_,rfl⟩:=CF.1 hr;simp only[t3,bq7,or_false] at hx;rcases hx with rfl|rfl|rfl|rfl;·exact .inl rfl
  ·exact .inr ⟨_,_,rfl⟩
  ·exact .inr ⟨_,_,rfl⟩
  ·exact .inl rfl
 have hnV: ∀k,∀r∈bi8 nx k,∀x∈r,x.dQ=true∨ ∃n id,x= .osl n id 0 0 0:=fun k r hr x hx=>by
  obtain⟨j,_,rfl⟩:=CF.1 hr;simp only[t3,bq7,or_false] at hx;rcases hx with rfl|rfl|rfl;·exact .inr ⟨_,_,rfl⟩
  ·exact .inr ⟨_,_,rfl⟩
  ·exact .inl rfl
 refine aM.tW _ _ noF (fun t=>.inl rfl) (KO (i:=nx+20) (o':=⟨5,1,[[.osl 1 (nx+22) 0 64 64,.osl 1 (nx+23) 0 6 hc0,.osl 4 (nx+15) 0 0 0,.osl 3 (nx+16) 0 0 0,.osl 5 (nx+14) 0 0 0]]⟩) aA.bH (aP (aH (.osl _ _ _ _ _ (by omega)) (aH (.osl _ _ _ _ _ (by omega)) (aH (.VS ..) (aH (.VS ..) (aH (.VS ..) eP))))))) ?_
 refine aM.TF fun G bqK=> ?_
 have d20:G (nx+20)=some ⟨5,1,[[.osl 1 (nx+22) 0 64 64,.osl 1 (nx+23) 0 6 hc0,.osl 4 (nx+15) 0 0 0,.osl 3 (nx+16) 0 0 0,.osl 5 (nx+14) 0 0 0]]⟩:=by rw[bqK];exact aA.bH
 have d17:G (nx+17)=some ⟨5,1,[[D1.osl 0 0 0 0 0,D1.osl 0 0 0 0 0,D1.osl 0 0 0 0 0,D1.osl 0 0 0 0 0,D1.osl 0 0 0 0 0]]⟩:=by rw[bqK];simp (disch:=omega) only[aA.aC,aA.bH]
 have d22:G (nx+22)=some ⟨1,64,(List.replicate 64 (0:Int)).map aJ⟩:=by rw[bqK];simp (disch:=omega) only[aA.aC,aA.bH];rfl
 have d23:G (nx+23)=some ⟨1,hc0,(List.replicate 6 (-1:Int)).map aJ⟩:=by rw[bqK];simp (disch:=omega) only[aA.aC,aA.bH];rfl
 have df: ∀id,id<nx+17→G id=bqO id:=fun id hid=>by rw[bqK];simp (disch:=omega) only[aA.aC]
 clear bqK
 refine aM.gP (β:=Nat×Nat×Nat) (fun u=>en [(2,boP u.1),(1,.one (.c (.ptr 5 (nx+20) 0 0))),(0,.one (.c (.ptr 5 (nx+17) 0 0)))])
  (fun u H1 bp0=>u.1≤3∧H1 (nx+20)=some ⟨5,1,[[.osl 1 (nx+22) 0 64 64,.osl 1 (nx+23) 0 6 hc0,.osl 4 u.2.1 0 u.1 u.2.2,.osl 3 (nx+16) 0 0 0,.osl 5 (nx+14) 0 0 0]]⟩∧(∃m,H1 u.2.1=some ⟨4,m,biG nx u.1⟩∧u.1≤u.2.2∧u.2.2≤m)∧(u.2.1=nx+15∨nx+25≤u.2.1∧u.2.1<bp0)∧ ∀id,id<nx+25→id≠nx+15→id≠nx+20→H1 id=G id) (fun u=>3-u.1) (0,nx+15,0)
  ⟨noF,_,by repeat' first|exact bo2|refine xqI rfl rfl ?_|refine xqP (by omega) rfl rfl ?_|fail,aK,by dsimp only;omega,d20,⟨0,(df (nx+15) (by omega)).trans cp,m5 _,m5 _⟩,.inl rfl,fun _ _ _ _=>rfl⟩ ?_
 rintro⟨k,b,cp0⟩ H1 nx1 hnx1 ⟨hk,e20,⟨m,eb,eb1,eb2⟩,hbr,hfr⟩ bpQ hKL
 dsimp only at hk e20 eb eb1 eb2 hbr
 have hA:bQ nx1 [nx+17,nx+20,b]:=AM.apart (by simp;omega) (by simp;omega)
 simp only[bQ,eZ] at hA
 have hPl:=bjW (nx:=nx) (k:=k)
 have hPt:List.take k (biG nx k)=biG nx k:=boL (by omega)
 by_cases hlt:k<3
 ·repeat' first|apply bn1<;>(simp only[go_sem,boC,e20,eb,hPl,hPt,hA];try simp (disch:=omega) only[Iw])|apply bn2 (by omega)| (with_reducible first|refine fun(cap:Nat) (hcap:_≤cap)=> ?_|refine fun(hcp:_≤cap)=> ?_)|refine⟨by omega,?_⟩|fail
  refine af0 (K:=bpQ) fun W aYL=> ?_;refine hKL _ _ _ (k+1,nx1+6,cap) noF _ (by omega) (by dsimp only;omega) (by repeat' first|exact bo2|refine xqI rfl rfl ?_|refine xqP (by omega) rfl rfl ?_|fail) (KO (i:=nx1+6) (o':=⟨4,cap,biG nx (k+1)⟩) (by rw[aYL,aA.aC (by omega)];exact aA.bH) (bjS bj5 rfl (hnP k) rfl (aH (bB rfl) (aH (.VS ..) (aH (.VS ..) (aH (bB rfl) eP)))))) ⟨by dsimp only;omega,?_,⟨cap,aA.bH,by dsimp only;omega,m5 _⟩,by dsimp only;omega,fun id bfZ bpR f2=> ?_⟩;·dsimp only;rw[aA.aC (by omega),aYL,aA.bH]
  ·rw[aA.aC (by omega),aYL,aA.aC f2,aA.aC (by omega),aA.aC (by omega),aA.jG (by omega)];exact hfr id bfZ bpR f2
 ·repeat' first|apply bn1<;>(simp only[go_sem])|apply bn3 (by omega)|fail
  have hk3:k=3:=by omega
  subst hk3;have b16:H1 (nx+16)=some ⟨3,0,[]⟩:=(hfr (nx+16) (by omega) (by omega) (by omega)).trans ((df (nx+16) (by omega)).trans cv);clear hA hPl hPt
  refine aM.gP (β:=Nat×Nat×Nat) (fun u=>en [(3,boP u.1),(1,.one (.c (.ptr 5 (nx+20) 0 0))),(0,.one (.c (.ptr 5 (nx+17) 0 0)))])
   (fun u H2 n2=>u.1≤4∧H2 (nx+20)=some ⟨5,1,[[.osl 1 (nx+22) 0 64 64,.osl 1 (nx+23) 0 6 hc0,.osl 4 b 0 3 cp0,.osl 3 u.2.1 0 u.1 u.2.2,.osl 5 (nx+14) 0 0 0]]⟩∧(∃m,H2 u.2.1=some ⟨3,m,bi8 nx u.1⟩∧u.1≤u.2.2∧u.2.2≤m)∧(u.2.1=nx+16∨nx+25≤u.2.1∧u.2.1<n2∧u.2.1≠b)∧H2 b=some ⟨4,m,biG nx 3⟩∧ ∀id,id<nx+25→id≠nx+15→id≠nx+16→id≠nx+20→H2 id=G id) (fun u=>4-u.1) (0,nx+16,0)
   ⟨noF,_,by repeat' first|exact bo2|refine xqI rfl rfl ?_|refine xqP (by omega) rfl rfl ?_|fail,aK,by dsimp only;omega,e20,⟨0,b16,m5 _,m5 _⟩,.inl rfl,eb,fun id bfZ bpR _ f2=>hfr id bfZ bpR f2⟩ ?_
  rintro⟨k,iv,cw⟩ H2 nx2 hnx2 ⟨hk,b20,⟨mv,bp,bp1,bp2⟩,hvr,bb,hfr2⟩ bqG hKM;dsimp only at hk b20 bp bp1 bp2 hvr;have hA2:bQ nx2 [nx+17,nx+20,b,iv]:=AM.apart (by simp;omega) (by simp;omega);simp only[bQ,eZ] at hA2;have hVl:=bjX (nx:=nx) (k:=k);have hVt:List.take k (bi8 nx k)=bi8 nx k:=boL (by omega);by_cases hlt:k<4
  ·repeat' first|apply bn1<;>(simp only[go_sem,boC,b20,bp,hVl,hVt,hA2];try simp (disch:=omega) only[Iw])|apply bn2 (by omega)| (with_reducible first|refine fun(cap:Nat) (hcap:_≤cap)=> ?_|refine fun(hcp:_≤cap)=> ?_)|refine⟨by omega,?_⟩|fail
   refine af0 (K:=bqG) fun W aYL=> ?_;refine hKM _ _ _ (k+1,nx2+6,cap) noF _ (by omega) (by dsimp only;omega) (by repeat' first|exact bo2|refine xqI rfl rfl ?_|refine xqP (by omega) rfl rfl ?_|fail) (KO (i:=nx2+6) (o':=⟨3,cap,bi8 nx (k+1)⟩) (by rw[aYL,aA.aC (by omega)];exact aA.bH) (bjS bj8 rfl (hnV k) rfl (aH (.VS ..) (aH (.VS ..) (aH (bB rfl) eP))))) ⟨by dsimp only;omega,?_,⟨cap,aA.bH,by dsimp only;omega,m5 _⟩,by dsimp only;omega,?_,fun id bfZ bpR bpS f2=> ?_⟩;·dsimp only;rw[aA.aC (by omega),aYL,aA.bH]
   ·rw[aA.aC (by omega),aYL,aA.aC (by omega),aA.aC (by omega),aA.aC (by omega),aA.jG (by omega)];exact bb
   ·rw[aA.aC (by omega),aYL,aA.aC f2,aA.aC (by omega),aA.aC (by omega),aA.jG (by omega)];exact hfr2 id bfZ bpR bpS f2
  ·repeat' first|apply bn1<;>(simp only[go_sem])|apply bn3 (by omega)|fail
   have hk4:k=4:=(by omega);subst hk4;have g17:=(hfr2 (nx+17) (by omega) (by omega) (by omega) (by omega)).trans d17;have g22:=(hfr2 (nx+22) (by omega) (by omega) (by omega) (by omega)).trans d22;have g23:=(hfr2 (nx+23) (by omega) (by omega) (by omega) (by omega)).trans d23;have gf: ∀id,id<nx+15→H2 id=bqO id:=fun id hid=>(hfr2 id (by omega) (by omega) (by omega) (by omega)).trans (df id (by omega));(try simp only[go_sem,boC,b20,g17,hA2,boC]);repeat' first|apply bn1<;>(simp only[go_sem,boC,b20,g17,hA2,boC])|fail
   refine hQ _ _ _ _ _ (.inr rfl) (LL rfl aA.bH rfl) ?_;refine h _ _ (bhX nx b iv) _ (by omega) ⟨⟨⟨64,hc0,cp0,cw,0,rfl,⟨⟨64,_,by rw[aA.aC (by show nx+22≠nx+17;omega)];exact g22,rfl,by simp[HY],by simp[HY],by simp[HY],by omega⟩⟩,⟨⟨hc0,_,by rw[aA.aC (by show nx+23≠nx+17;omega)];exact g23,rfl,by simp[HY],by simp[HY],by simpa [HY] using hhc,by omega⟩⟩,bhO (by rw[aA.aC (by show nx+14≠nx+17;omega),gf _ (by show nx+14<nx+15;omega)];exact c5 14 (by omega) (by omega)),by omega,by omega⟩,⟨m,biG nx 3,by rw[aA.aC (by show b≠nx+17;omega)];exact bb,bjW,fun k hk=> ?_⟩,⟨mv,bi8 nx 4,by rw[aA.aC (by show iv≠nx+17;omega)];exact bp,bjX,fun k hk=> ?_⟩⟩,bjV hX (by omega) (by omega) (by omega),fun id hid=>by have:=hX id hid;omega⟩ fun id hid=> ?_
   ·rw[MX hk];obtain rfl|rfl|rfl:k=0∨k=1∨k=2:=by omega
    all_goals
     refine⟨_,rfl,⟨⟨0,0,0,rfl,bhO ?_,bhO ?_⟩⟩⟩
    ·rw[aA.aC (by show nx+0≠nx+17;omega),gf _ (by show nx+0<nx+15;omega)];exact c1 0 (by omega)
    ·rw[aA.aC (by show nx+3+0≠nx+17;omega),gf _ (by show nx+3+0<nx+15;omega)];exact c3 3 (by omega) (by omega)
    ·rw[aA.aC (by show nx+1≠nx+17;omega),gf _ (by show nx+1<nx+15;omega)];exact c1 1 (by omega)
    ·rw[aA.aC (by show nx+3+1≠nx+17;omega),gf _ (by show nx+3+1<nx+15;omega)];exact c3 4 (by omega) (by omega)
    ·rw[aA.aC (by show nx+2≠nx+17;omega),gf _ (by show nx+2<nx+15;omega)];exact c1 2 (by omega)
    ·rw[aA.aC (by show nx+3+2≠nx+17;omega),gf _ (by show nx+3+2<nx+15;omega)];exact c3 5 (by omega) (by omega)
   ·rw[K4 hk];obtain rfl|rfl|rfl|rfl:k=0∨k=1∨k=2∨k=3:=by omega
    all_goals
     refine⟨_,rfl,⟨⟨0,0,0,0,rfl,bhO ?_,bhO ?_⟩⟩⟩
    ·rw[aA.aC (by show nx+6+0≠nx+17;omega),gf _ (by show nx+6+0<nx+15;omega)];exact c3 6 (by omega) (by omega)
    ·rw[aA.aC (by show nx+10+0≠nx+17;omega),gf _ (by show nx+10+0<nx+15;omega)];exact c5 10 (by omega) (by omega)
    ·rw[aA.aC (by show nx+6+1≠nx+17;omega),gf _ (by show nx+6+1<nx+15;omega)];exact c3 7 (by omega) (by omega)
    ·rw[aA.aC (by show nx+10+1≠nx+17;omega),gf _ (by show nx+10+1<nx+15;omega)];exact c5 11 (by omega) (by omega)
    ·rw[aA.aC (by show nx+6+2≠nx+17;omega),gf _ (by show nx+6+2<nx+15;omega)];exact c3 8 (by omega) (by omega)
    ·rw[aA.aC (by show nx+10+2≠nx+17;omega),gf _ (by show nx+10+2<nx+15;omega)];exact c5 12 (by omega) (by omega)
    ·rw[aA.aC (by show nx+6+3≠nx+17;omega),gf _ (by show nx+6+3<nx+15;omega)];exact c3 9 (by omega) (by omega)
    ·rw[aA.aC (by show nx+10+3≠nx+17;omega),gf _ (by show nx+10+3<nx+15;omega)];exact c5 13 (by omega) (by omega)
   ·rw[aA.aC (by omega),gf id (by omega)];exact cf id hid
theorem biZ {n:Nat} {l:List Int} {p i:Nat} (hn:0<n∧n≤90) (hl:kZ l) (hp50:p+2000<2^50) (hi:i<nx) (ho:H i=some (rdO l p))
 (h: ∀H' nx' p' (xs:List CIn),nx≤nx'→p'≤p+1000→xs.length≤90→(∀x∈xs,vZ x)→H' i=some (rdO l p')→(∀id,id<nx→id≠i→H' id=H id)→K (dS (xs.map eIn)) H' nx'):aB Tryz.prog AE [bkP 2 i,boP n] H nx K:=by
 apply aB.tW
 refine RX rfl fun Q hQ=> ?_
 unfold yD
 have hA:bQ nx [i]:=AM.apart (by simp) (by simp;omega)
 simp only[bQ,eZ] at hA
 repeat' first|apply bn1<;>(simp only[go_sem,boC,hA])|fail
 refine aX (p:=p) hl (by omega) (by omega) (by omega) (by simp only[aA.set,hA,if_false];exact ho) fun x h1 h2=> ?_
 obtain⟨slow,hs1,hs2⟩: ∃slow:Int,[[D1.v (Value.int IntKind.i64 2)],[D1.v (Value.int IntKind.i64 3)],[D1.v (Value.int IntKind.i64 5)],[D1.v (Value.int IntKind.i64 20)]][x.toNat]?=some [cI slow]∧0<slow∧slow<1000:=by
  have:x=0∨x=1∨x=2∨x=3:=by omega
  rcases this with rfl|rfl|rfl|rfl;·exact⟨2,rfl,by omega⟩
  ·exact⟨3,rfl,by omega⟩
  ·exact⟨5,rfl,by omega⟩
  ·exact⟨20,rfl,by omega⟩
 have hx0:(0≤x)=True:=eq_true h1
 have hx4:(x<4)=True:=eq_true (by omega)
 simp only[go_sem,boC,Nat.reduceAdd,hA,hs1,hx0,hx4]
 refine⟨by omega,?_⟩
 try apply bn0
 repeat' first|apply bn1<;>(simp only[go_sem])|fail
 refine aX (p:=p+1) hl (by omega) (by omega) (by omega) aA.bH fun y hy1 hy2=> ?_
 simp only[go_sem]
 repeat' first|apply bn1<;>(simp only[go_sem])|fail
 refine aM.TF fun bqO hG0=> ?_
 have ci:bqO i=some (rdO l (p+1+1)):=by rw[hG0];exact aA.bH
 have c1:bqO (nx+1)=some ⟨3,0,[]⟩:=by rw[hG0];simp only[aA.set,show ¬nx+1=i by omega,bqU,Nat.reduceEqDiff,if_false,if_true]
 have cfr: ∀id,id<nx→id≠i→bqO id=H id:=fun id d1 d2=>by rw[hG0];simp only[aA.set,d2,show ¬id=nx+1 by omega,show ¬id=nx+3 by omega,if_false]
 clear hG0
 refine aM.gP (β:=Nat×Nat×List CIn×Nat×Nat) (fun u=>en [(7,boP u.1),(6,boP slow),(5,.one (.c (.osl 3 u.2.2.2.1 0 u.2.2.1.length u.2.2.2.2))),(0,bkP 2 i)])
  (fun u H1 nx1=>u.1+u.2.2.1.length≤90∧u.2.1+10*u.1≤p+2+10*y.toNat∧(∀x∈u.2.2.1,vZ x)∧H1 i=some (rdO l u.2.1)∧(∃m,H1 u.2.2.2.1=some ⟨3,m,u.2.2.1.map eIn⟩∧u.2.2.1.length≤u.2.2.2.2∧u.2.2.2.2≤m)∧nx≤u.2.2.2.1∧u.2.2.2.1<nx1∧ ∀id,id<nx→id≠i→H1 id=H id)
  (fun u=>u.1) (y.toNat,p+1+1,[],nx+1,0) ⟨noF,_,by repeat' first|exact bo2|refine xqI rfl rfl ?_|refine xqP (by omega) rfl rfl ?_|refine xqV rfl (by omega) ?_| (with_reducible apply bo3)| ((with_reducible apply bo0);exact bpA)| ((with_reducible apply bo1);apply bo7)|fail,aK,by dsimp only[List.length_nil];omega,by dsimp only;omega,fun x hx=>by simp at hx,ci,⟨0,c1,m5 _,m5 _⟩,by dsimp only;omega,by dsimp only;omega,cfr⟩ ?_
 rintro⟨j,q,xs,io,cap⟩ H1 nx1 hnx ⟨hj,hq,hxs,gi,⟨m,g1,g2,g3⟩,hio1,hio2,hfr⟩ bpQ hKL
 dsimp only at hj hq hxs gi g1 g2 g3 hio1 hio2
 have hA1:bQ nx1 [i,io]:=AM.apart (by simp;omega) (by simp;omega)
 simp only[bQ,eZ] at hA1
 by_cases hj0:0<j
 ·repeat' first|apply bn1<;>(simp only[go_sem])|apply bn2 (by omega)|fail
  refine YJ hl (by omega) hs2 (by omega) gi fun H2 nx2 q2 x hx2 hq2 hxo fi ffr=> ?_;have bpR:=(ffr io (by omega) (by omega)).trans g1;have hA2:bQ nx2 [i,io]:=AM.apart (by simp;omega) (by simp;omega);simp only[bQ,eZ] at hA2;simp only[go_sem,t1,bpR,hA1,hA2];refine⟨g3,by omega,fun cap1 hcap hcp=> ?_⟩;try apply bn0
  repeat' first|apply bn1<;>(simp only[go_sem];try simp (disch:=omega) only[Iw])|fail
  refine hKL _ _ _ (j-1,q2,xs++[x],nx1+7,cap1) noF _ (by omega) (by dsimp only;omega) (by dsimp only;rw[t2,List.length_singleton];repeat' first|exact bo2|refine xqI rfl rfl ?_|refine xqP (by omega) rfl rfl ?_|refine xqO (by omega) rfl rfl (by rfl) ?_|refine xqV rfl (by omega) ?_|fail) aK ⟨by simp;omega,by dsimp only;omega,fun z hz=> ?_,?_,⟨cap1,aA.bH,by simpa using hcap,m5 _⟩,by dsimp only;omega,by dsimp only;omega,fun id d1 d2=> ?_⟩
  ·rcases o3.1 hz with hz|hz;·exact hxs z hz
   ·simp at hz;subst hz;exact hxo
  ·rw[aA.aC (by omega),aA.aC (by omega),aA.jG (by omega)];exact fi
  ·rw[aA.aC (by omega),aA.aC (by omega),aA.jG (by omega),ffr id (by omega) d2];exact hfr id d1 d2
 ·repeat' first|apply bn1<;>(simp only[go_sem])|apply bn3 (by omega)|fail
  refine hQ _ _ _ _ _ (.inr rfl) rfl ⟨dS (xs.map eIn),_,fun j=>j=io,yP QX g1 rfl g2 rfl,PU,h _ _ q xs (by omega) (by omega) (by omega) hxs ?_ fun id d1 d2=> ?_⟩;·rw[aA.jG (by omega)];exact gi
  ·rw[aA.jG (by omega)];exact hfr id d1 d2
end
end Go.Proofs.YtmccpdapaccnoaaGreat
