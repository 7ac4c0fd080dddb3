/- Texts laid together by a program: rules, contracts and the walk that leads to the law. -/
import Derived.Test.YtmccpdapaccnoaaPG15
import Derived.Test.YtmccpdapaccnoaaPG10
import Derived.Test.YtmccpdapaccnoaaPG12
set_option linter.unusedVariables false
set_option linter.unusedSimpArgs false
set_option linter.unusedSectionVars false
section
namespace Go.AM
theorem bkA {l:List fC} {n:Int} (h:l.Pairwise fun a b=>a.n<b.n) (he: ∃j∈l,j.n=n):l.filter (fun j=>decide (¬j.n=n))=PE l n:=by
 induction l with
 |nil=>obtain⟨j,hj,_⟩:=he;simp at hj
 |cons x l ih=>
  rw[List.pairwise_cons] at h
  by_cases hx:x.n=n
  ·have hf: ∀j∈l,decide (¬j.n=n)=true:=fun j hj=>by have:=h.1 j hj;exact decide_eq_true (by omega)
   rw[List.filter_cons,if_neg (by simpa using hx),List.filter_eq_self.2 hf]
   unfold PE B3
   rw[show bK (isC n) (x::l)=0 by unfold bK;rw[List.findIdx?_cons,if_pos (show isC n x=true from decide_eq_true hx)];rfl]
   rfl
  ·obtain⟨j,hj,hjn⟩:=he
   have hjl: ∃j∈l,j.n=n:=⟨j,by rcases List.mem_cons.1 hj with rfl|h2;exact absurd hjn hx;exact h2,hjn⟩
   have h0:0≤bK (isC n) l:=cH.2 (by obtain⟨j,q1,q2⟩:=hjl;exact⟨j,q1,decide_eq_true q2⟩)
   rw[List.filter_cons,if_pos (by simpa using hx),ih h.2 hjl]
   unfold PE B3
   have e:bK (isC n) (x::l)=bK (isC n) l+1:=by
    unfold bK at h0 ⊢
    rw[List.findIdx?_cons,if_neg (show ¬isC n x=true from fun h=>hx (of_decide_eq_true h))]
    cases hf:List.findIdx? (isC n) l with
    |none=>rw[hf] at h0;dsimp only at h0;omega
    |some k=>rfl
   rw[e,show (bK (isC n) l+1).toNat=(bK (isC n) l).toNat+1 by omega]
   rfl
end Go.AM
namespace Go.Proofs.Ytmccpdapaccnoaa
open Go Go.AM
set_option maxRecDepth 100000
set_option maxHeartbeats 8000000
theorem LL {H:aA} {e:Env} {t n id m:Nat} {cs:List D1} (he:e t= .one (.c (.ptr n id 0 0))) (ho:H id=some ⟨n,m,[cs]⟩) (hl:cs.length=n):yT H e [.cell t n true]=some (dA cs):=by
 subst hl
 simp[yT,VP,he,tT,ho,mkV]
section
variable {H : aA} {nx : Nat} {K : D → aA → Nat → Prop}
theorem bjD:cJ Try.prog bg8 Try.f55 bg1 bhM:=cJ.mk Try.func55 (by kernel_rfl) biT
theorem bjM {X:Nat→Prop} {c:Cfg} {i:CIn} {s:CSt} {k:Nat} {nm:Nat→Nat} {cells:List D1} (hb:aQ c) (hs:COk c s) (hk:k<3) (hr:i.ready.getD k default=true) (hR:bgJ X H nx nm s cells)
 (h: ∀H' nx' nm' cells',nx≤nx'→bgJ X H' nx' nm' (atS c s (vT i s k)) cells'→(∀id,X id→H' id=H id)→K (dA cells') H' nx'):
 aB Try.prog bg8 [dA cells,dI k] H nx K:=by
 refine bjD rfl fun Q hQ=> ?_
 unfold bg1
 have hX:=hR.x
 obtain⟨wc,hc,pc,vc,tc,mp,rp,mv,rv,hcell,g1,g2,g3,g4,g5,bkU,bkV,g8,g9,ga,gb⟩:=hR.get
 subst hcell
 repeat' (first| (with_reducible first| (refine hK _ _ _ ?_;clear hK K)| (refine hA ?_;clear hA hB A B)| (refine hB ?_;clear hA hB A B)|refine Z1 ?_|refine Z2 ?_|refine Z3 fun KB hKB=> ?_|refine Z4 (by omega) ?_|refine Z5 (by omega) ?_|refine Z6 (fun h=> ?_) fun h=> ?_|refine Z7 (fun h=> ?_) fun h=> ?_|refine fun(cap:Nat) (hcap:_≤cap)=> ?_|refine fun(hcp:_≤cap)=> ?_|refine fun(b:Bool)=> ?_|refine hKX _ _ _ ?_|refine hKY _ _ _ ?_|refine hKZ _ _ _ ?_)| (first| (with_reducible first|refine Y1 fun K hK=> ?_|refine Y2 fun K hK=> ?_|refine Y3 fun A B hA hB=> ?_|refine Y4 (by omega) ?_|refine Y5 (by omega) ?_|refine Y6 (fun h=> ?_) fun h=> ?_| (refine Y7 (fun h=> ?_) (fun h=> ?_)<;>try subst h))| (refine bjH hs hk hr (hR.ar5 hs.pl hs.sl (fun id hid=>by rw[aA.aC (by omega),aA.aC (by omega)])) (fun r hrr=> ?_)))<;>(simp only[go_sem,Nat.add_assoc,Nat.left_eq_add,Nat.add_eq_left];try simp (disch:=omega) only[Iw])| ((with_reducible first|refine Y8 ?_|refine Y9 ?_);try simp only[AQ.then,AQ.blk,reduceIte,Nat.reduceEqDiff])| ((with_reducible refine Y0 ?_);simp only[AQ.then,AQ.blk])| ((with_reducible refine Z8 (fun h=> ?_) (fun h=> ?_))<;>try subst h)|refine⟨by omega,?_⟩| (refine⟨by(rw[List.length_take];omega),?_⟩)| (with_reducible first|refine hKB _ _ _ ?_| (clear hKB KB;refine hKB _ _ _ ?_)| (clear hKB KB;clear hKB KB;refine hKB _ _ _ ?_))|fail)
 generalize hG:aA.set (aA.set H nx _) (nx+1) _=G
 have bfZ:G nx=some ⟨5,1,[[.osl 1 (nm 0) 0 s.words.length wc,.osl 1 (nm 1) 0 s.holds.length hc,.osl 4 (nm 2) 0 3 pc,.osl 3 (nm 3) 0 4 vc,.osl 5 (nm 4) 0 s.told.length tc]]⟩:=by rw[←hG,aA.aC (by omega)];exact aA.bH
 have f1:G (nx+1)=some ⟨5,1,[[D1.osl 0 0 0 0 0,D1.osl 0 0 0 0 0,D1.osl 0 0 0 0 0,D1.osl 0 0 0 0 0,D1.osl 0 0 0 0 0]]⟩:=by rw[←hG];exact aA.bH
 have ff: ∀id,id<nx→G id=H id:=fun id hid=>by rw[←hG,aA.aC (by omega),aA.aC (by omega)]
 clear hG
 have hR0:Rep X G (nx+1) nx nm s:=hR.box (Nat.le_refl _) (by omega) bfZ ff
 rcases hrr with⟨ho,rfl⟩|⟨st,hst4,ho,rfl⟩
 · (try simp only[go_sem,Nat.add_assoc,Nat.left_eq_add,Nat.add_eq_left,bfZ,f1,Nat.add_assoc,Nat.left_eq_add,Nat.add_eq_left]);repeat' (first| (with_reducible first| (refine hK _ _ _ ?_;clear hK K)| (refine hA ?_;clear hA hB A B)| (refine hB ?_;clear hA hB A B)|refine Z1 ?_|refine Z2 ?_|refine Z3 fun KB hKB=> ?_|refine Z4 (by omega) ?_|refine Z5 (by omega) ?_|refine Z6 (fun h=> ?_) fun h=> ?_|refine Z7 (fun h=> ?_) fun h=> ?_|refine fun(cap:Nat) (hcap:_≤cap)=> ?_|refine fun(hcp:_≤cap)=> ?_|refine fun(b:Bool)=> ?_|refine hKX _ _ _ ?_|refine hKY _ _ _ ?_|refine hKZ _ _ _ ?_)| (with_reducible first|refine Y1 fun K hK=> ?_|refine Y2 fun K hK=> ?_|refine Y3 fun A B hA hB=> ?_|refine Y4 (by omega) ?_|refine Y5 (by omega) ?_|refine Y6 (fun h=> ?_) fun h=> ?_| (refine Y7 (fun h=> ?_) (fun h=> ?_)<;>try subst h))<;>(simp only[go_sem,Nat.add_assoc,Nat.left_eq_add,Nat.add_eq_left,bfZ,f1,Nat.add_assoc,Nat.left_eq_add,Nat.add_eq_left];try simp (disch:=omega) only[Iw])| ((with_reducible first|refine Y8 ?_|refine Y9 ?_);try simp only[AQ.then,AQ.blk,reduceIte,Nat.reduceEqDiff])| ((with_reducible refine Y0 ?_);simp only[AQ.then,AQ.blk])| ((with_reducible refine Z8 (fun h=> ?_) (fun h=> ?_))<;>try subst h)|refine⟨by omega,?_⟩| (refine⟨by(rw[List.length_take];omega),?_⟩)| (with_reducible first|refine hKB _ _ _ ?_| (clear hKB KB;refine hKB _ _ _ ?_)| (clear hKB KB;clear hKB KB;refine hKB _ _ _ ?_))|fail)
   rw[ho] at h
   refine hQ _ _ _ _ _ (.inr rfl) (LL rfl aA.bH rfl) (h _ _ nm _ (by omega) (hR.frame (by omega) fun id hid _=>by rw[aA.aC (by omega)];exact ff id hid) fun id hid=> ?_)
   have:=hX id hid
   rw[aA.aC (by omega)];exact ff id this
 ·have hmic:=TB hs hk ho
  obtain⟨_,_,hdl,hdw⟩:=hmic
  obtain⟨p,hp⟩: ∃p,aF s k=p:=⟨_,rfl⟩
  obtain⟨v,hv⟩: ∃v,aL s st=v:=⟨_,rfl⟩
  obtain⟨qo,qc,oc,gr,gq,go⟩:=ga k hk
  obtain⟨po,ppc,do_,dc,gs,gp,gd⟩:=gb st hst4
  rw[hp] at gr gq go
  rw[hv] at gs gp gd hdl hdw
  obtain⟨d,hd⟩: ∃d,v.done.getD 0 default=d:=⟨_,rfl⟩
  rw[hd] at hdw
  have lt:=hR.names.lt
  have n2:=lt 2 (by omega)
  have n3:=lt 3 (by omega)
  have az7:=lt 4 (by omega)
  have aAJ:=lt (8+k) (by omega)
  have n15:=lt (15+st) (by omega)
  have hA:bQ nx ([2,3,4,5+k,8+k,11+st,15+st].map nm):=AM.apart (hR.names.list (by simp;omega) (by simp;omega)) (fun x hx=>by obtain⟨j,hj,rfl⟩:=List.mem_map.1 hx;exact lt j (by simp at hj;omega))
  simp only[bQ,eZ,List.map] at hA
  have fg1:G (nm 2)=some ⟨4,mp,rp⟩:=(ff _ n2).trans g1
  have fg2:G (nm 3)=some ⟨3,mv,rv⟩:=(ff _ n3).trans g2
  obtain⟨md,rd,d1,d2,d3,bkS,bk2,bk3⟩:=gd.ex
  have bk4:rd[do_]?=some (aS d):=by
   have:(rd.drop do_)[0]?=some (aS d):=by rw[d2,List.getElem?_map,←hd];simp[List.getD,hdl]
   rwa [List.getElem?_drop,Nat.add_zero] at this
  have fd1:G (nm (15+st))=some ⟨5,md,rd⟩:=(ff _ n15).trans d1
  (try simp only[go_sem,Nat.add_assoc,Nat.left_eq_add,Nat.add_eq_left,bfZ,f1,fg1,fg2,gr,gs,fd1,bk4,hA,Nat.add_assoc,Nat.left_eq_add,Nat.add_eq_left]);repeat' (first| (with_reducible first| (refine hK _ _ _ ?_;clear hK K)| (refine hA ?_;clear hA hB A B)| (refine hB ?_;clear hA hB A B)|refine Z1 ?_|refine Z2 ?_|refine Z3 fun KB hKB=> ?_|refine Z4 (by omega) ?_|refine Z5 (by omega) ?_|refine Z6 (fun h=> ?_) fun h=> ?_|refine Z7 (fun h=> ?_) fun h=> ?_|refine fun(cap:Nat) (hcap:_≤cap)=> ?_|refine fun(hcp:_≤cap)=> ?_|refine fun(b:Bool)=> ?_|refine hKX _ _ _ ?_|refine hKY _ _ _ ?_|refine hKZ _ _ _ ?_)| (first| (with_reducible first|refine Y1 fun K hK=> ?_|refine Y2 fun K hK=> ?_|refine Y3 fun A B hA hB=> ?_|refine Y4 (by omega) ?_|refine Y5 (by omega) ?_|refine Y6 (fun h=> ?_) fun h=> ?_| (refine Y7 (fun h=> ?_) (fun h=> ?_)<;>try subst h))| (refine aB.ao4 (args':=[dS ((v.done.drop 1).map aS)]) (without (fun j=>j=nm (15+st)) _) (fun j=>j=nm (15+st)) rfl (bkE ?_) kS (aNQ ?_ ?_ fun H2 nx2 b5 c5 e1 e2 e3 e4=> ?_)))<;>(simp only[go_sem,Nat.add_assoc,Nat.left_eq_add,Nat.add_eq_left,bfZ,f1,fg1,fg2,gr,gs,fd1,bk4,hA,Nat.add_assoc,Nat.left_eq_add,Nat.add_eq_left];try simp (disch:=omega) only[Iw])| ((with_reducible first|refine Y8 ?_|refine Y9 ?_);try simp only[AQ.then,AQ.blk,reduceIte,Nat.reduceEqDiff])| ((with_reducible refine Y0 ?_);simp only[AQ.then,AQ.blk])| ((with_reducible refine Z8 (fun h=> ?_) (fun h=> ?_))<;>try subst h)|refine⟨by omega,?_⟩| (refine⟨by(rw[List.length_take];omega),?_⟩)| (with_reducible first|refine hKB _ _ _ ?_| (clear hKB KB;refine hKB _ _ _ ?_)| (clear hKB KB;clear hKB KB;refine hKB _ _ _ ?_))|fail)
  refine aB.ao4 (args':=[dS ((v.done.drop 1).map aS)]) (without (fun j=>j=nm (15+st)) _) (fun j=>j=nm (15+st)) rfl (bkE ?_) kS (aNQ ?_ ?_ fun H2 nx2 b5 c5 e1 e2 e3 e4=> ?_)
  ·rw[List.map_drop]
   exact((gd.frame (by rw[aA.aC (by omega)];exact ff _ n15)).bkI hdl).cvD (bjZ (aG dZ _)) rfl
  ·have:=(hs.slv st hst4).dl
   rw[hv] at this
   rw[List.length_drop];omega
  ·intro j hj
   have:=(hs.slv st hst4).rsp j (by rw[hv];exact List.mem_of_mem_drop hj)
   have:=this.1.2.2.1
   omega
  have q0:H2 nx=some ⟨5,1,[[.osl 1 (nm 0) 0 s.words.length wc,.osl 1 (nm 1) 0 s.holds.length hc,.osl 4 (nm 2) 0 3 pc,.osl 3 (nm 3) 0 4 vc,.osl 5 (nm 4) 0 s.told.length tc]]⟩:=by rw[e4 _ (by omega),iI (by omega),aA.aC (by omega)];exact bfZ
  have q1:H2 (nx+1)=some ⟨5,1,[[D1.osl 0 0 0 0 0,D1.osl 0 0 0 0 0,D1.osl 0 0 0 0 0,D1.osl 0 0 0 0 0,D1.osl 0 0 0 0 0]]⟩:=by rw[e4 _ (by omega),iI (by omega),aA.aC (by omega)];exact f1
  have qj:H2 (nx+16)=some ⟨5,1,[aS d]⟩:=by rw[e4 _ (by omega),iI (by omega)];exact aA.bH
  have qf: ∀id,id<nx→id≠nm (15+st)→H2 id=H id:=fun id h1 h2=>by rw[e4 _ (by omega),iI (F:=fun j=>j=nm (15+st)) h2,aA.aC (by omega)];exact ff _ h1
  have qg1:H2 (nm 2)=some ⟨4,mp,rp⟩:=(qf _ n2 (by simp[hA])).trans g1
  have qg2:H2 (nm 3)=some ⟨3,mv,rv⟩:=(qf _ n3 (by simp[hA])).trans g2
  (try simp only[go_sem,Nat.add_assoc,Nat.left_eq_add,Nat.add_eq_left,q0,q1,qj,qg1,qg2,gr,gs,hA,List.set_set,Nat.add_assoc,Nat.left_eq_add,Nat.add_eq_left]);repeat' (first| (with_reducible first| (refine hK _ _ _ ?_;clear hK K)| (refine hA ?_;clear hA hB A B)| (refine hB ?_;clear hA hB A B)|refine Z1 ?_|refine Z2 ?_|refine Z3 fun KB hKB=> ?_|refine Z4 (by omega) ?_|refine Z5 (by omega) ?_|refine Z6 (fun h=> ?_) fun h=> ?_|refine Z7 (fun h=> ?_) fun h=> ?_|refine fun(cap:Nat) (hcap:_≤cap)=> ?_|refine fun(hcp:_≤cap)=> ?_|refine fun(b:Bool)=> ?_|refine hKX _ _ _ ?_|refine hKY _ _ _ ?_|refine hKZ _ _ _ ?_)| (with_reducible first|refine Y1 fun K hK=> ?_|refine Y2 fun K hK=> ?_|refine Y3 fun A B hA hB=> ?_|refine Y4 (by omega) ?_|refine Y5 (by omega) ?_|refine Y6 (fun h=> ?_) fun h=> ?_| (refine Y7 (fun h=> ?_) (fun h=> ?_)<;>try subst h))<;>(simp only[go_sem,Nat.add_assoc,Nat.left_eq_add,Nat.add_eq_left,q0,q1,qj,qg1,qg2,gr,gs,hA,List.set_set,Nat.add_assoc,Nat.left_eq_add,Nat.add_eq_left];try simp (disch:=omega) only[Iw])| ((with_reducible first|refine Y8 ?_|refine Y9 ?_);try simp only[AQ.then,AQ.blk,reduceIte,Nat.reduceEqDiff])| ((with_reducible refine Y0 ?_);simp only[AQ.then,AQ.blk])| ((with_reducible refine Z8 (fun h=> ?_) (fun h=> ?_))<;>try subst h)|refine⟨by omega,?_⟩| (refine⟨by(rw[List.length_take];omega),?_⟩)| (with_reducible first|refine hKB _ _ _ ?_| (clear hKB KB;refine hKB _ _ _ ?_)| (clear hKB KB;clear hKB KB;refine hKB _ _ _ ?_))|fail)
  refine aB.ao4 (args':=[dS (p.out.map eCJ),dI d.n]) (without (fun j=>j=nm (8+k)) _) (fun j=>j=nm (8+k)) rfl (bkH ?_ rfl) kS (bjO ?_ fun H3 nx3 bkQ bkY aUV aUW aIG aII=> ?_)
  ·exact(go.frame (by rw[aA.aC (by simp[hA]),qf _ aAJ (by simp[hA])])).cvD (aG yK _) rfl
  ·have:=(hs.port k hk).ol
   rw[hp] at this
   omega
  have aAD: ∀id,id<nx2+15→id≠nm (8+k)→id≠nm 3→H3 id=H2 id:=fun id h1 h2 h3=>by rw[aII _ h1,iI (F:=fun j=>j=nm (8+k)) h2,aA.aC h3]
  have r0:=(aAD nx (by omega) (by omega) (by omega)).trans q0
  have r1:=(aAD (nx+1) (by omega) (by omega) (by omega)).trans q1
  have rj:=(aAD (nx+16) (by omega) (by omega) (by omega)).trans qj
  have rg1:H3 (nm 2)=some ⟨4,mp,rp⟩:=(aAD _ (by omega) (by simp[hA]) (by simp[hA])).trans qg1
  have rg2:H3 (nm 3)=some ⟨3,mv,rv.set st [D1.osl 3 (nm (11+st)) po v.pipe.length ppc,D1.osl 5 b5 0 (List.drop 1 v.done).length c5,cI v.last]⟩:=by rw[aII _ (by omega),iI (F:=fun j=>j=nm (8+k)) (by simp[hA])];exact aA.bH
  have rf: ∀id,id<nx→id≠nm (15+st)→id≠nm (8+k)→id≠nm 3→H3 id=H id:=fun id h1 h2 h3 h4=>(aAD id (by omega) h3 h4).trans (qf id h1 h2)
  obtain⟨mt,rt,t1,t2,t3,t4,aU1,aU2⟩:=g5.ex
  rw[List.drop_zero] at t2
  subst t2
  have rt1:H3 (nm 4)=some ⟨5,mt,s.told.map aS⟩:=(rf _ az7 (by simp[hA]) (by simp[hA]) (by simp[hA])).trans t1
  have htl:s.told.length≤36:=by have:=hs.st.lens hb;simp only[cX] at this;omega
  have hgk: ∀r,(rp.set k r)[k]?=some r:=fun r=>by rw[List.getElem?_set_self (by omega)]
  have hA3:bQ nx3 ([2,3,4,5+k,8+k,11+st,15+st].map nm):=AM.apart (hR.names.list (by simp;omega) (by simp;omega)) (fun x hx=>by obtain⟨j,hj,rfl⟩:=List.mem_map.1 hx;have:=lt j (by simp at hj;omega);omega)
  simp only[bQ,eZ,List.map] at hA3
  have hB3:bQ nx3 [nx,nx+1]:=AM.apart (by simp) (by simp;omega)
  simp only[bQ,eZ] at hB3
  (try simp only[go_sem,Nat.add_assoc,Nat.left_eq_add,Nat.add_eq_left,r0,r1,rj,rg1,rg2,rt1,gr,gs,hgk,hB3,hA3,hA,List.set_set,Nat.add_assoc,Nat.left_eq_add,Nat.add_eq_left]);repeat' (first| (with_reducible first| (refine hK _ _ _ ?_;clear hK K)| (refine hA ?_;clear hA hB A B)| (refine hB ?_;clear hA hB A B)|refine Z1 ?_|refine Z2 ?_|refine Z3 fun KB hKB=> ?_|refine Z4 (by omega) ?_|refine Z5 (by omega) ?_|refine Z6 (fun h=> ?_) fun h=> ?_|refine Z7 (fun h=> ?_) fun h=> ?_|refine fun(cap:Nat) (hcap:_≤cap)=> ?_|refine fun(hcp:_≤cap)=> ?_|refine fun(b:Bool)=> ?_|refine hKX _ _ _ ?_|refine hKY _ _ _ ?_|refine hKZ _ _ _ ?_)| (with_reducible first|refine Y1 fun K hK=> ?_|refine Y2 fun K hK=> ?_|refine Y3 fun A B hA hB=> ?_|refine Y4 (by omega) ?_|refine Y5 (by omega) ?_|refine Y6 (fun h=> ?_) fun h=> ?_| (refine Y7 (fun h=> ?_) (fun h=> ?_)<;>try subst h))<;>(simp only[go_sem,Nat.add_assoc,Nat.left_eq_add,Nat.add_eq_left,r0,r1,rj,rg1,rg2,rt1,gr,gs,hgk,hB3,hA3,hA,List.set_set,Nat.add_assoc,Nat.left_eq_add,Nat.add_eq_left];try simp (disch:=omega) only[Iw])| ((with_reducible first|refine Y8 ?_|refine Y9 ?_);try simp only[AQ.then,AQ.blk,reduceIte,Nat.reduceEqDiff])| ((with_reducible refine Y0 ?_);simp only[AQ.then,AQ.blk])| ((with_reducible refine Z8 (fun h=> ?_) (fun h=> ?_))<;>try subst h)|refine⟨by omega,?_⟩| (refine⟨by(rw[List.length_take];omega),?_⟩)| (with_reducible first|refine hKB _ _ _ ?_| (clear hKB KB;refine hKB _ _ _ ?_)| (clear hKB KB;clear hKB KB;refine hKB _ _ _ ?_))|fail)
  refine hQ _ _ _ _ _ (.inr rfl) (LL rfl aA.bH rfl) ?_
  generalize aYL:aA.set _ (nx+1) _=W
  have bk1:W nx=some ⟨5,1,[[.osl 1 (nm 0) 0 s.words.length wc,.osl 1 (nm 1) 0 s.holds.length hc,.osl 4 (nm 2) 0 3 pc,.osl 3 (nm 3) 0 4 vc,.osl 5 (nx3+11) 0 (s.told.length+1) cap]]⟩:=by rw[←aYL,aA.aC (by omega)];exact aA.bH
  have w2:W (nm 2)=some ⟨4,mp,rp.set k [cI p.next,.osl 1 (nm (5+k)) qo p.queue.length qc,.osl 3 bkQ 0 (bh2 d.n p.out).length bkY,cI st]⟩:=by
   rw[←aYL,aA.aC (by omega),aA.aC (by omega),aA.aC (by omega),aA.aC (by omega)];exact aA.bH
  have wo: ∀id,id<nx3→id≠nx→id≠nx+1→id≠nm 2→id≠nm 4→W id=H3 id:=fun id h1 h2 h3 h4 h5=>by
   rw[←aYL,aA.aC h3,aA.aC h2,aA.aC (by omega),aA.aC (by omega),aA.aC h4,aA.jG h5]
  have bk5:W (nx3+11)=some ⟨5,cap,(s.told++[d]).map aS⟩:=by
   rw[←aYL,aA.aC (by omega),aA.aC (by omega)];exact aA.bH
  clear aYL
  have az8:=lt (5+k) (by omega)
  have n11:=lt (11+st) (by omega)
  have n0:=lt 0 (by omega)
  have n1:=lt 1 (by omega)
  have wf: ∀id,id<nx→id≠nm 2→id≠nm 3→id≠nm 4→id≠nm (8+k)→id≠nm (15+st)→W id=H id:=fun id h1 h2 h3 h4 h5 h6=>(wo id (by omega) (by omega) (by omega) h2 h4).trans (rf id h1 h6 h5 h3)
  have bk6:=(wo (nm 3) (by omega) (by omega) (by omega) (by simp[hA]) (by simp[hA])).trans rg2
  have bk7:Own aS 5 W b5 c5 (v.done.drop 1):=e3.of ((wo b5 (by omega) (by omega) (by omega) (by omega) (by omega)).trans (aAD b5 (by omega) (by omega) (by omega)))
  have bk8:Own eCJ 3 W bkQ bkY (bh2 d.n p.out):=aIG.of (wo bkQ (by omega) (by omega) (by omega) (by omega) (by omega))
  have inj:=hR.names.inj
  obtain⟨nm',hnm'⟩: ∃nm',nm'=put (put (put nm (15+st) b5) (8+k) bkQ) 4 (nx3+11):=⟨_,rfl⟩
  have pn: ∀j,j≠4→j≠8+k→j≠15+st→nm' j=nm j:=fun j h1 h2 h3=>by rw[hnm',jE h1,jE h2,jE h3]
  have p4:nm' 4=nx3+11:=by rw[hnm',t8]
  have bk9:nm' (8+k)=bkQ:=by rw[hnm',jE (by omega),t8]
  have p15:nm' (15+st)=b5:=by rw[hnm',jE (by omega),jE (by omega),t8]
  obtain⟨s',hs'⟩: ∃s',s'=aR c s (.tell k st):=⟨_,rfl⟩
  have hdj:iF s st=d:=by rw[←hd,←hv];rfl
  have hpo:=hs.port k hk
  rw[hp] at hpo
  have hex: ∃j∈p.out,j.n=d.n:=by
   obtain⟨_,j,x1,x2,_⟩:=(hs.slv st hst4).out (key d) (by rw[hv];exact M9 (by rw[←hd];exact cC (by omega)))
   have e:(key d).1.toNat=k:=by show d.who.toNat=k;omega
   rw[e,hp] at x1
   exact⟨j,x1,x2⟩
  have hno:bh2 d.n p.out=PE p.out d.n:=bkA hpo.acX hex
  have hpd':aF s' k= {p with out:=PE p.out d.n,last:=st}:=by rw[hs',bL rfl (by rw[hs.pl];omega),if_pos rfl,hdj,hp]
  have hvd':aL s' st= {v with done:=v.done.drop 1}:=by rw[hs',bO rfl (by rw[hs.sl];omega),if_pos rfl,hv]
  have htd:s'.told=s.told++[d]:=by rw[hs',←hdj];rfl
  have hXl: ∀z,nx≤z→¬X z:=fun z hz hn=>by have:=hX z hn;omega
  have key:=hR0.bkO (H':=W) (nx':=nx3+16) k st nm' s' (by omega) ?_ ?_ ?_ ?_ ?_ ?_ (.inl hk) (.inl hst4) (fun j hj hne=>by rw[hs',bL rfl (by rw[hs.pl];omega),if_neg hne]) (fun j hj hne=>by rw[hs',bO rfl (by rw[hs.sl];omega),if_neg hne])
  ·obtain⟨⟨⟨cells,k1,k2⟩,k3,_,_,k4⟩,k5⟩:=key
   rw[bk1] at k1
   have hc:=(bA.mk.inj (Option.some.inj k1)).2.2
   have hc:_=cells:=(List.cons.inj hc).1
   rw[←hc] at k2
   rw[ho] at h
   refine h _ _ nm' _ (by omega) ⟨?_,k3,k4⟩ fun id hid=>(k5 id hid).trans (ff id (hX id hid))
   rw[show atS c s (some (.tell k st))=s' from hs'.symm]
   exact k2
  ·rw[hnm']
   exact((hR.names.put (nx':=b5+1) (by omega) (by omega) (hXl _ (by omega))).put (nx':=bkQ+1) (by omega) (by omega) (hXl _ (by omega))).put (by omega) (by omega) (hXl _ (by omega))
  ·intro j hj
   by_cases h4:j=4
   ·subst h4;exact .inr ⟨.inl rfl,by omega⟩
   ·by_cases h8:j=8+k
    ·subst h8;exact .inr ⟨.inr (.inr (.inl rfl)),by omega⟩
    ·by_cases h15:j=15+st
     ·subst h15;exact .inr ⟨.inr (.inr (.inr (.inr rfl))),by omega⟩
     ·exact .inl (pn j h4 h8 h15)
  ·intro id hid h0 hne
   have g2:=hne 2 (by omega) (by omega)
   have g3:=hne 3 (by omega) (by omega)
   have g4:=hne 4 (by omega) (by omega)
   have g8:=hne (8+k) (by omega) (by omega)
   have g15:=hne (15+st) (by omega) (by omega)
   rw[wf id (by omega) g2 g3 g4 g8 g15,ff id (by omega)]
  ·refine⟨wc,hc,pc,vc,cap,?_,?_,?_,?_,bkU,bkV⟩
   ·rw[bk1]
    simp only[U2,htd,pn 0 (by omega) (by omega) (by omega),pn 1 (by omega) (by omega) (by omega),pn 2 (by omega) (by omega) (by omega),pn 3 (by omega) (by omega) (by omega),p4,List.length_append,List.length_singleton]
    rw[hs'];rfl
   ·rw[pn 0 (by omega) (by omega) (by omega),hs']
    exact g3.frame (wf _ n0 (fun he=>by have:=inj 0 2 (by omega) (by omega) he;omega) (fun he=>by have:=inj 0 3 (by omega) (by omega) he;omega) (fun he=>by have:=inj 0 4 (by omega) (by omega) he;omega) (fun he=>by have:=inj 0 (8+k) (by omega) (by omega) he;omega) (fun he=>by have:=inj 0 (15+st) (by omega) (by omega) he;omega))
   ·rw[pn 1 (by omega) (by omega) (by omega),hs']
    exact g4.frame (wf _ n1 (fun he=>by have:=inj 1 2 (by omega) (by omega) he;omega) (fun he=>by have:=inj 1 3 (by omega) (by omega) he;omega) (fun he=>by have:=inj 1 4 (by omega) (by omega) he;omega) (fun he=>by have:=inj 1 (8+k) (by omega) (by omega) he;omega) (fun he=>by have:=inj 1 (15+st) (by omega) (by omega) he;omega))
   ·rw[p4,htd]
    exact⟨cap,(s.told++[d]).map aS,bk5,rfl,by simp,by simp,by rw[List.length_append,List.length_singleton];omega,by simp⟩
  ·refine⟨mp,_,mp,rp,fg1,w2,by rw[List.length_set,g8],fun j hj hne=>by rw[List.getElem?_set_ne (Ne.symm hne)],fun _=>⟨_,hgk _,⟨qo,qc,bkY,?_,?_,?_⟩⟩⟩
   ·rw[hpd',pn (5+k) (by omega) (by omega) (by omega),bk9,hno];rfl
   ·rw[hpd',pn (5+k) (by omega) (by omega) (by omega)]
    exact gq.frame (wf _ az8 (by simp[hA]) (by simp[hA]) (by simp[hA]) (by simp[hA]) (by simp[hA]))
   ·obtain⟨aHI,y1,aHC,aHD⟩:=bk8
    rw[hno] at y1 aHC
    rw[hpd',bk9]
    exact⟨aHI,(PE p.out d.n).map eCJ,y1,rfl,by simp,by simp,aHC,by omega⟩
  ·refine⟨mv,_,mv,rv,fg2,bk6,by rw[List.length_set,g9],fun j hj hne=>by rw[List.getElem?_set_ne (Ne.symm hne)],fun _=>⟨_,List.getElem?_set_self (by omega),⟨po,ppc,0,c5,?_,?_,?_⟩⟩⟩
   ·rw[hvd',pn (11+st) (by omega) (by omega) (by omega),p15];rfl
   ·rw[hvd',pn (11+st) (by omega) (by omega) (by omega)]
    exact gp.frame (wf _ n11 (by simp[hA]) (by simp[hA]) (by simp[hA]) (by simp[hA]) (by simp[hA]))
   ·obtain⟨m5,y1,aHC,aHD⟩:=bk7
    rw[hvd',p15]
    exact⟨m5,(v.done.drop 1).map aS,y1,rfl,by simp,by simp,aHC,by omega⟩
end
end Go.Proofs.Ytmccpdapaccnoaa
end
section
namespace Go.Proofs.Ytmccpdapaccnoaa
open Go Go.AM
set_option maxRecDepth 100000
set_option maxHeartbeats 8000000
section
variable {H : aA} {nx : Nat} {K : D → aA → Nat → Prop}
theorem bi1:cJ Try.prog bg7 Try.f56 bg2 bhS:=cJ.mk Try.func56 (by kernel_rfl) bjA
theorem bjR {X:Nat→Prop} {c:Cfg} {i:CIn} {s:CSt} {st:Nat} {nm:Nat→Nat} {cells:List D1} (hb:aQ c) (hs:COk c s) (hst:st<4) (hr:i.n9.getD st default=false) (hR:bgJ X H nx nm s cells)
 (h: ∀H' nx' nm' cells',nx≤nx'→bgJ X H' nx' nm' (atS c s (qW i s st)) cells'→(∀id,X id→H' id=H id)→K (dA cells') H' nx'):
 aB Try.prog bg7 [dA (cU c),dA cells,dI st] H nx K:=by
 refine bi1 rfl fun Q hQ=> ?_
 unfold bg2
 have hX:=hR.x
 obtain⟨hp3,hpr⟩:=hC hb
 have hnf: ∀{A:Prop},¬(i.n9.getD st default=true∨A)↔¬A:=fun {A}=>by rw[hr];simp
 obtain⟨wc,hc,pc,vc,tc,mp,rp,mv,rv,hcell,g1,g2,g3,g4,g5,bkU,bkV,g8,g9,ga,gb⟩:=hR.get
 obtain⟨v,hv⟩: ∃v,aL s st=v:=⟨_,rfl⟩
 obtain⟨po,ppc,do_,dc,gs,gp,gd⟩:=gb st hst
 rw[hv] at gs gp gd
 have hRc:=hR
 subst hcell
 have lt:=hR.names.lt
 have hA:bQ nx ([0,1,2,3,4,11+st,15+st].map nm):=AM.apart (hR.names.list (by simp;omega) (by simp;omega)) (fun x hx=>by obtain⟨j,hj,rfl⟩:=List.mem_map.1 hx;exact lt j (by simp at hj;omega))
 simp only[bQ,eZ,List.map] at hA
 by_cases hp0:v.pipe.length=0
 ·have hlen:((v.pipe.length:Int)=0)=True:=eq_true (by omega)
  repeat' (first| (with_reducible first| (refine hK _ _ _ ?_;clear hK K)| (refine hA ?_;clear hA hB A B)| (refine hB ?_;clear hA hB A B)|refine Z1 ?_|refine Z2 ?_|refine Z3 fun KB hKB=> ?_|refine Z4 (by omega) ?_|refine Z5 (by omega) ?_|refine Z6 (fun h=> ?_) fun h=> ?_|refine Z7 (fun h=> ?_) fun h=> ?_|refine fun(cap:Nat) (hcap:_≤cap)=> ?_|refine fun(hcp:_≤cap)=> ?_|refine fun(b:Bool)=> ?_|refine hKX _ _ _ ?_|refine hKY _ _ _ ?_|refine hKZ _ _ _ ?_)| (with_reducible first|refine Y1 fun K hK=> ?_|refine Y2 fun K hK=> ?_|refine Y3 fun A B hA hB=> ?_|refine Y4 (by omega) ?_|refine Y5 (by omega) ?_|refine Y6 (fun h=> ?_) fun h=> ?_| (refine Y7 (fun h=> ?_) (fun h=> ?_)<;>try subst h))<;>(simp only[go_sem,Nat.add_assoc,Nat.left_eq_add,Nat.add_eq_left,g2,gs,hlen,hA];try simp (disch:=omega) only[Iw])| ((with_reducible first|refine Y8 ?_|refine Y9 ?_);try simp only[AQ.then,AQ.blk,reduceIte,Nat.reduceEqDiff])| ((with_reducible refine Y0 ?_);simp only[AQ.then,AQ.blk])| ((with_reducible refine Z8 (fun h=> ?_) (fun h=> ?_))<;>try subst h)|refine⟨by omega,?_⟩| (refine⟨by(rw[List.length_take];omega),?_⟩)| (with_reducible first|refine hKB _ _ _ ?_| (clear hKB KB;refine hKB _ _ _ ?_)| (clear hKB KB;clear hKB KB;refine hKB _ _ _ ?_))|fail)
  refine hQ _ _ _ _ _ (.inr rfl) (LL rfl (by rw[aA.aC (by omega)];exact aA.bH) rfl) ?_
  rw[aa0 (.inr (by rw[hv];exact hp0))] at h
  exact h _ _ nm _ (by omega) (hR.frame (by omega) fun id hid _=>by rw[aA.aC (by omega),aA.aC (by omega),aA.aC (by omega),aA.aC (by omega)]) fun id hid=>by
   have:=hX id hid
   rw[aA.aC (by omega),aA.aC (by omega),aA.aC (by omega),aA.aC (by omega)]
 have hnp: ¬(i.n9.getD st default=true∨(aL s st).pipe.length=0):=by rw[hv];exact hnf.2 hp0
 have hlen:((v.pipe.length:Int)=0)=False:=eq_false (by omega)
 obtain⟨j,hj⟩: ∃j,v.pipe.getD 0 default=j:=⟨_,rfl⟩
 have hjp:bI s st=j:=by unfold bI;rw[hv,hj]
 obtain⟨md,rd,d1,d2,d3,bkS,bk2,bk3⟩:=gd.ex
 obtain⟨me,re,p1,p2,p3,p4,p5,p6⟩:=gp.ex
 rw[List.length_map] at bkS p4
 have p7:re[po]?=some (eCJ j):=by
  have:(re.drop po)[0]?=some (eCJ j):=by rw[p2,List.getElem?_map,←hj];simp[List.getD,show 0<v.pipe.length by omega]
  rwa [List.getElem?_drop,Nat.add_zero] at this
 have hsk:=hs.slv st hst
 have hjl:=(hsk.left 0 (by rw[hv];omega)).1
 rw[hv,hj] at hjl
 have hlat:=S0 hb hst
 have n11:=lt (11+st) (by omega)
 have n15:=lt (15+st) (by omega)
 by_cases hl0:0<j.left
 ·have hwk:decide (0<(aL s st).pipe.length∧(bI s st).left=0∧(aL s st).done.length<2)=false:=decide_eq_false (by rw[hjp];omega)
  repeat' (first| (with_reducible first| (refine hK _ _ _ ?_;clear hK K)| (refine hA ?_;clear hA hB A B)| (refine hB ?_;clear hA hB A B)|refine Z1 ?_|refine Z2 ?_|refine Z3 fun KB hKB=> ?_|refine Z4 (by omega) ?_|refine Z5 (by omega) ?_|refine Z6 (fun h=> ?_) fun h=> ?_|refine Z7 (fun h=> ?_) fun h=> ?_|refine fun(cap:Nat) (hcap:_≤cap)=> ?_|refine fun(hcp:_≤cap)=> ?_|refine fun(b:Bool)=> ?_|refine hKX _ _ _ ?_|refine hKY _ _ _ ?_|refine hKZ _ _ _ ?_)| (first| (with_reducible first|refine Y1 fun K hK=> ?_|refine Y2 fun K hK=> ?_|refine Y3 fun A B hA hB=> ?_|refine Y4 (by omega) ?_|refine Y5 (by omega) ?_|refine Y6 (fun h=> ?_) fun h=> ?_| (refine Y7 (fun h=> ?_) (fun h=> ?_)<;>try subst h))| (refine bgY hs hst (hRc.ar5 hs.pl hs.sl (fun id hid=>by rw[aA.aC (by omega),aA.aC (by omega),aA.aC (by omega),aA.aC (by omega)])) ?_))<;>(simp only[go_sem,Nat.add_assoc,Nat.left_eq_add,Nat.add_eq_left,g2,gs,hlen,hwk,p1,p7,hA];try simp (disch:=omega) only[Iw])| ((with_reducible first|refine Y8 ?_|refine Y9 ?_);try simp only[AQ.then,AQ.blk,reduceIte,Nat.reduceEqDiff])| ((with_reducible refine Y0 ?_);simp only[AQ.then,AQ.blk])| ((with_reducible refine Z8 (fun h=> ?_) (fun h=> ?_))<;>try subst h)|refine⟨by omega,?_⟩| (refine⟨by(rw[List.length_take];omega),?_⟩)| (with_reducible first|refine hKB _ _ _ ?_| (clear hKB KB;refine hKB _ _ _ ?_)| (clear hKB KB;clear hKB KB;refine hKB _ _ _ ?_))|fail)
  refine hQ _ _ _ _ _ (.inr rfl) (LL rfl (by rw[aA.aC (by omega),aA.aC (by omega)];exact aA.bH) rfl) ?_
  have hO:qW i s st=some (.tick st):=acO hnp (by rw[hjp];exact hl0)
  rw[hO] at h
  obtain⟨s',hs'⟩: ∃s',s'=aR c s (.tick st):=⟨_,rfl⟩
  rw[show atS c s (some (.tick st))=s' from hs'.symm] at h
  have hvd':aL s' st= {v with pipe:=v.pipe.set 0 {j with left:=j.left-1}}:=by rw[hs',bO rfl (by rw[hs.sl];omega),if_pos rfl,hjp,hv]
  generalize aYL:aA.set _ (nm (11+st)) _=W
  have bk1:W (nx+1)=some ⟨5,1,[[.osl 1 (nm 0) 0 s.words.length wc,.osl 1 (nm 1) 0 s.holds.length hc,.osl 4 (nm 2) 0 3 pc,.osl 3 (nm 3) 0 4 vc,.osl 5 (nm 4) 0 s.told.length tc]]⟩:=by
   rw[←aYL,aA.aC (by omega),aA.aC (by omega),aA.aC (by omega)];exact aA.bH
  have w11:W (nm (11+st))=some ⟨3,me,re.set po [cI j.who,cI j.n,cI (j.left-1)]⟩:=by rw[←aYL];exact aA.bH
  have wf: ∀id,id<nx→id≠nm (11+st)→W id=H id:=fun id h1 h2=>by rw[←aYL,aA.aC h2,aA.aC (by omega),aA.aC (by omega),aA.aC (by omega),aA.aC (by omega)]
  clear aYL
  have inj:=hR.names.inj
  have wk: ∀a,a<19→a≠11+st→W (nm a)=H (nm a):=fun a h1 h2=>wf _ (lt a h1) fun he=>h2 (inj a (11+st) h1 (by omega) he)
  refine h W _ nm _ (by omega) ⟨⟨⟨wc,hc,pc,vc,tc,?_,?_,?_,?_,bkU,bkV⟩,⟨mp,rp,(wk 2 (by omega) (by omega)).trans g1,g8,fun k hk=> ?_⟩,⟨mv,rv,(wk 3 (by omega) (by omega)).trans g2,g9,fun k hk=> ?_⟩⟩,hR.names.mono (by omega),fun id hid=>by have:=hX id hid;omega⟩ fun id hid=>wf id (hX id hid) fun he=>hR.names.av (11+st) (by omega) (he▸hid)
  ·rw[hs'];rfl
  ·rw[hs'];exact g3.frame (wk 0 (by omega) (by omega))
  ·rw[hs'];exact g4.frame (wk 1 (by omega) (by omega))
  ·rw[hs'];exact g5.frame (wk 4 (by omega) (by omega))
  ·obtain⟨qo,qc,oc,x1,x2,aYM⟩:=ga k hk
   have e:aF s' k=aF s k:=by rw[hs'];rfl
   exact⟨_,x1,⟨qo,qc,oc,by rw[e];rfl,by rw[e];exact x2.frame (wk (5+k) (by omega) (by omega)),by rw[e];exact aYM.frame (wk (8+k) (by omega) (by omega))⟩⟩
  ·by_cases hks:k=st
   ·subst hks
    refine⟨_,gs,⟨po,ppc,do_,dc,?_,?_,?_⟩⟩
    ·rw[hvd'];simp only[aj9,List.length_set]
    ·rw[hvd']
     refine⟨me,_,w11,?_,by simpa using p3,by simp,by simpa using p5,p6⟩
     rw[List.drop_set,if_neg (by omega),Nat.sub_self,p2,List.map_set];rfl
    ·rw[hvd']
     exact gd.frame (wk (15+k) (by omega) (by omega))
   ·obtain⟨po',pc',do',dc',x1,x2,aYM⟩:=gb k hk
    have e:aL s' k=aL s k:=by rw[hs',bO rfl (by rw[hs.sl];omega),if_neg hks]
    exact⟨_,x1,⟨po',pc',do',dc',by rw[e];rfl,by rw[e];exact x2.frame (wk (11+k) (by omega) (by omega)),by rw[e];exact aYM.frame (wk (15+k) (by omega) (by omega))⟩⟩
 by_cases hd2:v.done.length<2
 ·have hwk:decide (0<(aL s st).pipe.length∧(bI s st).left=0∧(aL s st).done.length<2)=true:=decide_eq_true (by rw[hjp,hv];omega)
  have hjm:j∈(aL s st).pipe:=by rw[hv,←hj];exact cC (by omega)
  obtain⟨hjw,hjn1,hjn2⟩:=hs.vIn hst (JB hjm)
  dsimp only at hjw hjn1 hjn2
  have hask:oA c j.who j.n:=by
   have:=(hs.port j.who.toNat (by omega)).asks (n:=j.n) (by omega) hjn1 (by omega)
   rwa [show ((j.who.toNat:Nat):Int)=j.who by omega] at this
  have hrq:=GK hb hask
  have hml:=hb.1.1
  obtain⟨hask1,hask2,hask3⟩:=hask
  obtain⟨P,hP⟩: ∃P,c.cP.getD j.who.toNat default=P:=⟨_,rfl⟩
  rw[hP] at hask3
  obtain⟨q,hq⟩: ∃q,P.getD j.n.toNat default=q:=⟨_,rfl⟩
  have hq':bT c j.who j.n=q:=by unfold bT;rw[hP,hq]
  rw[hq'] at hrq
  obtain⟨mw,rw0,w1,w2,bk6,bk5,bk7,bk8⟩:=g3.ex
  obtain⟨mh,rh0,h1',h2',h3',h4',h5',h6'⟩:=g4.ex
  rw[List.drop_zero] at w2 h2'
  subst w2;subst h2'
  have n0:=lt 0 (by omega)
  have n1:=lt 1 (by omega)
  have hat:=hs.atm
  obtain⟨hwl,hwr,hhl,hhr⟩:=hs.atm
  have hwl':s.words.length=64:=by omega
  have hhl':s.holds.length=6:=by omega
  refine aM.BW fun hnm=> ?_
  have hmk: ∀k l,msk (nx+k) l H=H:=fun k l=>BV hnm (by omega)
  repeat' (first| (with_reducible first| (refine hK _ _ _ ?_;clear hK K)| (refine hA ?_;clear hA hB A B)| (refine hB ?_;clear hA hB A B)|refine Z1 ?_|refine Z2 ?_|refine Z3 fun KB hKB=> ?_|refine Z4 (by omega) ?_|refine Z5 (by omega) ?_|refine Z6 (fun h=> ?_) fun h=> ?_|refine Z7 (fun h=> ?_) fun h=> ?_|refine fun(cap:Nat) (hcap:_≤cap)=> ?_|refine fun(hcp:_≤cap)=> ?_|refine fun(b:Bool)=> ?_|refine hKX _ _ _ ?_|refine hKY _ _ _ ?_|refine hKZ _ _ _ ?_)| (first| (with_reducible first|refine Y1 fun K hK=> ?_|refine Y2 fun K hK=> ?_|refine Y3 fun A B hA hB=> ?_|refine Y4 (by omega) ?_|refine Y5 (by omega) ?_|refine Y6 (fun h=> ?_) fun h=> ?_| (refine Y7 (fun h=> ?_) (fun h=> ?_)<;>try subst h))| (refine bgY hs hst (hRc.ar5 hs.pl hs.sl (fun id hid=>by rw[aA.aC (by omega),aA.aC (by omega),aA.aC (by omega),aA.aC (by omega)])) ?_))<;>(simp only[go_sem,Nat.add_assoc,Nat.left_eq_add,Nat.add_eq_left,g2,gs,hlen,hwk,p1,p7,hp3,hP,hq,hmk,hA];try simp (disch:=omega) only[Iw])| ((with_reducible first|refine Y8 ?_|refine Y9 ?_);try simp only[AQ.then,AQ.blk,reduceIte,Nat.reduceEqDiff])| ((with_reducible refine Y0 ?_);simp only[AQ.then,AQ.blk])| ((with_reducible refine Z8 (fun h=> ?_) (fun h=> ?_))<;>try subst h)|refine⟨by omega,?_⟩| (refine⟨by(rw[List.length_take];omega),?_⟩)| (with_reducible first|refine hKB _ _ _ ?_| (clear hKB KB;refine hKB _ _ _ ?_)| (clear hKB KB;clear hKB KB;refine hKB _ _ _ ?_))|fail)
  simp only[hwl',hhl']
  refine aS7 (m:=c.map) (w:=s.words) (hs:=s.holds) (wc:=wc) (hc:=hc) (i:=nm 0) (j:=nm 1) (wm:=mw) (hm:=mh) (by omega) hat (by omega) (by omega) hjw hrq (by omega) (by omega) (by simp[hA]) ?_ ?_ ?_
  ·rw[aA.aC (by omega),aA.aC (by omega),aA.aC (by omega),aA.aC (by omega),aA.aC (by omega)];exact w1
  ·rw[aA.aC (by omega),aA.aC (by omega),aA.aC (by omega),aA.aC (by omega),aA.aC (by omega)];exact h1'
  obtain⟨D,hD⟩: ∃D,doM c.map s.words s.holds j.who q=D:=⟨_,rfl⟩
  rw[hD]
  have hgk: ∀r,(rv.set st r)[st]?=some r:=fun r=>by rw[List.getElem?_set_self (by omega)]
  have hpl2:=hsk.pl
  rw[hv] at hpl2
  have htd1:List.take v.done.length (List.drop do_ rd)=v.done.map aS:=by rw[d2,List.take_of_length_le (by simp)]
  have hle1:(po+(1+(v.pipe.length-1))≤re.length)=True:=eq_true (by omega)
  have htk1:List.take (v.pipe.length-1) (List.drop (po+1) re)=(v.pipe.drop 1).map eCJ:=by
   rw[←List.drop_drop,p2,←List.map_drop,List.take_of_length_le (by simp)]
  (try simp only[go_sem,Nat.add_assoc,Nat.left_eq_add,Nat.add_eq_left,g2,gs,hgk,hle1,htk1,htd1,List.nil_append,List.length_map,List.length_drop,List.set_set,p1,p7,d1,umS (G:=H),umD (G:=H),umB,hmk,hwl',hhl',hA,Nat.add_assoc,Nat.left_eq_add,Nat.add_eq_left]);repeat' (first| (with_reducible first| (refine hK _ _ _ ?_;clear hK K)| (refine hA ?_;clear hA hB A B)| (refine hB ?_;clear hA hB A B)|refine Z1 ?_|refine Z2 ?_|refine Z3 fun KB hKB=> ?_|refine Z4 (by omega) ?_|refine Z5 (by omega) ?_|refine Z6 (fun h=> ?_) fun h=> ?_|refine Z7 (fun h=> ?_) fun h=> ?_|refine fun(cap:Nat) (hcap:_≤cap)=> ?_|refine fun(hcp:_≤cap)=> ?_|refine fun(b:Bool)=> ?_|refine hKX _ _ _ ?_|refine hKY _ _ _ ?_|refine hKZ _ _ _ ?_)| (with_reducible first|refine Y1 fun K hK=> ?_|refine Y2 fun K hK=> ?_|refine Y3 fun A B hA hB=> ?_|refine Y4 (by omega) ?_|refine Y5 (by omega) ?_|refine Y6 (fun h=> ?_) fun h=> ?_| (refine Y7 (fun h=> ?_) (fun h=> ?_)<;>try subst h))<;>(simp only[go_sem,Nat.add_assoc,Nat.left_eq_add,Nat.add_eq_left,g2,gs,hgk,hle1,htk1,htd1,List.nil_append,List.length_map,List.length_drop,List.set_set,p1,p7,d1,umS (G:=H),umD (G:=H),umB,hmk,hwl',hhl',hA,Nat.add_assoc,Nat.left_eq_add,Nat.add_eq_left];try simp (disch:=omega) only[Iw])| ((with_reducible first|refine Y8 ?_|refine Y9 ?_);try simp only[AQ.then,AQ.blk,reduceIte,Nat.reduceEqDiff])| ((with_reducible refine Y0 ?_);simp only[AQ.then,AQ.blk])| ((with_reducible refine Z8 (fun h=> ?_) (fun h=> ?_))<;>try subst h)|refine⟨by omega,?_⟩| (refine⟨by(rw[List.length_take];omega),?_⟩)| (with_reducible first|refine hKB _ _ _ ?_| (clear hKB KB;refine hKB _ _ _ ?_)| (clear hKB KB;clear hKB KB;refine hKB _ _ _ ?_))|fail)
  rename_i cap1 hcap1 hcp1
  refine hQ _ _ _ _ _ (.inr rfl) (LL rfl aA.bH rfl) ?_
  have hO:qW i s st=some (.work st):=adE hnp (by rw[hjp];exact hl0) (by rw[hv];exact hd2)
  have hwr:jD c s st=D:=by unfold jD;rw[hjp,hq',hD]
  rw[hO] at h
  obtain⟨s',hs'⟩: ∃s',s'=aR c s (.work st):=⟨_,rfl⟩
  rw[show atS c s (some (.work st))=s' from hs'.symm] at h
  have hvd':aL s' st= {v with pipe:=v.pipe.drop 1,done:=v.done++[⟨j.who,j.n,D.2⟩]}:=by rw[hs',bO rfl (by rw[hs.sl];omega),if_pos rfl,hwr,hjp,hv]
  have hws:s'.words=D.1.1:=by rw[hs',←hwr];rfl
  have hhs:s'.holds=D.1.2:=by rw[hs',←hwr];rfl
  have hok':COk c s':=by rw[hs'];exact o9 hb hs (LM hs hst hO)
  obtain⟨hwl2,_,hhl2,_⟩:=hok'.atm
  generalize aYL:aA.set _ (nx+2) _=W
  have n3:=lt 3 (by omega)
  have inj:=hR.names.inj
  have i03:nm 0≠nm 3:=fun he=>by have:=inj 0 3 (by omega) (by omega) he;omega
  have i01:nm 0≠nm 1:=fun he=>by have:=inj 0 1 (by omega) (by omega) he;omega
  have i13:nm 1≠nm 3:=fun he=>by have:=inj 1 3 (by omega) (by omega) he;omega
  have w58:W (nx+58)=some ⟨3,cap1,(v.pipe.drop 1).map eCJ⟩:=by
   rw[←aYL,aA.aC (by omega),aA.aC (by omega),aA.aC (by omega),aA.aC (by omega)];exact aA.bH
  have w74:W (nx+74)=some ⟨5,cap,v.done.map aS++[cI j.who::cI j.n::tG D.2]⟩:=by
   rw[←aYL,aA.aC (by omega)];exact aA.bH
  have bk6:W (nm 3)=some ⟨3,mv,rv.set st [.osl 3 (nx+58) 0 (v.pipe.length-1) cap1,.osl 5 (nx+74) 0 (v.done.length+1) cap,cI v.last]⟩:=by
   rw[←aYL,aA.aC (by omega),aA.aC (by omega),aA.aC (by omega)];exact aA.bH
  have w1':W (nm 1)=some ⟨1,mh,D.1.2.map aJ⟩:=by
   rw[←aYL];simp (disch:=omega) only[aA.aC,aA.bH]
  have w0':W (nm 0)=some ⟨1,mw,D.1.1.map aJ⟩:=by
   rw[←aYL];simp (disch:=omega) only[aA.aC,aA.bH]
  have wf: ∀id,id<nx→id≠nm 0→id≠nm 1→id≠nm 3→id≠nm (15+st)→W id=H id:=fun id h1 h2 h3 h4 h5=>by
   rw[←aYL];simp (disch:=omega) only[aA.aC,aA.jG]
  clear aYL
  have wk: ∀a,a<19→a≠0→a≠1→a≠3→a≠15+st→W (nm a)=H (nm a):=fun a h1 h2 h3 h4 h5=>wf _ (lt a h1) (fun he=>h2 (inj a 0 h1 (by omega) he)) (fun he=>h3 (inj a 1 h1 (by omega) he)) (fun he=>h4 (inj a 3 h1 (by omega) he)) (fun he=>h5 (inj a (15+st) h1 (by omega) he))
  obtain⟨nm',hnm'⟩: ∃nm',nm'=put (put nm (11+st) (nx+58)) (15+st) (nx+74):=⟨_,rfl⟩
  have pn: ∀a,a≠11+st→a≠15+st→nm' a=nm a:=fun a h1 h2=>by rw[hnm',jE h2,jE h1]
  have p11:nm' (11+st)=nx+58:=by rw[hnm',jE (by omega),t8]
  have p15:nm' (15+st)=nx+74:=by rw[hnm',t8]
  have hXl: ∀z,nx≤z→¬X z:=fun z hz hn=>by have:=hX z hn;omega
  have hN:Names X (nx+80) nm':=by
   rw[hnm']
   exact(hR.names.put (nx':=nx+59) (by omega) (by omega) (hXl _ (by omega))).put (by omega) (by omega) (hXl _ (by omega))
  refine h W _ nm' _ (by omega) ⟨⟨⟨wc,hc,pc,vc,tc,?_,?_,?_,?_,bkU,bkV⟩,⟨mp,rp,?_,g8,fun k hk=> ?_⟩,⟨mv,rv.set st [.osl 3 (nx+58) 0 (v.pipe.length-1) cap1,.osl 5 (nx+74) 0 (v.done.length+1) cap,cI v.last],?_,by rw[List.length_set,g9],fun k hk=> ?_⟩⟩,hN,fun id hid=>by have:=hX id hid;omega⟩ fun id hid=> ?_
  ·have e:s'.told=s.told:=by rw[hs'];rfl
   rw[U2,hws,hhs,e,pn 0 (by omega) (by omega),pn 1 (by omega) (by omega),pn 2 (by omega) (by omega),pn 3 (by omega) (by omega),pn 4 (by omega) (by omega),show D.1.1.length=64 by rw[←hws];omega,show D.1.2.length=6 by rw[←hhs];omega]
  ·rw[pn 0 (by omega) (by omega),hws]
   exact⟨mw,_,w0',rfl,by simp,by simp,by rw[←hws];omega,by omega⟩
  ·rw[pn 1 (by omega) (by omega),hhs]
   exact⟨mh,_,w1',rfl,by simp,by simp,by rw[←hhs];omega,by omega⟩
  ·rw[pn 4 (by omega) (by omega),hs']
   exact g5.frame (wk 4 (by omega) (by omega) (by omega) (by omega) (by omega))
  ·rw[pn 2 (by omega) (by omega)]
   exact(wk 2 (by omega) (by omega) (by omega) (by omega) (by omega)).trans g1
  ·obtain⟨qo,qc,oc,x1,x2,aYM⟩:=ga k hk
   have e:aF s' k=aF s k:=by rw[hs'];rfl
   exact⟨_,x1,⟨qo,qc,oc,by rw[e,pn (5+k) (by omega) (by omega),pn (8+k) (by omega) (by omega)];rfl,by rw[e,pn (5+k) (by omega) (by omega)];exact x2.frame (wk (5+k) (by omega) (by omega) (by omega) (by omega) (by omega)),by rw[e,pn (8+k) (by omega) (by omega)];exact aYM.frame (wk (8+k) (by omega) (by omega) (by omega) (by omega) (by omega))⟩⟩
  ·rw[pn 3 (by omega) (by omega)];exact bk6
  ·by_cases hks:k=st
   ·subst hks
    refine⟨_,List.getElem?_set_self (by omega),⟨0,cap1,0,cap,?_,?_,?_⟩⟩
    ·rw[hvd',p11,p15];simp only[aj9,List.length_drop,List.length_append,List.length_singleton]
    ·rw[hvd',p11]
     exact⟨cap1,_,w58,rfl,by simp,by simp,by rw[List.length_drop];omega,by omega⟩
    ·rw[hvd',p15]
     exact⟨cap,_,w74,by first| (rw[List.map_append];done)| (rw[List.map_append];rfl),by simp,by simp,by rw[List.length_append,List.length_singleton];omega,by omega⟩
   ·obtain⟨po',pc',do',dc',x1,x2,aYM⟩:=gb k hk
    have e:aL s' k=aL s k:=by rw[hs',bO rfl (by rw[hs.sl];omega),if_neg hks]
    exact⟨_,by rw[List.getElem?_set_ne (Ne.symm hks)];exact x1,⟨po',pc',do',dc',by rw[e,pn (11+k) (by omega) (by omega),pn (15+k) (by omega) (by omega)];rfl,by rw[e,pn (11+k) (by omega) (by omega)];exact x2.frame (wk (11+k) (by omega) (by omega) (by omega) (by omega) (by omega)),by rw[e,pn (15+k) (by omega) (by omega)];exact aYM.frame (wk (15+k) (by omega) (by omega) (by omega) (by omega) (by omega))⟩⟩
  ·have av:=hR.names.av
   exact wf id (hX id hid) (fun he=>av 0 (by omega) (he▸hid)) (fun he=>av 1 (by omega) (he▸hid)) (fun he=>av 3 (by omega) (he▸hid)) (fun he=>av (15+st) (by omega) (he▸hid))
 ·have hwk:decide (0<(aL s st).pipe.length∧(bI s st).left=0∧(aL s st).done.length<2)=false:=decide_eq_false (by rw[hv];omega)
  repeat' (first| (with_reducible first| (refine hK _ _ _ ?_;clear hK K)| (refine hA ?_;clear hA hB A B)| (refine hB ?_;clear hA hB A B)|refine Z1 ?_|refine Z2 ?_|refine Z3 fun KB hKB=> ?_|refine Z4 (by omega) ?_|refine Z5 (by omega) ?_|refine Z6 (fun h=> ?_) fun h=> ?_|refine Z7 (fun h=> ?_) fun h=> ?_|refine fun(cap:Nat) (hcap:_≤cap)=> ?_|refine fun(hcp:_≤cap)=> ?_|refine fun(b:Bool)=> ?_|refine hKX _ _ _ ?_|refine hKY _ _ _ ?_|refine hKZ _ _ _ ?_)| (first| (with_reducible first|refine Y1 fun K hK=> ?_|refine Y2 fun K hK=> ?_|refine Y3 fun A B hA hB=> ?_|refine Y4 (by omega) ?_|refine Y5 (by omega) ?_|refine Y6 (fun h=> ?_) fun h=> ?_| (refine Y7 (fun h=> ?_) (fun h=> ?_)<;>try subst h))| (refine bgY hs hst (hRc.ar5 hs.pl hs.sl (fun id hid=>by rw[aA.aC (by omega),aA.aC (by omega),aA.aC (by omega),aA.aC (by omega)])) ?_))<;>(simp only[go_sem,Nat.add_assoc,Nat.left_eq_add,Nat.add_eq_left,g2,gs,hlen,hwk,p1,p7,hA];try simp (disch:=omega) only[Iw])| ((with_reducible first|refine Y8 ?_|refine Y9 ?_);try simp only[AQ.then,AQ.blk,reduceIte,Nat.reduceEqDiff])| ((with_reducible refine Y0 ?_);simp only[AQ.then,AQ.blk])| ((with_reducible refine Z8 (fun h=> ?_) (fun h=> ?_))<;>try subst h)|refine⟨by omega,?_⟩| (refine⟨by(rw[List.length_take];omega),?_⟩)| (with_reducible first|refine hKB _ _ _ ?_| (clear hKB KB;refine hKB _ _ _ ?_)| (clear hKB KB;clear hKB KB;refine hKB _ _ _ ?_))|fail)
  refine hQ _ _ _ _ _ (.inr rfl) (LL rfl (by rw[aA.aC (by omega)];exact aA.bH) rfl) ?_
  rw[ae2 hnp (by rw[hjp];exact hl0) (by rw[hv];exact hd2)] at h
  exact h _ _ nm _ (by omega) (hR.frame (by omega) fun id hid _=>by rw[aA.aC (by omega),aA.aC (by omega),aA.aC (by omega),aA.aC (by omega)]) fun id hid=>by
   have:=hX id hid
   rw[aA.aC (by omega),aA.aC (by omega),aA.aC (by omega),aA.aC (by omega)]
end
end Go.Proofs.Ytmccpdapaccnoaa
end
