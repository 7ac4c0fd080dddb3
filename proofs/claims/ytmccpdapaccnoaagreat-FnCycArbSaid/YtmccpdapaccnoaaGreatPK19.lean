/- Texts laid together by a program: rules, contracts and the walk that leads to the law. -/
import Derived.Test.YtmccpdapaccnoaaGreatPK16
set_option linter.unusedVariables false
set_option linter.unusedSimpArgs false
set_option linter.unusedSectionVars false
set_option maxRecDepth 100000
set_option maxHeartbeats 8000000
namespace Go.Proofs.YtmccpdapaccnoaaGreat
open Go Go.AM
attribute [local irreducible] aM wv aB vd wvH
theorem EY:cJ Tryz.prog nX Tryz.f217 mI uE:=cJ.mk Tryz.func217 (by kernel_rfl) FG
theorem aoP {c:Cfg} {i:CIn} {s:CSt} {k:Nat} (h: ¬(i.send.getD k default=true∧(aF s k).queue.length<2∧(aF s k).next<(c.cP.getD k default).length)):PA c i s k=none:=if_neg h
section
variable {H : aA} {nx : Nat} {K : D → aA → Nat → Prop}
theorem HN {X:Nat→Prop} {c:Cfg} {i:CIn} {s:CSt} {es:List Ev} {i0 i1:Nat} {nm:Nat→Nat} (hb:aQ c) (hs:COk c s) (hin:i.send.length=3) (hB:l9 X H nx i0 i1 nm s es) (hl:es.length<900)
 (h: ∀H' nx' nm',nx≤nx'→l9 X H' nx' i0 i1 nm' (dR c s (MV c i s)) (es++iP c s (MV c i s))→(∀id,X id→H' id=H id)→K (.tup []) H' nx'):
 aB Tryz.prog nX [.one (.c (.ptr 5 i0 0 0)),boR (cU c),boR (eIn i),.one (.c (.ptr 5 i1 0 0))] H nx K:=by
 refine EY rfl fun Q hQ=> ?_
 unfold mI
 obtain⟨hp3,hpr⟩:=hC hb
 obtain⟨wc,hc,pc,vc,tc,hi0,hw0,hh0,ht0,hpc,hvc⟩: ∃wc hc pc vc tc,H i0=some ⟨5,1,[[.osl 1 (nm 0) 0 s.words.length wc,.osl 1 (nm 1) 0 s.holds.length hc,.osl 4 (nm 2) 0 3 pc,.osl 3 (nm 3) 0 4 vc,.osl 5 (nm 4) 0 s.told.length tc]]⟩∧_:=by obtain⟨cells,h1,⟨wc,hc,pc,vc,tc,rfl,h2⟩,_⟩:=hB.rep.st;exact⟨wc,hc,pc,vc,tc,h1,h2⟩
 have hA:=hB.rep.apart (nx':=nx) [] [] (m5 _) (by simp) (by simp) (by simp) (by simp)
 simp only[bQ,eZ,List.map,List.nil_append] at hA
 repeat' first|apply bn1<;>(simp only[go_sem,t1,bqT,hi0,hA])|fail
 obtain⟨H0,hH0⟩: ∃H0,H0=(H.set nx ⟨3,1,[cU c]⟩).set (nx+1) ⟨3,1,[eIn i]⟩:=⟨_,rfl⟩
 rw[←hH0]
 have h0c:H0 nx=some ⟨3,1,[cU c]⟩:=by rw[hH0,aA.aC (by omega)];exact aA.bH
 have h0i:H0 (nx+1)=some ⟨3,1,[eIn i]⟩:=by rw[hH0];exact aA.bH
 have hxi0:=hB.rep.i0.1
 have hxi1:=hB.hap.i1.1
 have hB0:l9 (fun id=>X id∨id=nx∨id=nx+1) H0 (nx+8) i0 i1 nm s es:=hB.next (by omega) (fun id h1 h2=>by rw[hH0,aA.aC (by omega),aA.aC (by omega)]) fun id hid=>by
  rcases hid with hid|rfl|rfl;·have:=hB.rep.x id (.inl hid);exact⟨by omega,.inl hid⟩
  ·exact⟨by omega,.inr (m5 _)⟩
  ·exact⟨by omega,.inr (by omega)⟩
 refine aM.gP (β:=Nat×CSt×List Ev×(Nat→Nat)) (fun u=>en [(15,boP u.1),(14,boP 3),(6,.one (.c (.ptr 3 (nx+1) 0 0))),(5,.one (.c (.ptr 3 nx 0 0))),(3,.one (.c (.ptr 5 i1 0 0))),(0,.one (.c (.ptr 5 i0 0 0)))])
  (fun u H1 nx1=>u.1≤3∧COk c u.2.1∧l9 (fun id=>X id∨id=nx∨id=nx+1) H1 nx1 i0 i1 u.2.2.2 u.2.1 u.2.2.1∧(∀id,X id∨id=nx∨id=nx+1→H1 id=H0 id)∧vU c (PA c i) ([0,1,2].drop u.1) u.2.1 u.2.2.1 (dR c s (MV c i s)) (es++iP c s (MV c i s))∧u.2.2.1.length≤es.length+u.1)
  (fun u=>3-u.1) (0,s,es,nm) ⟨noF,_,by repeat' first|exact bo2|refine xqI rfl rfl ?_|refine xqP (by omega) rfl rfl ?_|fail,aK,by dsimp only;omega,hs,hB0.mono (by omega),fun _ _=>rfl,⟨rfl,rfl⟩,by simp⟩ ?_
 rintro⟨k,s1,es1,nm1⟩ H1 nx1 hnx ⟨hk,hs1,hB1,hX1,hS1,hL1⟩ bpQ hKL
 dsimp only at hk hs1 hB1 hS1 hL1
 obtain⟨wc,hc,pc,vc,tc,mp,rp,mv,rv,bqC,g1,g2,g3,g4,g5,bkU,bkV,bp4,bp5,ga,gb⟩:=hB1.rep.get
 have hin1:H1 (nx+1)=some ⟨3,1,[eIn i]⟩:=by rw[hX1 _ (.inr (.inr rfl))];exact h0i
 have hcf1:H1 nx=some ⟨3,1,[cU c]⟩:=by rw[hX1 _ (.inr (.inl rfl))];exact h0c
 by_cases hlt:k<3
 ·have hS2:=hS1;rw[ap4 hlt] at hS2;obtain⟨p,hpd⟩: ∃p,p=aF s1 k:=⟨_,rfl⟩
  obtain⟨qo,qc,oc,gr,gq,go⟩:=ga k hlt;rw[←hpd] at gr gq go;have hpo:=hs1.port k hlt;rw[←hpd] at hpo;obtain⟨hn1,hn2⟩:=hpo.next;have hql:=hpo.ql;have hprk:=hpr k;obtain⟨mq,rq0,q1,q2,q3,q4,q5,q6⟩:=gq.ex;rw[bqW] at q4;by_cases boT:i.send.getD k default=true∧(aF s1 k).queue.length<2∧(aF s1 k).next<(c.cP.getD k default).length
  ·have hO2:PA c i s1 k=some (.ask k):=if_pos boT;obtain⟨hsd,hq2,hnl⟩:=boT;rw[←hpd] at hq2 hnl;have hA:=hB1.rep.apart (nx':=nx1) [nx,nx+1] [0,1,2,3,4,5+k,8+k] (m5 _) (by simp) (fun x hx=>.inl (.inr (by simpa using hx))) (by simp;omega) (by simp;omega);simp only[bQ,eZ,List.map,List.cons_append,List.nil_append] at hA;have hgk: ∀r,(rp.set k r)[k]?=some r:=fun r=>by rw[bqZ (by omega)]
   refine aM.BW fun hnm=> ?_;have hmk: ∀k l,msk (nx1+k) l H1=H1:=fun k l=>BV hnm (by omega);repeat' first| (first|apply bn1|apply bpJ (by omega))<;>(simp only[go_sem,t1,bqT,hmk,umS (G:=H1),umD (G:=H1),umB,bqC,g1,gr,hgk,bq1,hcf1,hin1,hsd,q1,hA])|apply bn2 (by omega)| (with_reducible first|refine fun(cap:Nat) (hcap:_≤cap)=> ?_|refine fun(hcp:_≤cap)=> ?_)|refine⟨by omega,?_⟩|fail
   have er:List.take p.queue.length (List.drop qo rq0)++[[cI p.next]]=(p.queue++[p.next]).map aJ:=(by rw[q2,boL (by simp),bqX];rfl);rw[er];obtain⟨nm',hnm'⟩: ∃nm',nm'=put nm1 (5+k) (nx1+46):=⟨_,rfl⟩
   have pn: ∀j,j≠5+k→nm' j=nm1 j:=fun j h1=>by rw[hnm',jE h1]
   have p5:nm' (5+k)=nx1+46:=(by rw[hnm',t8]);have hL:=hS2.some hO2;obtain⟨s2,hs2⟩: ∃s2:CSt,s2= {s1 with bM:=s1.bM.set k {p with queue:=p.queue++[p.next]}}:=⟨_,rfl⟩
   obtain⟨s',hs'⟩: ∃s',s'=aR c s1 (.ask k):=⟨_,rfl⟩
   rw[←hs',show y0 s1 (.ask k)=[⟨1,k,p.next⟩] from by rw[hpd];rfl] at hL;have hsk:COk c s':=(by rw[hs'];exact o9 hb hs1 (YH hs1 hlt hO2));have hpd2:aF s2 k= {p with queue:=p.queue++[p.next]}:=(by rw[hs2,bL rfl (by rw[hs1.pl];omega),if_pos rfl]);have hpd':aF s' k= {p with queue:=p.queue++[p.next],next:=p.next+1}:=(by rw[hs',bL rfl (by rw[hs1.pl];omega),if_pos rfl,←hpd]);refine acI (hB1.upd k 8 nm' s2 (by omega) ?_ ?_ ?_ ?_ ?_ ?_ (.inl hlt) (.inr rfl) (fun j hj hne=>by rw[hs2,bL rfl (by rw[hs1.pl];omega),if_neg hne]) (fun j hj hne=>by rw[hs2];rfl)) (by omega) fun H' nx' hx hB' hX'=> ?_
   ·rw[hnm'];have hXl: ∀v,nx1≤v→¬((X v∨v=nx∨v=nx+1)∨v=i1):=fun v hv hn=>by have:=hB1.rep.x v hn;omega
    exact hB1.rep.names.put (by omega) (by omega) (hXl _ (by omega))
   ·intro j hj;by_cases h4:j=5+k;·subst h4;exact .inr ⟨.inr (.inl rfl),by omega⟩
    ·exact .inl (pn j h4)
   ·intro id hid h0 hne;simp only[aA.set,aA.del,hne 2 (by omega) (by omega),hne (5+k) (by omega) (by omega),show ¬id=nx1+45 by omega,show ¬id=nx1+46 by omega,if_false]
   ·refine⟨wc,hc,pc,vc,tc,?_,?_,?_,?_,bkU,bkV⟩;·simp only[aA.set,aA.del,hA,if_false,U2,pn 0 (by omega),pn 1 (by omega),pn 2 (by omega),pn 3 (by omega),pn 4 (by omega)];rw[hs2];exact bqC
    ·rw[pn 0 (by omega),hs2];exact g3.frame (by simp only[aA.set,aA.del,hA,if_false])
    ·rw[pn 1 (by omega),hs2];exact g4.frame (by simp only[aA.set,aA.del,hA,if_false])
    ·rw[pn 4 (by omega),hs2];exact g5.frame (by simp only[aA.set,aA.del,hA,if_false])
   ·refine⟨mp,_,mp,rp,g1,aA.bH,by simp only[Y5,bp4],fun j hj hne=>by rw[bq0 (Ne.symm hne)],fun _=>⟨_,hgk _,⟨0,cap,oc,?_,?_,?_⟩⟩⟩;·rw[hpd2,pn (8+k) (by omega),p5];simp only[af5,t2,List.length_singleton]
    ·rw[hpd2,p5];exact⟨cap,(p.queue++[p.next]).map aJ,by simp only[aA.set,aA.del,hA,if_false,if_true],rfl,by simp,by simp,by simpa using hcap,by simp⟩
    ·rw[hpd2,pn (8+k) (by omega)];exact go.frame (by simp only[aA.set,aA.del,hA,if_false])
   ·exact⟨mv,rv,mv,rv,g2,by simp only[aA.set,aA.del,hA,if_false];exact g2,bp5,fun _ _ _=>rfl,fun hh=>by omega⟩
   ·obtain⟨wc,hc,pc,vc,tc,mp,rp,mv,rv,bqC,g1,g2,g3,g4,g5,bkU,bkV,bp4,bp5,ga,gb⟩:=hB'.rep.get;obtain⟨qo,qc,oc,gr,gq,go⟩:=ga k hlt;have hgk: ∀r,(rp.set k r)[k]?=some r:=fun r=>by rw[bqZ (by omega)]
    have hA2:=hB'.rep.apart (nx':=nx') [nx,nx+1] [0,1,2,3,4,5+k,8+k] (m5 _) (by simp) (fun x hx=>.inl (.inr (by simpa using hx))) (by simp;omega) (by simp;omega);simp only[bQ,eZ,List.map,List.cons_append,List.nil_append] at hA2;have pn2:=(pn 2 (by omega)).symm;rw[hpd2] at gr gq go;simp only[go_sem];repeat' first|apply bn1<;>(simp only[go_sem,t1,bqT,pn2,bqC,g1,gr,hgk,bq1,hA2];try simp (disch:=omega) only[Iw])|fail
    have hBu:=hB'.upd (H':=H'.set (nm' 2) ⟨4,mp,rp.set k [cI (p.next+1),.osl 1 (nm' (5+k)) qo (p.queue.length+1) qc,.osl 3 (nm' (8+k)) 0 p.out.length oc,cI p.last]⟩) (nx':=nx'+10) k 8 nm' s' (by omega) (hB'.rep.names.mono (by omega)) (fun j _=>.inl rfl) ?_ ?_ ?_ ?_ (.inl hlt) (.inr rfl) (fun j hj hne=>(show aF s' j=aF s1 j from by rw[hs',bL (s:=s1) rfl (by rw[hs1.pl];omega),if_neg hne]).trans (show aF s2 j=aF s1 j from by rw[hs2,bL (s:=s1) rfl (by rw[hs1.pl];omega),if_neg hne]).symm) (fun j hj hne=>by rw[hs',hs2];rfl);·exact hKL _ _ _ (k+1,s',es1++[⟨1,k,p.next⟩],nm') noF _ (by omega) (by dsimp only;omega) (by repeat' first|exact bo2|refine xqI rfl rfl ?_|refine xqP (by omega) rfl rfl ?_|fail) aK ⟨by dsimp only;omega,hsk,hBu.1,fun id hid=>(hBu.2 id hid).trans ((hX' id hid).trans (hX1 id hid)),hL,by simp;omega⟩
    ·intro id hid h0 hne;exact aA.aC (hne 2 (by omega) (by omega))
    ·refine⟨wc,hc,pc,vc,tc,?_,?_,?_,?_,bkU,bkV⟩;·simp only[aA.set,hA2,if_false];rw[bqC,hs',hs2];rfl
     ·rw[hs2] at g3;rw[hs'];exact g3.frame (by simp only[aA.set,hA2,if_false])
     ·rw[hs2] at g4;rw[hs'];exact g4.frame (by simp only[aA.set,hA2,if_false])
     ·rw[hs2] at g5;rw[hs'];exact g5.frame (by simp only[aA.set,hA2,if_false])
    ·refine⟨mp,_,mp,rp,g1,aA.bH,by simp only[Y5,bp4],fun j hj hne=>by rw[bq0 (Ne.symm hne)],fun _=>⟨_,hgk _,⟨qo,qc,oc,?_,?_,?_⟩⟩⟩;·rw[hpd'];simp only[af5,t2,List.length_singleton]
     ·rw[hpd'];exact gq.frame (by simp only[aA.set,hA2,if_false])
     ·rw[hpd'];exact go.frame (by simp only[aA.set,hA2,if_false])
    ·exact⟨mv,rv,mv,rv,g2,by simp only[aA.set,hA2,if_false];exact g2,bp5,fun _ _ _=>rfl,fun hh=>by omega⟩
  ·have hO2:=aoP boT;rw[←hpd] at boT
   cases hsd:i.send.getD k default with
   |false=>
    repeat' first|apply bn1<;>(simp only[go_sem,t1,bqT,bqC,g1,gr,hcf1,hin1,hsd];try simp (disch:=omega) only[Iw])|apply bn2 (by omega)|refine⟨by omega,?_⟩|fail
    exact hKL _ _ _ (k+1,s1,es1,nm1) noF _ (by omega) (by dsimp only;omega) (by repeat' first|exact bo2|refine xqI rfl rfl ?_|refine xqP (by omega) rfl rfl ?_|fail) aK ⟨by dsimp only;omega,hs1,hB1.mono (by omega),hX1,hS2.none (hO2),by dsimp only;omega⟩
   |true=>
   rw[hsd] at boT;repeat' first| (first|apply bn1|refine bpL (fun h=> ?_) fun h=> ?_)<;>(simp only[go_sem,t1,bqT,bqC,g1,gr,hcf1,hin1,hsd];try simp (disch:=omega) only[Iw])|apply bn2 (by omega)|refine bnE (fun h=> ?_) fun h=> ?_|refine⟨by omega,?_⟩|fail
   all_goals first|exact absurd ⟨rfl,by omega,by omega⟩ boT| (exact hKL _ _ _ (k+1,s1,es1,nm1) noF _ (by omega) (by dsimp only;omega) (by repeat' first|exact bo2|refine xqI rfl rfl ?_|refine xqP (by omega) rfl rfl ?_|fail) aK ⟨by dsimp only;omega,hs1,hB1.mono (by omega),hX1,hS2.none hO2,by dsimp only;omega⟩)
 ·repeat' first|apply bn1<;>(simp only[go_sem])|apply bn3 (by omega)|fail
  have hk4:k=3:=by omega
  subst hk4;obtain⟨rfl,rfl⟩:=vU.nil hS1;refine hQ _ _ _ _ _ (.inl rfl) rfl (h _ _ nm1 (by omega) (hB1.next (by omega) (fun _ _ _=>rfl) fun id hid=>⟨?_,.inl (.inl hid)⟩) fun id hid=> ?_);·have:=hB.rep.x id (.inl hid);omega
  ·have:=hB.rep.x id (.inl hid);rw[hX1 id (.inl hid),hH0,aA.aC (by omega),aA.aC (by omega)]
end
end Go.Proofs.YtmccpdapaccnoaaGreat
