/- Texts laid together by a program: rules, contracts and the walk that leads to the law. -/
import Derived.Test.YtdkfhdmagdaceaaGreatPN16
set_option linter.unusedVariables false
set_option linter.unusedSimpArgs false
set_option linter.unusedSectionVars false
set_option maxRecDepth 100000
set_option maxHeartbeats 8000000
namespace Go.Proofs.YtdkfhdmagdaceaaGreat
open Go Go.AM
attribute [local irreducible] aM wv aB vd wvH
theorem EY:cJ Tryz.prog nX Tryz.f191 mI uE:=cJ.mk Tryz.func191 (by kernel_rfl) FG
theorem aoP {c:Cfg} {i:CIn} {s:CSt} {k:Nat} (h: ¬(i.send.getD k default=true∧(aF s k).queue.length<2∧(aF s k).next<(c.cP.getD k default).length)):PA c i s k=none:=if_neg h
section
variable {H : aA} {nx : Nat} {K : D → aA → Nat → Prop}
theorem HN {X:Nat→Prop} {c:Cfg} {i:CIn} {s:CSt} {es:List Ev} {i0 i1:Nat} {nm:Nat→Nat} (hb:aQ c) (hs:COk c s) (ba:i.send.length=3) (hB:l9 X H nx i0 i1 nm s es) (hl:es.length<900)
 (h: ∀H' nx' e,nx≤nx'→l9 X H' nx' i0 i1 e (dR c s (MV c i s)) (es++iP c s (MV c i s))→(∀id,X id→H' id=H id)→K (.tup []) H' nx'):
 aB Tryz.prog nX [.one (.c (.ptr 5 i0 0 0)),boR (cU c),boR (eIn i),.one (.c (.ptr 5 i1 0 0))] H nx K:=by
 refine EY rfl fun Q hQ=> ?_
 unfold mI
 obtain⟨bb,ad⟩:=hC hb
 obtain⟨wc,hc,P,vc,R,ae,bc,bd,bf,bg,bh⟩: ∃wc hc P vc R,H i0=some ⟨5,1,[[.osl 1 (nm 0) 0 s.words.length wc,.osl 1 (nm 1) 0 s.holds.length hc,.osl 4 (nm 2) 0 3 P,.osl 3 (nm 3) 0 4 vc,.osl 5 (nm 4) 0 s.told.length R]]⟩∧_:=by obtain⟨cells,h1,⟨wc,hc,P,vc,R,rfl,h2⟩,_⟩:=hB.rep.st;exact⟨wc,hc,P,vc,R,h1,h2⟩
 have z:=hB.rep.apart (nx':=nx) [] [] (m5 _) (by simp) (by simp) (by simp) (by simp)
 simp only[bQ,eZ,List.map,List.nil_append] at z
 repeat' first|apply bn1<;>(simp only[go_sem,t1,bqT,ae,z])|fail
 obtain⟨H0,B⟩: ∃H0,H0=(H.set nx ⟨3,1,[cU c]⟩).set (nx+1) ⟨3,1,[eIn i]⟩:=⟨_,rfl⟩
 rw[←B]
 have af:H0 nx=some ⟨3,1,[cU c]⟩:=by rw[B,aA.aC (by omega)];exact aA.bH
 have ag:H0 (nx+1)=some ⟨3,1,[eIn i]⟩:=by rw[B];exact aA.bH
 have ah:=hB.rep.i0.1
 have ai:=hB.hap.i1.1
 have aj:l9 (fun id=>X id∨id=nx∨id=nx+1) H0 (nx+8) i0 i1 nm s es:=hB.next (by omega) (fun id h1 h2=>by rw[B,aA.aC (by omega),aA.aC (by omega)]) fun id a=>by
  rcases a with a|rfl|rfl;·have:=hB.rep.x id (.inl a);exact⟨by omega,.inl a⟩
  ·exact⟨by omega,.inr (m5 _)⟩
  ·exact⟨by omega,.inr (by omega)⟩
 refine aM.gP (β:=Nat×CSt×List Ev×(Nat→Nat)) (fun u=>en [(15,boP u.1),(14,boP 3),(6,.one (.c (.ptr 3 (nx+1) 0 0))),(5,.one (.c (.ptr 3 nx 0 0))),(3,.one (.c (.ptr 5 i1 0 0))),(0,.one (.c (.ptr 5 i0 0 0)))])
  (fun u H1 g=>u.1≤3∧COk c u.2.1∧l9 (fun id=>X id∨id=nx∨id=nx+1) H1 g i0 i1 u.2.2.2 u.2.1 u.2.2.1∧(∀id,X id∨id=nx∨id=nx+1→H1 id=H0 id)∧vU c (PA c i) ([0,1,2].drop u.1) u.2.1 u.2.2.1 (dR c s (MV c i s)) (es++iP c s (MV c i s))∧u.2.2.1.length≤es.length+u.1)
  (fun u=>3-u.1) (0,s,es,nm) ⟨noF,_,by repeat' first|exact bo2|refine xqI rfl rfl ?_|refine xqP (by omega) rfl rfl ?_|fail,aK,by dsimp only;omega,hs,aj.mono (by omega),fun _ _=>rfl,⟨rfl,rfl⟩,by simp⟩ ?_
 rintro⟨k,s1,S,C⟩ H1 g bj ⟨hk,f,m,w,T,ak⟩ bpQ U
 dsimp only at hk f m T ak
 obtain⟨wc,hc,P,vc,R,mp,Z,mv,rv,bqC,V,g2,g3,g4,g5,bkU,bkV,bp4,bp5,ga,gb⟩:=m.rep.get
 have D:H1 (nx+1)=some ⟨3,1,[eIn i]⟩:=by rw[w _ (.inr (.inr rfl))];exact ag
 have E:H1 nx=some ⟨3,1,[cU c]⟩:=by rw[w _ (.inr (.inl rfl))];exact af
 by_cases q:k<3
 ·have N:=T;rw[ap4 q] at N;obtain⟨p,y⟩: ∃p,p=aF s1 k:=⟨_,rfl⟩
  obtain⟨qo,qc,oc,W,gq,go⟩:=ga k q;rw[←y] at W gq go;have Y:=f.port k q;rw[←y] at Y;obtain⟨bk,bm⟩:=Y.next;have bn:=Y.ql;have al:=ad k;obtain⟨mq,rq0,q1,q2,q3,q4,q5,q6⟩:=gq.ex;rw[bqW] at q4;by_cases boT:i.send.getD k default=true∧(aF s1 k).queue.length<2∧(aF s1 k).next<(c.cP.getD k default).length
  ·have F:PA c i s1 k=some (.ask k):=if_pos boT;obtain⟨I,an,ao⟩:=boT;rw[←y] at an ao;have z:=m.rep.apart (nx':=g) [nx,nx+1] [0,1,2,3,4,5+k,8+k] (m5 _) (by simp) (fun x hx=>.inl (.inr (by simpa using hx))) (by simp;omega) (by simp;omega);simp only[bQ,eZ,List.map,List.cons_append,List.nil_append] at z;have J: ∀r,(Z.set k r)[k]?=some r:=fun r=>by rw[bqZ (by omega)]
   refine aM.BW fun aq=> ?_;have ar: ∀k l,msk (g+k) l H1=H1:=fun k l=>BV aq (by omega);repeat' first| (first|apply bn1|apply bpJ (by omega))<;>(simp only[go_sem,t1,bqT,ar,umS (G:=H1),umD (G:=H1),umB,bqC,V,W,J,bq1,E,D,I,q1,z])|apply bn2 (by omega)| (with_reducible first|refine fun(cap:Nat) (aa:_≤cap)=> ?_|refine fun(bo:_≤cap)=> ?_)|refine⟨by omega,?_⟩|fail
   have er:List.take p.queue.length (List.drop qo rq0)++[[cI p.next]]=(p.queue++[p.next]).map aJ:=(by rw[q2,boL (by simp),bqX];rfl);rw[er];obtain⟨e,L⟩: ∃e,e=put C (5+k) (g+46):=⟨_,rfl⟩
   have A: ∀j,j≠5+k→e j=C j:=fun j h1=>by rw[L,jE h1]
   have p5:e (5+k)=g+46:=(by rw[L,t8]);have hL:=N.some F;obtain⟨s2,d⟩: ∃s2:CSt,s2= {s1 with bM:=s1.bM.set k {p with queue:=p.queue++[p.next]}}:=⟨_,rfl⟩
   obtain⟨s',n⟩: ∃s',s'=aR c s1 (.ask k):=⟨_,rfl⟩
   rw[←n,show y0 s1 (.ask k)=[⟨1,k,p.next⟩] from by rw[y];rfl] at hL;have au:COk c s':=(by rw[n];exact o9 hb f (YH f q F));have t:aF s2 k= {p with queue:=p.queue++[p.next]}:=(by rw[d,bL rfl (by rw[f.pl];omega),if_pos rfl]);have M:aF s' k= {p with queue:=p.queue++[p.next],next:=p.next+1}:=(by rw[n,bL rfl (by rw[f.pl];omega),if_pos rfl,←y]);refine acI (m.upd k 8 e s2 (by omega) ?_ ?_ ?_ ?_ ?_ ?_ (.inl q) (.inr rfl) (fun j hj b=>by rw[d,bL rfl (by rw[f.pl];omega),if_neg b]) (fun j hj b=>by rw[d];rfl)) (by omega) fun H' nx' hx O aw=> ?_
   ·rw[L];have ax: ∀v,g≤v→¬((X v∨v=nx∨v=nx+1)∨v=i1):=fun v hv hn=>by have:=m.rep.x v hn;omega
    exact m.rep.names.put (by omega) (by omega) (ax _ (by omega))
   ·intro j hj;by_cases h4:j=5+k;·subst h4;exact .inr ⟨.inr (.inl rfl),by omega⟩
    ·exact .inl (A j h4)
   ·intro id a h0 b;simp only[aA.set,aA.del,b 2 (by omega) (by omega),b (5+k) (by omega) (by omega),show ¬id=g+45 by omega,show ¬id=g+46 by omega,if_false]
   ·refine⟨wc,hc,P,vc,R,?_,?_,?_,?_,bkU,bkV⟩;·simp only[aA.set,aA.del,z,if_false,U2,A 0 (by omega),A 1 (by omega),A 2 (by omega),A 3 (by omega),A 4 (by omega)];rw[d];exact bqC
    ·rw[A 0 (by omega),d];exact g3.frame (by simp only[aA.set,aA.del,z,if_false])
    ·rw[A 1 (by omega),d];exact g4.frame (by simp only[aA.set,aA.del,z,if_false])
    ·rw[A 4 (by omega),d];exact g5.frame (by simp only[aA.set,aA.del,z,if_false])
   ·refine⟨mp,_,mp,Z,V,aA.bH,by simp only[Y5,bp4],fun j hj b=>by rw[bq0 (Ne.symm b)],fun _=>⟨_,J _,⟨0,cap,oc,?_,?_,?_⟩⟩⟩;·rw[t,A (8+k) (by omega),p5];simp only[af5,t2,List.length_singleton]
    ·rw[t,p5];exact⟨cap,(p.queue++[p.next]).map aJ,by simp only[aA.set,aA.del,z,if_false,if_true],rfl,by simp,by simp,by simpa using aa,by simp⟩
    ·rw[t,A (8+k) (by omega)];exact go.frame (by simp only[aA.set,aA.del,z,if_false])
   ·exact⟨mv,rv,mv,rv,g2,by simp only[aA.set,aA.del,z,if_false];exact g2,bp5,fun _ _ _=>rfl,fun hh=>by omega⟩
   ·obtain⟨wc,hc,P,vc,R,mp,Z,mv,rv,bqC,V,g2,g3,g4,g5,bkU,bkV,bp4,bp5,ga,gb⟩:=O.rep.get;obtain⟨qo,qc,oc,W,gq,go⟩:=ga k q;have J: ∀r,(Z.set k r)[k]?=some r:=fun r=>by rw[bqZ (by omega)]
    have o:=O.rep.apart (nx':=nx') [nx,nx+1] [0,1,2,3,4,5+k,8+k] (m5 _) (by simp) (fun x hx=>.inl (.inr (by simpa using hx))) (by simp;omega) (by simp;omega);simp only[bQ,eZ,List.map,List.cons_append,List.nil_append] at o;have ay:=(A 2 (by omega)).symm;rw[t] at W gq go;simp only[go_sem];repeat' first|apply bn1<;>(simp only[go_sem,t1,bqT,ay,bqC,V,W,J,bq1,o];try simp (disch:=omega) only[Iw])|fail
    have ab:=O.upd (H':=H'.set (e 2) ⟨4,mp,Z.set k [cI (p.next+1),.osl 1 (e (5+k)) qo (p.queue.length+1) qc,.osl 3 (e (8+k)) 0 p.out.length oc,cI p.last]⟩) (nx':=nx'+10) k 8 e s' (by omega) (O.rep.names.mono (by omega)) (fun j _=>.inl rfl) ?_ ?_ ?_ ?_ (.inl q) (.inr rfl) (fun j hj b=>(show aF s' j=aF s1 j from by rw[n,bL (s:=s1) rfl (by rw[f.pl];omega),if_neg b]).trans (show aF s2 j=aF s1 j from by rw[d,bL (s:=s1) rfl (by rw[f.pl];omega),if_neg b]).symm) (fun j hj b=>by rw[n,d];rfl);·exact U _ _ _ (k+1,s',S++[⟨1,k,p.next⟩],e) noF _ (by omega) (by dsimp only;omega) (by repeat' first|exact bo2|refine xqI rfl rfl ?_|refine xqP (by omega) rfl rfl ?_|fail) aK ⟨by dsimp only;omega,au,ab.1,fun id a=>(ab.2 id a).trans ((aw id a).trans (w id a)),hL,by simp;omega⟩
    ·intro id a h0 b;exact aA.aC (b 2 (by omega) (by omega))
    ·refine⟨wc,hc,P,vc,R,?_,?_,?_,?_,bkU,bkV⟩;·simp only[aA.set,o,if_false];rw[bqC,n,d];rfl
     ·rw[d] at g3;rw[n];exact g3.frame (by simp only[aA.set,o,if_false])
     ·rw[d] at g4;rw[n];exact g4.frame (by simp only[aA.set,o,if_false])
     ·rw[d] at g5;rw[n];exact g5.frame (by simp only[aA.set,o,if_false])
    ·refine⟨mp,_,mp,Z,V,aA.bH,by simp only[Y5,bp4],fun j hj b=>by rw[bq0 (Ne.symm b)],fun _=>⟨_,J _,⟨qo,qc,oc,?_,?_,?_⟩⟩⟩;·rw[M];simp only[af5,t2,List.length_singleton]
     ·rw[M];exact gq.frame (by simp only[aA.set,o,if_false])
     ·rw[M];exact go.frame (by simp only[aA.set,o,if_false])
    ·exact⟨mv,rv,mv,rv,g2,by simp only[aA.set,o,if_false];exact g2,bp5,fun _ _ _=>rfl,fun hh=>by omega⟩
  ·have F:=aoP boT;rw[←y] at boT
   cases I:i.send.getD k default with
   |false=>
    repeat' first|apply bn1<;>(simp only[go_sem,t1,bqT,bqC,V,W,E,D,I];try simp (disch:=omega) only[Iw])|apply bn2 (by omega)|refine⟨by omega,?_⟩|fail
    exact U _ _ _ (k+1,s1,S,C) noF _ (by omega) (by dsimp only;omega) (by repeat' first|exact bo2|refine xqI rfl rfl ?_|refine xqP (by omega) rfl rfl ?_|fail) aK ⟨by dsimp only;omega,f,m.mono (by omega),w,N.none (F),by dsimp only;omega⟩
   |true=>
   rw[I] at boT;repeat' first| (first|apply bn1|refine bpL (fun h=> ?_) fun h=> ?_)<;>(simp only[go_sem,t1,bqT,bqC,V,W,E,D,I];try simp (disch:=omega) only[Iw])|apply bn2 (by omega)|refine bnE (fun h=> ?_) fun h=> ?_|refine⟨by omega,?_⟩|fail
   all_goals first|exact absurd ⟨rfl,by omega,by omega⟩ boT| (exact U _ _ _ (k+1,s1,S,C) noF _ (by omega) (by dsimp only;omega) (by repeat' first|exact bo2|refine xqI rfl rfl ?_|refine xqP (by omega) rfl rfl ?_|fail) aK ⟨by dsimp only;omega,f,m.mono (by omega),w,N.none F,by dsimp only;omega⟩)
 ·repeat' first|apply bn1<;>(simp only[go_sem])|apply bn3 (by omega)|fail
  have az:k=3:=by omega
  subst az;obtain⟨rfl,rfl⟩:=vU.nil T;refine hQ _ _ _ _ _ (.inl rfl) rfl (h _ _ C (by omega) (m.next (by omega) (fun _ _ _=>rfl) fun id a=>⟨?_,.inl (.inl a)⟩) fun id a=> ?_);·have:=hB.rep.x id (.inl a);omega
  ·have:=hB.rep.x id (.inl a);rw[w id (.inl a),B,aA.aC (by omega),aA.aC (by omega)]
end
end Go.Proofs.YtdkfhdmagdaceaaGreat
