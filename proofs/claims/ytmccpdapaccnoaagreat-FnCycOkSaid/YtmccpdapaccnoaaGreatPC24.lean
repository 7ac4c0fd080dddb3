/- Texts laid together by a program: rules, contracts and the walk that leads to the law. -/
import Derived.Test.YtmccpdapaccnoaaGreatPC23
import Derived.Test.YtmccpdapaccnoaaGreatPC3
import Derived.Test.YtmccpdapaccnoaaGreatPC15
import Derived.Test.YtmccpdapaccnoaaGreatPC14
import Derived.Test.YtmccpdapaccnoaaGreatPC8
set_option linter.unusedVariables false
set_option linter.unusedSimpArgs false
set_option linter.unusedSectionVars false
set_option maxRecDepth 100000
set_option maxHeartbeats 8000000
namespace Go.AM
theorem a23.asks {c:Cfg} {s:CSt} {st:Nat} {who n:Int} (hp:a19 c s) (h:a23 s who n st):oA c who n:=by
 obtain⟨hw,j,hj,h1,_⟩:=h
 have hpo:=hp.port who.toNat (by omega)
 obtain⟨_,h2,_⟩:=hpo.out _ hj
 have:=hpo.asks (n:=n) (by omega) (by omega) (by omega)
 rwa [show ((who.toNat:Nat):Int)=who by omega] at this
def a80 (x:Int×Int):Job:=⟨x.1,x.2,oW⟩
theorem bfM {G:aA} {bpZ cap nx':Nat} {W:List Job} {k n:Int} (g2:G bpZ=some ⟨5,cap,W.map aS++[[cI k,cI n,cI 0,cI 0,.osl 0 0 0 0 0]]⟩):CvX noF nx' G (G.set bpZ ⟨5,cap,(W++[(⟨k,n,oW⟩:Job)]).map aS⟩):=
 KO (i:=bpZ) (o':=⟨5,cap,(W++[(⟨k,n,oW⟩:Job)]).map aS⟩) g2 (uO (R:=W.map aS) (r':=aS (⟨k,n,oW⟩:Job)) (by rw[bqX];rfl) rfl (fun r hr=>(aG dZ _ r hr).2) rfl (aH (bB rfl) (aH (bB rfl) (aH (bB rfl) (aH (bB rfl) (aH (.frz (.nil ..)) eP))))))
end Go.AM
namespace Go.Proofs.YtmccpdapaccnoaaGreat
open Go Go.AM
attribute [local irreducible] aM wv aB vd wvH
section
variable {H : aA} {nx : Nat} {K : D → aA → Nat → Prop}
theorem w6 {s:CSt} {who:Int} {n:Int} {st:Nat} (hpl:s.bM.length=3) (hol: ∀w,w<3→(aF s w).out.length<2^40) {d0:D} (hd0:CvD H (fun _=>True) id 0 (boR (eI s)) d0) (h:K (dB (oaB s who n st)) H nx):aB Tryz.prog aJX [d0,boP who,boP n,boP st] H nx K:=by
 refine aB.pure (args0:=[boR (eI s),boP who,boP n,boP st]) (R:=fun rr=>rr=dB (oaB s who n st)) ?_ rfl (aI ⟨hd0,aE rfl,aE rfl,aE rfl,trivial⟩) (fun r hr=>hr▸h)
 clear h
 refine bcJ rfl fun Q hQ=> ?_
 unfold a3F
 by_cases hw:0≤who∧who≤2
 case neg=>
  have e1:(0≤who∧who≤2)=False:=eq_false hw
  repeat' first| (first|apply bn1|apply aBC)<;>(simp only[go_sem,e1])|fail
  all_goals first|exact aZ hQ _ rfl rfl (congrArg dB (beO fun h=>hw h.1).symm)| (exfalso;omega)
 have e1:(0≤who∧who≤2)=True:=eq_true hw
 obtain⟨p,boS⟩: ∃p,p=aF s who.toNat:=⟨_,rfl⟩
 have hP':s.bM.getD who.toNat default=p:=boS.symm
 have hol:=hol who.toNat (by omega)
 rw[←boS] at hol
 repeat' first| (first|apply bn1|apply aBC)<;>(simp only[go_sem,e1,hpl,hP'])|refine⟨by omega,?_⟩|fail
 (refine aM.loop (α:={k:Nat//k≤p.out.length∧(∀i,i<k→¬((p.out.getD i default).n=n∧(p.out.getD i default).left=st))}) (fun u=>en [(10,boP u.1),(9,dS (p.out.map eCJ)),(3,boP st),(2,boP n)]) (fun _=>.nil) _ (fun u=>p.out.length-u.1) ⟨0,by omega,(by intros;first|trivial|omega)⟩ (bU (m5 _) (by repeat' first|exact bo2|refine xqI rfl rfl ?_|fail)) ?_);(rintro⟨k,hk,hinv⟩ bpQ hKL)
 by_cases hlt:k<p.out.length
 ·by_cases hc:(p.out.getD k default).n=n∧(p.out.getD k default).left=st
  ·have c1:((p.out.getD k default).n=n)=True:=eq_true hc.1
   have c2:((p.out.getD k default).left=(st:Int))=True:=eq_true hc.2
   repeat' first|apply bn1<;>(simp only[go_sem,c1,c2])|apply bn2 (by omega)|refine⟨by omega,?_⟩|fail
   all_goals first|exact aZ hQ _ rfl rfl (congrArg dB (be2 ⟨hw,_,by rw[←boS];exact cC hlt,hc⟩).symm)| (exfalso;omega)
  ·repeat' first| (first|apply bn1|refine bpL (fun h=> ?_) fun h=> ?_)<;>(simp only[go_sem];try simp (disch:=omega) only[Iw])|apply bn2 (by omega)|apply bn3 (by omega)|refine⟨by omega,?_⟩|fail
   all_goals first| (exfalso;omega)| (refine hKL _ _ _ ⟨k+1,by omega,iS hinv hc⟩ (by omega) (by(try dsimp only);omega) (bU (m5 _) (by repeat' first|exact bo2|refine xqI rfl rfl ?_|fail)))
 ·repeat' first|apply bn1<;>(simp only[go_sem])|apply bn3 (by omega)|fail
  all_goals exact aZ hQ _ rfl rfl (congrArg dB (beO fun⟨_,j,hj,h⟩=>by
   rw[←boS] at hj
   obtain⟨i,hi,rfl⟩:=bqY.1 hj
   have:=hinv i (by omega)
   rw[show p.out.getD i default=p.out[i] by simp[List.getD,hi]] at this
   exact this h).symm)
theorem a4N {r:Rsp} (hd:r.data.length<2^40) (h:K (dB (decide (pA r))) H nx):aB Tryz.prog aIP [boR [cI r.id,cI r.code,.isl (r.data.map aJ)]] H nx K:=aMP hd h
theorem a5I {c:Cfg} {s:CSt} {st:Nat} (hb:aQ c) (hp:a19 c s) (hsl:s.dD.length=4) (hst:st<4) (hf1:(aL s st).pipe.length<2^21) (hf2:(aL s st).done.length<2^21) (hf3: ∀j∈(aL s st).done,j.rsp.data.length<2^21) (h:K (dB (slB c s st)) H nx):aB Tryz.prog aIT [boR (cU c),boR (eI s),boP st] H nx K:=by
 refine aB.pure (args0:=[boR (cU c),boR (eI s),boP st]) (R:=fun rr=>rr=dB (slB c s st)) ?_ rfl (aI ⟨aE rfl,aE rfl,aE rfl,trivial⟩) (fun r hr=>hr▸h)
 clear h
 refine aKP rfl fun Q hQ=> ?_
 unfold aI4
 obtain⟨hp3,hp12⟩:=hC hb
 obtain⟨v,hvd⟩: ∃v,v=aL s st:=⟨_,rfl⟩
 have hvd':s.dD.getD st default=v:=hvd.symm
 rw[←hvd] at hf1 hf2 hf3
 have hF: ¬Z0 c s st→dB false=dB (slB c s st):=fun h=>by rw[a6D h]
 have aAI:Z0 c s st→dB true=dB (slB c s st):=fun h=>by rw[beR h]
 have hlat4:=hb.2.1
 have hlat:=S0 hb hst
 by_cases h0:(v.pipe.length:Int)≤2∧(v.done.length:Int)≤2∧0≤v.last∧v.last≤2
 case neg=>
  have hno: ¬Z0 c s st:=fun h=>h0 ⟨by have:=h.pl;rw[←hvd] at this;omega,by have:=h.dl;rw[←hvd] at this;omega,by have:=h.last;rw[←hvd] at this;omega⟩
  repeat' first| (first|apply bn1|refine bpL (fun h=> ?_) fun h=> ?_|apply aBC)<;>(simp only[go_sem,hsl,hvd'])|apply bn2 (by omega)|refine⟨by omega,?_⟩|fail
  all_goals first|exact aZ hQ _ rfl rfl (hF hno)| (exfalso;omega)
 obtain⟨hpl,hdl,hl1,hl2⟩:=h0
 have bpO:(0≤v.last∧v.last≤2)=True:=eq_true ⟨hl1,hl2⟩
 have hol: ∀w,w<3→(aF s w).out.length<2^40:=fun w hw=>by have:=(hp.port w hw).ol;omega
 obtain⟨V,hV⟩: ∃V,V=cS v:=⟨_,rfl⟩
 have hVl:V.length=v.done.length+v.pipe.length:=by rw[hV];simp[cS]
 have hV1: ∀k,k<v.done.length→V[k]?=some ((v.done.getD k default).who,(v.done.getD k default).n):=fun k hk=>by
  rw[hV];unfold cS
  rw[brO (by simpa using hk)];simp[List.getD,hk,key]
 have hV2: ∀k,k<v.pipe.length→V[v.done.length+k]?=some ((v.pipe.getD k default).who,(v.pipe.getD k default).n):=fun k hk=>by
  rw[hV];unfold cS
  rw[brX (by simp)];simp[List.getD,hk]
 have hVs: ∀k x,V[k]?=some x→(V.map a80).take (k+1)=(V.map a80).take k++[a80 x]:=fun k x h=>by
  obtain⟨hk,h2⟩:=m3.1 h
  rw[brQ (by simpa using hk),bsD,h2]
 have hVm: ∀(k:Nat) (x:Int×Int),V[k]?=some x→Z0 c s st→a23 s x.1 x.2 st:=fun k x h hs=>hs.out x (by rw[←hvd,←hV];exact s3 h)
 repeat' first| (first|apply bn1|apply bpK (by omega)|apply aBC)<;>(simp only[go_sem,hsl,hvd',bpO])|refine⟨by omega,?_⟩|fail
 refine aM.gP (β:=Nat×Nat×Nat) (fun u=>en [(9,boP u.1),(8,.one (.c (.osl 5 u.2.1 0 u.1 u.2.2))),(7,.one (.c (.ptr 3 8 0 0))),(4,.one (.c (.ptr 5 1 0 0))),(3,.one (.c (.ptr 3 0 0 0))),(2,boP st)])
  (fun u H1 bp0=>u.1≤v.done.length∧(∀i,i<u.1→a23 s (v.done.getD i default).who (v.done.getD i default).n st∧as5 c (v.done.getD i default))∧H1 0=some ⟨3,1,[cU c]⟩∧H1 1=some ⟨5,1,[eI s]⟩∧H1 8=some ⟨3,1,[gF v]⟩∧(∃m,H1 u.2.1=some ⟨5,m,((V.map a80).take u.1).map aS⟩∧u.1≤u.2.2∧u.2.2≤m)∧26≤u.2.1∧u.2.1<bp0)
  (fun u=>v.done.length-u.1) (0,26,0) ⟨noF,_,by repeat' first|exact bo2|refine xqI rfl rfl ?_|refine xqP (by omega) rfl rfl ?_| (with_reducible apply bo3)| ((with_reducible apply bo0);exact bpA)| ((with_reducible apply bo1);apply bo7)|fail,aK,by dsimp only;omega,fun i hi=>by dsimp only at hi;omega,rfl,rfl,rfl,⟨0,rfl,by dsimp only;omega,by dsimp only;omega⟩,by dsimp only;omega,by dsimp only;omega⟩ ?_
 rintro⟨k,b,cap0⟩ H1 nx1 hnx1 ⟨hk,hI,bqC,g1,bp4,⟨m,gb,gb1,gb2⟩,hb1,hb2⟩ bpQ hKL
 dsimp only at hk hI gb gb1 gb2 hb1 hb2
 have hA:bQ nx1 [0,1,8,b]:=AM.apart (by simp;omega) (by simp;omega)
 simp only[bQ,eZ] at hA
 have hkl:((V.map a80).take k).length=k:=by simp;omega
 have hkt:(((V.map a80).take k).map aS).length=k:=by rw[bqW,hkl]
 by_cases hlt:k<v.done.length
 ·obtain⟨d,hdd⟩: ∃d,v.done.getD k default=d:=⟨_,rfl⟩
  have hdm:d∈(aL s st).done:=by rw[←hdd,←hvd];exact cC hlt
  have hx:=hV1 k hlt
  have hIn:=iS hI (k:=k)
  rw[hdd] at hx hIn
  have hrl:d.rsp.data.length<2^40:=by have h1:=hf3 d (by rw[hvd];exact hdm);omega
  by_cases ho:a23 s d.who d.n st
  case neg=>
   have e1:=beO ho
   repeat' first| (first|apply bn1|refine w6 (s:=s) (who:=d.who) (n:=d.n) (st:=st) hp.pl hol (aE rfl) ?_)<;>(simp only[go_sem,t1,bqT,bqC,g1,bp4,hdd,e1,hA])|apply bn2 (by omega)|refine⟨by omega,?_⟩|fail
   all_goals first|exact aZ hQ _ rfl rfl (hF fun h=>ho (hVm _ _ hx h))| (exfalso;omega)
  have e1:=be2 ho
  have hask:=ho.asks hp
  obtain⟨hk1,hk2,hk3⟩:=hask
  obtain⟨P,boS⟩: ∃P,c.cP.getD d.who.toNat default=P:=⟨_,rfl⟩
  rw[boS] at hk3
  obtain⟨q,hq⟩: ∃q,P.getD d.n.toNat default=q:=⟨_,rfl⟩
  have hq':bT c d.who d.n=q:=by unfold bT;rw[boS,hq]
  by_cases hr:as5 c d
  case neg=>
   have hno: ¬Z0 c s st:=fun h=>hr (h.rsp d hdm)
   unfold as5 at hr
   rw[hq'] at hr
   by_cases hr1:pA d.rsp
   ·have e2:=eq_true hr1
    have e3:(d.rsp.id=q.id)=False:=eq_false fun h=>hr ⟨hr1,h⟩
    repeat' first| (first|apply bn1|refine w6 (s:=s) (who:=d.who) (n:=d.n) (st:=st) hp.pl hol (aE rfl) ?_|apply a4N hrl)<;>(simp only[go_sem,t1,bqT,bqC,g1,bp4,hdd,hp3,boS,hq,e1,e2,e3,hA])|apply bn2 (by omega)|refine⟨by omega,?_⟩|fail
    all_goals first|exact aZ hQ _ rfl rfl (hF hno)| (exfalso;omega)
   ·have e2:=eq_false hr1
    repeat' first| (first|apply bn1|refine w6 (s:=s) (who:=d.who) (n:=d.n) (st:=st) hp.pl hol (aE rfl) ?_|apply a4N hrl)<;>(simp only[go_sem,t1,bqT,bqC,g1,bp4,hdd,hp3,boS,hq,e1,e2,hA])|apply bn2 (by omega)|refine⟨by omega,?_⟩|fail
    all_goals first|exact aZ hQ _ rfl rfl (hF hno)| (exfalso;omega)
  have e2:=eq_true hr.1
  have e3:(d.rsp.id=q.id)=True:=eq_true (by rw[←hq'];exact hr.2)
  repeat' first| (first|apply bn1|refine w6 (s:=s) (who:=d.who) (n:=d.n) (st:=st) hp.pl hol (aE rfl) ?_|apply a4N hrl)<;>(simp only[go_sem,t1,bqT,bqC,g1,bp4,gb,hdd,hp3,boS,hq,e1,e2,e3,hkt,hA];try simp (disch:=omega) only[Iw])|apply bn2 (by omega)| (with_reducible first|refine fun(cap:Nat) (hcap:_≤cap)=> ?_|refine fun(hcp:_≤cap)=> ?_)|refine⟨by omega,?_⟩|fail
  refine af0 (K:=bpQ) fun G bqK=> ?_
  have q1:G (nx1+50)=some ⟨5,cap,((V.map a80).take k).map aS++[[cI d.who,cI d.n,cI 0,cI 0,.osl 0 0 0 0 0]]⟩:=by rw[bqK];exact aA.bH
  have q2: ∀id,id<nx1→id≠b→G id=H1 id:=fun id h1 h2=>by rw[bqK,aA.aC (by omega),aA.aC (by omega),aA.aC (by omega),aA.jG h2]
  have q3:=hVs k _ hx
  refine hKL _ _ _ (k+1,nx1+50,cap) noF _ (by omega) (by dsimp only;omega) (by dsimp only;repeat' first|exact bo2|refine xqI rfl rfl ?_|refine xqP (by omega) rfl rfl ?_|refine xqO (by omega) rfl rfl (by rfl) ?_|fail) (bfM q1) ⟨by dsimp only;omega,hIn ⟨ho,hr⟩,?_,?_,?_,⟨cap,by dsimp only;rw[q3];exact aA.bH,by dsimp only;omega,m5 _⟩,by dsimp only;omega,by dsimp only;omega⟩
  ·rw[aA.aC (by omega),q2 _ (by omega) (by omega)];exact bqC
  ·rw[aA.aC (by omega),q2 _ (by omega) (by omega)];exact g1
  ·rw[aA.aC (by omega),q2 _ (by omega) (by omega)];exact bp4
 ·repeat' first|apply bn1<;>(simp only[go_sem,bp4])|apply bn3 (by omega)|fail
  have hk2:k=v.done.length:=by omega
  subst hk2
  clear hlt hkl hkt hA hk
  refine aM.gP (β:=Nat×Nat×Nat) (fun u=>en [(11,boP u.1),(8,.one (.c (.osl 5 u.2.1 0 (v.done.length+u.1) u.2.2))),(7,.one (.c (.ptr 3 8 0 0))),(4,.one (.c (.ptr 5 1 0 0))),(3,.one (.c (.ptr 3 0 0 0))),(2,boP st)])
   (fun u H1 bp0=>u.1≤v.pipe.length∧(∀i,i<u.1→a23 s (v.pipe.getD i default).who (v.pipe.getD i default).n st∧beA c st i (v.pipe.getD i default))∧H1 0=some ⟨3,1,[cU c]⟩∧H1 1=some ⟨5,1,[eI s]⟩∧H1 8=some ⟨3,1,[gF v]⟩∧(∃m,H1 u.2.1=some ⟨5,m,((V.map a80).take (v.done.length+u.1)).map aS⟩∧v.done.length+u.1≤u.2.2∧u.2.2≤m)∧26≤u.2.1∧u.2.1<bp0)
   (fun u=>v.pipe.length-u.1) (0,b,cap0) ⟨noF,_,by dsimp only;repeat' first|exact bo2|refine xqI rfl rfl ?_|refine xqP (by omega) rfl rfl ?_|refine xqO (by omega) rfl rfl (by rfl) ?_|fail,aK,by dsimp only;omega,fun i hi=>by dsimp only at hi;omega,bqC,g1,bp4,⟨m,gb,by dsimp only;omega,gb2⟩,by dsimp only;omega,by dsimp only;omega⟩ ?_
  clear bqC g1 bp4 gb gb1 gb2 hb1 hb2
  rintro⟨k,b,cap0⟩ H2 nx2 hnx2 ⟨hk,aIF,bqC,g1,bp4,⟨m,gb,gb1,gb2⟩,hb1,hb2⟩ bqG hKM
  dsimp only at hk aIF gb gb1 gb2 hb1 hb2
  have hA:bQ nx2 [0,1,8,b]:=AM.apart (by simp;omega) (by simp;omega)
  simp only[bQ,eZ] at hA
  have hkl:((V.map a80).take (v.done.length+k)).length=v.done.length+k:=by simp;omega
  have hkt:(((V.map a80).take (v.done.length+k)).map aS).length=v.done.length+k:=by rw[bqW,hkl]
  by_cases hlt:k<v.pipe.length
  ·obtain⟨d,hdd⟩: ∃d,v.pipe.getD k default=d:=⟨_,rfl⟩
   have hx:=hV2 k hlt
   have hIn:=iS aIF (k:=k)
   rw[hdd] at hx hIn
   have hleft:Z0 c s st→beA c st k d:=fun h=>by
    have:=h.left k (by rw[←hvd];exact hlt)
    rw[←hvd,hdd] at this
    exact this
   by_cases ho:a23 s d.who d.n st
   case neg=>
    have e1:=beO ho
    repeat' first| (first|apply bn1|refine w6 (s:=s) (who:=d.who) (n:=d.n) (st:=st) hp.pl hol (aE rfl) ?_)<;>(simp only[go_sem,t1,bqT,bqC,g1,bp4,hdd,e1,hA])|apply bn2 (by omega)|refine⟨by omega,?_⟩|fail
    all_goals first|exact aZ hQ _ rfl rfl (hF fun h=>ho (hVm _ _ hx h))| (exfalso;omega)
   have e1:=be2 ho
   by_cases hl:beA c st k d
   case neg=>
    have hno: ¬Z0 c s st:=fun h=>hl (hleft h)
    unfold beA at hl
    by_cases hl1:0≤d.left∧d.left≤c.lat.getD st default
    ·have e2:(0≤d.left∧d.left≤c.lat.getD st default)=True:=eq_true hl1
     have hk0:0<k:=by
      rcases CR k with h|h
      ·exact absurd ⟨hl1,fun h2=>by omega⟩ hl
      ·exact h
     have e3:(d.left=c.lat.getD st default)=False:=eq_false fun h=>hl ⟨hl1,fun _=>h⟩
     repeat' first| (first|apply bn1|apply bpJ (by omega)|refine w6 (s:=s) (who:=d.who) (n:=d.n) (st:=st) hp.pl hol (aE rfl) ?_|apply aBC)<;>(simp only[go_sem,t1,bqT,bqC,g1,bp4,hdd,e1,e2,e3,hA])|apply bn2 (by omega)|refine⟨by omega,?_⟩|fail
     all_goals first|exact aZ hQ _ rfl rfl (hF hno)| (exfalso;omega)
    ·have e2:(0≤d.left∧d.left≤c.lat.getD st default)=False:=eq_false hl1
     repeat' first| (first|apply bn1|refine w6 (s:=s) (who:=d.who) (n:=d.n) (st:=st) hp.pl hol (aE rfl) ?_|apply aBC)<;>(simp only[go_sem,t1,bqT,bqC,g1,bp4,hdd,e1,e2,hA])|apply bn2 (by omega)|refine⟨by omega,?_⟩|fail
     all_goals first|exact aZ hQ _ rfl rfl (hF hno)| (exfalso;omega)
   have e2:(0≤d.left∧d.left≤c.lat.getD st default)=True:=eq_true hl.1
   have hl2:=hl.2
   repeat' first| (first|apply bn1|refine bpL (fun h=> ?_) fun h=> ?_|refine w6 (s:=s) (who:=d.who) (n:=d.n) (st:=st) hp.pl hol (aE rfl) ?_|apply aBC)<;>(simp only[go_sem,t1,bqT,bqC,g1,bp4,gb,hdd,e1,e2,hkt,hA];try simp (disch:=omega) only[Iw])|apply bn2 (by omega)|apply bn3 (by omega)| (with_reducible first|refine fun(cap:Nat) (hcap:_≤cap)=> ?_|refine fun(hcp:_≤cap)=> ?_)|refine⟨by omega,?_⟩|fail
   all_goals first| (exfalso;have:=hl2 (by omega);omega)|skip
   all_goals (
    refine af0 (K:=bqG) fun G bqK=> ?_
    have q3:=hVs _ _ hx
    have q1:G (nx2+52)=some ⟨5,cap,((V.map a80).take (v.done.length+k)).map aS++[[cI d.who,cI d.n,cI 0,cI 0,.osl 0 0 0 0 0]]⟩:=by rw[bqK];exact aA.bH
    have q2: ∀id,id<nx2→id≠b→G id=H2 id:=fun id h1 h2=>by rw[bqK,aA.aC (by omega),aA.aC (by omega),aA.aC (by omega),aA.jG h2]
    refine hKM _ _ _ (k+1,nx2+52,cap) noF _ (by omega) (by dsimp only;omega) (by dsimp only;repeat' first|exact bo2|refine xqI rfl rfl ?_|refine xqP (by omega) rfl rfl ?_|refine xqO (by omega) rfl rfl (by rfl) ?_|fail) (bfM q1) ⟨by dsimp only;omega,hIn ⟨ho,hl⟩,?_,?_,?_,⟨cap,by dsimp only;rw[←t1,q3];exact aA.bH,by dsimp only;omega,m5 _⟩,by dsimp only;omega,by dsimp only;omega⟩
    ·rw[aA.aC (by omega),q2 _ (by omega) (by omega)];exact bqC
    ·rw[aA.aC (by omega),q2 _ (by omega) (by omega)];exact g1
    ·rw[aA.aC (by omega),q2 _ (by omega) (by omega)];exact bp4)
  ·repeat' first|apply bn1<;>(simp only[go_sem,bp4])|apply bn3 (by omega)|fail
   have hk2:k=v.pipe.length:=by omega
   subst hk2
   obtain⟨L,hL⟩: ∃L,L=V.map a80:=⟨_,rfl⟩
   have hLg: ∀i (hi:i<V.length),L.getD i default=a80 V[i]:=fun i hi=>by rw[hL];simp[List.getD,hi]
   have hLl:L.length=v.done.length+v.pipe.length:=by rw[hL,bqW,hVl]
   rw[←hL,boL (by omega)] at gb
   clear hlt hkl hkt hA hk bqC g1 bp4
   refine aM.gP (β:=Nat) (fun k=>en [(13,boP k),(8,.one (.c (.osl 5 b 0 (v.done.length+v.pipe.length) cap0)))])
    (fun k H3 _=>k≤L.length∧(∀i j,i<j→j<k→(L.getD i default).who=(L.getD j default).who→(L.getD i default).n<(L.getD j default).n)∧H3 b=some ⟨5,m,L.map aS⟩) (fun k=>L.length-k) 0 ⟨noF,_,by repeat' first|exact bo2|refine xqI rfl rfl ?_|refine xqO (by omega) rfl rfl (by rfl) ?_|fail,aK,by omega,fun i j _ hj=>by omega,gb⟩ ?_
   clear gb
   rintro k H3 nx3 hnx3 ⟨hk,bf2,gb⟩ bqR hKN
   by_cases hlt:k<L.length
   ·repeat' first|apply bn1<;>(simp only[go_sem])|apply bn2 (by omega)|fail
    refine aM.gP (β:=Nat) (fun j=>en [(14,boP j),(13,boP k),(8,.one (.c (.osl 5 b 0 (v.done.length+v.pipe.length) cap0)))])
     (fun j bqL _=>j≤k∧(∀i,i<j→(L.getD i default).who=(L.getD k default).who→(L.getD i default).n<(L.getD k default).n)∧bqL b=some ⟨5,m,L.map aS⟩) (fun j=>k-j) 0 ⟨noF,_,by repeat' first|exact bo2|refine xqI rfl rfl ?_|refine xqO (by omega) rfl rfl (by rfl) ?_|fail,aK,by omega,fun i hi=>by omega,gb⟩ ?_
    clear gb
    rintro j bqL nx4 hnx4 ⟨hj,bqA,gb⟩ aNB hKO
    by_cases hjk:j<k
    ·by_cases hc:(L.getD j default).who=(L.getD k default).who∧(L.getD k default).n≤(L.getD j default).n
     ·have c1:((L.getD j default).who=(L.getD k default).who)=True:=eq_true hc.1
      have c2:((L.getD k default).n≤(L.getD j default).n)=True:=eq_true hc.2
      repeat' first|apply bn1<;>(simp only[go_sem,t1,bqT,gb,hLl,c1,c2])|apply bn2 (by omega)|refine⟨by omega,?_⟩|fail
      all_goals first
       | (exfalso;omega)
       |exact aZ hQ _ rfl rfl (hF fun h=>by
        have h1:=Z6.1 h.inc j k (by rw[←hvd,←hV];omega) (by rw[←hvd,←hV];omega) hjk
        simp only[←hvd,←hV] at h1
        have e1:=hLg j (by omega)
        have e2:=hLg k (by omega)
        rw[e1,e2] at hc
        have:=h1 hc.1
        have:=hc.2
        simp only[a80] at this
        omega)
     ·repeat' first| (first|apply bn1|refine bpL (fun h=> ?_) fun h=> ?_)<;>(simp only[go_sem,t1,bqT,gb,hLl];try simp (disch:=omega) only[Iw])|apply bn2 (by omega)|apply bn3 (by omega)|refine⟨by omega,?_⟩|fail
      all_goals first
       | (exfalso;omega)
       |exact hKO _ _ _ (j+1) noF _ (by omega) (by omega) (by repeat' first|exact bo2|refine xqI rfl rfl ?_|refine xqO (by omega) rfl rfl (by rfl) ?_|fail) aK ⟨by omega,iS bqA (by intro he;omega),gb⟩
    ·repeat' first|apply bn1<;>(simp only[go_sem];try simp (disch:=omega) only[Iw])|apply bn3 (by omega)|fail
     have hj2:j=k:=by omega
     subst hj2
     exact hKN _ _ _ (j+1) noF _ (by omega) (by omega) (by repeat' first|exact bo2|refine xqI rfl rfl ?_|refine xqO (by omega) rfl rfl (by rfl) ?_|fail) aK ⟨by omega,fun a e hae he=>by
      by_cases h:e<j
      ·exact bf2 a e hae h
      ·obtain rfl:e=j:=by omega
       exact bqA a hae,gb⟩
   ·repeat' first|apply bn1<;>(simp only[go_sem])|apply bn3 (by omega)|fail
    refine aZ hQ _ rfl rfl (aAI ⟨?_,?_,?_,?_,?_,?_,?_⟩)
    ·rw[←hvd];omega
    ·rw[←hvd];omega
    ·rw[←hvd];exact⟨hl1,hl2⟩
    ·rw[←hvd,←hV]
     refine Z6.2 fun i j hi hj hij he=> ?_
     have e1:=hLg i hi
     have e2:=hLg j hj
     have:=bf2 i j hij (by omega)
     rw[e1,e2] at this
     exact this he
    ·rw[←hvd]
     intro x hx
     rcases o3.1 hx with hx|hx
     ·obtain⟨d,hd,rfl⟩:=CF.1 hx
      exact(aKJ (P:=fun d=>a23 s d.who d.n st∧as5 c d) hI d hd).1
     ·obtain⟨d,hd,rfl⟩:=CF.1 hx
      exact aKJ (P:=fun d=>a23 s d.who d.n st) (fun i hi=>(aIF i hi).1) d hd
    ·rw[←hvd];exact fun d hd=>(aKJ (P:=fun d=>a23 s d.who d.n st∧as5 c d) hI d hd).2
    ·rw[←hvd];exact fun i hi=>(aIF i hi).2
end
def aJP:AC:= (boG [f5 2 0,f5 3 1,dO 4 boD] [2,3] (.seq (boG [f8 9 3 2,f6 10 aIV [9],f4 11 10,RM 12 11,g9 13 0 3 12 false,GQ 14 (.load 2 true 13) 12 false,GQ 15 (.call aIU [14]) 12 false,hP 16 15 12 false,f3 17 12 boE 16,RM 18 17,g9 19 2 3 18 false,hD 20 19 18 false,GQ 21 (.len false 20) 18 false,hO 22 .neq 21 (ki 3) 18 false,f3 23 18 boE 22] [2,3,23] (.cond 23 (boG [dO 4 boD] [4] .ret) .skip)) (boG [dO 5 (ki 0)] [2,3,5] (.seq (boG [dO 6 (ki 0)] [2,3,5,6] (.block 0 (.loop (.seq (boG [RM 24 6,dI 25 .lss 24 (ki 3)] [2,3,5,6,25] (.cond 25 .skip (.exit 0))) (.seq (.block 1 (.seq (boG [RF 28 2 3,RL 29 28,RM 30 6,e0 31 1 29 30,RL 32 31,RF 33 2 2,RL 34 33,RM 35 6,e0 36 1 34 35,RL 37 36,f1 38 37,f6 39 y2 [32,(ki 0),38],f4 40 39] [2,3,5,6,40] (.cond 40 (boG [dO 4 boD] [4] .ret) .skip)) (m2 [RM 41 5,RF 42 2 3,RL 43 42,RM 44 6,e0 45 1 43 44,RL 46 45,dI 47 .add 41 46,RM 5 47] [2,3,5,6]))) (m2 [RM 26 6,dI 27 .add 26 (ki 1),RM 6 27] [2,3,5,6])))))) (.seq (boG [f8 48 3 2,RF 49 2 3,RL 50 49,RF 51 3 3,RL 52 51,f6 53 aIQ [48,50,52,boD],f4 54 53,RM 55 54,GQ 56 (.load 3 true 2) 55 false,g9 57 2 3 55 false,hD 58 57 55 false,g9 59 4 3 55 false,hD 60 59 55 false,GQ 61 (.call aIQ [56,58,60,boE]) 55 false,hP 62 61 55 false,f3 63 55 boE 62,RM 64 63,GQ 65 (.load 3 true 2) 64 false,GQ 66 (.load 6 true 3) 64 false,GQ 67 (.call aIX [65,66]) 64 false,hP 68 67 64 false,f3 69 64 boE 68,RM 70 69,g9 71 3 3 70 false,hD 72 71 70 false,GQ 73 (.len false 72) 70 false,g9 74 4 3 70 false,hD 75 74 70 false,GQ 76 (.len false 75) 70 false,hO 77 .add 73 76 70 false,g9 78 5 3 70 false,hD 79 78 70 false,GQ 80 (.len false 79) 70 false,hO 81 .add 77 80 70 false,hG 82 5 70 false,hO 83 .neq 81 82 70 false,f3 84 70 boE 83] [3,84] (.cond 84 (boG [dO 4 boD] [4] .ret) .skip)) (.seq (boG [dO 7 (ki 0)] [3,7] (.block 2 (.loop (.seq (boG [RM 85 7,RF 86 5 3,RL 87 86,f1 88 87,dI 89 .lss 85 88] [3,7,89] (.cond 89 .skip (.exit 2))) (.seq (.block 3 (boG [RF 92 3 3,RL 93 92,RF 94 5 3,RL 95 94,RM 96 7,e0 97 5 95 96,RF 98 0 97,RL 99 98,RF 100 5 3,RL 101 100,RM 102 7,e0 103 5 101 102,RF 104 1 103,RL 105 104,f6 106 aIN [93,99,105],dI 107 .geq 106 (ki 0),RM 108 107,g9 109 4 3 108 false,hD 110 109 108 false,g9 111 5 3 108 false,hD 112 111 108 false,hG 113 7 108 false,j0 114 5 112 113 108 false,g9 115 0 114 108 false,hD 116 115 108 false,g9 117 5 3 108 false,hD 118 117 108 false,hG 119 7 108 false,j0 120 5 118 119 108 false,g9 121 1 120 108 false,hD 122 121 108 false,GQ 123 (.call aIN [110,116,122]) 108 false,hO 124 .geq 123 (ki 0) 108 false,f3 125 108 boE 124] [3,7,125] (.cond 125 (boG [dO 4 boD] [4] .ret) .skip))) (m2 [RM 90 7,dI 91 .add 90 (ki 1),RM 7 91] [3,7])))))) (.seq (boG [dO 8 (ki 0)] [3,8] (.block 4 (.loop (.seq (boG [RM 126 8,RF 127 4 3,RL 128 127,f1 129 128,dI 130 .lss 126 129] [3,8,130] (.cond 130 .skip (.exit 4))) (.seq (.block 5 (boG [RF 133 3 3,RL 134 133,RF 135 4 3,RL 136 135,RM 137 8,e0 138 5 136 137,RF 139 0 138,RL 140 139,RF 141 4 3,RL 142 141,RM 143 8,e0 144 5 142 143,RF 145 1 144,RL 146 145,f6 147 aIN [134,140,146],dI 148 .geq 147 (ki 0)] [3,8,148] (.cond 148 (boG [dO 4 boD] [4] .ret) .skip))) (m2 [RM 131 8,dI 132 .add 131 (ki 1),RM 8 132] [3,8])))))) (boG [dO 4 boE] [4] .ret))))))))
def aKC:List aW:=[.tm 4]
theorem aMJ:aO Tryz.prog Tryz.f72 (bnD aJP)=some (aJP,aKC):=by kernel_rfl
theorem aMM:aN Tryz.prog aI6 Tryz.f72 aJP aKC:=
 aN.mk Tryz.func72 (by kernel_rfl) aMJ
def aI9:AC:= (boG [f5 4 0,dO 8 boD] [1,2,3,4] (.seq (boG [dO 9 (ki 0)] [1,2,3,4,9] (.block 0 (.loop (.seq (boG [RM 11 9,RM 12 2,f1 13 12,dI 14 .lss 11 13] [1,2,3,4,9,14] (.cond 14 .skip (.exit 0))) (.seq (.block 1 (boG [RM 17 2,RM 18 9,e0 19 5 17 18,f8 20 5 19,f7 10 [VZ,VZ,VZ,VZ,OZ],g0 5 true 10 20] [1,2,3,4,9,10] (.seq (boG [RF 21 0 10,RL 22 21,f6 23 y2 [22,(ki 0),(ki 2)],f4 24 23,RM 25 24,g9 26 1 10 25 false,hD 27 26 25 false,hG 28 1 25 false,g9 29 0 10 25 false,hD 30 29 25 false,j0 31 1 28 30 25 false,hD 32 31 25 false,hO 33 .sub 32 (ki 1) 25 false,GQ 34 (.call y2 [27,(ki 0),33]) 25 false,hP 35 34 25 false,f3 36 25 boE 35,RM 37 36,hG 38 9 37 false,hO 39 .gtr 38 (ki 0) 37 false,hG 40 39 37 false,hG 41 2 40 true,hG 42 9 40 true,hO 43 .sub 42 (ki 1) 40 true,j0 44 5 41 43 40 true,GQ 45 (.load 5 true 44) 40 true,GQ 46 (.load 5 true 10) 40 true,GQ 47 (.call aKL [45,46]) 40 true,hP 48 47 40 true,GQ 49 (.pick 40 48 boD) 37 false,f3 50 37 boE 49] [1,2,3,4,9,10,50] (.cond 50 (boG [dO 8 boD] [8] .ret) .skip)) (boG [RM 51 3,RM 52 51,g9 53 2 10 52 true,GQ 54 (.load 3 true 53) 52 true,GQ 55 (.call aIP [54]) 52 true,hP 56 55 52 true,hG 57 56 52 true,g9 58 2 10 57 false,g9 59 0 58 57 false,hD 60 59 57 false,g9 61 2 4 57 false,hD 62 61 57 false,g9 63 0 10 57 false,hD 64 63 57 false,j0 65 1 62 64 57 false,hD 66 65 57 false,g9 67 1 10 57 false,hD 68 67 57 false,j0 69 7 66 68 57 false,g9 70 0 69 57 false,hD 71 70 57 false,hO 72 .neq 60 71 57 false,GQ 73 (.pick 57 boE 72) 52 true,f3 74 52 73 boD,RM 75 74,hG 76 3 75 false,hP 77 76 75 false,hG 78 77 75 false,g9 79 2 10 78 true,g9 80 0 79 78 true,hD 81 80 78 true,hO 82 .neq 81 (ki 0) 78 true,hG 83 82 78 true,g9 84 2 10 83 false,g9 85 1 84 83 false,hD 86 85 83 false,hO 87 .neq 86 (ki 0) 83 false,GQ 88 (.pick 83 boE 87) 78 true,hG 89 88 78 true,g9 90 2 10 89 false,g9 91 2 90 89 false,hD 92 91 89 false,GQ 93 (.len false 92) 89 false,hO 94 .neq 93 (ki 0) 89 false,GQ 95 (.pick 89 boE 94) 78 true,GQ 96 (.pick 78 95 boD) 75 false,f3 97 75 boE 96] [1,2,3,4,9,97] (.cond 97 (boG [dO 8 boD] [8] .ret) .skip))))) (m2 [RM 15 9,dI 16 .add 15 (ki 1),RM 9 16] [1,2,3,4,9])))))) (boG [dO 8 boE] [8] .ret)))
def aJ1:List aW:=[.tm 8]
theorem aKV:aO Tryz.prog Tryz.f150 (bnD aI9)=some (aI9,aJ1):=by kernel_rfl
theorem aKZ:aN Tryz.prog aIQ Tryz.f150 aI9 aJ1:=
 aN.mk Tryz.func150 (by kernel_rfl) aKV
def aJD:AC:= (boG [f5 2 0,f5 3 1,dO 4 boD] [2,3] (.seq (boG [dO 5 (ki 0)] [2,3,5] (.block 0 (.loop (.seq (boG [RM 7 5,RF 8 5 3,RL 9 8,f1 10 9,dI 11 .lss 7 10] [2,3,5,11] (.cond 11 .skip (.exit 0))) (.seq (.block 1 (boG [RF 14 5 3,RL 15 14,RM 16 5,e0 17 5 15 16,f8 18 5 17,f7 6 [VZ,VZ,VZ,VZ,OZ],g0 5 true 6 18] [2,3,5,6] (boG [RF 19 0 6,RL 20 19,f6 21 y2 [20,(ki 0),(ki 2)],f4 22 21,RM 23 22,g9 24 1 6 23 false,hD 25 24 23 false,g9 26 2 3 23 false,hD 27 26 23 false,g9 28 0 6 23 false,hD 29 28 23 false,j0 30 1 27 29 23 false,hD 31 30 23 false,hO 32 .sub 31 (ki 1) 23 false,GQ 33 (.call y2 [25,(ki 0),32]) 23 false,hP 34 33 23 false,f3 35 23 boE 34,RM 36 35,g9 37 2 6 36 false,GQ 38 (.load 3 true 37) 36 false,GQ 39 (.call aIP [38]) 36 false,hP 40 39 36 false,f3 41 36 boE 40,RM 42 41,g9 43 2 6 42 false,g9 44 0 43 42 false,hD 45 44 42 false,g9 46 2 2 42 false,hD 47 46 42 false,g9 48 0 6 42 false,hD 49 48 42 false,j0 50 1 47 49 42 false,hD 51 50 42 false,g9 52 1 6 42 false,hD 53 52 42 false,j0 54 7 51 53 42 false,g9 55 0 54 42 false,hD 56 55 42 false,hO 57 .neq 45 56 42 false,f3 58 42 boE 57,RM 59 58,g9 60 5 3 59 false,hD 61 60 59 false,hG 62 5 59 false,GQ 63 (.slc 5 61 none (some 62) none) 59 false,g9 64 0 6 59 false,hD 65 64 59 false,g9 66 1 6 59 false,hD 67 66 59 false,GQ 68 (.call aIN [63,65,67]) 59 false,hO 69 .geq 68 (ki 0) 59 false,f3 70 59 boE 69] [2,3,5,70] (.cond 70 (boG [dO 4 boD] [4] .ret) .skip)))) (m2 [RM 12 5,dI 13 .add 12 (ki 1),RM 5 13] [2,3,5])))))) (boG [dO 4 boE] [4] .ret)))
def aJY:List aW:=[.tm 4]
theorem aK1:aO Tryz.prog Tryz.f151 (bnD aJD)=some (aJD,aJY):=by kernel_rfl
theorem aK7:aN Tryz.prog aIX Tryz.f151 aJD aJY:=
 aN.mk Tryz.func151 (by kernel_rfl) aK1
theorem aTC{a b c:Job} (h1:uL a b=true) (h2:uL b c=true):uL a c=true:=by
 rw[qL] at*;omega
variable{l:List Job}
theorem aTV (h: ∀i,i<l.length→0<i→uL (l.getD (i-1) default) (l.getD i default)=true):kW l:=by
 have key: ∀d i,i+d+1<l.length→uL (l.getD i default) (l.getD (i+d+1) default)=true:=by
  intro d
  induction d with
  |zero=>exact fun i hi=>h (i+1) hi (by omega)
  |succ d ih=>exact fun i hi=>aTC (ih i (by omega)) (h (i+d+1+1) hi (by omega))
 refine Z6.2 fun i j hi hj hij=> ?_
 have:=key (j-i-1) i (by omega)
 rw[show i+(j-i-1)+1=j by omega] at this
 simpa [List.getD,hi,hj] using this
theorem aT4 (h:kW l){i:Nat} (hi:i<l.length) (h0:0<i):uL (l.getD (i-1) default) (l.getD i default)=true:=by
 have:=Z6.1 h (i-1) i (by omega) hi (by omega)
 simpa [List.getD,hi,show i-1<l.length by omega] using this
section
variable {H : aA} {nx : Nat} {K : D → aA → Nat → Prop}
theorem aMA {c:Cfg} {a:List Int} {l:List Job} {b:Bool} (hb:aQ c) (ha:a.length=3) (har:aTF c a) (hl:l.length<2^21) (hd: ∀j∈l,j.rsp.data.length<2^21) (h:K (dB (aPK c a l b)) H nx):aB Tryz.prog aIQ [boR (cU c),dS (a.map aJ),dS (l.map aS),dB b] H nx K:=by
 refine aB.pure (args0:=[boR (cU c),dS (a.map aJ),dS (l.map aS),dB b]) (R:=fun rr=>rr=dB (aPK c a l b)) ?_ rfl (aI ⟨aE rfl,aE rfl,aE rfl,aE rfl,trivial⟩) (fun r hr=>hr▸h)
 clear h
 refine aKZ rfl fun Q hQ=> ?_
 unfold aI9
 obtain⟨hp3,hp12⟩:=hC hb
 repeat' first|apply bn1<;>(simp only[go_sem])|fail
 (refine aM.loop (α:={k:Nat//k≤l.length∧(∀i,i<k→InA a (l.getD i default)∧(0<i→uL (l.getD (i-1) default) (l.getD i default)=true)∧(if b then as5 c (l.getD i default) else (l.getD i default).rsp=oW))}) (fun u=>en [(9,boP u.1),(4,.one (.c (.fQ (cU c)))),(3,dB b),(2,dS (l.map aS)),(1,dS (a.map aJ))]) (fun _=>.nil) _ (fun u=>l.length-u.1) ⟨0,by omega,(by intros;first|trivial|omega)⟩ (bU (m5 _) (by repeat' first|exact bo2|refine xqI rfl rfl ?_| (with_reducible apply bo3)| ((with_reducible apply bo1);exact bpH rfl (by simp) rfl rfl rfl)|fail)) ?_);(rintro⟨k,hk,hinv⟩ bpQ hKL)
 by_cases hlt:k<l.length
 ·obtain⟨j,hj⟩: ∃j,j=l.getD k default:=⟨_,rfl⟩
  have hj':=hj.symm
  have hm:j∈l:=by rw[hj];exact cC hlt
  have hdl:=hd j hm
  have hgood:InA a j→(0<k→uL (l.getD (k-1) default) j=true)→(if b then as5 c j else j.rsp=oW)→∀i,i<k+1→InA a (l.getD i default)∧(0<i→uL (l.getD (i-1) default) (l.getD i default)=true)∧(if b then as5 c (l.getD i default) else (l.getD i default).rsp=oW):=fun h1 h2 h3=>iS hinv ⟨by rw[hj'];exact h1,by rw[hj'];exact h2,by rw[hj'];exact h3⟩
  have hbad: ¬(InA a j∧(0<k→uL (l.getD (k-1) default) j=true)∧(if b then as5 c j else j.rsp=oW))→aPK c a l b=false:=fun h=>aSY fun aIF=>h ⟨aIF.inA j hm,fun h0=>by rw[hj];exact aT4 aIF.sorted hlt h0,aIF.rsp j hm⟩
  have hkm:((k:Int)-1).toNat=k-1:=by omega
  have hrs:j.rsp=oW↔j.rsp.id=0∧j.rsp.code=0∧(j.rsp.data.length:Int)=0:=by
   obtain⟨w,n,⟨i,d,x⟩⟩:=j
   simp only[oW,Rsp.mk.injEq]
   refine⟨fun⟨h1,h2,h3⟩=>⟨h1,h2,by rw[h3];rfl⟩,fun⟨h1,h2,h3⟩=>⟨h1,h2,H4.1 (by omega)⟩⟩
  by_cases hw:0≤j.who∧j.who≤2
  ·have hask:=har j.who.toNat (by omega)
   have hw12:=hp12 j.who.toNat
   by_cases hn:0≤j.n∧j.n≤a.getD j.who.toNat default-1
   ·have hin:InA a j:=⟨hw,hn.1,by omega⟩
    cases b with
    |false=>
     by_cases h0:0<k
     ·by_cases hbef:uL (l.getD (k-1) default) j=true
      ·repeat' first| (first|apply bn1|apply bpJ (by omega)|refine bpL (fun h=> ?_) fun h=> ?_|apply aBC|apply c9)<;>(simp only[go_sem,hj',eq_true hw,eq_true hn,hbef,hp3,ha,hkm];try simp (disch:=omega) only[Iw])|apply bn2 (by omega)|refine bnE (fun h=> ?_) fun h=> ?_|refine⟨by omega,?_⟩|fail
       all_goals first| (refine hKL _ _ _ ⟨k+1,by omega,hgood hin (fun _=>hbef) (by rw[if_neg (by decide)];exact hrs.2 ⟨by omega,by omega,by omega⟩)⟩ (by omega) (by(try dsimp only);omega) (bU (m5 _) (by repeat' first|exact bo2|refine xqI rfl rfl ?_|fail)))|exact aZ hQ (dB false) rfl rfl (congrArg dB (hbad fun⟨_,_,h3⟩=>by rw[if_neg (by decide)] at h3;have:=hrs.1 h3;omega)).symm
      ·have hbf:=eq_false_of_ne_true hbef
       repeat' first| (first|apply bn1|apply bpJ (by omega)|apply aBC|apply c9)<;>(simp only[go_sem,hj',eq_true hw,eq_true hn,hbf,hp3,ha,hkm];try simp (disch:=omega) only[Iw])|apply bn2 (by omega)|refine⟨by omega,?_⟩|fail
       all_goals exact aZ hQ (dB false) rfl rfl (congrArg dB (hbad fun⟨_,h2,_⟩=>hbef (h2 h0))).symm
     ·repeat' first| (first|apply bn1|apply bpK (by omega)|refine bpL (fun h=> ?_) fun h=> ?_|apply aBC)<;>(simp only[go_sem,hj',eq_true hw,eq_true hn,hp3,ha,hkm];try simp (disch:=omega) only[Iw])|apply bn2 (by omega)|refine bnE (fun h=> ?_) fun h=> ?_|refine⟨by omega,?_⟩|fail
      all_goals first| (refine hKL _ _ _ ⟨k+1,by omega,hgood hin (fun h=>absurd h h0) (by rw[if_neg (by decide)];exact hrs.2 ⟨by omega,by omega,by omega⟩)⟩ (by omega) (by(try dsimp only);omega) (bU (m5 _) (by repeat' first|exact bo2|refine xqI rfl rfl ?_|fail)))|exact aZ hQ (dB false) rfl rfl (congrArg dB (hbad fun⟨_,_,h3⟩=>by rw[if_neg (by decide)] at h3;have:=hrs.1 h3;omega)).symm
    |true=>
     by_cases h0:0<k
     ·by_cases hbef:uL (l.getD (k-1) default) j=true
      ·repeat' first| (first|apply bn1|apply bpJ (by omega)|refine bpL (fun h=> ?_) fun h=> ?_|apply aBC|apply c9|apply aMP (show j.rsp.data.length<2^40 by omega))<;>(simp only[go_sem,hj',eq_true hw,eq_true hn,hbef,hp3,ha,hkm];try simp (disch:=omega) only[Iw])|apply bn2 (by omega)|refine⟨by omega,?_⟩|fail
       all_goals first| (refine hKL _ _ _ ⟨k+1,by omega,hgood hin (fun _=>hbef) (by rw[if_pos rfl];exact⟨Classical.not_not.1 (by assumption),by unfold bT;omega⟩)⟩ (by omega) (by(try dsimp only);omega) (bU (m5 _) (by repeat' first|exact bo2|refine xqI rfl rfl ?_|fail)))|exact aZ hQ (dB false) rfl rfl (congrArg dB (hbad fun⟨_,_,h3⟩=>by rw[if_pos rfl] at h3;obtain⟨h4,h5⟩:=h3;unfold bT at h5;first|omega|exact absurd h4 (by assumption)|simp_all)).symm
      ·have hbf:=eq_false_of_ne_true hbef
       repeat' first| (first|apply bn1|apply bpJ (by omega)|apply aBC|apply c9)<;>(simp only[go_sem,hj',eq_true hw,eq_true hn,hbf,hp3,ha,hkm];try simp (disch:=omega) only[Iw])|apply bn2 (by omega)|refine⟨by omega,?_⟩|fail
       all_goals exact aZ hQ (dB false) rfl rfl (congrArg dB (hbad fun⟨_,h2,_⟩=>hbef (h2 h0))).symm
     ·repeat' first| (first|apply bn1|apply bpK (by omega)|refine bpL (fun h=> ?_) fun h=> ?_|apply aBC|apply aMP (show j.rsp.data.length<2^40 by omega))<;>(simp only[go_sem,hj',eq_true hw,eq_true hn,hp3,ha,hkm];try simp (disch:=omega) only[Iw])|apply bn2 (by omega)|refine⟨by omega,?_⟩|fail
      all_goals first| (refine hKL _ _ _ ⟨k+1,by omega,hgood hin (fun h=>absurd h h0) (by rw[if_pos rfl];exact⟨Classical.not_not.1 (by assumption),by unfold bT;omega⟩)⟩ (by omega) (by(try dsimp only);omega) (bU (m5 _) (by repeat' first|exact bo2|refine xqI rfl rfl ?_|fail)))|exact aZ hQ (dB false) rfl rfl (congrArg dB (hbad fun⟨_,_,h3⟩=>by rw[if_pos rfl] at h3;obtain⟨h4,h5⟩:=h3;unfold bT at h5;first|omega|exact absurd h4 (by assumption)|simp_all)).symm
   ·repeat' first| (first|apply bn1|apply aBC)<;>(simp only[go_sem,hj',eq_true hw,eq_false hn,ha];try simp (disch:=omega) only[Iw])|apply bn2 (by omega)|refine⟨by omega,?_⟩|fail
    all_goals first| (exfalso;omega)|exact aZ hQ (dB false) rfl rfl (congrArg dB (hbad fun⟨h1,_,_⟩=>hn ⟨h1.2.1,by have:=h1.2.2;omega⟩)).symm
  ·repeat' first| (first|apply bn1|apply aBC)<;>(simp only[go_sem,hj',eq_false hw])|apply bn2 (by omega)|refine⟨by omega,?_⟩|fail
   all_goals first| (exfalso;omega)|exact aZ hQ (dB false) rfl rfl (congrArg dB (hbad fun⟨h1,_,_⟩=>hw h1.1)).symm
 ·repeat' first|apply bn1<;>(simp only[go_sem])|apply bn3 (by omega)|fail
  have hk2:k=l.length:=by omega
  subst hk2
  exact aZ hQ (dB true) rfl rfl (congrArg dB (aQD ⟨fun x hx=>aKJ (fun i hi=>(hinv i hi).1) x hx,aTV fun i hi=>(hinv i hi).2.1,fun x hx=>aKJ (P:=fun x=>if b then as5 c x else x.rsp=oW) (fun i hi=>(hinv i hi).2.2) x hx⟩).symm)
end
theorem aTP (h: ∀i,i<l.length→key (l.getD i default)∉(l.take i).map key):(l.map key).Nodup:=by
 refine brY.2 (Z6.2 fun i j hi hj hij he=> ?_)
 apply h j hj
 rw[show l.getD j default=l[j] by simp[List.getD,hj],←he]
 exact brI (bqY.2 ⟨i,by simp;omega,by simp⟩)
theorem aTN (h:(l.map key).Nodup){i:Nat} (hi:i<l.length):key (l.getD i default)∉(l.take i).map key:=by
 intro hm
 obtain⟨x,hx,he⟩:=CF.1 hm
 obtain⟨j,hj,rfl⟩:=bqY.1 hx
 have hji:j<i:=by simp at hj;omega
 have h1:=Z6.1 (brY.1 h) j i (by omega) hi hji
 rw[show l.getD i default=l[i] by simp[List.getD,hi]] at he
 simp only[brU] at he
 exact h1 he
section
variable {H : aA} {nx : Nat} {K : D → aA → Nat → Prop}
theorem aMG {c:Cfg} {s:TSt} (hb:aQ c) (ha:s.asked.length=3) (har:aTF c s.asked) (hl:s.told.length<2^21) (hd: ∀j∈s.told,j.rsp.data.length<2^21) (h:K (dB (aRF c s)) H nx):aB Tryz.prog aIX [boR (cU c),boR (eSt s)] H nx K:=by
 refine aB.pure (args0:=[boR (cU c),boR (eSt s)]) (R:=fun rr=>rr=dB (aRF c s)) ?_ rfl (aI ⟨aE rfl,aE rfl,trivial⟩) (fun r hr=>hr▸h)
 clear h
 refine aK7 rfl fun Q hQ=> ?_
 unfold aJD
 obtain⟨hp3,hp12⟩:=hC hb
 repeat' first|apply bn1<;>(simp only[go_sem])|fail
 (refine aM.loop (α:={k:Nat//k≤s.told.length∧(∀i,i<k→InA s.asked (s.told.getD i default)∧as5 c (s.told.getD i default)∧key (s.told.getD i default)∉(s.told.take i).map key)}) (fun u=>en [(5,boP u.1),(3,.one (.c (.fQ (eSt s)))),(2,.one (.c (.fQ (cU c))))]) (fun _=>.nil) _ (fun u=>s.told.length-u.1) ⟨0,by omega,(by intros;first|trivial|omega)⟩ (bU (m5 _) (by repeat' first|exact bo2|refine xqI rfl rfl ?_| (with_reducible apply bo3)| ((with_reducible apply bo1);exact bpH rfl (by simp) rfl rfl rfl)|fail)) ?_);(rintro⟨k,hk,hinv⟩ bpQ hKL)
 by_cases hlt:k<s.told.length
 ·obtain⟨j,hj⟩: ∃j,j=s.told.getD k default:=⟨_,rfl⟩
  have hj':=hj.symm
  have hm:j∈s.told:=by rw[hj];exact cC hlt
  have hdl:=hd j hm
  have hgood:InA s.asked j→as5 c j→key j∉(s.told.take k).map key→∀i,i<k+1→InA s.asked (s.told.getD i default)∧as5 c (s.told.getD i default)∧key (s.told.getD i default)∉(s.told.take i).map key:=fun h1 h2 h3=>iS hinv (by rw[hj'];exact⟨h1,h2,h3⟩)
  have hbad: ¬(InA s.asked j∧as5 c j∧key j∉(s.told.take k).map key)→aRF c s=false:=fun h=>aTL fun aIF=>h ⟨aIF.inA j hm,aIF.rsp j hm,by rw[hj];exact aTN aIF.once hlt⟩
  by_cases hw:0≤j.who∧j.who≤2
  ·have hask:=har j.who.toNat (by omega)
   have hw12:=hp12 j.who.toNat
   by_cases hn:0≤j.n∧j.n≤s.asked.getD j.who.toNat default-1
   ·have hin:InA s.asked j:=⟨hw,hn.1,by omega⟩
    by_cases hr:pA j.rsp
    ·by_cases hid:j.rsp.id=((c.cP.getD j.who.toNat default).getD j.n.toNat default).id
     ·have hra:as5 c j:=⟨hr,hid⟩
      by_cases hk0:0≤bK (iM j.who j.n) (s.told.take k)
      ·repeat' first| (first|apply bn1|apply aBC|apply aMP (show j.rsp.data.length<2^40 by omega)| (apply aKK (l:=s.told.take k) (by simp;omega)))<;>(simp only[go_sem,hj',eq_true hw,eq_true hn,eq_true hr,hid.symm,hp3,ha];try simp (disch:=omega) only[Iw])|apply bn2 (by omega)|refine⟨by omega,?_⟩|fail
       all_goals first| (exfalso;omega)|exact aZ hQ (dB false) rfl rfl (congrArg dB (hbad fun⟨_,_,h⟩=>h (ZP.1 hk0))).symm
      ·repeat' first| (first|apply bn1|apply aBC|apply aMP (show j.rsp.data.length<2^40 by omega)| (apply aKK (l:=s.told.take k) (by simp;omega)))<;>(simp only[go_sem,hj',eq_true hw,eq_true hn,eq_true hr,hid.symm,hp3,ha];try simp (disch:=omega) only[Iw])|apply bn2 (by omega)|apply bn3 (by omega)|refine⟨by omega,?_⟩|fail
       all_goals first| (exfalso;omega)| (refine hKL _ _ _ ⟨k+1,by omega,hgood hin hra (fun h=>hk0 (ZP.2 h))⟩ (by omega) (by(try dsimp only);omega) (bU (m5 _) (by repeat' first|exact bo2|refine xqI rfl rfl ?_|fail)))
     ·repeat' first| (first|apply bn1|apply bpJ (by omega)|apply aBC|apply aMP (show j.rsp.data.length<2^40 by omega))<;>(simp only[go_sem,hj',eq_true hw,eq_true hn,eq_true hr,hp3,ha];try simp (disch:=omega) only[Iw])|apply bn2 (by omega)|refine⟨by omega,?_⟩|fail
      all_goals first| (exfalso;omega)|exact aZ hQ (dB false) rfl rfl (congrArg dB (hbad fun⟨_,h,_⟩=>hid h.2)).symm
    ·repeat' first| (first|apply bn1|apply aBC|apply aMP (show j.rsp.data.length<2^40 by omega))<;>(simp only[go_sem,hj',eq_true hw,eq_true hn,eq_false hr,hp3,ha];try simp (disch:=omega) only[Iw])|apply bn2 (by omega)|refine⟨by omega,?_⟩|fail
     all_goals first| (exfalso;omega)|exact aZ hQ (dB false) rfl rfl (congrArg dB (hbad fun⟨_,h,_⟩=>hr h.1)).symm
   ·repeat' first| (first|apply bn1|apply aBC)<;>(simp only[go_sem,hj',eq_true hw,eq_false hn,ha];try simp (disch:=omega) only[Iw])|apply bn2 (by omega)|refine⟨by omega,?_⟩|fail
    all_goals first| (exfalso;omega)|exact aZ hQ (dB false) rfl rfl (congrArg dB (hbad fun⟨h1,_,_⟩=>hn ⟨h1.2.1,by have:=h1.2.2;omega⟩)).symm
  ·repeat' first| (first|apply bn1|apply aBC)<;>(simp only[go_sem,hj',eq_false hw])|apply bn2 (by omega)|refine⟨by omega,?_⟩|fail
   all_goals first| (exfalso;omega)|exact aZ hQ (dB false) rfl rfl (congrArg dB (hbad fun⟨h1,_,_⟩=>hw h1.1)).symm
 ·repeat' first|apply bn1<;>(simp only[go_sem])|apply bn3 (by omega)|fail
  have hk2:k=s.told.length:=by omega
  subst hk2
  exact aZ hQ (dB true) rfl rfl (congrArg dB (aTM ⟨fun x hx=>aKJ (fun i hi=>(hinv i hi).1) x hx,aTP fun i hi=>(hinv i hi).2.2,fun x hx=>aKJ (P:=as5 c) (fun i hi=>(hinv i hi).2.1) x hx⟩).symm)
theorem aMQ {c:Cfg} {s:TSt} (hcf:jO c) (hf:aTQ s) (h:K (dB (tlB c s)) H nx):aB Tryz.prog aI6 [boR (cU c),boR (eSt s)] H nx K:=by
 refine aB.pure (args0:=[boR (cU c),boR (eSt s)]) (R:=fun rr=>rr=dB (tlB c s)) ?_ rfl (aI ⟨aE rfl,aE rfl,trivial⟩) (fun r hr=>hr▸h)
 clear h
 refine aMM rfl fun Q hQ=> ?_
 unfold aJP
 have hwf:=hf.words
 have hhf:=hf.holds
 have haf:=hf.asked
 have hl3:=hf.wait
 have hl4:=hf.done
 have hl5:=hf.told
 have hd3: ∀j∈s.wait,j.rsp.data.length<2^21:=fun j hj=>hf.data j (by simp[hj])
 have hd4: ∀j∈s.done,j.rsp.data.length<2^21:=fun j hj=>hf.data j (by simp[hj])
 have hd5: ∀j∈s.told,j.rsp.data.length<2^21:=fun j hj=>hf.data j (by simp[hj])
 by_cases hb:aQ c
 case neg=>
  repeat' first| (first|apply bn1|apply aKG hcf)<;>(simp only[go_sem,eq_false hb])|fail
  all_goals exact aZ hQ (dB false) rfl rfl (congrArg dB (aOH fun h=>hb h.1)).symm
 by_cases hat:JS s.words s.holds
 case neg=>
  repeat' first| (first|apply bn1|apply aKG hcf|apply aKH (show s.words.length<2^40 by omega) (show s.holds.length<2^40 by omega))<;>(simp only[go_sem,eq_true hb,eq_false hat])|fail
  all_goals exact aZ hQ (dB false) rfl rfl (congrArg dB (aOH fun h=>hat ⟨⟨by rw[h.2.atm.wl];rfl,h.2.atm.wr⟩,by rw[h.2.atm.hl];rfl,h.2.atm.hr⟩)).symm
 by_cases ha:s.asked.length=3
 case neg=>
  repeat' first| (first|apply bn1|apply aKG hcf|apply aKH (show s.words.length<2^40 by omega) (show s.holds.length<2^40 by omega))<;>(simp only[go_sem,eq_true hb,eq_true hat])|apply bn2 (by omega)|fail
  all_goals first| (exfalso;omega)|exact aZ hQ (dB false) rfl rfl (congrArg dB (aOH fun h=>ha h.2.JI)).symm
 obtain⟨hp3,hp12⟩:=hC hb
 repeat' first| (first|apply bn1|apply aKG hcf|apply aKH (show s.words.length<2^40 by omega) (show s.holds.length<2^40 by omega))<;>(simp only[go_sem,eq_true hb,eq_true hat,ha])|apply bn3 (by omega)|fail
 have hsz: ∀k,k≤3→(∀i,i<k→0≤s.asked.getD i default∧s.asked.getD i default≤((c.cP.getD i default).length:Int))→0≤jS (fun j=>s.asked.getD j default) k∧jS (fun j=>s.asked.getD j default) k≤12*k:=fun k hk h=>KF (m:=12) (by omega) k fun j hj=>by have:=h j hj;have:=hp12 j;(try dsimp only);omega
 (refine aM.loop (α:={k:Nat//k≤3∧(∀i,i<k→0≤s.asked.getD i default∧s.asked.getD i default≤((c.cP.getD i default).length:Int))}) (fun u=>en [(6,boP u.1),(5,boP (jS (fun j=>s.asked.getD j default) u.1)),(3,.one (.c (.fQ (eSt s)))),(2,.one (.c (.fQ (cU c))))]) (fun _=>.nil) _ (fun u=>3-u.1) ⟨0,by omega,(by intros;first|trivial|omega)⟩ (bU (m5 _) (by repeat' first|exact bo2|refine xqI rfl rfl ?_| (with_reducible apply bo3)| ((with_reducible apply bo1);exact bpH rfl (by simp) rfl rfl rfl)|fail)) ?_);(rintro⟨k,hk,hinv⟩ bpQ hKL)
 have hz:=hsz k hk hinv
 by_cases hlt:k<3
 ·have hpk:=hp12 k
  have hss:jS (fun j=>s.asked.getD j default) (k+1)=jS (fun j=>s.asked.getD j default) k+s.asked.getD k default:=rfl
  by_cases hr:0≤s.asked.getD k default∧s.asked.getD k default≤((c.cP.getD k default).length:Int)
  ·repeat' first| (first|apply bn1|apply aBC)<;>(simp only[go_sem,eq_true hr,hp3,ha];try simp (disch:=omega) only[Iw])|apply bn2 (by omega)|refine⟨by omega,?_⟩|fail
   all_goals (rw[←hss];(refine hKL _ _ _ ⟨k+1,by omega,iS hinv hr⟩ (by omega) (by(try dsimp only);omega) (bU (m5 _) (by repeat' first|exact bo2|refine xqI rfl rfl ?_|fail))))
  ·repeat' first| (first|apply bn1|apply aBC)<;>(simp only[go_sem,eq_false hr,hp3,ha])|apply bn2 (by omega)|refine⟨by omega,?_⟩|fail
   all_goals exact aZ hQ (dB false) rfl rfl (congrArg dB (aOH fun h=>hr (h.2.DC k hlt))).symm
 have hk3:k=3:=by omega
 subst hk3
 have har:aTF c s.asked:=hinv
 have hsum3:jS (fun j=>s.asked.getD j default) 3=s.asked.getD 0 default+s.asked.getD 1 default+s.asked.getD 2 default:=by simp[jS]
 have hj1: ∀{H:aA} {nx:Nat} {K:D→aA→Nat→Prop},K (dB (aPK c s.asked s.wait false)) H nx→aB Tryz.prog aIQ [boR (cU c),dS (s.asked.map aJ),dS (s.wait.map aS),dB false] H nx K:=fun h=>aMA hb ha har hl3 hd3 h
 have hj2: ∀{H:aA} {nx:Nat} {K:D→aA→Nat→Prop},K (dB (aPK c s.asked s.done true)) H nx→aB Tryz.prog aIQ [boR (cU c),dS (s.asked.map aJ),dS (s.done.map aS),dB true] H nx K:=fun h=>aMA hb ha har hl4 hd4 h
 by_cases hw:aPN c s.asked s.wait false
 case neg=>
  have e1:=aSY hw
  repeat' first| (first|apply bn1|apply hj1)<;>(simp only[go_sem,e1])|apply bn3 (by omega)|fail
  all_goals exact aZ hQ (dB false) rfl rfl (congrArg dB (aOH fun h=>hw h.2.aUL)).symm
 by_cases hdn:aPN c s.asked s.done true
 case neg=>
  have e1:=aQD hw
  have e2:=aSY hdn
  repeat' first| (first|apply bn1|apply hj1|apply hj2)<;>(simp only[go_sem,e1,e2])|apply bn3 (by omega)|fail
  all_goals exact aZ hQ (dB false) rfl rfl (congrArg dB (aOH fun h=>hdn h.2.aUM)).symm
 have e1:=aQD hw
 have e2:=aQD hdn
 by_cases ht:aSQ c s
 case neg=>
  have e3:=aTL ht
  repeat' first| (first|apply bn1|apply hj1|apply hj2|apply aMG hb ha har hl5 hd5)<;>(simp only[go_sem,e1,e2,e3])|apply bn3 (by omega)|fail
  all_goals exact aZ hQ (dB false) rfl rfl (congrArg dB (aOH fun h=>ht h.2.aUN)).symm
 have e3:=aTM ht
 by_cases hc:(s.wait.length:Int)+s.done.length+s.told.length=s.asked.getD 0 default+s.asked.getD 1 default+s.asked.getD 2 default
 case neg=>
  repeat' first| (first|apply bn1|apply hj1|apply hj2|apply aMG hb ha har hl5 hd5)<;>(simp only[go_sem,e1,e2,e3];try simp (disch:=omega) only[Iw])|apply bn2 (by omega)|apply bn3 (by omega)|fail
  all_goals first| (exfalso;omega)|exact aZ hQ (dB false) rfl rfl (congrArg dB (aOH fun h=>hc h.2.count)).symm
 repeat' first| (first|apply bn1|apply hj1|apply hj2|apply aMG hb ha har hl5 hd5)<;>(simp only[go_sem,e1,e2,e3];try simp (disch:=omega) only[Iw])|apply bn3 (by omega)|fail
 refine aM.loop (α:={k:Nat//k≤s.told.length∧ ∀i,i<k→key (s.told.getD i default)∉s.wait.map key∧key (s.told.getD i default)∉s.done.map key}) (fun u=>en [(7,boP u.1),(3,.one (.c (.fQ (eSt s))))]) (fun _=>.nil) _ (fun u=>s.told.length-u.1) ⟨0,by omega,fun i hi=>by omega⟩ (bU (m5 _) (by repeat' first|exact bo2|refine xqI rfl rfl ?_|fail)) ?_
 rintro⟨k,hk,hinv2⟩ bpQ hKL
 by_cases hlt:k<s.told.length
 ·obtain⟨j,hj⟩: ∃j,j=s.told.getD k default:=⟨_,rfl⟩
  have hj':=hj.symm
  have hm:j∈s.told:=by rw[hj];exact cC hlt
  by_cases h1:0≤bK (iM j.who j.n) s.wait
  ·repeat' first| (first|apply bn1|apply bpJ (by omega)|apply aKK (show s.wait.length<2^40 by omega))<;>(simp only[go_sem,hj'])|apply bn2 (by omega)|refine⟨by omega,?_⟩|fail
   all_goals first| (exfalso;omega)|exact aZ hQ (dB false) rfl rfl (congrArg dB (aOH fun h=>(h.2.apart.2.1 j hm).1 (ZP.1 h1))).symm
  ·by_cases h2:0≤bK (iM j.who j.n) s.done
   ·repeat' first| (first|apply bn1|apply bpK (by omega)|apply aKK (show s.wait.length<2^40 by omega)|apply aKK (show s.done.length<2^40 by omega))<;>(simp only[go_sem,hj'])|apply bn2 (by omega)|refine⟨by omega,?_⟩|fail
    all_goals first| (exfalso;omega)|exact aZ hQ (dB false) rfl rfl (congrArg dB (aOH fun h=>(h.2.apart.2.1 j hm).2 (ZP.1 h2))).symm
   ·repeat' first| (first|apply bn1|apply bpK (by omega)|apply aKK (show s.wait.length<2^40 by omega)|apply aKK (show s.done.length<2^40 by omega))<;>(simp only[go_sem,hj'];try simp (disch:=omega) only[Iw])|apply bn2 (by omega)|apply bn3 (by omega)|refine⟨by omega,?_⟩|fail
    all_goals first| (exfalso;omega)|exact hKL _ _ _ ⟨k+1,by omega,iS hinv2 (by rw[hj'];exact⟨fun h=>h1 (ZP.2 h),fun h=>h2 (ZP.2 h)⟩)⟩ (by omega) (by(try dsimp only);omega) (bU (m5 _) (by repeat' first|exact bo2|refine xqI rfl rfl ?_|fail))
 ·have hk2:k=s.told.length:=by omega
  subst hk2
  repeat' first|apply bn1<;>(simp only[go_sem])|apply bn3 (by omega)|fail
  refine aM.loop (α:={k:Nat//k≤s.done.length∧ ∀i,i<k→key (s.done.getD i default)∉s.wait.map key}) (fun u=>en [(8,boP u.1),(3,.one (.c (.fQ (eSt s))))]) (fun _=>.nil) _ (fun u=>s.done.length-u.1) ⟨0,by omega,fun i hi=>by omega⟩ (bU (m5 _) (by repeat' first|exact bo2|refine xqI rfl rfl ?_|fail)) ?_
  rintro⟨k,hk,hinv3⟩ bqG hKM
  by_cases hlt:k<s.done.length
  ·obtain⟨j,hj⟩: ∃j,j=s.done.getD k default:=⟨_,rfl⟩
   have hj':=hj.symm
   have hm:j∈s.done:=by rw[hj];exact cC hlt
   by_cases h1:0≤bK (iM j.who j.n) s.wait
   ·repeat' first| (first|apply bn1|apply aKK (show s.wait.length<2^40 by omega))<;>(simp only[go_sem,hj'])|apply bn2 (by omega)|refine⟨by omega,?_⟩|fail
    all_goals first| (exfalso;omega)|exact aZ hQ (dB false) rfl rfl (congrArg dB (aOH fun h=>(h.2.apart.2.2 j hm) (ZP.1 h1))).symm
   ·repeat' first| (first|apply bn1|apply aKK (show s.wait.length<2^40 by omega))<;>(simp only[go_sem,hj'];try simp (disch:=omega) only[Iw])|apply bn2 (by omega)|apply bn3 (by omega)|refine⟨by omega,?_⟩|fail
    all_goals first| (exfalso;omega)|exact hKM _ _ _ ⟨k+1,by omega,iS hinv3 (by rw[hj'];exact fun h=>h1 (ZP.2 h))⟩ (by omega) (by(try dsimp only);omega) (bU (m5 _) (by repeat' first|exact bo2|refine xqI rfl rfl ?_|fail))
  ·have hk2:k=s.done.length:=by omega
   subst hk2
   have hst:BA c s:=aTG hat ha har hw hdn ht hc (aKJ (P:=fun j=>key j∉s.wait.map key∧key j∉s.done.map key) hinv2) (aKJ (P:=fun j=>key j∉s.wait.map key) hinv3)
   repeat' first|apply bn1<;>(simp only[go_sem])|apply bn3 (by omega)|fail
   exact aZ hQ (dB true) rfl rfl (congrArg dB (aTX hb hst)).symm
end
theorem umM{b:Nat}{l:List Nat}{H:aA}:dT b l H (msk b l H)=H:=by
 funext j;simp only[dT,msk];split<;>rfl
theorem muM{b:Nat}{l:List Nat}{H G:aA}:msk b l (dT b l H G)=msk b l G:=by
 funext j;simp only[dT,msk];split<;>rfl
section
variable {H : aA} {nx : Nat} {K : D → aA → Nat → Prop}
theorem apY (h:K (dB true) H nx):aB Tryz.prog E2 [] H nx K:=by
 refine aB.pure (args0:=[]) (R:=fun rr=>rr=dB true) ?_ rfl (aI trivial) (fun r hr=>hr▸h)
 clear h
 refine XX rfl fun Q hQ=> ?_
 unfold CP
 repeat' first| (first|apply bn1|apply wS)<;>(simp only[go_sem])|fail
 all_goals first|with_reducible refine aZ hQ _ rfl rfl ?_|skip
 all_goals exact(q9 (by decide)).symm
end
end Go.Proofs.YtmccpdapaccnoaaGreat
