/- Texts laid together by a program: rules, contracts and the walk that leads to the law. -/
import Derived.Test.YtmccpdapaccnoaaGreatPD22
import Derived.Test.YtmccpdapaccnoaaGreatPD5
import Derived.Test.YtmccpdapaccnoaaGreatPD7
import Derived.Test.YtmccpdapaccnoaaGreatPD12
import Derived.Test.YtmccpdapaccnoaaGreatPD19
import Derived.Test.YtmccpdapaccnoaaGreatPD8
set_option linter.unusedVariables false
set_option linter.unusedSimpArgs false
set_option linter.unusedSectionVars false
set_option maxRecDepth 100000
set_option maxHeartbeats 8000000
namespace Go.AM
theorem a23.asks {c:Cfg} {s:CSt} {st:Nat} {who n:Int} (hp:a19 c s) (h:a23 s who n st):oA c who n:=by obtain⟨hw,j,hj,h1,_⟩:=h;have hpo:=hp.port who.toNat (by omega);obtain⟨_,h2,_⟩:=hpo.out _ hj;have:=hpo.asks (n:=n) (by omega) (by omega) (by omega);rwa [show ((who.toNat:Nat):Int)=who by omega] at this
def a80 (x:Int×Int):Job:=⟨x.1,x.2,oW⟩
theorem bfM {G:aA} {bpZ cap nx':Nat} {W:List Job} {k n:Int} (g2:G bpZ=some ⟨5,cap,W.map aS++[[cI k,cI n,cI 0,cI 0,.osl 0 0 0 0 0]]⟩):CvX noF nx' G (G.set bpZ ⟨5,cap,(W++[(⟨k,n,oW⟩:Job)]).map aS⟩):=KO (i:=bpZ) (o':=⟨5,cap,(W++[(⟨k,n,oW⟩:Job)]).map aS⟩) g2 (uO (R:=W.map aS) (r':=aS (⟨k,n,oW⟩:Job)) (by rw[bqX];rfl) rfl (fun r hr=>(aG dZ _ r hr).2) rfl (aH (bB rfl) (aH (bB rfl) (aH (bB rfl) (aH (bB rfl) (aH (.frz (.nil ..)) eP))))))
end Go.AM
namespace Go.Proofs.YtmccpdapaccnoaaGreat
open Go Go.AM
attribute [local irreducible] aM wv aB vd wvH
section
variable {H : aA} {nx : Nat} {K : D → aA → Nat → Prop}
theorem w6 {s:CSt} {who:Int} {n:Int} {st:Nat} (hpl:s.bM.length=3) (hol: ∀w,w<3→(aF s w).out.length<2^40) {d0:D} (hd0:CvD H (fun _=>True) id 0 (boR (eI s)) d0) (h:K (dB (oaB s who n st)) H nx):aB Tryz.prog aJX [d0,boP who,boP n,boP st] H nx K:=by
 refine aB.pure (args0:=[boR (eI s),boP who,boP n,boP st]) (R:=fun rr=>rr=dB (oaB s who n st)) ?_ rfl (aI ⟨hd0,aE rfl,aE rfl,aE rfl,trivial⟩) (fun r hr=>hr▸h);clear h;refine bcJ rfl fun Q hQ=> ?_;unfold a3F;by_cases hw:0≤who∧who≤2
 case neg=>
  have e1:(0≤who∧who≤2)=False:=eq_false hw;repeat' first| (first|apply bn1|apply aBC)<;>(simp only[go_sem,e1])|fail
  all_goals first|exact aZ hQ _ rfl rfl (congrArg dB (beO fun h=>hw h.1).symm)| (exfalso;omega)
 have e1:(0≤who∧who≤2)=True:=eq_true hw;obtain⟨p,boS⟩: ∃p,p=aF s who.toNat:=⟨_,rfl⟩
 have hP':s.bM.getD who.toNat default=p:=boS.symm;have hol:=hol who.toNat (by omega);rw[←boS] at hol;repeat' first| (first|apply bn1|apply aBC)<;>(simp only[go_sem,e1,hpl,hP'])|refine⟨by omega,?_⟩|fail
 (refine aM.loop (α:={k:Nat//k≤p.out.length∧(∀i,i<k→¬((p.out.getD i default).n=n∧(p.out.getD i default).left=st))}) (fun u=>en [(10,boP u.1),(9,dS (p.out.map eCJ)),(3,boP st),(2,boP n)]) (fun _=>.nil) _ (fun u=>p.out.length-u.1) ⟨0,by omega,(by intros;first|trivial|omega)⟩ (bU (m5 _) (by repeat' first|exact bo2|refine xqI rfl rfl ?_|fail)) ?_);(rintro⟨k,hk,hinv⟩ bpQ hKL);by_cases hlt:k<p.out.length
 ·by_cases hc:(p.out.getD k default).n=n∧(p.out.getD k default).left=st
  ·have c1:((p.out.getD k default).n=n)=True:=eq_true hc.1;have c2:((p.out.getD k default).left=(st:Int))=True:=eq_true hc.2;repeat' first|apply bn1<;>(simp only[go_sem,c1,c2])|apply bn2 (by omega)|refine⟨by omega,?_⟩|fail
   all_goals first|exact aZ hQ _ rfl rfl (congrArg dB (be2 ⟨hw,_,by rw[←boS];exact cC hlt,hc⟩).symm)| (exfalso;omega)
  ·repeat' first| (first|apply bn1|refine bpL (fun h=> ?_) fun h=> ?_)<;>(simp only[go_sem];try simp (disch:=omega) only[Iw])|apply bn2 (by omega)|apply bn3 (by omega)|refine⟨by omega,?_⟩|fail
   all_goals first| (exfalso;omega)| (refine hKL _ _ _ ⟨k+1,by omega,iS hinv hc⟩ (by omega) (by(try dsimp only);omega) (bU (m5 _) (by repeat' first|exact bo2|refine xqI rfl rfl ?_|fail)))
 ·repeat' first|apply bn1<;>(simp only[go_sem])|apply bn3 (by omega)|fail
  all_goals exact aZ hQ _ rfl rfl (congrArg dB (beO fun⟨_,j,hj,h⟩=>by
   rw[←boS] at hj
   obtain⟨i,hi,rfl⟩:=bqY.1 hj
   have:=hinv i (by omega)
   rw[show p.out.getD i default=p.out[i] by simp[List.getD,hi]] at this
   exact this h).symm)
theorem a4N {r:Rsp} (hd:r.data.length<2^40) (h:K (dB (decide (pA r))) H nx):aB Tryz.prog aIP [boR [cI r.id,cI r.code,.isl (r.data.map aJ)]] H nx K:=aMP hd h
theorem a5I {c:Cfg} {s:CSt} {st:Nat} (hb:aQ c) (hp:a19 c s) (hsl:s.dD.length=4) (hst:st<4) (hf1:(aL s st).pipe.length<2^21) (hf2:(aL s st).done.length<2^21) (hf3: ∀j∈(aL s st).done,j.rsp.data.length<2^21) (h:K (dB (slB c s st)) H nx):aB Tryz.prog aIT [boR (cU c),boR (eI s),boP st] H nx K:=by
 refine aB.pure (args0:=[boR (cU c),boR (eI s),boP st]) (R:=fun rr=>rr=dB (slB c s st)) ?_ rfl (aI ⟨aE rfl,aE rfl,aE rfl,trivial⟩) (fun r hr=>hr▸h);clear h;refine aKP rfl fun Q hQ=> ?_;unfold aI4;obtain⟨hp3,hp12⟩:=hC hb;obtain⟨v,hvd⟩: ∃v,v=aL s st:=⟨_,rfl⟩
 have hvd':s.dD.getD st default=v:=hvd.symm;rw[←hvd] at hf1 hf2 hf3;have hF: ¬Z0 c s st→dB false=dB (slB c s st):=fun h=>by rw[a6D h]
 have aAI:Z0 c s st→dB true=dB (slB c s st):=fun h=>by rw[beR h]
 have hlat4:=hb.2.1;have hlat:=S0 hb hst;by_cases h0:(v.pipe.length:Int)≤2∧(v.done.length:Int)≤2∧0≤v.last∧v.last≤2
 case neg=>
  have hno: ¬Z0 c s st:=fun h=>h0 ⟨by have:=h.pl;rw[←hvd] at this;omega,by have:=h.dl;rw[←hvd] at this;omega,by have:=h.last;rw[←hvd] at this;omega⟩;repeat' first| (first|apply bn1|refine bpL (fun h=> ?_) fun h=> ?_|apply aBC)<;>(simp only[go_sem,hsl,hvd'])|apply bn2 (by omega)|refine⟨by omega,?_⟩|fail
  all_goals first|exact aZ hQ _ rfl rfl (hF hno)| (exfalso;omega)
 obtain⟨hpl,hdl,hl1,hl2⟩:=h0;have bpO:(0≤v.last∧v.last≤2)=True:=eq_true ⟨hl1,hl2⟩;have hol: ∀w,w<3→(aF s w).out.length<2^40:=fun w hw=>by have:=(hp.port w hw).ol;omega
 obtain⟨V,hV⟩: ∃V,V=cS v:=⟨_,rfl⟩
 have hVl:V.length=v.done.length+v.pipe.length:=by rw[hV];simp[cS]
 have hV1: ∀k,k<v.done.length→V[k]?=some ((v.done.getD k default).who,(v.done.getD k default).n):=fun k hk=>by rw[hV];unfold cS;rw[brO (by simpa using hk)];simp[List.getD,hk,key]
 have hV2: ∀k,k<v.pipe.length→V[v.done.length+k]?=some ((v.pipe.getD k default).who,(v.pipe.getD k default).n):=fun k hk=>by rw[hV];unfold cS;rw[brX (by simp)];simp[List.getD,hk]
 have hVs: ∀k x,V[k]?=some x→(V.map a80).take (k+1)=(V.map a80).take k++[a80 x]:=fun k x h=>by obtain⟨hk,h2⟩:=m3.1 h;rw[brQ (by simpa using hk),bsD,h2]
 have hVm: ∀(k:Nat) (x:Int×Int),V[k]?=some x→Z0 c s st→a23 s x.1 x.2 st:=fun k x h hs=>hs.out x (by rw[←hvd,←hV];exact s3 h);repeat' first| (first|apply bn1|apply bpK (by omega)|apply aBC)<;>(simp only[go_sem,hsl,hvd',bpO])|refine⟨by omega,?_⟩|fail
 refine aM.gP (β:=Nat×Nat×Nat) (fun u=>en [(9,boP u.1),(8,.one (.c (.osl 5 u.2.1 0 u.1 u.2.2))),(7,.one (.c (.ptr 3 8 0 0))),(4,.one (.c (.ptr 5 1 0 0))),(3,.one (.c (.ptr 3 0 0 0))),(2,boP st)])
  (fun u H1 bp0=>u.1≤v.done.length∧(∀i,i<u.1→a23 s (v.done.getD i default).who (v.done.getD i default).n st∧as5 c (v.done.getD i default))∧H1 0=some ⟨3,1,[cU c]⟩∧H1 1=some ⟨5,1,[eI s]⟩∧H1 8=some ⟨3,1,[gF v]⟩∧(∃m,H1 u.2.1=some ⟨5,m,((V.map a80).take u.1).map aS⟩∧u.1≤u.2.2∧u.2.2≤m)∧26≤u.2.1∧u.2.1<bp0)
  (fun u=>v.done.length-u.1) (0,26,0) ⟨noF,_,by repeat' first|exact bo2|refine xqI rfl rfl ?_|refine xqP (by omega) rfl rfl ?_| (with_reducible apply bo3)| ((with_reducible apply bo0);exact bpA)| ((with_reducible apply bo1);apply bo7)|fail,aK,by dsimp only;omega,fun i hi=>by dsimp only at hi;omega,rfl,rfl,rfl,⟨0,rfl,by dsimp only;omega,by dsimp only;omega⟩,by dsimp only;omega,by dsimp only;omega⟩ ?_
 rintro⟨k,b,cap0⟩ H1 nx1 hnx1 ⟨hk,hI,bqC,g1,bp4,⟨m,gb,gb1,gb2⟩,hb1,hb2⟩ bpQ hKL;dsimp only at hk hI gb gb1 gb2 hb1 hb2;have hA:bQ nx1 [0,1,8,b]:=AM.apart (by simp;omega) (by simp;omega);simp only[bQ,eZ] at hA;have hkl:((V.map a80).take k).length=k:=by simp;omega
 have hkt:(((V.map a80).take k).map aS).length=k:=by rw[bqW,hkl]
 by_cases hlt:k<v.done.length
 ·obtain⟨d,hdd⟩: ∃d,v.done.getD k default=d:=⟨_,rfl⟩
  have hdm:d∈(aL s st).done:=by rw[←hdd,←hvd];exact cC hlt
  have hx:=hV1 k hlt;have hIn:=iS hI (k:=k);rw[hdd] at hx hIn;have hrl:d.rsp.data.length<2^40:=by have h1:=hf3 d (by rw[hvd];exact hdm);omega
  by_cases ho:a23 s d.who d.n st
  case neg=>
   have e1:=beO ho;repeat' first| (first|apply bn1|refine w6 (s:=s) (who:=d.who) (n:=d.n) (st:=st) hp.pl hol (aE rfl) ?_)<;>(simp only[go_sem,t1,bqT,bqC,g1,bp4,hdd,e1,hA])|apply bn2 (by omega)|refine⟨by omega,?_⟩|fail
   all_goals first|exact aZ hQ _ rfl rfl (hF fun h=>ho (hVm _ _ hx h))| (exfalso;omega)
  have e1:=be2 ho;have hask:=ho.asks hp;obtain⟨hk1,hk2,hk3⟩:=hask;obtain⟨P,boS⟩: ∃P,c.cP.getD d.who.toNat default=P:=⟨_,rfl⟩
  rw[boS] at hk3;obtain⟨q,hq⟩: ∃q,P.getD d.n.toNat default=q:=⟨_,rfl⟩
  have hq':bT c d.who d.n=q:=by unfold bT;rw[boS,hq]
  by_cases hr:as5 c d
  case neg=>
   have hno: ¬Z0 c s st:=fun h=>hr (h.rsp d hdm);unfold as5 at hr;rw[hq'] at hr;by_cases hr1:pA d.rsp
   ·have e2:=eq_true hr1;have e3:(d.rsp.id=q.id)=False:=eq_false fun h=>hr ⟨hr1,h⟩;repeat' first| (first|apply bn1|refine w6 (s:=s) (who:=d.who) (n:=d.n) (st:=st) hp.pl hol (aE rfl) ?_|apply a4N hrl)<;>(simp only[go_sem,t1,bqT,bqC,g1,bp4,hdd,hp3,boS,hq,e1,e2,e3,hA])|apply bn2 (by omega)|refine⟨by omega,?_⟩|fail
    all_goals first|exact aZ hQ _ rfl rfl (hF hno)| (exfalso;omega)
   ·have e2:=eq_false hr1;repeat' first| (first|apply bn1|refine w6 (s:=s) (who:=d.who) (n:=d.n) (st:=st) hp.pl hol (aE rfl) ?_|apply a4N hrl)<;>(simp only[go_sem,t1,bqT,bqC,g1,bp4,hdd,hp3,boS,hq,e1,e2,hA])|apply bn2 (by omega)|refine⟨by omega,?_⟩|fail
    all_goals first|exact aZ hQ _ rfl rfl (hF hno)| (exfalso;omega)
  have e2:=eq_true hr.1;have e3:(d.rsp.id=q.id)=True:=eq_true (by rw[←hq'];exact hr.2);repeat' first| (first|apply bn1|refine w6 (s:=s) (who:=d.who) (n:=d.n) (st:=st) hp.pl hol (aE rfl) ?_|apply a4N hrl)<;>(simp only[go_sem,t1,bqT,bqC,g1,bp4,gb,hdd,hp3,boS,hq,e1,e2,e3,hkt,hA];try simp (disch:=omega) only[Iw])|apply bn2 (by omega)| (with_reducible first|refine fun(cap:Nat) (hcap:_≤cap)=> ?_|refine fun(hcp:_≤cap)=> ?_)|refine⟨by omega,?_⟩|fail
  refine af0 (K:=bpQ) fun G bqK=> ?_;have q1:G (nx1+50)=some ⟨5,cap,((V.map a80).take k).map aS++[[cI d.who,cI d.n,cI 0,cI 0,.osl 0 0 0 0 0]]⟩:=by rw[bqK];exact aA.bH
  have q2: ∀id,id<nx1→id≠b→G id=H1 id:=fun id h1 h2=>by rw[bqK,aA.aC (by omega),aA.aC (by omega),aA.aC (by omega),aA.jG h2]
  have q3:=hVs k _ hx;refine hKL _ _ _ (k+1,nx1+50,cap) noF _ (by omega) (by dsimp only;omega) (by dsimp only;repeat' first|exact bo2|refine xqI rfl rfl ?_|refine xqP (by omega) rfl rfl ?_|refine xqO (by omega) rfl rfl (by rfl) ?_|fail) (bfM q1) ⟨by dsimp only;omega,hIn ⟨ho,hr⟩,?_,?_,?_,⟨cap,by dsimp only;rw[q3];exact aA.bH,by dsimp only;omega,m5 _⟩,by dsimp only;omega,by dsimp only;omega⟩;·rw[aA.aC (by omega),q2 _ (by omega) (by omega)];exact bqC
  ·rw[aA.aC (by omega),q2 _ (by omega) (by omega)];exact g1
  ·rw[aA.aC (by omega),q2 _ (by omega) (by omega)];exact bp4
 ·repeat' first|apply bn1<;>(simp only[go_sem,bp4])|apply bn3 (by omega)|fail
  have hk2:k=v.done.length:=by omega
  subst hk2;clear hlt hkl hkt hA hk
  refine aM.gP (β:=Nat×Nat×Nat) (fun u=>en [(11,boP u.1),(8,.one (.c (.osl 5 u.2.1 0 (v.done.length+u.1) u.2.2))),(7,.one (.c (.ptr 3 8 0 0))),(4,.one (.c (.ptr 5 1 0 0))),(3,.one (.c (.ptr 3 0 0 0))),(2,boP st)])
   (fun u H1 bp0=>u.1≤v.pipe.length∧(∀i,i<u.1→a23 s (v.pipe.getD i default).who (v.pipe.getD i default).n st∧beA c st i (v.pipe.getD i default))∧H1 0=some ⟨3,1,[cU c]⟩∧H1 1=some ⟨5,1,[eI s]⟩∧H1 8=some ⟨3,1,[gF v]⟩∧(∃m,H1 u.2.1=some ⟨5,m,((V.map a80).take (v.done.length+u.1)).map aS⟩∧v.done.length+u.1≤u.2.2∧u.2.2≤m)∧26≤u.2.1∧u.2.1<bp0)
   (fun u=>v.pipe.length-u.1) (0,b,cap0) ⟨noF,_,by dsimp only;repeat' first|exact bo2|refine xqI rfl rfl ?_|refine xqP (by omega) rfl rfl ?_|refine xqO (by omega) rfl rfl (by rfl) ?_|fail,aK,by dsimp only;omega,fun i hi=>by dsimp only at hi;omega,bqC,g1,bp4,⟨m,gb,by dsimp only;omega,gb2⟩,by dsimp only;omega,by dsimp only;omega⟩ ?_
  clear bqC g1 bp4 gb gb1 gb2 hb1 hb2;rintro⟨k,b,cap0⟩ H2 nx2 hnx2 ⟨hk,aIF,bqC,g1,bp4,⟨m,gb,gb1,gb2⟩,hb1,hb2⟩ bqG hKM;dsimp only at hk aIF gb gb1 gb2 hb1 hb2;have hA:bQ nx2 [0,1,8,b]:=AM.apart (by simp;omega) (by simp;omega);simp only[bQ,eZ] at hA;have hkl:((V.map a80).take (v.done.length+k)).length=v.done.length+k:=by simp;omega
  have hkt:(((V.map a80).take (v.done.length+k)).map aS).length=v.done.length+k:=by rw[bqW,hkl]
  by_cases hlt:k<v.pipe.length
  ·obtain⟨d,hdd⟩: ∃d,v.pipe.getD k default=d:=⟨_,rfl⟩
   have hx:=hV2 k hlt;have hIn:=iS aIF (k:=k);rw[hdd] at hx hIn;have hleft:Z0 c s st→beA c st k d:=fun h=>by have:=h.left k (by rw[←hvd];exact hlt);rw[←hvd,hdd] at this;exact this
   by_cases ho:a23 s d.who d.n st
   case neg=>
    have e1:=beO ho;repeat' first| (first|apply bn1|refine w6 (s:=s) (who:=d.who) (n:=d.n) (st:=st) hp.pl hol (aE rfl) ?_)<;>(simp only[go_sem,t1,bqT,bqC,g1,bp4,hdd,e1,hA])|apply bn2 (by omega)|refine⟨by omega,?_⟩|fail
    all_goals first|exact aZ hQ _ rfl rfl (hF fun h=>ho (hVm _ _ hx h))| (exfalso;omega)
   have e1:=be2 ho;by_cases hl:beA c st k d
   case neg=>
    have hno: ¬Z0 c s st:=fun h=>hl (hleft h);unfold beA at hl;by_cases hl1:0≤d.left∧d.left≤c.lat.getD st default
    ·have e2:(0≤d.left∧d.left≤c.lat.getD st default)=True:=eq_true hl1
     have hk0:0<k:=by
      rcases CR k with h|h;·exact absurd ⟨hl1,fun h2=>by omega⟩ hl
      ·exact h
     have e3:(d.left=c.lat.getD st default)=False:=eq_false fun h=>hl ⟨hl1,fun _=>h⟩;repeat' first| (first|apply bn1|apply bpJ (by omega)|refine w6 (s:=s) (who:=d.who) (n:=d.n) (st:=st) hp.pl hol (aE rfl) ?_|apply aBC)<;>(simp only[go_sem,t1,bqT,bqC,g1,bp4,hdd,e1,e2,e3,hA])|apply bn2 (by omega)|refine⟨by omega,?_⟩|fail
     all_goals first|exact aZ hQ _ rfl rfl (hF hno)| (exfalso;omega)
    ·have e2:(0≤d.left∧d.left≤c.lat.getD st default)=False:=eq_false hl1;repeat' first| (first|apply bn1|refine w6 (s:=s) (who:=d.who) (n:=d.n) (st:=st) hp.pl hol (aE rfl) ?_|apply aBC)<;>(simp only[go_sem,t1,bqT,bqC,g1,bp4,hdd,e1,e2,hA])|apply bn2 (by omega)|refine⟨by omega,?_⟩|fail
     all_goals first|exact aZ hQ _ rfl rfl (hF hno)| (exfalso;omega)
   have e2:(0≤d.left∧d.left≤c.lat.getD st default)=True:=eq_true hl.1;have hl2:=hl.2;repeat' first| (first|apply bn1|refine bpL (fun h=> ?_) fun h=> ?_|refine w6 (s:=s) (who:=d.who) (n:=d.n) (st:=st) hp.pl hol (aE rfl) ?_|apply aBC)<;>(simp only[go_sem,t1,bqT,bqC,g1,bp4,gb,hdd,e1,e2,hkt,hA];try simp (disch:=omega) only[Iw])|apply bn2 (by omega)|apply bn3 (by omega)| (with_reducible first|refine fun(cap:Nat) (hcap:_≤cap)=> ?_|refine fun(hcp:_≤cap)=> ?_)|refine⟨by omega,?_⟩|fail
   all_goals first| (exfalso;have:=hl2 (by omega);omega)|skip
   all_goals (
    refine af0 (K:=bqG) fun G bqK=> ?_
    have q3:=hVs _ _ hx
    have q1:G (nx2+52)=some ⟨5,cap,((V.map a80).take (v.done.length+k)).map aS++[[cI d.who,cI d.n,cI 0,cI 0,.osl 0 0 0 0 0]]⟩:=by rw[bqK];exact aA.bH
    have q2: ∀id,id<nx2→id≠b→G id=H2 id:=fun id h1 h2=>by rw[bqK,aA.aC (by omega),aA.aC (by omega),aA.aC (by omega),aA.jG h2]
    refine hKM _ _ _ (k+1,nx2+52,cap) noF _ (by omega) (by dsimp only;omega) (by dsimp only;repeat' first|exact bo2|refine xqI rfl rfl ?_|refine xqP (by omega) rfl rfl ?_|refine xqO (by omega) rfl rfl (by rfl) ?_|fail) (bfM q1) ⟨by dsimp only;omega,hIn ⟨ho,hl⟩,?_,?_,?_,⟨cap,by dsimp only;rw[←t1,q3];exact aA.bH,by dsimp only;omega,m5 _⟩,by dsimp only;omega,by dsimp only;omega⟩
    ·rw[aA.aC (by omega),q2 _ (by omega) (by omega)];exact bqC
    ·rw[aA.aC (by omega),q2 _ (by omega) (by omega)];exact g1
    ·rw[aA.aC (by omega),q2 _ (by omega) (by omega)];exact bp4)
  ·repeat' first|apply bn1<;>(simp only[go_sem,bp4])|apply bn3 (by omega)|fail
   have hk2:k=v.pipe.length:=(by omega);subst hk2;obtain⟨L,hL⟩: ∃L,L=V.map a80:=⟨_,rfl⟩
   have hLg: ∀i (hi:i<V.length),L.getD i default=a80 V[i]:=fun i hi=>by rw[hL];simp[List.getD,hi]
   have hLl:L.length=v.done.length+v.pipe.length:=(by rw[hL,bqW,hVl]);rw[←hL,boL (by omega)] at gb;clear hlt hkl hkt hA hk bqC g1 bp4
   refine aM.gP (β:=Nat) (fun k=>en [(13,boP k),(8,.one (.c (.osl 5 b 0 (v.done.length+v.pipe.length) cap0)))])
    (fun k H3 _=>k≤L.length∧(∀i j,i<j→j<k→(L.getD i default).who=(L.getD j default).who→(L.getD i default).n<(L.getD j default).n)∧H3 b=some ⟨5,m,L.map aS⟩) (fun k=>L.length-k) 0 ⟨noF,_,by repeat' first|exact bo2|refine xqI rfl rfl ?_|refine xqO (by omega) rfl rfl (by rfl) ?_|fail,aK,by omega,fun i j _ hj=>by omega,gb⟩ ?_
   clear gb;rintro k H3 nx3 hnx3 ⟨hk,bf2,gb⟩ bqR hKN;by_cases hlt:k<L.length
   ·repeat' first|apply bn1<;>(simp only[go_sem])|apply bn2 (by omega)|fail
    refine aM.gP (β:=Nat) (fun j=>en [(14,boP j),(13,boP k),(8,.one (.c (.osl 5 b 0 (v.done.length+v.pipe.length) cap0)))])
     (fun j bqL _=>j≤k∧(∀i,i<j→(L.getD i default).who=(L.getD k default).who→(L.getD i default).n<(L.getD k default).n)∧bqL b=some ⟨5,m,L.map aS⟩) (fun j=>k-j) 0 ⟨noF,_,by repeat' first|exact bo2|refine xqI rfl rfl ?_|refine xqO (by omega) rfl rfl (by rfl) ?_|fail,aK,by omega,fun i hi=>by omega,gb⟩ ?_
    clear gb;rintro j bqL nx4 hnx4 ⟨hj,bqA,gb⟩ aNB hKO;by_cases hjk:j<k
    ·by_cases hc:(L.getD j default).who=(L.getD k default).who∧(L.getD k default).n≤(L.getD j default).n
     ·have c1:((L.getD j default).who=(L.getD k default).who)=True:=eq_true hc.1;have c2:((L.getD k default).n≤(L.getD j default).n)=True:=eq_true hc.2;repeat' first|apply bn1<;>(simp only[go_sem,t1,bqT,gb,hLl,c1,c2])|apply bn2 (by omega)|refine⟨by omega,?_⟩|fail
      all_goals first
       | (exfalso;omega)
       |exact aZ hQ _ rfl rfl (hF fun h=>by
        have h1:=Z6.1 h.inc j k (by rw[←hvd,←hV];omega) (by rw[←hvd,←hV];omega) hjk
        simp only[←hvd,←hV] at h1
        have e1:=hLg j (by omega)
        have e2:=hLg k (by omega)
        rw[e1,e2] at hc
        have:=h1 hc.1
        have:=hc.2
        simp only[a80] at this
        omega)
     ·repeat' first| (first|apply bn1|refine bpL (fun h=> ?_) fun h=> ?_)<;>(simp only[go_sem,t1,bqT,gb,hLl];try simp (disch:=omega) only[Iw])|apply bn2 (by omega)|apply bn3 (by omega)|refine⟨by omega,?_⟩|fail
      all_goals first
       | (exfalso;omega)
       |exact hKO _ _ _ (j+1) noF _ (by omega) (by omega) (by repeat' first|exact bo2|refine xqI rfl rfl ?_|refine xqO (by omega) rfl rfl (by rfl) ?_|fail) aK ⟨by omega,iS bqA (by intro he;omega),gb⟩
    ·repeat' first|apply bn1<;>(simp only[go_sem];try simp (disch:=omega) only[Iw])|apply bn3 (by omega)|fail
     have hj2:j=k:=(by omega);subst hj2
     exact hKN _ _ _ (j+1) noF _ (by omega) (by omega) (by repeat' first|exact bo2|refine xqI rfl rfl ?_|refine xqO (by omega) rfl rfl (by rfl) ?_|fail) aK ⟨by omega,fun a e hae he=>by
      by_cases h:e<j
      ·exact bf2 a e hae h
      ·obtain rfl:e=j:=by omega
       exact bqA a hae,gb⟩
   ·repeat' first|apply bn1<;>(simp only[go_sem])|apply bn3 (by omega)|fail
    refine aZ hQ _ rfl rfl (aAI ⟨?_,?_,?_,?_,?_,?_,?_⟩);·rw[←hvd];omega
    ·rw[←hvd];omega
    ·rw[←hvd];exact⟨hl1,hl2⟩
    ·rw[←hvd,←hV];refine Z6.2 fun i j hi hj hij he=> ?_;have e1:=hLg i hi;have e2:=hLg j hj;have:=bf2 i j hij (by omega);rw[e1,e2] at this;exact this he
    ·rw[←hvd];intro x hx;rcases o3.1 hx with hx|hx;·obtain⟨d,hd,rfl⟩:=CF.1 hx;exact(aKJ (P:=fun d=>a23 s d.who d.n st∧as5 c d) hI d hd).1
     ·obtain⟨d,hd,rfl⟩:=CF.1 hx;exact aKJ (P:=fun d=>a23 s d.who d.n st) (fun i hi=>(aIF i hi).1) d hd
    ·rw[←hvd];exact fun d hd=>(aKJ (P:=fun d=>a23 s d.who d.n st∧as5 c d) hI d hd).2
    ·rw[←hvd];exact fun i hi=>(aIF i hi).2
end
def GA (c:Cfg) (k:Nat):Int:=(c.cP.getD k default).length
theorem OO:cJ Tryz.prog xJ Tryz.f38 uZ D2:=cJ.mk Tryz.func38 (by kernel_rfl) O6
section
variable {H : aA} {nx : Nat} {K : D → aA → Nat → Prop}
theorem IH {a:List fC} {b:List fC} (ha:a.length<2^40) (hb:b.length<2^40) (h:K (dB (decide (a=b))) H nx):aB Tryz.prog oJ [dS (a.map eCJ),dS (b.map eCJ)] H nx K:=by
 refine aB.pure (args0:=[dS (a.map eCJ),dS (b.map eCJ)]) (R:=fun rr=>rr=dB (decide (a=b))) ?_ rfl (aI ⟨aE rfl,aE rfl,trivial⟩) (fun r hr=>hr▸h);clear h;refine R4 rfl fun Q hQ=> ?_;unfold xH;by_cases hl:a.length=b.length
 ·repeat' first|apply bn1<;>(simp only[go_sem])|apply bn3 (by omega)|fail
  (refine aM.loop (α:={k:Nat//k≤a.length∧(∀i,i<k→a.getD i default=b.getD i default)}) (fun u=>en [(5,boP u.1),(1,dS (b.map eCJ)),(0,dS (a.map eCJ))]) (fun _=>.nil) _ (fun u=>a.length-u.1) ⟨0,by omega,(by intros;first|trivial|omega)⟩ (bU (m5 _) (by repeat' first|exact bo2|refine xqI rfl rfl ?_|fail)) ?_);(rintro⟨k,hk,hinv⟩ bpQ hKL);by_cases hlt:k<a.length
  ·have h1:xY (eCJ (a.getD k default))=some [(a.getD k default).who,(a.getD k default).n,(a.getD k default).left]:=rfl;have h2:xY (eCJ (b.getD k default))=some [(b.getD k default).who,(b.getD k default).n,(b.getD k default).left]:=rfl;have hne: ¬a.getD k default=b.getD k default→¬a=b:=fun h1 h2=>h1 (by rw[h2]);have heq:[(a.getD k default).who,(a.getD k default).n,(a.getD k default).left]=[(b.getD k default).who,(b.getD k default).n,(b.getD k default).left]↔a.getD k default=b.getD k default:=(by generalize a.getD k default=x;generalize b.getD k default=y;obtain⟨x1,bpZ,aYM⟩:=x;obtain⟨y1,aHC,aHD⟩:=y;simp);generalize hX:[(a.getD k default).who,(a.getD k default).n,(a.getD k default).left]=X at*;generalize hY:[(b.getD k default).who,(b.getD k default).n,(b.getD k default).left]=Y at*;by_cases hXY:X=Y
   ·have hf:(¬X=Y)=False:=eq_false (Classical.not_not.2 hXY);repeat' first|apply bn1<;>(simp only[go_sem,h1,h2,hXY];try simp (disch:=omega) only[Iw])|apply bn2 (by omega)|refine⟨by omega,?_⟩|fail
    (refine hKL _ _ _ ⟨k+1,by omega,iS hinv (heq.1 hXY)⟩ (by omega) (by(try dsimp only);omega) (bU (m5 _) (by repeat' first|exact bo2|refine xqI rfl rfl ?_|fail)))
   ·have hf:(X=Y)=False:=eq_false hXY;repeat' first|apply bn1<;>(simp only[go_sem,h1,h2,hf])|apply bn2 (by omega)|refine⟨by omega,?_⟩|fail
    refine aZ hQ _ rfl rfl (j7 (hne fun he=>hXY (heq.2 he)))
  ·repeat' first|apply bn1<;>(simp only[go_sem])|apply bn3 (by omega)|fail
   refine aZ hQ _ rfl rfl (q9 (yO hl fun i hi=>hinv i (by omega)))
 ·repeat' first|apply bn1<;>(simp only[go_sem])|apply bn2 (by omega)|fail
  refine aZ hQ _ rfl rfl (j7 fun he=>hl (by rw[he]))
theorem UQ:cJ Tryz.prog C6 Tryz.f52 AS I4:=cJ.mk Tryz.func52 (by kernel_rfl) TS
theorem YQ (a b:CSt) (ha:CSz a) (hb:CSz b):aB Tryz.prog C6 [boR (eI a),boR (eI b)] .nil 0 fun r _ _=>r.plain=true∧r=dB (decide (a=b)):=by
 have apl:=ha.pl;have asl:=ha.sl;have bpl:=hb.pl;have bsl:=hb.sl;have aw:=ha.w;have ah:=ha.h;have bw:=hb.w;have bh:=hb.h;have aAM:=ha.t.1;have buW:=hb.t.1;have aAN: ∀j∈a.told,j.rsp.data.length<2^40:=fun j hj=>by have:=ha.t.2 j hj;omega
 have buX: ∀j∈b.told,j.rsp.data.length<2^40:=fun j hj=>by have:=hb.t.2 j hj;omega
 refine UQ rfl fun Q hQ=> ?_;unfold AS;repeat' first| (first|apply bn1|refine bpL (fun h=> ?_) fun h=> ?_|apply YN (a:=a.words) (b:=a.holds) (u:=b.words) (v:=b.holds) (by omega) (by omega) (by omega) (by omega)|apply AL (a:=a.told) (b:=b.told) (by omega) (by omega) aAN buX)<;>(simp only[go_sem,apl,asl,bpl,bsl])|refine bnE (fun h=> ?_) fun h=> ?_|fail
 ·exact hQ _ _ _ _ _ (.inr rfl) rfl ⟨rfl,j7 fun he=>h (by rw[he];exact⟨rfl,rfl⟩)⟩
 ·exact hQ _ _ _ _ _ (.inr rfl) rfl ⟨rfl,j7 fun he=>h (by rw[he])⟩
 rename_i e1;have e1:=Classical.not_not.1 e1;have e2:=Classical.not_not.1 h;refine aM.abC fun bqO hG0=> ?_;have c0:bqO 0=some ⟨5,1,[eI a]⟩:=by rw[hG0];rfl
 have c1:bqO 1=some ⟨5,1,[eI b]⟩:=by rw[hG0];rfl
 clear hG0
 refine aM.gP (β:=Nat) (fun k=>en [(5,boP k),(3,.one (.c (.ptr 5 1 0 0))),(2,.one (.c (.ptr 5 0 0 0)))])
  (fun k H1 _=>k≤3∧(∀i,i<k→aF a i=aF b i)∧ ∀id,id<2→H1 id=bqO id) (fun k=>3-k) 0 ⟨noF,_,by repeat' first|exact bo2|refine xqI rfl rfl ?_|refine xqP (by omega) rfl rfl ?_|fail,aK,by omega,by omega,fun _ _=>rfl⟩ ?_
 rintro k H1 nx1 hnx ⟨hk,heq,hfr⟩ bpQ hKL;have bqC:=(hfr 0 (by omega)).trans c0;have g1:=(hfr 1 (by omega)).trans c1;have hA:bQ nx1 [0,1]:=AM.apart (by simp) (by simp;omega);simp only[bQ,eZ] at hA;by_cases hlt:k<3
 ·obtain⟨p,hp⟩: ∃p,p=aF a k:=⟨_,rfl⟩
  obtain⟨q,hq⟩: ∃q,q=aF b k:=⟨_,rfl⟩
  have hp':a.bM.getD k default=p:=hp.symm;have hq':b.bM.getD k default=q:=hq.symm;have p1:=ha.port k hlt;have q1:=hb.port k hlt;rw[←hp] at p1;rw[←hq] at q1;have hne: ¬p=q→¬a=b:=fun h1 h2=>h1 (by rw[hp,hq,h2]);have hpq:p.next=q.next→p.last=q.last→p.queue=q.queue→p.out=q.out→aF a k=aF b k:=by rw[←hp,←hq];obtain⟨x1,bpZ,aYM,aAO⟩:=p;obtain⟨y1,aHC,aHD,aAP⟩:=q;dsimp only;intro h1 h2 h3 h4;subst h1;subst h2;subst h3;subst h4;rfl
  repeat' first| (first|apply bn1|refine bpL (fun h=> ?_) fun h=> ?_|apply tP (a:=p.queue) (b:=q.queue) (by omega) (by omega)|apply IH (a:=p.out) (b:=q.out) (by omega) (by omega))<;>(simp only[go_sem,boC,hp',hq',bqC,g1,hA,apl,bpl];try simp (disch:=omega) only[Iw])|apply bn2 (by omega)|refine bnE (fun h=> ?_) fun h=> ?_|refine⟨by omega,?_⟩|fail
  all_goals first|exact hQ _ _ _ _ _ (.inr rfl) rfl ⟨rfl,j7 (hne fun he=>h (by rw[he]))⟩|skip
  exact hKL _ _ _ (k+1) noF _ (by omega) (by omega) (by repeat' first|exact bo2|refine xqI rfl rfl ?_|refine xqP (by omega) rfl rfl ?_|fail) aK ⟨by omega,iS heq (hpq (Classical.not_not.1 (by assumption)) (Classical.not_not.1 (by assumption)) (Classical.not_not.1 (by assumption)) (Classical.not_not.1 (by assumption))),fun id hid=>by rw[aA.aC (by omega),aA.aC (by omega)];exact hfr id hid⟩
 ·have hk3:k=3:=by omega
  subst hk3;repeat' first|apply bn1<;>(simp only[go_sem,bqC,g1,apl])|apply bn3 (by omega)|fail
  refine aM.gP (β:=Nat) (fun k=>en [(8,boP k),(3,.one (.c (.ptr 5 1 0 0))),(2,.one (.c (.ptr 5 0 0 0)))])
   (fun k H1 _=>k≤4∧(∀i,i<k→aL a i=aL b i)∧ ∀id,id<2→H1 id=bqO id) (fun k=>4-k) 0 ⟨noF,_,by repeat' first|exact bo2|refine xqI rfl rfl ?_|refine xqP (by omega) rfl rfl ?_|fail,aK,by omega,by omega,hfr⟩ ?_
  clear bqC g1 hA hfr;rintro k H2 nx2 hnx2 ⟨hk,hev,hfr⟩ bqG hKM;have bqC:=(hfr 0 (by omega)).trans c0;have g1:=(hfr 1 (by omega)).trans c1;have hA:bQ nx2 [0,1]:=AM.apart (by simp) (by simp;omega);simp only[bQ,eZ] at hA;by_cases hlt:k<4
  ·obtain⟨p,hp⟩: ∃p,p=aL a k:=⟨_,rfl⟩
   obtain⟨q,hq⟩: ∃q,q=aL b k:=⟨_,rfl⟩
   have hp':a.dD.getD k default=p:=hp.symm;have hq':b.dD.getD k default=q:=hq.symm;have p1:=ha.slv k hlt;have q1:=hb.slv k hlt;rw[←hp] at p1;rw[←hq] at q1;have hne: ¬p=q→¬a=b:=fun h1 h2=>h1 (by rw[hp,hq,h2]);have hpq:p.last=q.last→p.pipe=q.pipe→p.done=q.done→aL a k=aL b k:=(by rw[←hp,←hq];obtain⟨x1,bpZ,aYM⟩:=p;obtain⟨y1,aHC,aHD⟩:=q;dsimp only;intro h1 h2 h3;subst h1;subst h2;subst h3;rfl);repeat' first| (first|apply bn1|refine bpL (fun h=> ?_) fun h=> ?_| (refine AL (a:=p.done) (b:=q.done) (by omega) (by omega) (fun j hj=>by have:=p1.2.2 j hj;omega) (fun j hj=>by have:=q1.2.2 j hj;omega) ?_)|apply IH (a:=p.pipe) (b:=q.pipe) (by omega) (by omega))<;>(simp only[go_sem,boC,hp',hq',bqC,g1,hA,asl,bsl];try simp (disch:=omega) only[Iw])|apply bn2 (by omega)|refine bnE (fun h=> ?_) fun h=> ?_|refine⟨by omega,?_⟩|fail
   all_goals first|exact hQ _ _ _ _ _ (.inr rfl) rfl ⟨rfl,j7 (hne fun he=>h (by rw[he]))⟩|skip
   exact hKM _ _ _ (k+1) noF _ (by omega) (by omega) (by repeat' first|exact bo2|refine xqI rfl rfl ?_|refine xqP (by omega) rfl rfl ?_|fail) aK ⟨by omega,iS hev (hpq (Classical.not_not.1 (by assumption)) (Classical.not_not.1 (by assumption)) (Classical.not_not.1 (by assumption))),fun id hid=>by rw[aA.aC (by omega),aA.aC (by omega)];exact hfr id hid⟩
  ·have hk4:k=4:=(by omega);subst hk4;have hab:a=b:=by have boS:a.bM=b.bM:=yO (by omega) fun i hi=>heq i (by omega);have hV:a.dD=b.dD:=yO (by omega) fun i hi=>hev i (by omega);obtain⟨az9,az2,aAD,aAE,aAA⟩:=a;obtain⟨b1,b2,boX,boY,boZ⟩:=b;dsimp only at*;obtain⟨rfl,rfl⟩:=e1;subst boS;subst hV;subst e2;rfl
   repeat' first|apply bn1<;>(simp only[go_sem,bqC,g1,asl])|apply bn3 (by omega)|fail
   exact hQ _ _ _ _ _ (.inr rfl) rfl ⟨rfl,q9 hab⟩
theorem aoR {a b:CSt} (ha:CSz a) (hb:CSz b) (h:K (dB (decide (a=b))) H nx):aB Tryz.prog C6 [boR (eI a),boR (eI b)] H nx K:=(YQ a b ha hb).pure rfl (aI ⟨aE rfl,aE rfl,trivial⟩) fun r hr=>hr▸h
end
theorem PB:cJ Tryz.prog FO Tryz.f40 vJ DL:=cJ.mk Tryz.func40 (by kernel_rfl) O7
section
variable {H : aA} {nx : Nat} {K : D → aA → Nat → Prop}
end
theorem TZ:cJ Tryz.prog DB Tryz.f60 AV IY:=cJ.mk Tryz.func60 (by kernel_rfl) UH
section
variable {H : aA} {nx : Nat} {K : D → aA → Nat → Prop}
theorem GG:aB Tryz.prog eF [btN 1,btN 3] .nil 0 fun rr _ _=>rr.plain=true∧rr= .tup [.c (.v (.int .u64 0)),.c (.v (.int .u64 3))]:=by
 refine pB rfl fun Q hQ=> ?_;unfold iN;repeat' first| (with_reducible first| (apply hK _ _ _;clear hK K)|apply btD)| (with_reducible refine btI fun K hK=> ?_)<;>(simp only[go_sem])| ((with_reducible apply btK);try simp only[AQ.then,AQ.blk,reduceIte,Nat.reduceEqDiff])|fail
 exact aZ hQ (.tup [.c (.v (.int .u64 0)),.c (.v (.int .u64 3))]) (by rfl) rfl rfl
theorem FF (h:K (.tup [.c (.v (.int .u64 0)),.c (.v (.int .u64 3))]) H nx):aB Tryz.prog eF [btN 1,btN 3] H nx K:=(GG).pure rfl (aI ⟨aE rfl,aE rfl,trivial⟩) (fun r hr=>hr▸h)
theorem JT:aB Tryz.prog cE [btN 1,btN 3] .nil 0 fun rr _ _=>rr.plain=true∧rr= .tup [.c (.v (.int .u64 0)),.c (.v (.int .u64 3))]:=by
 refine tM rfl fun Q hQ=> ?_;unfold kO;repeat' first| (with_reducible first| (apply hK _ _ _;clear hK K)| (apply hB;clear hA hB A B)|apply btD|apply btE)| (first| (with_reducible first|refine btI fun K hK=> ?_|refine btJ fun A B hA hB=> ?_)| (with_reducible apply FF))<;>(simp only[go_sem])| ((with_reducible apply btK);try simp only[AQ.then,AQ.blk,reduceIte,Nat.reduceEqDiff])|fail
 all_goals first|with_reducible refine aZ hQ _ rfl rfl ?_|skip
 all_goals rfl
theorem JQ (h:K (.tup [.c (.v (.int .u64 0)),.c (.v (.int .u64 3))]) H nx):aB Tryz.prog cE [btN 1,btN 3] H nx K:=(JT).pure rfl (aI ⟨aE rfl,aE rfl,trivial⟩) (fun r hr=>hr▸h)
theorem xE:aB Tryz.prog dN [boQ 1 0 1 1,boP 3] (hp [(0,⟨1,1,[true].map eH⟩)]) 1
 fun r H' n'=>n'=2∧H'=hp [(1,⟨1,3,(List.replicate 3 true).map eH⟩)]∧r=boQ 1 1 3 3:=by
 refine wL rfl fun Q hQ=> ?_
 unfold iE
 have bqH:IntKind.u64.wrap 1=1:=by decide
 have bk6:IntKind.u64.wrap 3=3:=by decide
 have m13:min 1 3=1:=rfl
 have h11:((1:Nat):Int)=1:=rfl
 generalize hl0:[true]=l0 at*
 have hlen:l0.length=1:=by subst hl0;rfl
 repeat' first| (with_reducible first| (apply hK _ _ _;clear hK K)| (apply hB;clear hA hB A B)|apply btD|apply btE|refine btF fun btO hKB=> ?_)| (first| (with_reducible first|refine btI fun K hK=> ?_|refine btJ fun A B hA hB=> ?_)| (with_reducible apply JQ))<;>(simp only[go_sem,hlen,bqH,bk6,h11,m13];try simp (disch:=omega) only[Iw])|refine⟨by omega,?_⟩|fail
 (have hKX:=hKB;clear hKB)
 obtain⟨R,hR⟩: ∃R:Nat→List Bool,R=fun n=>List.replicate n true++List.replicate (3-n) false:=⟨_,rfl⟩
 refine aM.sG 1 (β:=Nat) (fun b n=>en [(8,boP n),(7,boQ 1 b 3 3)]) (fun b n=>hp [(b,⟨1,3,(R n).map eH⟩)]) (fun n=>n=1∨n=2∨n=3) (fun n=>3-n) 1
  (by(refine cR [23] (by omega) (by repeat' first|exact bo2|refine xqI rfl rfl ?_|refine xqO (by omega) rfl rfl (by rfl) ?_|fail) ⟨⟨by simp,by simp[sgL],_,rfl,bP (aG mK _) (by subst hR;subst hl0;rfl) rfl⟩,trivial⟩ (by simp[sgL]))) (.inl rfl) ?_
 intro n hn bpQ hKL
 have m12:min 1 2=1:=rfl
 have m21:min 2 1=1:=rfl
 have hRl: ∀n,n≤3→(R n).length=3:=fun n hn=>by subst hR;simp;omega
 have r1:=hRl 1 (by decide)
 have r2:=hRl 2 (by decide)
 rcases hn with rfl|rfl|rfl
 ·repeat' first| (with_reducible first| (apply hK _ _ _;clear hK K)| (apply hA;clear hA hB A B)|apply btD|apply btE|refine btF fun btO hKB=> ?_|apply btG (by omega))| (with_reducible first|refine btI fun K hK=> ?_|refine btJ fun A B hA hB=> ?_)<;>(simp only[go_sem,r1,m12];try simp (disch:=omega) only[Iw])| ((with_reducible apply btM);simp only[AQ.then,AQ.blk])|refine⟨by omega,?_⟩| (with_reducible apply hKB _ _ _)|fail
  exact hKL _ _ _ 2 (by omega) (by(refine cR [29] (by omega) (by repeat' first|exact bo2|refine xqI rfl rfl ?_|refine xqO (by omega) rfl rfl (by rfl) ?_|fail) ⟨⟨by simp,by simp[sgL],_,rfl,bP (aG mK _) (by subst hR;rfl) rfl⟩,trivial⟩ (by simp[sgL]))) (by omega) (by omega)
 ·repeat' first| (with_reducible first| (apply hK _ _ _;clear hK K)| (apply hA;clear hA hB A B)|apply btD|apply btE|refine btF fun btO hKB=> ?_|apply btG (by omega))| (with_reducible first|refine btI fun K hK=> ?_|refine btJ fun A B hA hB=> ?_)<;>(simp only[go_sem,r2,m21];try simp (disch:=omega) only[Iw])| ((with_reducible apply btM);simp only[AQ.then,AQ.blk])|refine⟨by omega,?_⟩| (with_reducible apply hKB _ _ _)|fail
  exact hKL _ _ _ 3 (by omega) (by(refine cR [29] (by omega) (by repeat' first|exact bo2|refine xqI rfl rfl ?_|refine xqO (by omega) rfl rfl (by rfl) ?_|fail) ⟨⟨by simp,by simp[sgL],_,rfl,bP (aG mK _) (by subst hR;rfl) rfl⟩,trivial⟩ (by simp[sgL]))) (by omega) (by omega)
 ·repeat' first| (with_reducible first| (apply hK _ _ _;clear hK K)| (apply hB;clear hA hB A B)|apply btD|apply btH (by omega)|apply hKX _ _ _)| (with_reducible first|refine btI fun K hK=> ?_|refine btJ fun A B hA hB=> ?_)<;>(simp only[go_sem])| ((with_reducible first|apply btK|apply btL);try simp only[AQ.then,AQ.blk,reduceIte,Nat.reduceEqDiff])|fail
  (refine hQ _ _ _ _ _ 2 (boQ 1 1 3 3) (hp [(1,⟨1,3,(List.replicate 3 true).map eH⟩)]) _ _ (.inr rfl) rfl (fU [29] (by omega) (by repeat' first|exact bo2| ((with_reducible apply bo0);exact bpB (by omega) rfl rfl (by rfl) rfl)| ((with_reducible apply bo1);apply bo7)|fail) ⟨⟨by simp,by simp[sgL],_,rfl,bP (aG mK _) (by subst hR;rfl) rfl⟩,trivial⟩ (by simp[sgL])) ?_);exact⟨rfl,rfl,rfl⟩
theorem aiQ {τ:Nat→Nat} {m:Nat} {l:List Bool}:bA.rn τ ⟨1,m,l.map eH⟩=⟨1,m,l.map eH⟩:=by refine rF fun r hr x hx=> ?_;obtain⟨y,_,rfl⟩:=CF.1 hr;simp only[eH,CJ] at hx;subst hx;rfl
theorem xD {i0:Nat} (h0:i0<nx) (o0:H i0=some ⟨1,1,[[cB true]]⟩) (h:K (boQ 1 nx 3 3) ((H.del i0).set nx ⟨1,3,(List.replicate 3 true).map eH⟩) (nx+1)):aB Tryz.prog dN [boQ 1 i0 1 1,boP 3] H nx K:=by
 refine xE.AF [i0] rfl ⟨qS (by simp) rfl rfl rfl rfl,aE rfl,trivial⟩ ⟨⟨by simp,id,_,o0,bP (aG mK _) rfl rfl⟩,trivial⟩ (by simp) (by simp;omega) (by simp) fun r H' n' _ ⟨q1,q2,q3⟩=> ?_;subst q1;subst q2;subst q3;generalize List.replicate 3 true=bk1 at*;have e1:back (tau 1 nx (nth [i0])) (hp [(1,⟨1,3,bk1.map eH⟩)]) 2 H=(H.del i0).set nx ⟨1,3,bk1.map eH⟩:=by simp[back,hp,aA.set,aA.nil,tau,nth,aiQ,aA.eL,aA.yI]
 rw[←e1] at h;exact h
theorem XE (h: ∀H' nx',nx≤nx'→(∀id,id<nx→H' id=H id)→K (boR (eIn pU)) H' nx'):aB Tryz.prog DB [] H nx K:=by
 apply aB.tW;refine TZ rfl fun Q hQ=> ?_;unfold AV;repeat' first| (with_reducible first| (apply hK _ _ _;clear hK K)|apply btD)| (first| (with_reducible refine btI fun K hK=> ?_)| (refine xD (by omega) (by simp only[aA.set,aA.del,msk,dT];simp;try rfl) ?_))<;>(simp only[go_sem,boC])| ((with_reducible apply btK);try simp only[AQ.then,AQ.blk,reduceIte,Nat.reduceEqDiff])|fail
 refine(fun(h: ∀G,G=_→Q _ _ G _)=>h _ rfl) fun G bqK=> ?_;have bfZ:G nx=some ⟨3,1,[[.osl 1 (nx+8) 0 3 3,.osl 1 (nx+3) 0 4 4,.osl 1 (nx+9) 0 3 3]]⟩:=by rw[bqK];simp[aA.set]
 have bpX:G (nx+8)=some ⟨1,3,[true,true,true].map eH⟩:=by rw[bqK];simp[aA.set]
 have bkR:G (nx+9)=some ⟨1,3,[true,true,true].map eH⟩:=by rw[bqK];simp[aA.set]
 have bpS:G (nx+3)=some ⟨1,4,[false,false,false,false].map eH⟩:=by rw[bqK];simp[aA.set,aA.del,msk,dT];rfl
 have ff: ∀id,id<nx→G id=H id:=fun id hid=>by rw[bqK];simp[aA.set,aA.del,msk,dT,show ¬id=nx by omega,show ¬id=nx+1 by omega,show ¬id=nx+3 by omega,show ¬id=nx+4 by omega,show ¬id=nx+8 by omega,show ¬id=nx+9 by omega]
 clear bqK;refine hQ _ _ _ _ _ (.inr rfl) (fZ (m:=1) rfl bfZ rfl) ⟨boR (eIn pU),without (fun j=>j=nx+3∨j=nx+8∨j=nx+9) G,fun j=>j=nx+3∨j=nx+8∨j=nx+9,?_,kS,h _ _ (by omega) fun id hid=> ?_⟩;·exact lY (aH (bW mK bpX rfl (by decide) (.inr (.inl rfl))) (aH (bW mK bpS rfl (by decide) (.inl rfl)) (aH (bW mK bkR rfl (by decide) (.inr (.inr rfl))) eP)))
 ·rw[iI (by omega)];exact ff id hid
end
theorem asX {c:Cfg} {s:CSt} (h:COk c s):(s.told.length:Int)=jS (GA c) 3↔Fin c s:=by
 have hst:=h.st;have hcnt:=hst.count;have hA:=fun k (hk:k<3)=>R6 (s:=s) (k:=k) (by have:=h.pl;omega);have hN:=fun k (hk:k<3)=>(h.port k hk).next;have n0:=hN 0 (by omega);have bp0:=hN 1 (by omega);have n2:=hN 2 (by omega);rw[hA 0 (by omega),hA 1 (by omega),hA 2 (by omega)] at hcnt;have ht:(cX s).told=s.told:=rfl;rw[ht] at hcnt;have hs:jS (GA c) 3=((c.cP.getD 0 default).length:Int)+(c.cP.getD 1 default).length+(c.cP.getD 2 default).length:=by simp only[jS,GA];omega
 rw[hs];constructor
 ·intro he;have hw:qU s=[]:=by have e1:(cX s).wait.length=(qU s).length:=(fH _).length_eq;exact CE (by omega)
  have hd:uQ s=[]:=by have e1:(cX s).done.length=(uQ s).length:=(fH _).length_eq;exact CE (by omega)
  have hq: ∀k,k<3→(aF s k).queue=[]:=fun k hk=>btP.2 fun m hm=>by have:(⟨k,m,oW⟩:Job)∈qU s:=wU.2 (.inl ⟨k,by have:=h.pl;omega,m,hm,rfl⟩);rw[hw] at this;cases this
  have hp: ∀k,k<4→(aL s k).pipe=[]:=fun k hk=>btP.2 fun x hx=>by have:(⟨x.who,x.n,oW⟩:Job)∈qU s:=wU.2 (.inr ⟨k,by have:=h.sl;omega,x,hx,rfl⟩);rw[hw] at this;cases this
  have hdn: ∀k,k<4→(aL s k).done=[]:=fun k hk=>btP.2 fun x hx=>by have:x∈uQ s:=BU.2 ⟨k,by have:=h.sl;omega,hx⟩;rw[hd] at this;cases this
  have hc:=h.count;have hh: ∀k,k<4→hU s k=0:=fun k hk=>by unfold hU;rw[hp k hk,hdn k hk];rfl
  rw[hh 0 (by omega),hh 1 (by omega),hh 2 (by omega),hh 3 (by omega)] at hc;intro k hk;have:k=0∨k=1∨k=2:=by omega
  rcases this with rfl|rfl|rfl;·exact⟨by omega,hq _ hk,CE (by omega)⟩
  ·exact⟨by omega,hq _ hk,CE (by omega)⟩
  ·exact⟨by omega,hq _ hk,CE (by omega)⟩
 ·intro hf;obtain⟨h1,h2⟩:=afO h hf;rw[h1,h2] at hcnt;have bfZ:=(hf 0 (by omega)).1;have bpR:=(hf 1 (by omega)).1;have f2:=(hf 2 (by omega)).1;simp only[List.length_nil] at hcnt;omega
end Go.Proofs.YtmccpdapaccnoaaGreat
