/- Texts laid together by a program: rules, contracts and the walk that leads to the law. -/
import Derived.Test.YtmccpdapaccnoaaGreatPD6
import Derived.Test.YtmccpdapaccnoaaGreatPD10
import Derived.Test.YtmccpdapaccnoaaGreatPD12
import Derived.Test.YtmccpdapaccnoaaGreatPD11
set_option linter.unusedVariables false
set_option linter.unusedSimpArgs false
set_option linter.unusedSectionVars false
set_option maxRecDepth 100000
set_option maxHeartbeats 8000000
namespace Go.Proofs.YtmccpdapaccnoaaGreat
open Go Go.AM
attribute [local irreducible] aM wv aB vd wvH
section
variable {H : aA} {nx : Nat} {K : D → aA → Nat → Prop}
theorem beM {q:Req} (h:dH q):q.data.length<2^40∧q.g6.length<2^40:=by
 obtain⟨_,_,h3,h4,h5,_,_,_⟩:=h;have hb4:=MK (addr:=q.addr) (many:=q.many) (wrap:=q.wrap);have hbl:=DF h3;have hm:q.many≤4:=by omega
 unfold n5 at h4 h5;constructor;·split at h4<;>omega
 ·split at h5<;>omega
theorem a20 {m:List Rng} {q:Req} (hm:DH m) (hq:dH q) (hl:m.length<2^21) (h:K (boP (gZ m q)) H nx):aB Tryz.prog y3 [dS (m.map eN),boR (eB q)] H nx K:=by
 refine aB.pure (args0:=[dS (m.map eN),boR (eB q)]) (R:=fun rr=>rr=boP (gZ m q)) ?_ rfl (aI ⟨aE rfl,aE rfl,trivial⟩) (fun r hr=>hr▸h);clear h;refine aCQ rfl fun Q hQ=> ?_;unfold aA7;have hwh:bV m (bE q.addr q.many q.wrap)<m.length:=by have hlt:=PQ (p:=(inR · ((bE q.addr q.many q.wrap).getD 0 default))) (l:=m);unfold bV;grind
 have hd:=beM hq;have hb4:(bE q.addr q.many q.wrap).length<2^40:=by have:=MK (addr:=q.addr) (many:=q.many) (wrap:=q.wrap);omega
 have d1:=decide_eq_true hm;have d2:=decide_eq_true hq;repeat' first| (first|apply bn1|apply aD5 (by omega)|apply aD8 hd.1 hd.2|apply aC9|apply aDG (by omega) hb4)<;>(simp only[go_sem,d1,d2,eq_true hm,eq_true hq])|refine bnE (fun h=> ?_) fun h=> ?_|refine⟨by omega,?_⟩|fail
 all_goals first|with_reducible refine aZ hQ _ rfl rfl ?_|skip
 ·unfold gZ;exact(congrArg boP (if_pos h)).symm
 ·unfold gZ;exact(congrArg boP (if_neg h)).symm
theorem bhY {c:Cfg} {s:CSt} {who:Nat} {st:Nat} (hb:aQ c) (hs:COk c s) (hw:who<3) (hst:st<4) {d1:D} (hd1:CvD H (fun _=>True) id 0 (boR (eI s)) d1) (h:K (dB (decide (HV c s who st))) H nx):aB Tryz.prog bgQ [boR (cU c),d1,boP who,boP st] H nx K:=by
 refine aB.pure (args0:=[boR (cU c),boR (eI s),boP who,boP st]) (R:=fun rr=>rr=dB (decide (HV c s who st))) ?_ rfl (aI ⟨aE rfl,hd1,aE rfl,aE rfl,trivial⟩) (fun r hr=>hr▸h);clear h;refine biY rfl fun Q hQ=> ?_;unfold bg5;obtain⟨hp3,hpr⟩:=hC hb;have hprw:=hpr who;have hmo:DH c.map:=hb.1;have hml:=hb.1.1;have hpl:=hs.pl;have hpo:=hs.port who hw;obtain⟨p,hp⟩: ∃p,s.bM.getD who default=p:=⟨_,rfl⟩
 have hp':aF s who=p:=hp;obtain⟨n0,hn0⟩: ∃n0,p.queue.getD 0 default=n0:=⟨_,rfl⟩
 have hM:HV c s who st↔(0<p.queue.length∧p.out.length<4∧gZ c.map (bT c who n0)=st∧ ∀j∈p.out,(bT c who j.n).id=(bT c who n0).id→j.left=st):=by unfold HV;rw[hp',hn0]
 rw[hp'] at hpo;obtain⟨hn1,hn2⟩:=hpo.next;obtain⟨hq1,hq2⟩:=hpo.ql;have hq0:=hpo.queue 0;rw[hn0] at hq0;have hol:=hpo.ol;obtain⟨P,boS⟩: ∃P,c.cP.getD who default=P:=⟨_,rfl⟩
 rw[boS] at hprw hn2;have hre: ∀n:Int,bT c who n=P.getD n.toNat default:=fun n=>by unfold bT;rw[Int.toNat_natCast,boS]
 by_cases h0:p.queue.length=0
 ·have bpN:((p.queue.length:Int)=0)=True:=eq_true (by omega);repeat' first|apply bn1<;>(simp only[go_sem,hpl,hp,bpN])|refine⟨by omega,?_⟩|fail
  exact aZ hQ _ rfl rfl (j7 (by rw[hM];omega))
 have bpN:((p.queue.length:Int)=0)=False:=eq_false (by omega);by_cases h4:p.out.length=4
 ·have bpO:((p.out.length:Int)=4)=True:=eq_true (by omega);repeat' first|apply bn1<;>(simp only[go_sem,hpl,hp,bpN,bpO])|refine⟨by omega,?_⟩|fail
  exact aZ hQ _ rfl rfl (j7 (by rw[hM];omega))
 have bpO:((p.out.length:Int)=4)=False:=eq_false (by omega);have hq0:=hq0 (by omega);obtain⟨q,hq⟩: ∃q,P.getD n0.toNat default=q:=⟨_,rfl⟩
 have hq':bT c who n0=q:=by rw[hre];exact hq
 have hqo:dH q:=hq'▸GK hb (hpo.asks hw (by omega) (by omega));rw[hq'] at hM;by_cases hsl:gZ c.map q=st
 ·have bpP:(gZ c.map q=(st:Int))=True:=eq_true hsl;repeat' first| (first|apply bn1|apply a20 hmo hqo (by omega))<;>(simp only[go_sem,hpl,hp3,hp,boS,hn0,hq,bpN,bpO,bpP])|refine⟨by omega,?_⟩|fail
  refine aM.gP (β:=Nat) (fun k=>en [(11,boP k),(10,.one (.c (.ptr 7 31 0 0))),(9,.one (.c (.ptr 4 8 0 0))),(4,.one (.c (.ptr 3 0 0 0))),(3,boP st),(2,boP who)]) (fun k H1 _=>H1 0=some ⟨3,1,[cU c]⟩∧H1 8=some ⟨4,1,[cD p]⟩∧H1 31=some ⟨7,1,[eB q]⟩∧k≤p.out.length∧ ∀i,i<k→(bT c who (p.out.getD i default).n).id=q.id→(p.out.getD i default).left=st) (fun k=>p.out.length-k) 0 ⟨noF,_,by repeat' first|exact bo2|refine xqI rfl rfl ?_|refine xqP (by omega) rfl rfl ?_|fail,aK,rfl,rfl,rfl,by omega,fun i hi=>by omega⟩ ?_;rintro k H1 nx1 hnx1 ⟨bqC,g1,g2,hk,hinv⟩ bpQ hKL;by_cases hlt:k<p.out.length
  ·obtain⟨o,ho⟩: ∃o,p.out.getD k default=o:=⟨_,rfl⟩
   have hom:o∈p.out:=(by rw[←ho];exact cC hlt);obtain⟨_,ho2,_⟩:=hpo.out o hom;obtain⟨q2,hq2⟩: ∃q2,P.getD o.n.toNat default=q2:=⟨_,rfl⟩
   have hq2':bT c who o.n=q2:=(by rw[hre];exact hq2);repeat' first| (first|apply bn1|refine bpL (fun h=> ?_) fun h=> ?_)<;>(simp only[go_sem,bqC,g1,g2,hpl,hp3,hp,boS,hn0,ho,hq2];try simp (disch:=omega) only[Iw])|apply bn2 (by omega)|refine bnE (fun h=> ?_) fun h=> ?_|refine⟨by omega,?_⟩|fail
   all_goals first
    | (refine aZ hQ _ rfl rfl (j7 ?_)
       rw[hM]
       rintro⟨_,_,_,hall⟩
       have:=hall o hom (by rw[hq2'];omega)
       omega)
    |exact hKL _ _ _ (k+1) noF _ (by omega) (by omega) (by repeat' first|exact bo2|refine xqI rfl rfl ?_|refine xqP (by omega) rfl rfl ?_|fail) aK ⟨bqC,g1,g2,by omega,fun i hi hid=>by
     by_cases hik:i<k
     ·exact hinv i hik hid
     ·have:i=k:=(by omega);subst this;rw[ho] at hid ⊢;rw[hq2'] at hid;omega⟩
  ·repeat' first|apply bn1<;>(simp only[go_sem,bqC,g1,g2])|apply bn3 (by omega)|fail
   refine aZ hQ _ rfl rfl (q9 ?_);rw[hM];refine⟨by omega,by omega,hsl,fun j hj hid=> ?_⟩;obtain⟨i,hi,rfl⟩:=bqY.1 hj;have:=hinv i (by omega);rw[KL,n1 hi,Option.getD_some] at this;exact this hid
 ·have bpP:(gZ c.map q=(st:Int))=False:=eq_false hsl;repeat' first| (first|apply bn1|apply a20 hmo hqo (by omega))<;>(simp only[go_sem,hpl,hp3,hp,boS,hn0,hq,bpN,bpO,bpP])|refine⟨by omega,?_⟩|fail
  exact aZ hQ _ rfl rfl (j7 (by rw[hM];omega))
end
end Go.Proofs.YtmccpdapaccnoaaGreat
namespace Go.AM
theorem aXE {l:List Job} {j:Job} (h:key j∈l.map key):jT (Go.Proofs.YtmccpdapaccnoaaGreat.UB l) [j.who,j.n]=some 1:=by
 induction l with
 |nil=>simp at h
 |cons x l ih=>
  unfold jT Go.Proofs.YtmccpdapaccnoaaGreat.UB;rw[n3,List.find?_cons];by_cases he:[j.who,j.n]=[x.who,x.n]
  ·simp[he]
  ·have h2:key j∈l.map key:=by
    rw[n3,t3] at h
    rcases h with h|h
    ·exact absurd (by simp only[key,Prod.mk.injEq] at h;rw[h.1,h.2]) he
    ·exact h
   simp only[he,decide_false]
   exact ih h2
theorem aXB {α:Type} [Inhabited α] {l:List α} {i:Nat} (h:i<l.length):l=l.take i++l.getD i default::l.drop (i+1):=by
 have:l.getD i default=l[i]:=by simp[List.getD,h]
 rw[this,←brB h,boN]
end Go.AM
namespace Go.Proofs.YtmccpdapaccnoaaGreat
open Go Go.AM
attribute [local irreducible] aM wv aB vd wvH
section
variable {H : aA} {nx : Nat} {K : D → aA → Nat → Prop}
theorem aVW {c:Cfg} {s:TSt} (hb:aQ c) (ht:aTQ s) (h:K (dB (stB c s)) H nx):aB Tryz.prog j9 [boR (cU c),boR (eSt s)] H nx K:=by
 refine aB.pure (args0:=[boR (cU c),boR (eSt s)]) (R:=fun rr=>rr=dB (stB c s)) ?_ rfl (aI ⟨aE rfl,aE rfl,trivial⟩) (fun r hr=>hr▸h);clear h;refine GV rfl fun Q hQ=> ?_;unfold mC;obtain⟨hp3,hp12⟩:=hC hb;obtain⟨bpN,bpO,bpP,bpY,aU1,aU2,aXK⟩:=ht;have hd: ∀j∈s.wait++s.done++s.told,j.rsp.data.length<2^40:=fun j hj=>by have:=aXK j hj;omega
 by_cases h0:JS s.words s.holds∧(s.asked.length:Int)=3∧kW s.wait∧kW s.done
 case neg=>
  have hno: ¬BA c s:=fun hs=>h0 ⟨ZS hs.atm,by rw[hs.JI];rfl,hs.NR,hs.NW⟩;repeat' first| (first|apply bn1|refine bpL (fun h=> ?_) fun h=> ?_|refine JZ (w:=s.words) (u:=s.holds) (by omega) (by omega) (aE rfl) ?_|refine IK (l:=s.wait) (by omega) (aE rfl) ?_|refine IK (l:=s.done) (by omega) (aE rfl) ?_)<;>(simp only[go_sem])|refine bnE (fun h=> ?_) fun h=> ?_|fail
  all_goals first|exact aZ hQ (dB false) rfl rfl (congrArg dB (aWH hno).symm)|exact absurd ⟨by simp_all,by omega,by simp_all,by simp_all⟩ h0
 obtain⟨hatm,hal,hwS,hdS⟩:=h0;have hal:s.asked.length=3:=by omega
 have hsum3:=af9 hal;repeat' first| (first|apply bn1|apply bpK (by omega)|refine JZ (w:=s.words) (u:=s.holds) (by omega) (by omega) (aE rfl) ?_|refine IK (l:=s.wait) (by omega) (aE rfl) ?_|refine IK (l:=s.done) (by omega) (aE rfl) ?_)<;>(simp only[go_sem,eq_true hatm,eq_true hwS,eq_true hdS])|fail
 refine aM.sG 0 (β:=Nat) (fun b k=>en [(38,boP k),(37,boP s.asked.length),(36,dS (s.asked.map aJ)),(5,boP (s.asked.take k).sum),(3,.one (.c (.fQ (eSt s)))),(2,.one (.c (.fQ (cU c))))]) (fun b k=>.nil) (fun k=>k≤3∧(0≤(s.asked.take k).sum∧(s.asked.take k).sum≤12*k)∧ ∀i,i<k→0≤s.asked.getD i default∧s.asked.getD i default≤(c.cP.getD i default).length) (fun k=>3-k) 0 (bU (m5 _) (by repeat' first|exact bo2|refine xqI rfl rfl ?_| (with_reducible apply bo3)| ((with_reducible apply bo1);exact bpH rfl (by simp) rfl rfl rfl)|fail)) ⟨by omega,by simp,fun i hi=>by omega⟩ ?_;rintro k ⟨hk,⟨h1,h2⟩,hinv⟩ bpQ hKL;by_cases hlt:k<3
 ·have hst:=alS (l:=s.asked) (k:=k) (by omega);have hpk:=hp12 k;repeat' first| (first|apply bn1|apply fE)<;>(simp only[go_sem];try simp (disch:=omega) only[Iw])|apply bn2 (by omega)|refine bnE (fun h=> ?_) fun h=> ?_|refine⟨by omega,?_⟩|fail
  ·exact aZ hQ (dB false) rfl rfl (congrArg dB (aWH fun hs=>by have:=hs.DC k hlt;omega).symm)
  ·exact hKL _ _ _ (k+1) (by omega) (by rw[hst];exact bU (by omega) (by repeat' first|exact bo2|refine xqI rfl rfl ?_|fail)) ⟨by omega,by rw[hst];omega,iS hinv (by omega)⟩ (by omega)
 have hk3:k=3:=by omega
 subst hk3;have hask:aTF c s.asked:=hinv
 have hab: ∀i,0≤s.asked.getD i default∧s.asked.getD i default≤12:=fun i=>by
  by_cases hi:i<3;·have h1:=hask i hi;have h2:=hp12 i;omega
  ·have:s.asked.getD i default=0:=(by simp[List.getD,show s.asked.length≤i by omega]);omega
 repeat' first|apply bn1<;>(simp only[go_sem])|apply bn3 (by omega)|fail
 obtain⟨bm8,hLL⟩: ∃bm8:List TE,bm8=[s.wait,s.done,s.told]:=⟨_,rfl⟩
 have hLl:bm8.length=3:=by subst hLL;rfl
 have hLr:[[D1.isl (s.wait.map aS)],[D1.isl (s.done.map aS)],[D1.isl (s.told.map aS)]]=bm8.map IF:=by subst hLL;rfl
 obtain⟨seen,hse⟩: ∃seen:Nat→List Job,seen=fun k=>(bm8.take k).flatten:=⟨_,rfl⟩
 have hs0:seen 0=[]:=by subst hse;rfl
 have hs3:seen 3=s.wait++s.done++s.told:=by subst hse;subst hLL;simp
 have hss: ∀k,k<3→seen (k+1)=seen k++bm8.getD k default:=fun k hk=>by subst hse;simp only;rw[brQ (by omega),List.flatten_append];simp[List.getD,show k<bm8.length by omega]
 have hsk: ∀k,k<3→∃r,seen 3=seen k++bm8.getD k default++r:=fun k hk=>by
  have:k=0∨k=1∨k=2:=by omega
  rcases this with rfl|rfl|rfl;·exact⟨bm8.getD 1 default++bm8.getD 2 default,by rw[hss 2 (by omega),hss 1 (by omega),hss 0 (by omega),C0]⟩
  ·exact⟨bm8.getD 2 default,by rw[hss 2 (by omega),hss 1 (by omega)]⟩
  ·exact⟨[],by rw[hss 2 (by omega),bq6]⟩
 have hmem: ∀k,k<3→∀j∈bm8.getD k default,j∈s.wait++s.done++s.told:=fun k hk j hj=>by obtain⟨r,hr⟩:=hsk k hk;rw[←hs3,hr];exact brA _ (brH _ hj)
 have hL0:bm8.getD 0 default=s.wait:=by subst hLL;rfl
 have hL12: ∀j,j∈s.done++s.told↔∃k,(k=1∨k=2)∧j∈bm8.getD k default:=fun j=>by
  subst hLL;constructor
  ·intro h;rcases o3.1 h with h|h;·exact⟨1,.inl rfl,h⟩
   ·exact⟨2,.inr rfl,h⟩
  ·rintro⟨k,rfl|rfl,h⟩;·exact brA _ h
   ·exact brH _ h
 have hLs: ∀k,k<3→(bm8.getD k default).length<2^21:=fun k hk=>by
  have:k=0∨k=1∨k=2:=by omega
  subst hLL;rcases this with rfl|rfl|rfl<;>(simp[List.getD];omega)
 have hsl: ∀k,k≤3→(seen k).length≤k*2^21:=fun k hk=>by
  have e1:=hLs 0 (by omega);have e2:=hLs 1 (by omega);have e3:=hLs 2 (by omega);have bpR:(seen 1).length=(bm8.getD 0 default).length:=by rw[hss 0 (by omega),hs0,List.nil_append]
  have f2:(seen 2).length=(seen 1).length+(bm8.getD 1 default).length:=by rw[hss 1 (by omega),t2]
  have bpS:(seen 3).length=(seen 2).length+(bm8.getD 2 default).length:=by rw[hss 2 (by omega),t2]
  have:k=0∨k=1∨k=2∨k=3:=by omega
  rcases this with rfl|rfl|rfl|rfl;·rw[hs0];simp
  ·omega
  ·omega
  ·omega
 rw[hLr];clear hLr hLL hse
 refine aM.sG 1 (β:=Nat) (fun b k=>en [(65,boP k),(64,boP 3),(63,dS (bm8.map IF)),(8,.one (.c (.omap b))),(5,boP (s.asked.take 3).sum),(3,.one (.c (.fQ (eSt s)))),(2,.one (.c (.fQ (cU c))))]) (fun b k=>hp [(b,u4 ⟨2,true,UB (seen k)⟩)])
  (fun k=>k≤3∧(∀j∈seen k,InA s.asked j)∧((seen k).map key).Nodup∧(0<k→∀j∈s.wait,j.rsp=oW)∧ ∀i,i<k→0<i→∀j∈bm8.getD i default,as5 c j) (fun k=>3-k) 0 ?_ ⟨by omega,fun j hj=>by rw[hs0] at hj;simp at hj,by rw[hs0];simp,fun h=>by omega,fun i hi=>by omega⟩ ?_
 ·refine cR [31] (by omega) ?_ ⟨⟨by simp,by simp[sgL],_,rfl,GH (by rw[hs0];rfl)⟩,trivial⟩ (by simp[sgL]);refine oF (oF (oF (oF (oF (oF (oF K6 ?_) ?_) ?_) ?_) ?_) ?_) ?_
  all_goals first
   |exact DJ (rows:=bm8.map IF) (aG al7 bm8) (by simp;omega) (by simp) rfl rfl (boL (by simp)) (by simp;omega)
   |exact apS (aa6 (by omega) rfl)
   | (repeat' (first|exact bo2| ((with_reducible apply bo1);exact bo8 rfl)|fail);done)
 rintro k ⟨hk,hI1,hI2,hI3,hI4⟩ bqG hKM;by_cases hlt:k<3
 ·have hss1:=hss k hlt;have hmm:=hmem k hlt;have hlk:=hLs k hlt;obtain⟨rest,hrest⟩:=hsk k hlt;have hc0:k=0→bm8.getD k default=s.wait:=fun h=>by rw[h];exact hL0
  have hc1:0<k→∀j∈bm8.getD k default,j∈s.done++s.told:=fun h j hj=>(hL12 j).2 ⟨k,by omega,hj⟩;have hI4': ∀i,i<k→0<i→∀j∈bm8.getD i default,as5 c j:=hI4
  have hI5:(∀j∈bm8.getD k default,as5 c j)→∀i,i<k+1→0<i→∀j∈bm8.getD i default,as5 c j:=fun h i hi h0=>by
   rcases br8.1 hi with h2|h2;·exact hI4 i h2 h0
   ·subst h2;exact h
  generalize hcur:bm8.getD k default=cur at hss1 hmm hlk hc0 hc1 hrest hI5;repeat' first|apply bn1<;>(simp only[go_sem,hcur])|apply bn2 (by omega)|refine⟨by omega,?_⟩|fail
  refine aM.sG 1 (β:=Nat) (fun b i=>en [(72,boP i),(71,boP cur.length),(70,dS (cur.map aS)),(65,boP k),(64,boP 3),(63,dS (bm8.map IF)),(9,boP k),(8,.one (.c (.omap b))),(5,boP (s.asked.take 3).sum),(3,.one (.c (.fQ (eSt s)))),(2,.one (.c (.fQ (cU c))))]) (fun b i=>hp [(b,u4 ⟨2,true,UB (seen k++cur.take i)⟩)])
   (fun i=>i≤cur.length∧(∀j∈seen k++cur.take i,InA s.asked j)∧((seen k++cur.take i).map key).Nodup∧ ∀j∈cur.take i,if k=0 then j.rsp=oW else as5 c j) (fun i=>cur.length-i) 0 (by(refine cR [42] (by omega) (by repeat' first|exact bo2|refine xqI rfl rfl ?_| (with_reducible apply bo3)| ((with_reducible apply bo0);exact bpD (by omega) rfl)| ((with_reducible apply bo1);apply bo7)|fail) ⟨⟨by simp,by simp[sgL],_,rfl,GH (by simp)⟩,trivial⟩ (by simp[sgL]))) ⟨by omega,by simpa using hI1,by simpa using hI2,by simp⟩ ?_
  rintro i ⟨hi,hJ1,hJ2,hJ3⟩ bqR hKN;by_cases hil:i<cur.length
  ·have hjc:=cC hil;have hjm:=hmm _ hjc;have hjd:=hd _ hjm;have hts:cur.take (i+1)=cur.take i++[cur.getD i default]:=(by rw[brQ hil];simp[List.getD,hil]);have hall:s.wait++s.done++s.told=(seen k++cur.take i)++cur.getD i default::(cur.drop (i+1)++rest):=(by rw[←hs3,hrest,C0,C0,←List.cons_append,←C0 (cur.take i),←aXB hil]);have hw0:k=0→cur.getD i default∈s.wait:=fun h=>by rw[←hc0 h];exact hjc
   have hw1:0<k→cur.getD i default∈s.done++s.told:=fun h=>hc1 h _ hjc;generalize hjj:cur.getD i default=j at*;have hno1: ¬InA s.asked j→¬BA c s:=fun h hs=>h (hs.inA j hjm);have hno2:key j∈(seen k++cur.take i).map key→¬BA c s:=fun h hs=>by have hn:=hs.nodup;unfold keys at hn;rw[hall,bqX] at hn;exact(brG.1 hn).2.2 _ h _ (by simp) rfl
   by_cases hin:InA s.asked j
   case neg=>
    unfold InA at hin;have hal3:(s.asked.length:Int)=3:=(by omega);have har:=hab j.who.toNat;have hpk:=hp12 j.who.toNat;repeat' first| (first|apply bn1|apply bpJ (by omega)|refine bpL (fun h=> ?_) fun h=> ?_|apply oR|apply fE)<;>(simp only[go_sem,hjj];try simp (disch:=omega) only[Iw])|apply bn2 (by omega)|refine⟨by omega,?_⟩|fail
    all_goals first
     |exact aZ hQ (dB false) rfl rfl (congrArg dB (aWH (hno1 hin)).symm)
     | (exfalso;omega)
   have hni:key j∉(seen k++cur.take i).map key∨key j∈(seen k++cur.take i).map key:=(Classical.em _).symm
   have hJ1': ∀x∈seen k++cur.take (i+1),InA s.asked x:=fun x hx=>by
    rw[hts,←C0] at hx;rcases o3.1 hx with hx|hx;·exact hJ1 x hx
    ·simp at hx;subst hx;exact hin
   have hja:oA c j.who j.n:=by obtain⟨⟨q1,q2⟩,q3,q4⟩:=hin;have:=hask j.who.toNat (by omega);exact⟨⟨q1,q2⟩,q3,by omega⟩
   obtain⟨⟨q1,q2⟩,q3,q4⟩:=hin;have har:=hask j.who.toNat (by omega);have hpk:=hp12 j.who.toNat;rcases hni with hni|hni
   case inr=>
    have hget:=aXE hni;repeat' first| (first|apply bn1|apply bpK (by omega)|apply oR|apply fE)<;>(simp only[go_sem,hjj,hget,Option.getD_some];try simp (disch:=omega) only[Iw])|apply bn2 (by omega)|refine⟨by omega,?_⟩|fail
    all_goals exact aZ hQ (dB false) rfl rfl (congrArg dB (aWH (hno2 hni)).symm)
   have hget:=alK hni;have hset:=alD hni;have hJ2':((seen k++cur.take (i+1)).map key).Nodup:=by rw[hts,←C0,bqX];refine brG.2 ⟨hJ2,by simp,fun a ha b hb he=> ?_⟩;simp at hb;subst hb;subst he;exact hni ha
   have hJ3':(if k=0 then j.rsp=oW else as5 c j)→∀x∈cur.take (i+1),if k=0 then x.rsp=oW else as5 c x:=fun h x hx=>by
    rw[hts] at hx;rcases o3.1 hx with hx|hx;·exact hJ3 x hx
    ·simp at hx;subst hx;exact h
   by_cases hk0:k=0
   ·by_cases hjr:j.rsp=oW
    ·repeat' first| (first|apply bn1|apply bpJ (by omega)|apply bpK (by omega)|apply oR|apply fE|apply HK hjd)<;>(simp only[go_sem,hjj,hget,hset,Option.getD_none,eq_true hjr];try simp (disch:=omega) only[Iw])|apply bn2 (by omega)|refine⟨by omega,?_⟩|fail
     exact hKN _ _ _ (i+1) (by omega) (by(refine cR [52] (by omega) (by repeat' first|exact bo2|refine xqI rfl rfl ?_| (with_reducible apply bo3)| ((with_reducible apply bo0);exact bpD (by omega) rfl)| ((with_reducible apply bo1);apply bo7)|fail) ⟨⟨by simp,by simp[sgL],_,rfl,GH (by rw[hts,C0])⟩,trivial⟩ (by simp[sgL]))) ⟨by omega,hJ1',hJ2',hJ3' (by rw[if_pos hk0];exact hjr)⟩ (by omega)
    ·repeat' first| (first|apply bn1|apply bpJ (by omega)|apply bpK (by omega)|apply oR|apply fE|apply HK hjd)<;>(simp only[go_sem,hjj,hget,hset,Option.getD_none,eq_false hjr];try simp (disch:=omega) only[Iw])|apply bn2 (by omega)|refine⟨by omega,?_⟩|fail
     exact aZ hQ (dB false) rfl rfl (congrArg dB (aWH fun hs=>hjr (hs.P4 j (hw0 hk0))).symm)
   ·have hkp:0<k:=(by omega);have hno3: ¬as5 c j→¬BA c s:=fun h hs=>h (hs.R8 j (hw1 hkp));by_cases hjr:pA j.rsp
    ·repeat' first| (first|apply bn1|apply bpJ (by omega)|apply bpK (by omega)|apply oR|apply fE|apply I8 hjd|apply iJ hp3 hja)<;>(simp only[go_sem,hjj,hget,hset,Option.getD_none,eq_true hjr];try simp (disch:=omega) only[Iw])|apply bn2 (by omega)|refine bnE (fun h=> ?_) fun h=> ?_|refine⟨by omega,?_⟩|fail
     ·exact aZ hQ (dB false) rfl rfl (congrArg dB (aWH (hno3 fun h=>by have:=h.2;omega)).symm)
     ·exact hKN _ _ _ (i+1) (by omega) (by(refine cR [52] (by omega) (by repeat' first|exact bo2|refine xqI rfl rfl ?_| (with_reducible apply bo3)| ((with_reducible apply bo0);exact bpD (by omega) rfl)| ((with_reducible apply bo1);apply bo7)|fail) ⟨⟨by simp,by simp[sgL],_,rfl,GH (by rw[hts,C0])⟩,trivial⟩ (by simp[sgL]))) ⟨by omega,hJ1',hJ2',hJ3' (by rw[if_neg hk0];exact⟨hjr,by omega⟩)⟩ (by omega)
    ·repeat' first| (first|apply bn1|apply bpJ (by omega)|apply bpK (by omega)|apply oR|apply fE|apply I8 hjd)<;>(simp only[go_sem,hjj,hget,hset,Option.getD_none,eq_false hjr];try simp (disch:=omega) only[Iw])|apply bn2 (by omega)|refine⟨by omega,?_⟩|fail
     exact aZ hQ (dB false) rfl rfl (congrArg dB (aWH (hno3 fun h=>hjr h.1)).symm)
  ·have hi2:i=cur.length:=(by omega);subst hi2;rw[bq4,←hss1] at hJ1 hJ2;rw[bq4] at hJ3;rw[bq4,←hss1];repeat' first|apply bn1<;>(simp only[go_sem];try simp (disch:=omega) only[Iw])|apply bn3 (by omega)|fail
   refine hKM _ _ _ (k+1) (by omega) (by(refine cR [52] (by omega) (by repeat' first|exact bo2|refine xqI rfl rfl ?_| (with_reducible apply bo3)| ((with_reducible apply bo0);exact bpD (by omega) rfl)| ((with_reducible apply bo1);apply bo7)|fail) ⟨⟨by simp,by simp[sgL],_,rfl,GH rfl⟩,trivial⟩ (by simp[sgL]))) ⟨by omega,hJ1,hJ2,fun _=> ?_,?_⟩ (by omega)
   ·by_cases hk0:k=0;·intro j hj;have:=hJ3 j (by rw[hc0 hk0];exact hj);rwa [if_pos hk0] at this
    ·exact hI3 (by omega)
   ·intro i2 h1 h2;by_cases hk0:k=0;·omega
    ·exact hI5 (fun j hj=>by have:=hJ3 j hj;rwa [if_neg hk0] at this) i2 h1 h2
 ·have hk3:k=3:=by omega
  subst hk3;rw[hs3] at hI1 hI2;have hl3:=congrArg List.length hs3;rw[t2,t2] at hl3;repeat' first|apply bn1<;>(simp only[go_sem])|apply bn3 (by omega)|fail
  refine aZ hQ (dB (decide (((UB (seen 3)).length:Int)=(s.asked.take 3).sum))) rfl rfl (congrArg dB ?_);rw[amR];by_cases hcnt:((seen 3).length:Int)=(s.asked.take 3).sum;·rw[decide_eq_true hcnt];refine(aXJ (aUA hatm hal hask hwS hdS hI1 hI2 (by omega) (hI3 (by omega)) fun j hj=> ?_)).symm;obtain⟨k,hk,hj⟩:=(hL12 j).1 hj;exact hI4 k (by omega) (by omega) j hj
  ·rw[decide_eq_false hcnt];exact(aWH fun hs=>by have:=hs.count;omega).symm
end
end Go.Proofs.YtmccpdapaccnoaaGreat
