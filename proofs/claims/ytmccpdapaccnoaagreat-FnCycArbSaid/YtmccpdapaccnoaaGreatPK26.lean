/- Texts laid together by a program: rules, contracts and the walk that leads to the law. -/
import Derived.Test.YtmccpdapaccnoaaGreatPK9
import Derived.Test.YtmccpdapaccnoaaGreatPK15
import Derived.Test.YtmccpdapaccnoaaGreatPK20
import Derived.Test.YtmccpdapaccnoaaGreatPK21
set_option linter.unusedVariables false
set_option linter.unusedSimpArgs false
set_option linter.unusedSectionVars false
set_option maxRecDepth 100000
set_option maxHeartbeats 8000000
namespace Go.AM
structure beV (c:Cfg) (who:Nat) (p:fR) (k:Nat):Prop where
 all: ∀i,i<k→a5K c who p (p.out.getD i default)
 srt: ∀i j,i<j→j<k→(p.out.getD i default).n<(p.out.getD j default).n
 ids: ∀i j,i<j→j<k→(bT c who (p.out.getD i default).n).id=(bT c who (p.out.getD j default).n).id→(p.out.getD i default).left=(p.out.getD j default).left
theorem beV.next {c:Cfg} {who:Nat} {p:fR} {k:Nat} (h:beV c who p k) (h1:a5K c who p (p.out.getD k default)) (h2:0<k→(p.out.getD (k-1) default).n<(p.out.getD k default).n)
 (h3: ∀i,i<k→(bT c who (p.out.getD i default).n).id=(bT c who (p.out.getD k default).n).id→(p.out.getD i default).left=(p.out.getD k default).left):beV c who p (k+1):=by
 refine⟨iS h.all h1,fun i j hij hj=> ?_,fun i j hij hj he=> ?_⟩
 ·by_cases hjk:j<k;·exact h.srt i j hij hjk
  ·obtain rfl:j=k:=by omega
   have h4:=h2 (by omega);by_cases hi:i=j-1;·subst hi;omega
   ·have:=h.srt i (j-1) (by omega) (by omega);omega
 ·by_cases hjk:j<k;·exact h.ids i j hij hjk he
  ·obtain rfl:j=k:=by omega
   exact h3 i hij he
theorem beV.end {c:Cfg} {who:Nat} {p:fR} (h:beV c who p p.out.length):(∀j∈p.out,a5K c who p j)∧(p.out.Pairwise fun a b=>a.n<b.n)∧ ∀a∈p.out,∀b∈p.out,(bT c who a.n).id=(bT c who b.n).id→a.left=b.left:=by
 have hg: ∀i (hi:i<p.out.length),p.out.getD i default=p.out[i]:=fun i hi=>by simp[List.getD,hi]
 refine⟨fun j hj=> ?_,Z6.2 fun i j hi hj hij=> ?_,fun a ha b hb he=> ?_⟩;·obtain⟨i,hi,rfl⟩:=bqY.1 hj;rw[←hg i hi];exact h.all i hi
 ·rw[←hg i hi,←hg j hj];exact h.srt i j hij hj
 ·obtain⟨i,hi,rfl⟩:=bqY.1 ha;obtain⟨j,hj,rfl⟩:=bqY.1 hb;rw[←hg i hi,←hg j hj] at he ⊢;rcases Nat.lt_trichotomy i j with hij|hij|hij;·exact h.ids i j hij hj he
  ·subst hij;rfl
  ·exact(h.ids j i hij hi he.symm).symm
def a23 (s:CSt) (who n:Int) (st:Nat):Prop:=(0≤who∧who≤2)∧ ∃j∈(aF s who.toNat).out,j.n=n∧j.left=st
noncomputable def oaB (s:CSt) (who n:Int) (st:Nat):Bool:=@decide (a23 s who n st) (Classical.propDecidable _)
theorem be2 {s:CSt} {who n:Int} {st:Nat} (h:a23 s who n st):oaB s who n st=true:=by simp[oaB,h]
theorem beO {s:CSt} {who n:Int} {st:Nat} (h: ¬a23 s who n st):oaB s who n st=false:=by simp[oaB,h]
end Go.AM
namespace Go.Proofs.YtmccpdapaccnoaaGreat
open Go Go.AM
attribute [local irreducible] aM wv aB vd wvH
section
variable {H : aA} {nx : Nat} {K : D → aA → Nat → Prop}
theorem a5O {c:Cfg} {s:CSt} {who:Nat} (hb:aQ c) (hpl:s.bM.length=3) (hw:who<3) (hpq:(aF s who).queue.length<2^21) (hpo:(aF s who).out.length<2^21) (h:K (dB (ptB c who (aF s who))) H nx):aB Tryz.prog aIY [boR (cU c),boR (eI s),boP who] H nx K:=by
 refine aB.pure (args0:=[boR (cU c),boR (eI s),boP who]) (R:=fun rr=>rr=dB (ptB c who (aF s who))) ?_ rfl (aI ⟨aE rfl,aE rfl,aE rfl,trivial⟩) (fun r hr=>hr▸h);clear h;refine aLA rfl fun Q hQ=> ?_;unfold aJG;obtain⟨hp3,hp12⟩:=hC hb;have hpw:=hp12 who;have hmo:DH c.map:=hb.1;have hml:=hb.1.1;obtain⟨p,boS⟩: ∃p,p=aF s who:=⟨_,rfl⟩
 have hP':s.bM.getD who default=p:=boS.symm;rw[←boS] at hpq hpo;have hF: ¬mD c who p→dB false=dB (ptB c who (aF s who)):=fun h=>by rw[←boS,a8A h]
 have aAI:mD c who p→dB true=dB (ptB c who (aF s who)):=fun h=>by rw[←boS,beT h]
 obtain⟨P,hPr⟩: ∃P,c.cP.getD who default=P:=⟨_,rfl⟩
 rw[hPr] at hpw;have hre: ∀n:Int,bT c who n=P.getD n.toNat default:=fun n=>by unfold bT;rw[Int.toNat_natCast,hPr]
 by_cases h0:(0≤p.next∧p.next≤(P.length:Int))∧((p.queue.length:Int)≤2∧(p.queue.length:Int)≤p.next)∧(p.out.length:Int)≤4∧0≤p.last∧p.last≤3
 case neg=>
  have hno: ¬mD c who p:=fun h=>h0 ⟨by have:=h.next;rw[hPr] at this;exact this,by have:=h.ql;omega,by have:=h.ol;omega,h.last⟩;repeat' first| (first|apply bn1|refine bpL (fun h=> ?_) fun h=> ?_|apply aBC)<;>(simp only[go_sem,hp3,hpl,hP',hPr])|apply bn2 (by omega)|refine⟨by omega,?_⟩|fail
  all_goals first|exact aZ hQ _ rfl rfl (hF hno)| (exfalso;omega)
 obtain⟨⟨hn1,hn2⟩,⟨hq1,hq2⟩,hol,hl1,hl2⟩:=h0;have bpN:(0≤p.next∧p.next≤(P.length:Int))=True:=eq_true ⟨hn1,hn2⟩;have bpO:(0≤p.last∧p.last≤3)=True:=eq_true ⟨hl1,hl2⟩;repeat' first| (first|apply bn1|apply bpK (by omega)|apply aBC)<;>(simp only[go_sem,hp3,hpl,hP',hPr,bpN,bpO])|refine⟨by omega,?_⟩|fail
 refine aM.gP (β:=Nat) (fun k=>en [(8,boP k),(7,.one (.c (.ptr 4 8 0 0))),(3,.one (.c (.ptr 3 0 0 0))),(2,boP who)]) (fun k H1 _=>k≤p.queue.length∧(∀i,i<k→p.queue.getD i default=p.next-p.queue.length+i)∧H1 0=some ⟨3,1,[cU c]⟩∧H1 8=some ⟨4,1,[cD p]⟩) (fun k=>p.queue.length-k) 0 ⟨noF,_,by repeat' first|exact bo2|refine xqI rfl rfl ?_|refine xqP (by omega) rfl rfl ?_|fail,aK,by omega,fun i hi=>by omega,rfl,rfl⟩ ?_;rintro k H1 nx1 hnx1 ⟨hk,hqi,bqC,bp4⟩ bpQ hKL;by_cases hlt:k<p.queue.length
 ·by_cases hqk:p.queue.getD k default=p.next-p.queue.length+k
  ·repeat' first|apply bn1<;>(simp only[go_sem,bp4];try simp (disch:=omega) only[Iw])|apply bn2 (by omega)|apply bn3 (by omega)|refine⟨by omega,?_⟩|fail
   all_goals first|exact hKL _ _ _ (k+1) noF _ (by omega) (by omega) (by repeat' first|exact bo2|refine xqI rfl rfl ?_|refine xqP (by omega) rfl rfl ?_|fail) aK ⟨by omega,iS hqi hqk,bqC,bp4⟩| (exfalso;omega)
  ·repeat' first|apply bn1<;>(simp only[go_sem,bp4];try simp (disch:=omega) only[Iw])|apply bn2 (by omega)|refine⟨by omega,?_⟩|fail
   all_goals first|exact aZ hQ _ rfl rfl (hF fun h=>hqk (h.queue k hlt))| (exfalso;omega)
 ·have hk2:k=p.queue.length:=by omega
  rw[hk2] at hqi;repeat' first|apply bn1<;>(simp only[go_sem,bp4])|apply bn3 (by omega)|fail
  refine aM.gP (β:=Nat) (fun k=>en [(9,boP k),(7,.one (.c (.ptr 4 8 0 0))),(3,.one (.c (.ptr 3 0 0 0))),(2,boP who)]) (fun k H1 _=>k≤p.out.length∧beV c who p k∧H1 0=some ⟨3,1,[cU c]⟩∧H1 8=some ⟨4,1,[cD p]⟩) (fun k=>p.out.length-k) 0 ⟨noF,_,by repeat' first|exact bo2|refine xqI rfl rfl ?_|refine xqP (by omega) rfl rfl ?_|fail,aK,by omega,⟨fun i hi=>by omega,fun i j _ hj=>by omega,fun i j _ hj=>by omega⟩,bqC,bp4⟩ ?_;clear bqC bp4;rintro k H2 nx2 hnx2 ⟨hk,hI,bqC,bp4⟩ bqG hKM;have hA:bQ nx2 [0,8]:=AM.apart (by simp) (by simp;omega);simp only[bQ,eZ] at hA;by_cases hlt:k<p.out.length
  ·have hm:=cC hlt
   have hbad:mD c who p→a5K c who p (p.out.getD k default)∧(0<k→(p.out.getD (k-1) default).n<(p.out.getD k default).n)∧ ∀i,i<k→(bT c who (p.out.getD i default).n).id=(bT c who (p.out.getD k default).n).id→(p.out.getD i default).left=(p.out.getD k default).left:=fun h=>
    ⟨h.out _ hm,fun h0=>by
      have:=Z6.1 h.acX (k-1) k (by omega) hlt (by omega)
      simpa [List.getD,hlt,show k-1<p.out.length by omega] using this,fun i hi he=>h.akF _ (cC (by omega)) _ hm he⟩
   have hnext:=hI.next;generalize ho:p.out.getD k default=o at hbad hnext;have ek1:((k:Int)-1).toNat=k-1:=(by omega);by_cases ho1:o.who=who
   case neg=>
    have e1:(o.who=(who:Int))=False:=eq_false ho1;repeat' first|apply bn1<;>(simp only[go_sem,t1,bqT,bqC,bp4,ho,e1,hA])|apply bn2 (by omega)|refine⟨by omega,?_⟩|fail
    all_goals exact aZ hQ _ rfl rfl (hF fun h=>ho1 (hbad h).1.1)
   have e1:(o.who=(who:Int))=True:=eq_true ho1;by_cases ho2:0≤o.n∧o.n≤p.next-p.queue.length-1
   case neg=>
    have e2:(0≤o.n∧o.n≤p.next-p.queue.length-1)=False:=eq_false ho2;repeat' first| (first|apply bn1|apply aBC)<;>(simp only[go_sem,t1,bqT,bqC,bp4,ho,e1,e2,hA];try simp (disch:=omega) only[Iw])|apply bn2 (by omega)|refine⟨by omega,?_⟩|fail
    all_goals first|exact aZ hQ _ rfl rfl (hF fun h=>ho2 (by have:=(hbad h).1.2.1;omega))| (exfalso;omega)
   have e2:(0≤o.n∧o.n≤p.next-p.queue.length-1)=True:=eq_true ho2;by_cases ho3:0<k→(p.out.getD (k-1) default).n<o.n
   case neg=>
    have hk0:0<k:=(by omega);have ho3:o.n≤(p.out.getD (k-1) default).n:=(by omega);have e3:(o.n≤(p.out.getD ((k:Int)-1).toNat default).n)=True:=eq_true (by rw[ek1];exact ho3);repeat' first| (first|apply bn1|apply bpJ (by omega)|refine bpL (fun h=> ?_) fun h=> ?_|apply aBC)<;>(simp only[go_sem,t1,bqT,bqC,bp4,ho,e1,e2,e3,hA];try simp (disch:=omega) only[Iw])|apply bn2 (by omega)|refine⟨by omega,?_⟩|fail
    all_goals first|exact aZ hQ _ rfl rfl (hF fun h=>by have:=(hbad h).2.1 hk0;omega)| (exfalso;omega)|exact absurd (of_eq_true e3) (by assumption)
   obtain⟨q,hq⟩: ∃q,P.getD o.n.toNat default=q:=⟨_,rfl⟩
   have hq':bT c who o.n=q:=(by rw[hre];exact hq);have hask:oA c who o.n:=⟨by omega,by omega,by rw[Int.toNat_natCast,hPr];omega⟩
   have hqo:dH q:=hq'▸GK hb hask;by_cases ho4:o.left=gZ c.map q
   case neg=>
    have e4:(o.left=gZ c.map q)=False:=eq_false ho4;by_cases hk0:0<k
    ·have e3:(o.n≤(p.out.getD ((k:Int)-1).toNat default).n)=False:=eq_false (by rw[ek1];have:=ho3 hk0;omega);repeat' first| (first|apply bn1|apply bpJ (by omega)|refine bpL (fun h=> ?_) fun h=> ?_|apply aBC|apply a20 hmo hqo (by omega))<;>(simp only[go_sem,t1,bqT,bqC,bp4,ho,hp3,hPr,hq,e1,e2,e3,e4,hA];try simp (disch:=omega) only[Iw])|apply bn2 (by omega)|refine⟨by omega,?_⟩|fail
     all_goals first|exact aZ hQ _ rfl rfl (hF fun h=>ho4 (by have:=(hbad h).1.2.2;rw[hq'] at this;exact this))| (exfalso;omega)
    ·repeat' first| (first|apply bn1|apply bpK (by omega)|apply aBC|apply a20 hmo hqo (by omega))<;>(simp only[go_sem,t1,bqT,bqC,bp4,ho,hp3,hPr,hq,e1,e2,e4,hA];try simp (disch:=omega) only[Iw])|apply bn2 (by omega)|refine⟨by omega,?_⟩|fail
     all_goals first|exact aZ hQ _ rfl rfl (hF fun h=>ho4 (by have:=(hbad h).1.2.2;rw[hq'] at this;exact this))| (exfalso;omega)
   have e4:(o.left=gZ c.map q)=True:=eq_true ho4;have hoo:a5K c who p o:=⟨ho1,by omega,by rw[hq'];exact ho4⟩
   repeat' first| (first|apply bn1|refine bpL (fun h=> ?_) fun h=> ?_|apply aBC|apply a20 hmo hqo (by omega))<;>(simp only[go_sem,t1,bqT,bqC,bp4,ho,hp3,hPr,hq,e1,e2,e4,hA];try simp (disch:=omega) only[Iw])|apply bn2 (by omega)|refine⟨by omega,?_⟩|fail
   all_goals try (exfalso;have h3:=ho3 (by omega);rw[←ek1] at h3;omega)
   all_goals (
    refine aM.gP (β:=Nat) (fun j=>en [(11,boP j),(10,.one (.c (.ptr 3 (nx2+10) 0 0))),(9,boP k),(7,.one (.c (.ptr 4 8 0 0))),(3,.one (.c (.ptr 3 0 0 0))),(2,boP who)]) (fun j H3 _=>j≤k∧(∀i,i<j→(bT c who (p.out.getD i default).n).id=(bT c who o.n).id→(p.out.getD i default).left=o.left)∧H3 0=some ⟨3,1,[cU c]⟩∧H3 8=some ⟨4,1,[cD p]⟩∧H3 (nx2+10)=some ⟨3,1,[eCJ o]⟩) (fun j=>k-j) 0 ⟨noF,_,by repeat' first|exact bo2|refine xqI rfl rfl ?_|refine xqP (by omega) rfl rfl ?_|fail,aK,by omega,fun i hi=>by omega,by rw[aA.aC (by omega)];exact bqC,by rw[aA.aC (by omega)];exact bp4,aA.bH⟩ ?_
    rintro j H3 nx3 hnx3 ⟨hj,aIF,bfZ,bpX,f10⟩ bqR hKN
    by_cases hjk:j<k
    ·obtain⟨x,hx⟩: ∃x,p.out.getD j default=x:=⟨_,rfl⟩
     have hxo:=hI.all j hjk;rw[hx] at hxo;obtain⟨q2,hq2⟩: ∃q2,P.getD x.n.toNat default=q2:=⟨_,rfl⟩
     have hq2':bT c who x.n=q2:=(by rw[hre];exact hq2);obtain⟨_,hx2,_⟩:=hxo;by_cases hc:q2.id=q.id∧x.left≠o.left
     ·have c1:(q2.id=q.id)=True:=eq_true hc.1;have c2:(x.left=o.left)=False:=eq_false hc.2;repeat' first|apply bn1<;>(simp only[go_sem,t1,bqT,bfZ,bpX,f10,hx,hp3,hPr,hq,hq2,c1,c2])|apply bn2 (by omega)|refine⟨by omega,?_⟩|fail
      all_goals exact aZ hQ _ rfl rfl (hF fun h=>hc.2 (by
       have h1:=(hbad h).2.2 j hjk
       rw[hx,hq',hq2'] at h1
       exact h1 hc.1))
     ·repeat' first| (first|apply bn1|apply bpJ (by omega)|refine bpL (fun h=> ?_) fun h=> ?_)<;>(simp only[go_sem,t1,bqT,bfZ,bpX,f10,hx,hp3,hPr,hq,hq2];try simp (disch:=omega) only[Iw])|apply bn2 (by omega)|apply bn3 (by omega)|refine⟨by omega,?_⟩|fail
      all_goals first
       |exact hKN _ _ _ (j+1) noF _ (by omega) (by omega) (by repeat' first|exact bo2|refine xqI rfl rfl ?_|refine xqP (by omega) rfl rfl ?_|fail) aK ⟨by omega,iS aIF (by rw[hx,hq',hq2'];intro he;omega),bfZ,bpX,f10⟩
       | (exfalso;omega)
    ·have hj2:j=k:=(by omega);subst hj2;have hI2:=hnext hoo (fun h=>by have:=ho3 h;omega) aIF;repeat' first|apply bn1<;>(simp only[go_sem,f10];try simp (disch:=omega) only[Iw])|apply bn3 (by omega)|fail
     exact hKM _ _ _ (j+1) noF _ (by omega) (by omega) (by repeat' first|exact bo2|refine xqI rfl rfl ?_|refine xqP (by omega) rfl rfl ?_|fail) aK ⟨by omega,hI2,bfZ,bpX⟩)
  ·repeat' first|apply bn1<;>(simp only[go_sem,bp4])|apply bn3 (by omega)|fail
   have hk2:k=p.out.length:=(by omega);rw[hk2] at hI;obtain⟨q1,q2,q3⟩:=hI.end;exact aZ hQ _ rfl rfl (aAI ⟨⟨hn1,by rw[hPr];exact hn2⟩,by omega,by omega,⟨hl1,hl2⟩,hqi,q1,q2,q3⟩)
end
end Go.Proofs.YtmccpdapaccnoaaGreat
namespace Go.AM
theorem a23.asks {c:Cfg} {s:CSt} {st:Nat} {who n:Int} (hp:a19 c s) (h:a23 s who n st):oA c who n:=by obtain⟨hw,j,hj,h1,_⟩:=h;have hpo:=hp.port who.toNat (by omega);obtain⟨_,h2,_⟩:=hpo.out _ hj;have:=hpo.asks (n:=n) (by omega) (by omega) (by omega);rwa [show ((who.toNat:Nat):Int)=who by omega] at this
def a80 (x:Int×Int):Job:=⟨x.1,x.2,oW⟩
theorem bfM {G:aA} {bpZ cap nx':Nat} {W:List Job} {k n:Int} (g2:G bpZ=some ⟨5,cap,W.map aS++[[cI k,cI n,cI 0,cI 0,.osl 0 0 0 0 0]]⟩):CvX noF nx' G (G.set bpZ ⟨5,cap,(W++[(⟨k,n,oW⟩:Job)]).map aS⟩):=KO (i:=bpZ) (o':=⟨5,cap,(W++[(⟨k,n,oW⟩:Job)]).map aS⟩) g2 (uO (R:=W.map aS) (r':=aS (⟨k,n,oW⟩:Job)) (by rw[bqX];rfl) rfl (fun r hr=>(aG dZ _ r hr).2) rfl (aH (bB rfl) (aH (bB rfl) (aH (bB rfl) (aH (bB rfl) (aH (.frz (.nil ..)) eP))))))
end Go.AM
namespace Go.Proofs.YtmccpdapaccnoaaGreat
open Go Go.AM
attribute [local irreducible] aM wv aB vd wvH
section
variable {H : aA} {nx : Nat} {K : D → aA → Nat → Prop}
theorem w6 {s:CSt} {who:Int} {n:Int} {st:Nat} (hpl:s.bM.length=3) (hol: ∀w,w<3→(aF s w).out.length<2^40) {d0:D} (hd0:CvD H (fun _=>True) id 0 (boR (eI s)) d0) (h:K (dB (oaB s who n st)) H nx):aB Tryz.prog aJX [d0,boP who,boP n,boP st] H nx K:=by
 refine aB.pure (args0:=[boR (eI s),boP who,boP n,boP st]) (R:=fun rr=>rr=dB (oaB s who n st)) ?_ rfl (aI ⟨hd0,aE rfl,aE rfl,aE rfl,trivial⟩) (fun r hr=>hr▸h);clear h;refine bcJ rfl fun Q hQ=> ?_;unfold a3F;by_cases hw:0≤who∧who≤2
 case neg=>
  have e1:(0≤who∧who≤2)=False:=eq_false hw;repeat' first| (first|apply bn1|apply aBC)<;>(simp only[go_sem,e1])|fail
  all_goals first|exact aZ hQ _ rfl rfl (congrArg dB (beO fun h=>hw h.1).symm)| (exfalso;omega)
 have e1:(0≤who∧who≤2)=True:=eq_true hw;obtain⟨p,boS⟩: ∃p,p=aF s who.toNat:=⟨_,rfl⟩
 have hP':s.bM.getD who.toNat default=p:=boS.symm;have hol:=hol who.toNat (by omega);rw[←boS] at hol;repeat' first| (first|apply bn1|apply aBC)<;>(simp only[go_sem,e1,hpl,hP'])|refine⟨by omega,?_⟩|fail
 (refine aM.loop (α:={k:Nat//k≤p.out.length∧(∀i,i<k→¬((p.out.getD i default).n=n∧(p.out.getD i default).left=st))}) (fun u=>en [(10,boP u.1),(9,dS (p.out.map eCJ)),(3,boP st),(2,boP n)]) (fun _=>.nil) _ (fun u=>p.out.length-u.1) ⟨0,by omega,(by intros;first|trivial|omega)⟩ (bU (m5 _) (by repeat' first|exact bo2|refine xqI rfl rfl ?_|fail)) ?_);(rintro⟨k,hk,hinv⟩ bpQ hKL);by_cases hlt:k<p.out.length
 ·by_cases hc:(p.out.getD k default).n=n∧(p.out.getD k default).left=st
  ·have c1:((p.out.getD k default).n=n)=True:=eq_true hc.1;have c2:((p.out.getD k default).left=(st:Int))=True:=eq_true hc.2;repeat' first|apply bn1<;>(simp only[go_sem,c1,c2])|apply bn2 (by omega)|refine⟨by omega,?_⟩|fail
   all_goals first|exact aZ hQ _ rfl rfl (congrArg dB (be2 ⟨hw,_,by rw[←boS];exact cC hlt,hc⟩).symm)| (exfalso;omega)
  ·repeat' first| (first|apply bn1|refine bpL (fun h=> ?_) fun h=> ?_)<;>(simp only[go_sem];try simp (disch:=omega) only[Iw])|apply bn2 (by omega)|apply bn3 (by omega)|refine⟨by omega,?_⟩|fail
   all_goals first| (exfalso;omega)| (refine hKL _ _ _ ⟨k+1,by omega,iS hinv hc⟩ (by omega) (by(try dsimp only);omega) (bU (m5 _) (by repeat' first|exact bo2|refine xqI rfl rfl ?_|fail)))
 ·repeat' first|apply bn1<;>(simp only[go_sem])|apply bn3 (by omega)|fail
  all_goals exact aZ hQ _ rfl rfl (congrArg dB (beO fun⟨_,j,hj,h⟩=>by
   rw[←boS] at hj
   obtain⟨i,hi,rfl⟩:=bqY.1 hj
   have:=hinv i (by omega)
   rw[show p.out.getD i default=p.out[i] by simp[List.getD,hi]] at this
   exact this h).symm)
theorem a4N {r:Rsp} (hd:r.data.length<2^40) (h:K (dB (decide (pA r))) H nx):aB Tryz.prog aIP [boR [cI r.id,cI r.code,.isl (r.data.map aJ)]] H nx K:=aMP hd h
theorem a5I {c:Cfg} {s:CSt} {st:Nat} (hb:aQ c) (hp:a19 c s) (hsl:s.dD.length=4) (hst:st<4) (hf1:(aL s st).pipe.length<2^21) (hf2:(aL s st).done.length<2^21) (hf3: ∀j∈(aL s st).done,j.rsp.data.length<2^21) (h:K (dB (slB c s st)) H nx):aB Tryz.prog aIT [boR (cU c),boR (eI s),boP st] H nx K:=by
 refine aB.pure (args0:=[boR (cU c),boR (eI s),boP st]) (R:=fun rr=>rr=dB (slB c s st)) ?_ rfl (aI ⟨aE rfl,aE rfl,aE rfl,trivial⟩) (fun r hr=>hr▸h);clear h;refine aKP rfl fun Q hQ=> ?_;unfold aI4;obtain⟨hp3,hp12⟩:=hC hb;obtain⟨v,hvd⟩: ∃v,v=aL s st:=⟨_,rfl⟩
 have hvd':s.dD.getD st default=v:=hvd.symm;rw[←hvd] at hf1 hf2 hf3;have hF: ¬Z0 c s st→dB false=dB (slB c s st):=fun h=>by rw[a6D h]
 have aAI:Z0 c s st→dB true=dB (slB c s st):=fun h=>by rw[beR h]
 have hlat4:=hb.2.1;have hlat:=S0 hb hst;by_cases h0:(v.pipe.length:Int)≤2∧(v.done.length:Int)≤2∧0≤v.last∧v.last≤2
 case neg=>
  have hno: ¬Z0 c s st:=fun h=>h0 ⟨by have:=h.pl;rw[←hvd] at this;omega,by have:=h.dl;rw[←hvd] at this;omega,by have:=h.last;rw[←hvd] at this;omega⟩;repeat' first| (first|apply bn1|refine bpL (fun h=> ?_) fun h=> ?_|apply aBC)<;>(simp only[go_sem,hsl,hvd'])|apply bn2 (by omega)|refine⟨by omega,?_⟩|fail
  all_goals first|exact aZ hQ _ rfl rfl (hF hno)| (exfalso;omega)
 obtain⟨hpl,hdl,hl1,hl2⟩:=h0;have bpO:(0≤v.last∧v.last≤2)=True:=eq_true ⟨hl1,hl2⟩;have hol: ∀w,w<3→(aF s w).out.length<2^40:=fun w hw=>by have:=(hp.port w hw).ol;omega
 obtain⟨V,hV⟩: ∃V,V=cS v:=⟨_,rfl⟩
 have hVl:V.length=v.done.length+v.pipe.length:=by rw[hV];simp[cS]
 have hV1: ∀k,k<v.done.length→V[k]?=some ((v.done.getD k default).who,(v.done.getD k default).n):=fun k hk=>by rw[hV];unfold cS;rw[brO (by simpa using hk)];simp[List.getD,hk,key]
 have hV2: ∀k,k<v.pipe.length→V[v.done.length+k]?=some ((v.pipe.getD k default).who,(v.pipe.getD k default).n):=fun k hk=>by rw[hV];unfold cS;rw[brX (by simp)];simp[List.getD,hk]
 have hVs: ∀k x,V[k]?=some x→(V.map a80).take (k+1)=(V.map a80).take k++[a80 x]:=fun k x h=>by obtain⟨hk,h2⟩:=m3.1 h;rw[brQ (by simpa using hk),bsD,h2]
 have hVm: ∀(k:Nat) (x:Int×Int),V[k]?=some x→Z0 c s st→a23 s x.1 x.2 st:=fun k x h hs=>hs.out x (by rw[←hvd,←hV];exact s3 h);repeat' first| (first|apply bn1|apply bpK (by omega)|apply aBC)<;>(simp only[go_sem,hsl,hvd',bpO])|refine⟨by omega,?_⟩|fail
 refine aM.gP (β:=Nat×Nat×Nat) (fun u=>en [(9,boP u.1),(8,.one (.c (.osl 5 u.2.1 0 u.1 u.2.2))),(7,.one (.c (.ptr 3 8 0 0))),(4,.one (.c (.ptr 5 1 0 0))),(3,.one (.c (.ptr 3 0 0 0))),(2,boP st)])
  (fun u H1 bp0=>u.1≤v.done.length∧(∀i,i<u.1→a23 s (v.done.getD i default).who (v.done.getD i default).n st∧as5 c (v.done.getD i default))∧H1 0=some ⟨3,1,[cU c]⟩∧H1 1=some ⟨5,1,[eI s]⟩∧H1 8=some ⟨3,1,[gF v]⟩∧(∃m,H1 u.2.1=some ⟨5,m,((V.map a80).take u.1).map aS⟩∧u.1≤u.2.2∧u.2.2≤m)∧26≤u.2.1∧u.2.1<bp0)
  (fun u=>v.done.length-u.1) (0,26,0) ⟨noF,_,by repeat' first|exact bo2|refine xqI rfl rfl ?_|refine xqP (by omega) rfl rfl ?_| (with_reducible apply bo3)| ((with_reducible apply bo0);exact bpA)| ((with_reducible apply bo1);apply bo7)|fail,aK,by dsimp only;omega,fun i hi=>by dsimp only at hi;omega,rfl,rfl,rfl,⟨0,rfl,by dsimp only;omega,by dsimp only;omega⟩,by dsimp only;omega,by dsimp only;omega⟩ ?_
 rintro⟨k,b,cap0⟩ H1 nx1 hnx1 ⟨hk,hI,bqC,g1,bp4,⟨m,gb,gb1,gb2⟩,hb1,hb2⟩ bpQ hKL;dsimp only at hk hI gb gb1 gb2 hb1 hb2;have hA:bQ nx1 [0,1,8,b]:=AM.apart (by simp;omega) (by simp;omega);simp only[bQ,eZ] at hA;have hkl:((V.map a80).take k).length=k:=by simp;omega
 have hkt:(((V.map a80).take k).map aS).length=k:=by rw[bqW,hkl]
 by_cases hlt:k<v.done.length
 ·obtain⟨d,hdd⟩: ∃d,v.done.getD k default=d:=⟨_,rfl⟩
  have hdm:d∈(aL s st).done:=by rw[←hdd,←hvd];exact cC hlt
  have hx:=hV1 k hlt;have hIn:=iS hI (k:=k);rw[hdd] at hx hIn;have hrl:d.rsp.data.length<2^40:=by have h1:=hf3 d (by rw[hvd];exact hdm);omega
  by_cases ho:a23 s d.who d.n st
  case neg=>
   have e1:=beO ho;repeat' first| (first|apply bn1|refine w6 (s:=s) (who:=d.who) (n:=d.n) (st:=st) hp.pl hol (aE rfl) ?_)<;>(simp only[go_sem,t1,bqT,bqC,g1,bp4,hdd,e1,hA])|apply bn2 (by omega)|refine⟨by omega,?_⟩|fail
   all_goals first|exact aZ hQ _ rfl rfl (hF fun h=>ho (hVm _ _ hx h))| (exfalso;omega)
  have e1:=be2 ho;have hask:=ho.asks hp;obtain⟨hk1,hk2,hk3⟩:=hask;obtain⟨P,boS⟩: ∃P,c.cP.getD d.who.toNat default=P:=⟨_,rfl⟩
  rw[boS] at hk3;obtain⟨q,hq⟩: ∃q,P.getD d.n.toNat default=q:=⟨_,rfl⟩
  have hq':bT c d.who d.n=q:=by unfold bT;rw[boS,hq]
  by_cases hr:as5 c d
  case neg=>
   have hno: ¬Z0 c s st:=fun h=>hr (h.rsp d hdm);unfold as5 at hr;rw[hq'] at hr;by_cases hr1:pA d.rsp
   ·have e2:=eq_true hr1;have e3:(d.rsp.id=q.id)=False:=eq_false fun h=>hr ⟨hr1,h⟩;repeat' first| (first|apply bn1|refine w6 (s:=s) (who:=d.who) (n:=d.n) (st:=st) hp.pl hol (aE rfl) ?_|apply a4N hrl)<;>(simp only[go_sem,t1,bqT,bqC,g1,bp4,hdd,hp3,boS,hq,e1,e2,e3,hA])|apply bn2 (by omega)|refine⟨by omega,?_⟩|fail
    all_goals first|exact aZ hQ _ rfl rfl (hF hno)| (exfalso;omega)
   ·have e2:=eq_false hr1;repeat' first| (first|apply bn1|refine w6 (s:=s) (who:=d.who) (n:=d.n) (st:=st) hp.pl hol (aE rfl) ?_|apply a4N hrl)<;>(simp only[go_sem,t1,bqT,bqC,g1,bp4,hdd,hp3,boS,hq,e1,e2,hA])|apply bn2 (by omega)|refine⟨by omega,?_⟩|fail
    all_goals first|exact aZ hQ _ rfl rfl (hF hno)| (exfalso;omega)
  have e2:=eq_true hr.1;have e3:(d.rsp.id=q.id)=True:=eq_true (by rw[←hq'];exact hr.2);repeat' first| (first|apply bn1|refine w6 (s:=s) (who:=d.who) (n:=d.n) (st:=st) hp.pl hol (aE rfl) ?_|apply a4N hrl)<;>(simp only[go_sem,t1,bqT,bqC,g1,bp4,gb,hdd,hp3,boS,hq,e1,e2,e3,hkt,hA];try simp (disch:=omega) only[Iw])|apply bn2 (by omega)| (with_reducible first|refine fun(cap:Nat) (hcap:_≤cap)=> ?_|refine fun(hcp:_≤cap)=> ?_)|refine⟨by omega,?_⟩|fail
  refine af0 (K:=bpQ) fun G bqK=> ?_;have q1:G (nx1+50)=some ⟨5,cap,((V.map a80).take k).map aS++[[cI d.who,cI d.n,cI 0,cI 0,.osl 0 0 0 0 0]]⟩:=by rw[bqK];exact aA.bH
  have q2: ∀id,id<nx1→id≠b→G id=H1 id:=fun id h1 h2=>by rw[bqK,aA.aC (by omega),aA.aC (by omega),aA.aC (by omega),aA.jG h2]
  have q3:=hVs k _ hx;refine hKL _ _ _ (k+1,nx1+50,cap) noF _ (by omega) (by dsimp only;omega) (by dsimp only;repeat' first|exact bo2|refine xqI rfl rfl ?_|refine xqP (by omega) rfl rfl ?_|refine xqO (by omega) rfl rfl (by rfl) ?_|fail) (bfM q1) ⟨by dsimp only;omega,hIn ⟨ho,hr⟩,?_,?_,?_,⟨cap,by dsimp only;rw[q3];exact aA.bH,by dsimp only;omega,m5 _⟩,by dsimp only;omega,by dsimp only;omega⟩;·rw[aA.aC (by omega),q2 _ (by omega) (by omega)];exact bqC
  ·rw[aA.aC (by omega),q2 _ (by omega) (by omega)];exact g1
  ·rw[aA.aC (by omega),q2 _ (by omega) (by omega)];exact bp4
 ·repeat' first|apply bn1<;>(simp only[go_sem,bp4])|apply bn3 (by omega)|fail
  have hk2:k=v.done.length:=by omega
  subst hk2;clear hlt hkl hkt hA hk
  refine aM.gP (β:=Nat×Nat×Nat) (fun u=>en [(11,boP u.1),(8,.one (.c (.osl 5 u.2.1 0 (v.done.length+u.1) u.2.2))),(7,.one (.c (.ptr 3 8 0 0))),(4,.one (.c (.ptr 5 1 0 0))),(3,.one (.c (.ptr 3 0 0 0))),(2,boP st)])
   (fun u H1 bp0=>u.1≤v.pipe.length∧(∀i,i<u.1→a23 s (v.pipe.getD i default).who (v.pipe.getD i default).n st∧beA c st i (v.pipe.getD i default))∧H1 0=some ⟨3,1,[cU c]⟩∧H1 1=some ⟨5,1,[eI s]⟩∧H1 8=some ⟨3,1,[gF v]⟩∧(∃m,H1 u.2.1=some ⟨5,m,((V.map a80).take (v.done.length+u.1)).map aS⟩∧v.done.length+u.1≤u.2.2∧u.2.2≤m)∧26≤u.2.1∧u.2.1<bp0)
   (fun u=>v.pipe.length-u.1) (0,b,cap0) ⟨noF,_,by dsimp only;repeat' first|exact bo2|refine xqI rfl rfl ?_|refine xqP (by omega) rfl rfl ?_|refine xqO (by omega) rfl rfl (by rfl) ?_|fail,aK,by dsimp only;omega,fun i hi=>by dsimp only at hi;omega,bqC,g1,bp4,⟨m,gb,by dsimp only;omega,gb2⟩,by dsimp only;omega,by dsimp only;omega⟩ ?_
  clear bqC g1 bp4 gb gb1 gb2 hb1 hb2;rintro⟨k,b,cap0⟩ H2 nx2 hnx2 ⟨hk,aIF,bqC,g1,bp4,⟨m,gb,gb1,gb2⟩,hb1,hb2⟩ bqG hKM;dsimp only at hk aIF gb gb1 gb2 hb1 hb2;have hA:bQ nx2 [0,1,8,b]:=AM.apart (by simp;omega) (by simp;omega);simp only[bQ,eZ] at hA;have hkl:((V.map a80).take (v.done.length+k)).length=v.done.length+k:=by simp;omega
  have hkt:(((V.map a80).take (v.done.length+k)).map aS).length=v.done.length+k:=by rw[bqW,hkl]
  by_cases hlt:k<v.pipe.length
  ·obtain⟨d,hdd⟩: ∃d,v.pipe.getD k default=d:=⟨_,rfl⟩
   have hx:=hV2 k hlt;have hIn:=iS aIF (k:=k);rw[hdd] at hx hIn;have hleft:Z0 c s st→beA c st k d:=fun h=>by have:=h.left k (by rw[←hvd];exact hlt);rw[←hvd,hdd] at this;exact this
   by_cases ho:a23 s d.who d.n st
   case neg=>
    have e1:=beO ho;repeat' first| (first|apply bn1|refine w6 (s:=s) (who:=d.who) (n:=d.n) (st:=st) hp.pl hol (aE rfl) ?_)<;>(simp only[go_sem,t1,bqT,bqC,g1,bp4,hdd,e1,hA])|apply bn2 (by omega)|refine⟨by omega,?_⟩|fail
    all_goals first|exact aZ hQ _ rfl rfl (hF fun h=>ho (hVm _ _ hx h))| (exfalso;omega)
   have e1:=be2 ho;by_cases hl:beA c st k d
   case neg=>
    have hno: ¬Z0 c s st:=fun h=>hl (hleft h);unfold beA at hl;by_cases hl1:0≤d.left∧d.left≤c.lat.getD st default
    ·have e2:(0≤d.left∧d.left≤c.lat.getD st default)=True:=eq_true hl1
     have hk0:0<k:=by
      rcases CR k with h|h;·exact absurd ⟨hl1,fun h2=>by omega⟩ hl
      ·exact h
     have e3:(d.left=c.lat.getD st default)=False:=eq_false fun h=>hl ⟨hl1,fun _=>h⟩;repeat' first| (first|apply bn1|apply bpJ (by omega)|refine w6 (s:=s) (who:=d.who) (n:=d.n) (st:=st) hp.pl hol (aE rfl) ?_|apply aBC)<;>(simp only[go_sem,t1,bqT,bqC,g1,bp4,hdd,e1,e2,e3,hA])|apply bn2 (by omega)|refine⟨by omega,?_⟩|fail
     all_goals first|exact aZ hQ _ rfl rfl (hF hno)| (exfalso;omega)
    ·have e2:(0≤d.left∧d.left≤c.lat.getD st default)=False:=eq_false hl1;repeat' first| (first|apply bn1|refine w6 (s:=s) (who:=d.who) (n:=d.n) (st:=st) hp.pl hol (aE rfl) ?_|apply aBC)<;>(simp only[go_sem,t1,bqT,bqC,g1,bp4,hdd,e1,e2,hA])|apply bn2 (by omega)|refine⟨by omega,?_⟩|fail
     all_goals first|exact aZ hQ _ rfl rfl (hF hno)| (exfalso;omega)
   have e2:(0≤d.left∧d.left≤c.lat.getD st default)=True:=eq_true hl.1;have hl2:=hl.2;repeat' first| (first|apply bn1|refine bpL (fun h=> ?_) fun h=> ?_|refine w6 (s:=s) (who:=d.who) (n:=d.n) (st:=st) hp.pl hol (aE rfl) ?_|apply aBC)<;>(simp only[go_sem,t1,bqT,bqC,g1,bp4,gb,hdd,e1,e2,hkt,hA];try simp (disch:=omega) only[Iw])|apply bn2 (by omega)|apply bn3 (by omega)| (with_reducible first|refine fun(cap:Nat) (hcap:_≤cap)=> ?_|refine fun(hcp:_≤cap)=> ?_)|refine⟨by omega,?_⟩|fail
   all_goals first| (exfalso;have:=hl2 (by omega);omega)|skip
   all_goals (
    refine af0 (K:=bqG) fun G bqK=> ?_
    have q3:=hVs _ _ hx
    have q1:G (nx2+52)=some ⟨5,cap,((V.map a80).take (v.done.length+k)).map aS++[[cI d.who,cI d.n,cI 0,cI 0,.osl 0 0 0 0 0]]⟩:=by rw[bqK];exact aA.bH
    have q2: ∀id,id<nx2→id≠b→G id=H2 id:=fun id h1 h2=>by rw[bqK,aA.aC (by omega),aA.aC (by omega),aA.aC (by omega),aA.jG h2]
    refine hKM _ _ _ (k+1,nx2+52,cap) noF _ (by omega) (by dsimp only;omega) (by dsimp only;repeat' first|exact bo2|refine xqI rfl rfl ?_|refine xqP (by omega) rfl rfl ?_|refine xqO (by omega) rfl rfl (by rfl) ?_|fail) (bfM q1) ⟨by dsimp only;omega,hIn ⟨ho,hl⟩,?_,?_,?_,⟨cap,by dsimp only;rw[←t1,q3];exact aA.bH,by dsimp only;omega,m5 _⟩,by dsimp only;omega,by dsimp only;omega⟩
    ·rw[aA.aC (by omega),q2 _ (by omega) (by omega)];exact bqC
    ·rw[aA.aC (by omega),q2 _ (by omega) (by omega)];exact g1
    ·rw[aA.aC (by omega),q2 _ (by omega) (by omega)];exact bp4)
  ·repeat' first|apply bn1<;>(simp only[go_sem,bp4])|apply bn3 (by omega)|fail
   have hk2:k=v.pipe.length:=(by omega);subst hk2;obtain⟨L,hL⟩: ∃L,L=V.map a80:=⟨_,rfl⟩
   have hLg: ∀i (hi:i<V.length),L.getD i default=a80 V[i]:=fun i hi=>by rw[hL];simp[List.getD,hi]
   have hLl:L.length=v.done.length+v.pipe.length:=(by rw[hL,bqW,hVl]);rw[←hL,boL (by omega)] at gb;clear hlt hkl hkt hA hk bqC g1 bp4
   refine aM.gP (β:=Nat) (fun k=>en [(13,boP k),(8,.one (.c (.osl 5 b 0 (v.done.length+v.pipe.length) cap0)))])
    (fun k H3 _=>k≤L.length∧(∀i j,i<j→j<k→(L.getD i default).who=(L.getD j default).who→(L.getD i default).n<(L.getD j default).n)∧H3 b=some ⟨5,m,L.map aS⟩) (fun k=>L.length-k) 0 ⟨noF,_,by repeat' first|exact bo2|refine xqI rfl rfl ?_|refine xqO (by omega) rfl rfl (by rfl) ?_|fail,aK,by omega,fun i j _ hj=>by omega,gb⟩ ?_
   clear gb;rintro k H3 nx3 hnx3 ⟨hk,bf2,gb⟩ bqR hKN;by_cases hlt:k<L.length
   ·repeat' first|apply bn1<;>(simp only[go_sem])|apply bn2 (by omega)|fail
    refine aM.gP (β:=Nat) (fun j=>en [(14,boP j),(13,boP k),(8,.one (.c (.osl 5 b 0 (v.done.length+v.pipe.length) cap0)))])
     (fun j bqL _=>j≤k∧(∀i,i<j→(L.getD i default).who=(L.getD k default).who→(L.getD i default).n<(L.getD k default).n)∧bqL b=some ⟨5,m,L.map aS⟩) (fun j=>k-j) 0 ⟨noF,_,by repeat' first|exact bo2|refine xqI rfl rfl ?_|refine xqO (by omega) rfl rfl (by rfl) ?_|fail,aK,by omega,fun i hi=>by omega,gb⟩ ?_
    clear gb;rintro j bqL nx4 hnx4 ⟨hj,bqA,gb⟩ aNB hKO;by_cases hjk:j<k
    ·by_cases hc:(L.getD j default).who=(L.getD k default).who∧(L.getD k default).n≤(L.getD j default).n
     ·have c1:((L.getD j default).who=(L.getD k default).who)=True:=eq_true hc.1;have c2:((L.getD k default).n≤(L.getD j default).n)=True:=eq_true hc.2;repeat' first|apply bn1<;>(simp only[go_sem,t1,bqT,gb,hLl,c1,c2])|apply bn2 (by omega)|refine⟨by omega,?_⟩|fail
      all_goals first
       | (exfalso;omega)
       |exact aZ hQ _ rfl rfl (hF fun h=>by
        have h1:=Z6.1 h.inc j k (by rw[←hvd,←hV];omega) (by rw[←hvd,←hV];omega) hjk
        simp only[←hvd,←hV] at h1
        have e1:=hLg j (by omega)
        have e2:=hLg k (by omega)
        rw[e1,e2] at hc
        have:=h1 hc.1
        have:=hc.2
        simp only[a80] at this
        omega)
     ·repeat' first| (first|apply bn1|refine bpL (fun h=> ?_) fun h=> ?_)<;>(simp only[go_sem,t1,bqT,gb,hLl];try simp (disch:=omega) only[Iw])|apply bn2 (by omega)|apply bn3 (by omega)|refine⟨by omega,?_⟩|fail
      all_goals first
       | (exfalso;omega)
       |exact hKO _ _ _ (j+1) noF _ (by omega) (by omega) (by repeat' first|exact bo2|refine xqI rfl rfl ?_|refine xqO (by omega) rfl rfl (by rfl) ?_|fail) aK ⟨by omega,iS bqA (by intro he;omega),gb⟩
    ·repeat' first|apply bn1<;>(simp only[go_sem];try simp (disch:=omega) only[Iw])|apply bn3 (by omega)|fail
     have hj2:j=k:=(by omega);subst hj2
     exact hKN _ _ _ (j+1) noF _ (by omega) (by omega) (by repeat' first|exact bo2|refine xqI rfl rfl ?_|refine xqO (by omega) rfl rfl (by rfl) ?_|fail) aK ⟨by omega,fun a e hae he=>by
      by_cases h:e<j
      ·exact bf2 a e hae h
      ·obtain rfl:e=j:=by omega
       exact bqA a hae,gb⟩
   ·repeat' first|apply bn1<;>(simp only[go_sem])|apply bn3 (by omega)|fail
    refine aZ hQ _ rfl rfl (aAI ⟨?_,?_,?_,?_,?_,?_,?_⟩);·rw[←hvd];omega
    ·rw[←hvd];omega
    ·rw[←hvd];exact⟨hl1,hl2⟩
    ·rw[←hvd,←hV];refine Z6.2 fun i j hi hj hij he=> ?_;have e1:=hLg i hi;have e2:=hLg j hj;have:=bf2 i j hij (by omega);rw[e1,e2] at this;exact this he
    ·rw[←hvd];intro x hx;rcases o3.1 hx with hx|hx;·obtain⟨d,hd,rfl⟩:=CF.1 hx;exact(aKJ (P:=fun d=>a23 s d.who d.n st∧as5 c d) hI d hd).1
     ·obtain⟨d,hd,rfl⟩:=CF.1 hx;exact aKJ (P:=fun d=>a23 s d.who d.n st) (fun i hi=>(aIF i hi).1) d hd
    ·rw[←hvd];exact fun d hd=>(aKJ (P:=fun d=>a23 s d.who d.n st∧as5 c d) hI d hd).2
    ·rw[←hvd];exact fun i hi=>(aIF i hi).2
end
end Go.Proofs.YtmccpdapaccnoaaGreat
