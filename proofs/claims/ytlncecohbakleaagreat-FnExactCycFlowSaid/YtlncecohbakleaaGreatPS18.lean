/- Texts laid together by a program: rules, contracts and the walk that leads to the law. -/
import Derived.Test.YtlncecohbakleaaGreatPS15
set_option linter.unusedVariables false
set_option linter.unusedSimpArgs false
set_option linter.unusedSectionVars false
set_option maxRecDepth 100000
set_option maxHeartbeats 8000000
namespace Go.AM
structure beV(c:Cfg)(who:Nat)(p:fR)(k:Nat):Prop where
 all: ∀i,i<k->a5K c who p (p.out.getD i default)
 srt: ∀i j,i<j->j<k->(p.out.getD i default).n<(p.out.getD j default).n
 ids: ∀i j,i<j->j<k->(bT c who (p.out.getD i default).n).id=(bT c who (p.out.getD j default).n).id->(p.out.getD i default).left=(p.out.getD j default).left
theorem beV.next{c:Cfg}{who:Nat}{p:fR}{k:Nat}(h:beV c who p k)(d:a5K c who p (p.out.getD k default))(e:0<k->(p.out.getD (k-1) default).n<(p.out.getD k default).n)
 (f: ∀i,i<k->(bT c who (p.out.getD i default).n).id=(bT c who (p.out.getD k default).n).id->(p.out.getD i default).left=(p.out.getD k default).left):beV c who p (k+1):=by
 refine⟨iS h.all d,fun i j a g=> ?_,fun i j a g he=> ?_⟩
 ·by_cases b:j<k;·exact h.srt i j a b
  ·obtain rfl:j=k:=by omega
   have k9:=e (by omega);by_cases hi:i=j-1;·subst hi;omega
   ·have:=h.srt i (j-1) (by omega) (by omega);omega
 ·by_cases b:j<k;·exact h.ids i j a b he
  ·obtain rfl:j=k:=by omega
   exact f i a he
theorem beV.end{c:Cfg}{who:Nat}{p:fR}(h:beV c who p p.out.length):(∀j∈p.out,a5K c who p j)/\(p.out.Pairwise fun a b=>a.n<b.n)/\ ∀a∈p.out,∀b∈p.out,(bT c who a.n).id=(bT c who b.n).id->a.left=b.left:=by
 have f: ∀i (hi:i<p.out.length),p.out.getD i default=p.out[i]:=fun i hi=>by simp[List.getD,hi]
 refine⟨fun j e=> ?_,Z6.2 fun i j hi e d=> ?_,fun a g b k he=> ?_⟩;·obtain⟨i,hi,rfl⟩:=bqY.1 e;rw[<-f i hi];exact h.all i hi
 ·rw[<-f i hi,<-f j e];exact h.srt i j d e
 ·obtain⟨i,hi,rfl⟩:=bqY.1 g;obtain⟨j,e,rfl⟩:=bqY.1 k;rw[<-f i hi,<-f j e] at he ⊢;rcases Nat.lt_trichotomy i j with d|d|d;·exact h.ids i j d e he
  ·subst d;rfl
  ·exact(h.ids j i d hi he.symm).symm
def a23(s:CSt)(who n:Int)(st:Nat):Prop:=(0<=who/\who<=2)/\ ∃j∈(aF s who.toNat).out,j.n=n/\j.left=st
noncomputable def oaB(s:CSt)(who n:Int)(st:Nat):Bool:=@decide (a23 s who n st) (Classical.propDecidable _)
theorem be2{s:CSt}{who n:Int}{st:Nat}(h:a23 s who n st):oaB s who n st=true:=by simp[oaB,h]
theorem beO{s:CSt}{who n:Int}{st:Nat}(h: ¬a23 s who n st):oaB s who n st=false:=by simp[oaB,h]
theorem a23.asks{c:Cfg}{s:CSt}{st:Nat}{who n:Int}(hp:a19 c s)(h:a23 s who n st):oA c who n:=by obtain⟨hw,j,b,d,_⟩:=h;have a:=hp.port who.toNat (by omega);obtain⟨_,e,_⟩:=a.out _ b;have:=a.asks (n:=n) (by omega) (by omega) (by omega);rwa [show ((who.toNat:Nat):Int)=who by omega] at this
def a80(x:Int×Int):Job:=⟨x.1,x.2,oW⟩
theorem bfM{G:aA}{bpZ cap nx':Nat}{W:List Job}{k n:Int}(a:G bpZ=some ⟨5,cap,W.map aS++[[cI k,cI n,cI 0,cI 0,.osl 0 0 0 0 0]]⟩):CvX noF nx' G (G.set bpZ ⟨5,cap,(W++[(⟨k,n,oW⟩:Job)]).map aS⟩):=KO (i:=bpZ) (o':=⟨5,cap,(W++[(⟨k,n,oW⟩:Job)]).map aS⟩) a (uO (R:=W.map aS) (r':=aS (⟨k,n,oW⟩:Job)) (by rw[bqX];rfl) rfl (fun r hr=>(aG dZ _ r hr).2) rfl (aH (bB rfl) (aH (bB rfl) (aH (bB rfl) (aH (bB rfl) (aH (.frz (.nil ..)) eP))))))
end Go.AM
namespace Go.Proofs.YtlncecohbakleaaGreat
open Go Go.AM
attribute [local irreducible] aM wv aB vd wvH
section
variable{H:aA}{nx:Nat}{K:bNX}
theorem a5O{c:Cfg}{s:CSt}{who:Nat}(hb:aQ c)(T:s.bM.length=3)(hw:who<3)(ag:(aF s who).queue.length<2^21)(ah:(aF s who).out.length<2^21)(h:K (dB (ptB c who (aF s who))) H nx):bNW aIY [boR (cU c),boR (eI s),boP who] H nx K:=by
 refine aB.pure (args0:=[boR (cU c),boR (eI s),boP who]) (R:=fun rr=>rr=dB (ptB c who (aF s who))) ?_ rfl (aI ⟨aE rfl,aE rfl,aE rfl,trivial⟩) (fun r hr=>hr▸h);clear h;refine aN.mk Tryz.func127 (by kernel_rfl) aLJ rfl fun Q t=> ?_;unfold aJG;obtain⟨d,U⟩:=hC hb;have ai:=U who;have A:DH c.map:=hb.1;have ay:=hb.1.1;obtain⟨p,boS⟩: ∃p,p=aF s who:=⟨_,rfl⟩
 have V:s.bM.getD who default=p:=boS.symm;rw[<-boS] at ag ah;have y: ¬mD c who p->dB false=dB (ptB c who (aF s who)):=fun h=>by rw[<-boS,a8A h]
 have aAI:mD c who p->dB true=dB (ptB c who (aF s who)):=fun h=>by rw[<-boS,beT h]
 obtain⟨P,a⟩: ∃P,c.cP.getD who default=P:=⟨_,rfl⟩
 rw[a] at ai;have W: ∀n:Int,bT c who n=P.getD n.toNat default:=fun n=>by unfold bT;rw[Int.toNat_natCast,a]
 by_cases h0:(0<=p.next/\p.next<=(P.length:Int))/\((p.queue.length:Int)<=2/\(p.queue.length:Int)<=p.next)/\(p.out.length:Int)<=4/\0<=p.last/\p.last<=3
 case neg=>
  have aj: ¬mD c who p:=fun h=>h0 ⟨by have:=h.next;rw[a] at this;exact this,by have:=h.ql;omega,by have:=h.ol;omega,h.last⟩;repeat' first| (first|apply bn1|refine bpL (fun h=> ?_) fun h=> ?_|apply aBC)<;>(simp only[go_sem,d,T,V,a])|apply bn2 (by omega)|refine⟨by omega,?_⟩|fail
  all_goals first|exact aZ t _ rfl rfl (y aj)| (exfalso;omega)
 obtain⟨⟨X,Y⟩,⟨az,u⟩,ba,Z,ab⟩:=h0;have bpN:(0<=p.next/\p.next<=(P.length:Int))=True:=eq_true ⟨X,Y⟩;have bpO:(0<=p.last/\p.last<=3)=True:=eq_true ⟨Z,ab⟩;repeat' first| (first|apply bn1|apply bpK (by omega)|apply aBC)<;>(simp only[go_sem,d,T,V,a,bpN,bpO])|refine⟨by omega,?_⟩|fail
 refine aM.gP (β:=Nat) (fun k=>en [(8,boP k),(7,.one (.c (.ptr 4 8 0 0))),(3,.one (.c (.ptr 3 0 0 0))),(2,boP who)]) (fun k H1 _=>k<=p.queue.length/\(∀i,i<k->p.queue.getD i default=p.next-p.queue.length+i)/\H1 0=some ⟨3,1,[cU c]⟩/\H1 8=some ⟨4,1,[cD p]⟩) (fun k=>p.queue.length-k) 0 ⟨noF,_,by repeat' first|exact bo2|refine xqI rfl rfl ?_|refine xqP (by omega) rfl rfl ?_|fail,aK,by omega,fun i hi=>by omega,rfl,rfl⟩ ?_;rintro k H1 bb ak ⟨hk,B,bqC,bp4⟩ bpQ al;by_cases f:k<p.queue.length
 ·by_cases ad:p.queue.getD k default=p.next-p.queue.length+k
  ·repeat' first|apply bn1<;>(simp only[go_sem,bp4];try simp (disch:=omega) only[Iw])|apply bn2 (by omega)|apply bn3 (by omega)|refine⟨by omega,?_⟩|fail
   all_goals first|exact al _ _ _ (k+1) noF _ (by omega) (by omega) (by repeat' first|exact bo2|refine xqI rfl rfl ?_|refine xqP (by omega) rfl rfl ?_|fail) aK ⟨by omega,iS B ad,bqC,bp4⟩| (exfalso;omega)
  ·repeat' first|apply bn1<;>(simp only[go_sem,bp4];try simp (disch:=omega) only[Iw])|apply bn2 (by omega)|refine⟨by omega,?_⟩|fail
   all_goals first|exact aZ t _ rfl rfl (y fun h=>ad (h.queue k f))| (exfalso;omega)
 ·have C:k=p.queue.length:=by omega
  rw[C] at B;repeat' first|apply bn1<;>(simp only[go_sem,bp4])|apply bn3 (by omega)|fail
  refine aM.gP (β:=Nat) (fun k=>en [(9,boP k),(7,.one (.c (.ptr 4 8 0 0))),(3,.one (.c (.ptr 3 0 0 0))),(2,boP who)]) (fun k H1 _=>k<=p.out.length/\beV c who p k/\H1 0=some ⟨3,1,[cU c]⟩/\H1 8=some ⟨4,1,[cD p]⟩) (fun k=>p.out.length-k) 0 ⟨noF,_,by repeat' first|exact bo2|refine xqI rfl rfl ?_|refine xqP (by omega) rfl rfl ?_|fail,aK,by omega,⟨fun i hi=>by omega,fun i j _ hj=>by omega,fun i j _ hj=>by omega⟩,bqC,bp4⟩ ?_;clear bqC bp4;rintro k H2 D an ⟨hk,bOV,bqC,bp4⟩ bqG ao;have E:bQ D [0,8]:=AM.apart (by simp) (by simp;omega);simp only[bQ,eZ] at E;by_cases f:k<p.out.length
  ·have hm:=cC f
   have b:mD c who p->a5K c who p (p.out.getD k default)/\(0<k->(p.out.getD (k-1) default).n<(p.out.getD k default).n)/\ ∀i,i<k->(bT c who (p.out.getD i default).n).id=(bT c who (p.out.getD k default).n).id->(p.out.getD i default).left=(p.out.getD k default).left:=fun h=>
    ⟨h.out _ hm,fun h0=>by
      have:=Z6.1 h.acX (k-1) k (by omega) f (by omega)
      simpa [List.getD,f,show k-1<p.out.length by omega] using this,fun i hi he=>h.akF _ (cC (by omega)) _ hm he⟩
   have g:=bOV.next;generalize N:p.out.getD k default=o at b g;have F:((k:Int)-1).toNat=k-1:=(by omega);by_cases v:o.who=who
   case neg=>
    have G:(o.who=(who:Int))=False:=eq_false v;repeat' first|apply bn1<;>(simp only[go_sem,t1,bqT,bqC,bp4,N,G,E])|apply bn2 (by omega)|refine⟨by omega,?_⟩|fail
    all_goals exact aZ t _ rfl rfl (y fun h=>v (b h).1.1)
   have G:(o.who=(who:Int))=True:=eq_true v;by_cases I:0<=o.n/\o.n<=p.next-p.queue.length-1
   case neg=>
    have O:(0<=o.n/\o.n<=p.next-p.queue.length-1)=False:=eq_false I;repeat' first| (first|apply bn1|apply aBC)<;>(simp only[go_sem,t1,bqT,bqC,bp4,N,G,O,E];try simp (disch:=omega) only[Iw])|apply bn2 (by omega)|refine⟨by omega,?_⟩|fail
    all_goals first|exact aZ t _ rfl rfl (y fun h=>I (by have:=(b h).1.2.1;omega))| (exfalso;omega)
   have O:(0<=o.n/\o.n<=p.next-p.queue.length-1)=True:=eq_true I;by_cases l:0<k->(p.out.getD (k-1) default).n<o.n
   case neg=>
    have J:0<k:=(by omega);have l:o.n<=(p.out.getD (k-1) default).n:=(by omega);have e3:(o.n<=(p.out.getD ((k:Int)-1).toNat default).n)=True:=eq_true (by rw[F];exact l);repeat' first| (first|apply bn1|apply bpJ (by omega)|refine bpL (fun h=> ?_) fun h=> ?_|apply aBC)<;>(simp only[go_sem,t1,bqT,bqC,bp4,N,G,O,e3,E];try simp (disch:=omega) only[Iw])|apply bn2 (by omega)|refine⟨by omega,?_⟩|fail
    all_goals first|exact aZ t _ rfl rfl (y fun h=>by have:=(b h).2.1 J;omega)| (exfalso;omega)|exact absurd (of_eq_true e3) (by assumption)
   obtain⟨q,S⟩: ∃q,P.getD o.n.toNat default=q:=⟨_,rfl⟩
   have e:bT c who o.n=q:=(by rw[W];exact S);have aa:oA c who o.n:=⟨by omega,by omega,by rw[Int.toNat_natCast,a];omega⟩
   have L:dH q:=e▸GK hb aa;by_cases m:o.left=gZ c.map q
   case neg=>
    have e4:(o.left=gZ c.map q)=False:=eq_false m;by_cases J:0<k
    ·have e3:(o.n<=(p.out.getD ((k:Int)-1).toNat default).n)=False:=eq_false (by rw[F];have:=l J;omega);repeat' first| (first|apply bn1|apply bpJ (by omega)|refine bpL (fun h=> ?_) fun h=> ?_|apply aBC|apply a20 A L (by omega))<;>(simp only[go_sem,t1,bqT,bqC,bp4,N,d,a,S,G,O,e3,e4,E];try simp (disch:=omega) only[Iw])|apply bn2 (by omega)|refine⟨by omega,?_⟩|fail
     all_goals first|exact aZ t _ rfl rfl (y fun h=>m (by have:=(b h).1.2.2;rw[e] at this;exact this))| (exfalso;omega)
    ·repeat' first| (first|apply bn1|apply bpK (by omega)|apply aBC|apply a20 A L (by omega))<;>(simp only[go_sem,t1,bqT,bqC,bp4,N,d,a,S,G,O,e4,E];try simp (disch:=omega) only[Iw])|apply bn2 (by omega)|refine⟨by omega,?_⟩|fail
     all_goals first|exact aZ t _ rfl rfl (y fun h=>m (by have:=(b h).1.2.2;rw[e] at this;exact this))| (exfalso;omega)
   have e4:(o.left=gZ c.map q)=True:=eq_true m;have aq:a5K c who p o:=⟨v,by omega,by rw[e];exact m⟩
   repeat' first| (first|apply bn1|refine bpL (fun h=> ?_) fun h=> ?_|apply aBC|apply a20 A L (by omega))<;>(simp only[go_sem,t1,bqT,bqC,bp4,N,d,a,S,G,O,e4,E];try simp (disch:=omega) only[Iw])|apply bn2 (by omega)|refine⟨by omega,?_⟩|fail
   all_goals try (exfalso;have h3:=l (by omega);rw[<-F] at h3;omega)
   all_goals (
    refine aM.gP (β:=Nat) (fun j=>en [(11,boP j),(10,.one (.c (.ptr 3 (D+10) 0 0))),(9,boP k),(7,.one (.c (.ptr 4 8 0 0))),(3,.one (.c (.ptr 3 0 0 0))),(2,boP who)]) (fun j H3 _=>j<=k/\(∀i,i<j->(bT c who (p.out.getD i default).n).id=(bT c who o.n).id->(p.out.getD i default).left=o.left)/\H3 0=some ⟨3,1,[cU c]⟩/\H3 8=some ⟨4,1,[cD p]⟩/\H3 (D+10)=some ⟨3,1,[eCJ o]⟩) (fun j=>k-j) 0 ⟨noF,_,by repeat' first|exact bo2|refine xqI rfl rfl ?_|refine xqP (by omega) rfl rfl ?_|fail,aK,by omega,fun i hi=>by omega,by rw[aA.aC (by omega)];exact bqC,by rw[aA.aC (by omega)];exact bp4,aA.bH⟩ ?_
    rintro j H3 bc ar ⟨hj,aIF,bfZ,bpX,w⟩ bqR au
    by_cases ae:j<k
    ·obtain⟨x,hx⟩: ∃x,p.out.getD j default=x:=⟨_,rfl⟩
     have af:=bOV.all j ae;rw[hx] at af;obtain⟨M,u⟩: ∃M,P.getD x.n.toNat default=M:=⟨_,rfl⟩
     have z:bT c who x.n=M:=(by rw[W];exact u);obtain⟨_,bd,_⟩:=af;by_cases hc:M.id=q.id/\x.left≠o.left
     ·have bPB:(M.id=q.id)=True:=eq_true hc.1;have c2:(x.left=o.left)=False:=eq_false hc.2;repeat' first|apply bn1<;>(simp only[go_sem,t1,bqT,bfZ,bpX,w,hx,d,a,S,u,bPB,c2])|apply bn2 (by omega)|refine⟨by omega,?_⟩|fail
      all_goals exact aZ t _ rfl rfl (y fun h=>hc.2 (by
       have h1:=(b h).2.2 j ae
       rw[hx,e,z] at h1
       exact h1 hc.1))
     ·repeat' first| (first|apply bn1|apply bpJ (by omega)|refine bpL (fun h=> ?_) fun h=> ?_)<;>(simp only[go_sem,t1,bqT,bfZ,bpX,w,hx,d,a,S,u];try simp (disch:=omega) only[Iw])|apply bn2 (by omega)|apply bn3 (by omega)|refine⟨by omega,?_⟩|fail
      all_goals first
       |exact au _ _ _ (j+1) noF _ (by omega) (by omega) (by repeat' first|exact bo2|refine xqI rfl rfl ?_|refine xqP (by omega) rfl rfl ?_|fail) aK ⟨by omega,iS aIF (by rw[hx,e,z];intro he;omega),bfZ,bpX,w⟩
       | (exfalso;omega)
    ·have aw:j=k:=(by omega);subst aw;have ax:=g aq (fun h=>by have:=l h;omega) aIF;repeat' first|apply bn1<;>(simp only[go_sem,w];try simp (disch:=omega) only[Iw])|apply bn3 (by omega)|fail
     exact ao _ _ _ (j+1) noF _ (by omega) (by omega) (by repeat' first|exact bo2|refine xqI rfl rfl ?_|refine xqP (by omega) rfl rfl ?_|fail) aK ⟨by omega,ax,bfZ,bpX⟩)
  ·repeat' first|apply bn1<;>(simp only[go_sem,bp4])|apply bn3 (by omega)|fail
   have C:k=p.out.length:=(by omega);rw[C] at bOV;obtain⟨q1,M,q3⟩:=bOV.end;exact aZ t _ rfl rfl (aAI ⟨⟨X,by rw[a];exact Y⟩,by omega,by omega,⟨Z,ab⟩,B,q1,M,q3⟩)
theorem w6{s:CSt}{who:Int}{n:Int}{st:Nat}(b:s.bM.length=3)(a: ∀w,w<3->(aF s w).out.length<2^40){m:D}(c:CvD H (fun _=>True) id 0 (boR (eI s)) m)(h:K (dB (oaB s who n st)) H nx):bNW aJX [m,boP who,boP n,boP st] H nx K:=by
 refine aB.pure (args0:=[boR (eI s),boP who,boP n,boP st]) (R:=fun q=>q=dB (oaB s who n st)) ?_ rfl (aI ⟨c,aE rfl,aE rfl,aE rfl,trivial⟩) (fun r hr=>hr▸h);clear h;refine aN.mk Tryz.func212 (by kernel_rfl) bc0 rfl fun Q d=> ?_;unfold a3F;by_cases hw:0<=who/\who<=2
 case neg=>
  have e:(0<=who/\who<=2)=False:=eq_false hw;repeat' first| (first|apply bn1|apply aBC)<;>(simp only[go_sem,e])|fail
  all_goals first|exact aZ d _ rfl rfl (congrArg dB (beO fun h=>hw h.1).symm)| (exfalso;omega)
 have e:(0<=who/\who<=2)=True:=eq_true hw;obtain⟨p,boS⟩: ∃p,p=aF s who.toNat:=⟨_,rfl⟩
 have f:s.bM.getD who.toNat default=p:=boS.symm;have a:=a who.toNat (by omega);rw[<-boS] at a;repeat' first| (first|apply bn1|apply aBC)<;>(simp only[go_sem,e,b,f])|refine⟨by omega,?_⟩|fail
 (refine aM.loop (α:={k:Nat//k<=p.out.length/\(∀i,i<k->¬((p.out.getD i default).n=n/\(p.out.getD i default).left=st))}) (fun u=>en [(10,boP u.1),(9,dS (p.out.map eCJ)),(3,boP st),(2,boP n)]) (fun _=>.nil) _ (fun u=>p.out.length-u.1) ⟨0,by omega,(by intros;first|trivial|omega)⟩ (bU (m5 _) (by repeat' first|exact bo2|refine xqI rfl rfl ?_|fail)) ?_);(rintro⟨k,t,hinv⟩ bpQ g);by_cases l:k<p.out.length
 ·by_cases hc:(p.out.getD k default).n=n/\(p.out.getD k default).left=st
  ·have bPB:((p.out.getD k default).n=n)=True:=eq_true hc.1;have c2:((p.out.getD k default).left=(st:Int))=True:=eq_true hc.2;repeat' first|apply bn1<;>(simp only[go_sem,bPB,c2])|apply bn2 (by omega)|refine⟨by omega,?_⟩|fail
   all_goals first|exact aZ d _ rfl rfl (congrArg dB (be2 ⟨hw,_,by rw[<-boS];exact cC l,hc⟩).symm)| (exfalso;omega)
  ·repeat' first| (first|apply bn1|refine bpL (fun h=> ?_) fun h=> ?_)<;>(simp only[go_sem];try simp (disch:=omega) only[Iw])|apply bn2 (by omega)|apply bn3 (by omega)|refine⟨by omega,?_⟩|fail
   all_goals first| (exfalso;omega)| (refine g _ _ _ ⟨k+1,by omega,iS hinv hc⟩ (by omega) (by(try dsimp only);omega) (bU (m5 _) (by repeat' first|exact bo2|refine xqI rfl rfl ?_|fail)))
 ·repeat' first|apply bn1<;>(simp only[go_sem])|apply bn3 (by omega)|fail
  all_goals exact aZ d _ rfl rfl (congrArg dB (beO fun⟨_,j,o,h⟩=>by
   rw[<-boS] at o
   obtain⟨i,hi,rfl⟩:=bqY.1 o
   have:=hinv i (by omega)
   rw[show p.out.getD i default=p.out[i] by simp[List.getD,hi]] at this
   exact this h).symm)
theorem a4N{r:Rsp}(a:r.data.length<2^40)(h:K (dB (decide (pA r))) H nx):bNW aIP [boR [cI r.id,cI r.code,.isl (r.data.map aJ)]] H nx K:=aMP a h
theorem a5I{c:Cfg}{s:CSt}{st:Nat}(hb:aQ c)(hp:a19 c s)(aj:s.dD.length=4)(ax:st<4)(ay:(aL s st).pipe.length<2^21)(az:(aL s st).done.length<2^21)(ak: ∀j∈(aL s st).done,j.rsp.data.length<2^21)(h:K (dB (slB c s st)) H nx):bNW aIT [boR (cU c),boR (eI s),boP st] H nx K:=by
 refine aB.pure (args0:=[boR (cU c),boR (eI s),boP st]) (R:=fun rr=>rr=dB (slB c s st)) ?_ rfl (aI ⟨aE rfl,aE rfl,aE rfl,trivial⟩) (fun r hr=>hr▸h);clear h;refine aN.mk Tryz.func128 (by kernel_rfl) aKM rfl fun Q O=> ?_;unfold aI4;obtain⟨ae,ba⟩:=hC hb;obtain⟨v,f⟩: ∃v,v=aL s st:=⟨_,rfl⟩
 have aa:s.dD.getD st default=v:=f.symm;rw[<-f] at ay az ak;have hF: ¬Z0 c s st->dB false=dB (slB c s st):=fun h=>by rw[a6D h]
 have aAI:Z0 c s st->dB true=dB (slB c s st):=fun h=>by rw[beR h]
 have al:=hb.2.1;have bb:=S0 hb ax;by_cases h0:(v.pipe.length:Int)<=2/\(v.done.length:Int)<=2/\0<=v.last/\v.last<=2
 case neg=>
  have t: ¬Z0 c s st:=fun h=>h0 ⟨by have:=h.pl;rw[<-f] at this;omega,by have:=h.dl;rw[<-f] at this;omega,by have:=h.last;rw[<-f] at this;omega⟩;repeat' first| (first|apply bn1|refine bpL (fun h=> ?_) fun h=> ?_|apply aBC)<;>(simp only[go_sem,aj,aa])|apply bn2 (by omega)|refine⟨by omega,?_⟩|fail
  all_goals first|exact aZ O _ rfl rfl (hF t)| (exfalso;omega)
 obtain⟨bw,bx,y,S⟩:=h0;have bpO:(0<=v.last/\v.last<=2)=True:=eq_true ⟨y,S⟩;have o: ∀w,w<3->(aF s w).out.length<2^40:=fun w hw=>by have:=(hp.port w hw).ol;omega
 obtain⟨V,bPP⟩: ∃V,V=cS v:=⟨_,rfl⟩
 have bc:V.length=v.done.length+v.pipe.length:=by rw[bPP];simp[cS]
 have bd: ∀k,k<v.done.length->V[k]?=some ((v.done.getD k default).who,(v.done.getD k default).n):=fun k D=>by rw[bPP];unfold cS;rw[brO (by simpa using D)];simp[List.getD,D,key]
 have bf: ∀k,k<v.pipe.length->V[v.done.length+k]?=some ((v.pipe.getD k default).who,(v.pipe.getD k default).n):=fun k D=>by rw[bPP];unfold cS;rw[brX (by simp)];simp[List.getD,D]
 have an: ∀k x,V[k]?=some x->(V.map a80).take (k+1)=(V.map a80).take k++[a80 x]:=fun k x h=>by obtain⟨D,h2⟩:=m3.1 h;rw[brQ (by simpa using D),bsD,h2]
 have ao: ∀(k:Nat) (x:Int×Int),V[k]?=some x->Z0 c s st->a23 s x.1 x.2 st:=fun k x h hs=>hs.out x (by rw[<-f,<-bPP];exact s3 h);repeat' first| (first|apply bn1|apply bpK (by omega)|apply aBC)<;>(simp only[go_sem,aj,aa,bpO])|refine⟨by omega,?_⟩|fail
 refine aM.gP (β:=Nat×Nat×Nat) (fun u=>en [(9,boP u.1),(8,.one (.c (.osl 5 u.2.1 0 u.1 u.2.2))),(7,.one (.c (.ptr 3 8 0 0))),(4,.one (.c (.ptr 5 1 0 0))),(3,.one (.c (.ptr 3 0 0 0))),(2,boP st)])
  (fun u H1 bp0=>u.1<=v.done.length/\(∀i,i<u.1->a23 s (v.done.getD i default).who (v.done.getD i default).n st/\as5 c (v.done.getD i default))/\H1 0=some ⟨3,1,[cU c]⟩/\H1 1=some ⟨5,1,[eI s]⟩/\H1 8=some ⟨3,1,[gF v]⟩/\(∃m,H1 u.2.1=some ⟨5,m,((V.map a80).take u.1).map aS⟩/\u.1<=u.2.2/\u.2.2<=m)/\26<=u.2.1/\u.2.1<bp0)
  (fun u=>v.done.length-u.1) (0,26,0) ⟨noF,_,by repeat' first|exact bo2|refine xqI rfl rfl ?_|refine xqP (by omega) rfl rfl ?_| (with_reducible apply bo3)| ((with_reducible apply bo0);exact bpA)| ((with_reducible apply bo1);apply bo7)|fail,aK,by dsimp only;omega,fun i hi=>by dsimp only at hi;omega,rfl,rfl,rfl,⟨0,rfl,by dsimp only;omega,by dsimp only;omega⟩,by dsimp only;omega,by dsimp only;omega⟩ ?_
 rintro⟨k,b,B⟩ H1 T bg ⟨D,bOV,bqC,C,bp4,⟨m,l,U,I⟩,W,X⟩ bpQ bh;dsimp only at D bOV l U I W X;have E:bQ T [0,1,8,b]:=AM.apart (by simp;omega) (by simp;omega);simp only[bQ,eZ] at E;have J:((V.map a80).take k).length=k:=by simp;omega
 have M:(((V.map a80).take k).map aS).length=k:=by rw[bqW,J]
 by_cases p:k<v.done.length
 ·obtain⟨d,g⟩: ∃d,v.done.getD k default=d:=⟨_,rfl⟩
  have aq:d∈(aL s st).done:=by rw[<-g,<-f];exact cC p
  have F:=bd k p;have hIn:=iS bOV (k:=k);rw[g] at F hIn;have af:d.rsp.data.length<2^40:=by have h1:=ak d (by rw[f];exact aq);omega
  by_cases N:a23 s d.who d.n st
  case neg=>
   have z:=beO N;repeat' first| (first|apply bn1|refine w6 (s:=s) (who:=d.who) (n:=d.n) (st:=st) hp.pl o (aE rfl) ?_)<;>(simp only[go_sem,t1,bqT,bqC,C,bp4,g,z,E])|apply bn2 (by omega)|refine⟨by omega,?_⟩|fail
   all_goals first|exact aZ O _ rfl rfl (hF fun h=>N (ao _ _ F h))| (exfalso;omega)
  have z:=be2 N;have ag:=N.asks hp;obtain⟨bz,Y,bj⟩:=ag;obtain⟨P,boS⟩: ∃P,c.cP.getD d.who.toNat default=P:=⟨_,rfl⟩
  rw[boS] at bj;obtain⟨q,hq⟩: ∃q,P.getD d.n.toNat default=q:=⟨_,rfl⟩
  have ar:bT c d.who d.n=q:=by unfold bT;rw[boS,hq]
  by_cases hr:as5 c d
  case neg=>
   have t: ¬Z0 c s st:=fun h=>hr (h.rsp d aq);unfold as5 at hr;rw[ar] at hr;by_cases ah:pA d.rsp
   ·have A:=eq_true ah;have e3:(d.rsp.id=q.id)=False:=eq_false fun h=>hr ⟨ah,h⟩;repeat' first| (first|apply bn1|refine w6 (s:=s) (who:=d.who) (n:=d.n) (st:=st) hp.pl o (aE rfl) ?_|apply a4N af)<;>(simp only[go_sem,t1,bqT,bqC,C,bp4,g,ae,boS,hq,z,A,e3,E])|apply bn2 (by omega)|refine⟨by omega,?_⟩|fail
    all_goals first|exact aZ O _ rfl rfl (hF t)| (exfalso;omega)
   ·have A:=eq_false ah;repeat' first| (first|apply bn1|refine w6 (s:=s) (who:=d.who) (n:=d.n) (st:=st) hp.pl o (aE rfl) ?_|apply a4N af)<;>(simp only[go_sem,t1,bqT,bqC,C,bp4,g,ae,boS,hq,z,A,E])|apply bn2 (by omega)|refine⟨by omega,?_⟩|fail
    all_goals first|exact aZ O _ rfl rfl (hF t)| (exfalso;omega)
  have A:=eq_true hr.1;have e3:(d.rsp.id=q.id)=True:=eq_true (by rw[<-ar];exact hr.2);repeat' first| (first|apply bn1|refine w6 (s:=s) (who:=d.who) (n:=d.n) (st:=st) hp.pl o (aE rfl) ?_|apply a4N af)<;>(simp only[go_sem,t1,bqT,bqC,C,bp4,l,g,ae,boS,hq,z,A,e3,M,E];try simp (disch:=omega) only[Iw])|apply bn2 (by omega)| (with_reducible first|refine fun(cap:Nat) (ai:_<=cap)=> ?_|refine fun(bk:_<=cap)=> ?_)|refine⟨by omega,?_⟩|fail
  refine af0 (K:=bpQ) fun G bqK=> ?_;have q1:G (T+50)=some ⟨5,cap,((V.map a80).take k).map aS++[[cI d.who,cI d.n,cI 0,cI 0,.osl 0 0 0 0 0]]⟩:=by rw[bqK];exact aA.bH
  have q2: ∀id,id<T->id≠b->G id=H1 id:=fun id h1 h2=>by rw[bqK,aA.aC (by omega),aA.aC (by omega),aA.aC (by omega),aA.jG h2]
  have q3:=an k _ F;refine bh _ _ _ (k+1,T+50,cap) noF _ (by omega) (by dsimp only;omega) (by dsimp only;repeat' first|exact bo2|refine xqI rfl rfl ?_|refine xqP (by omega) rfl rfl ?_|refine xqO (by omega) rfl rfl (by rfl) ?_|fail) (bfM q1) ⟨by dsimp only;omega,hIn ⟨N,hr⟩,?_,?_,?_,⟨cap,by dsimp only;rw[q3];exact aA.bH,by dsimp only;omega,m5 _⟩,by dsimp only;omega,by dsimp only;omega⟩;·rw[aA.aC (by omega),q2 _ (by omega) (by omega)];exact bqC
  ·rw[aA.aC (by omega),q2 _ (by omega) (by omega)];exact C
  ·rw[aA.aC (by omega),q2 _ (by omega) (by omega)];exact bp4
 ·repeat' first|apply bn1<;>(simp only[go_sem,bp4])|apply bn3 (by omega)|fail
  have Y:k=v.done.length:=by omega
  subst Y;clear p J M E D
  refine aM.gP (β:=Nat×Nat×Nat) (fun u=>en [(11,boP u.1),(8,.one (.c (.osl 5 u.2.1 0 (v.done.length+u.1) u.2.2))),(7,.one (.c (.ptr 3 8 0 0))),(4,.one (.c (.ptr 5 1 0 0))),(3,.one (.c (.ptr 3 0 0 0))),(2,boP st)])
   (fun u H1 bp0=>u.1<=v.pipe.length/\(∀i,i<u.1->a23 s (v.pipe.getD i default).who (v.pipe.getD i default).n st/\beA c st i (v.pipe.getD i default))/\H1 0=some ⟨3,1,[cU c]⟩/\H1 1=some ⟨5,1,[eI s]⟩/\H1 8=some ⟨3,1,[gF v]⟩/\(∃m,H1 u.2.1=some ⟨5,m,((V.map a80).take (v.done.length+u.1)).map aS⟩/\v.done.length+u.1<=u.2.2/\u.2.2<=m)/\26<=u.2.1/\u.2.1<bp0)
   (fun u=>v.pipe.length-u.1) (0,b,B) ⟨noF,_,by dsimp only;repeat' first|exact bo2|refine xqI rfl rfl ?_|refine xqP (by omega) rfl rfl ?_|refine xqO (by omega) rfl rfl (by rfl) ?_|fail,aK,by dsimp only;omega,fun i hi=>by dsimp only at hi;omega,bqC,C,bp4,⟨m,l,by dsimp only;omega,I⟩,by dsimp only;omega,by dsimp only;omega⟩ ?_
  clear bqC C bp4 l U I W X;rintro⟨k,b,B⟩ H2 Z bm ⟨D,aIF,bqC,C,bp4,⟨m,l,U,I⟩,W,X⟩ bqG bn;dsimp only at D aIF l U I W X;have E:bQ Z [0,1,8,b]:=AM.apart (by simp;omega) (by simp;omega);simp only[bQ,eZ] at E;have J:((V.map a80).take (v.done.length+k)).length=v.done.length+k:=by simp;omega
  have M:(((V.map a80).take (v.done.length+k)).map aS).length=v.done.length+k:=by rw[bqW,J]
  by_cases p:k<v.pipe.length
  ·obtain⟨d,g⟩: ∃d,v.pipe.getD k default=d:=⟨_,rfl⟩
   have F:=bf k p;have hIn:=iS aIF (k:=k);rw[g] at F hIn;have ab:Z0 c s st->beA c st k d:=fun h=>by have:=h.left k (by rw[<-f];exact p);rw[<-f,g] at this;exact this
   by_cases N:a23 s d.who d.n st
   case neg=>
    have z:=beO N;repeat' first| (first|apply bn1|refine w6 (s:=s) (who:=d.who) (n:=d.n) (st:=st) hp.pl o (aE rfl) ?_)<;>(simp only[go_sem,t1,bqT,bqC,C,bp4,g,z,E])|apply bn2 (by omega)|refine⟨by omega,?_⟩|fail
    all_goals first|exact aZ O _ rfl rfl (hF fun h=>N (ao _ _ F h))| (exfalso;omega)
   have z:=be2 N;by_cases hl:beA c st k d
   case neg=>
    have t: ¬Z0 c s st:=fun h=>hl (ab h);unfold beA at hl;by_cases y:0<=d.left/\d.left<=c.lat.getD st default
    ·have A:(0<=d.left/\d.left<=c.lat.getD st default)=True:=eq_true y
     have ca:0<k:=by
      rcases CR k with h|h;·exact absurd ⟨y,fun h2=>by omega⟩ hl
      ·exact h
     have e3:(d.left=c.lat.getD st default)=False:=eq_false fun h=>hl ⟨y,fun _=>h⟩;repeat' first| (first|apply bn1|apply bpJ (by omega)|refine w6 (s:=s) (who:=d.who) (n:=d.n) (st:=st) hp.pl o (aE rfl) ?_|apply aBC)<;>(simp only[go_sem,t1,bqT,bqC,C,bp4,g,z,A,e3,E])|apply bn2 (by omega)|refine⟨by omega,?_⟩|fail
     all_goals first|exact aZ O _ rfl rfl (hF t)| (exfalso;omega)
    ·have A:(0<=d.left/\d.left<=c.lat.getD st default)=False:=eq_false y;repeat' first| (first|apply bn1|refine w6 (s:=s) (who:=d.who) (n:=d.n) (st:=st) hp.pl o (aE rfl) ?_|apply aBC)<;>(simp only[go_sem,t1,bqT,bqC,C,bp4,g,z,A,E])|apply bn2 (by omega)|refine⟨by omega,?_⟩|fail
     all_goals first|exact aZ O _ rfl rfl (hF t)| (exfalso;omega)
   have A:(0<=d.left/\d.left<=c.lat.getD st default)=True:=eq_true hl.1;have S:=hl.2;repeat' first| (first|apply bn1|refine bpL (fun h=> ?_) fun h=> ?_|refine w6 (s:=s) (who:=d.who) (n:=d.n) (st:=st) hp.pl o (aE rfl) ?_|apply aBC)<;>(simp only[go_sem,t1,bqT,bqC,C,bp4,l,g,z,A,M,E];try simp (disch:=omega) only[Iw])|apply bn2 (by omega)|apply bn3 (by omega)| (with_reducible first|refine fun(cap:Nat) (ai:_<=cap)=> ?_|refine fun(bk:_<=cap)=> ?_)|refine⟨by omega,?_⟩|fail
   all_goals first| (exfalso;have:=S (by omega);omega)|skip
   all_goals (
    refine af0 (K:=bqG) fun G bqK=> ?_
    have q3:=an _ _ F
    have q1:G (Z+52)=some ⟨5,cap,((V.map a80).take (v.done.length+k)).map aS++[[cI d.who,cI d.n,cI 0,cI 0,.osl 0 0 0 0 0]]⟩:=by rw[bqK];exact aA.bH
    have q2: ∀id,id<Z->id≠b->G id=H2 id:=fun id h1 h2=>by rw[bqK,aA.aC (by omega),aA.aC (by omega),aA.aC (by omega),aA.jG h2]
    refine bn _ _ _ (k+1,Z+52,cap) noF _ (by omega) (by dsimp only;omega) (by dsimp only;repeat' first|exact bo2|refine xqI rfl rfl ?_|refine xqP (by omega) rfl rfl ?_|refine xqO (by omega) rfl rfl (by rfl) ?_|fail) (bfM q1) ⟨by dsimp only;omega,hIn ⟨N,hl⟩,?_,?_,?_,⟨cap,by dsimp only;rw[<-t1,q3];exact aA.bH,by dsimp only;omega,m5 _⟩,by dsimp only;omega,by dsimp only;omega⟩
    ·rw[aA.aC (by omega),q2 _ (by omega) (by omega)];exact bqC
    ·rw[aA.aC (by omega),q2 _ (by omega) (by omega)];exact C
    ·rw[aA.aC (by omega),q2 _ (by omega) (by omega)];exact bp4)
  ·repeat' first|apply bn1<;>(simp only[go_sem,bp4])|apply bn3 (by omega)|fail
   have Y:k=v.pipe.length:=(by omega);subst Y;obtain⟨L,bPG⟩: ∃L,L=V.map a80:=⟨_,rfl⟩
   have ad: ∀i (hi:i<V.length),L.getD i default=a80 V[i]:=fun i hi=>by rw[bPG];simp[List.getD,hi]
   have au:L.length=v.done.length+v.pipe.length:=(by rw[bPG,bqW,bc]);rw[<-bPG,boL (by omega)] at l;clear p J M E D bqC C bp4
   refine aM.gP (β:=Nat) (fun k=>en [(13,boP k),(8,.one (.c (.osl 5 b 0 (v.done.length+v.pipe.length) B)))])
    (fun k H3 _=>k<=L.length/\(∀i j,i<j->j<k->(L.getD i default).who=(L.getD j default).who->(L.getD i default).n<(L.getD j default).n)/\H3 b=some ⟨5,m,L.map aS⟩) (fun k=>L.length-k) 0 ⟨noF,_,by repeat' first|exact bo2|refine xqI rfl rfl ?_|refine xqO (by omega) rfl rfl (by rfl) ?_|fail,aK,by omega,fun i j _ hj=>by omega,l⟩ ?_
   clear l;rintro k H3 cb bo ⟨D,bf2,l⟩ bqR bp;by_cases p:k<L.length
   ·repeat' first|apply bn1<;>(simp only[go_sem])|apply bn2 (by omega)|fail
    refine aM.gP (β:=Nat) (fun j=>en [(14,boP j),(13,boP k),(8,.one (.c (.osl 5 b 0 (v.done.length+v.pipe.length) B)))])
     (fun j bqL _=>j<=k/\(∀i,i<j->(L.getD i default).who=(L.getD k default).who->(L.getD i default).n<(L.getD k default).n)/\bqL b=some ⟨5,m,L.map aS⟩) (fun j=>k-j) 0 ⟨noF,_,by repeat' first|exact bo2|refine xqI rfl rfl ?_|refine xqO (by omega) rfl rfl (by rfl) ?_|fail,aK,by omega,fun i hi=>by omega,l⟩ ?_
    clear l;rintro j bqL cc bq ⟨hj,bqA,l⟩ aNB br;by_cases bs:j<k
    ·by_cases hc:(L.getD j default).who=(L.getD k default).who/\(L.getD k default).n<=(L.getD j default).n
     ·have bPB:((L.getD j default).who=(L.getD k default).who)=True:=eq_true hc.1;have c2:((L.getD k default).n<=(L.getD j default).n)=True:=eq_true hc.2;repeat' first|apply bn1<;>(simp only[go_sem,t1,bqT,l,au,bPB,c2])|apply bn2 (by omega)|refine⟨by omega,?_⟩|fail
      all_goals first
       | (exfalso;omega)
       |exact aZ O _ rfl rfl (hF fun h=>by
        have h1:=Z6.1 h.inc j k (by rw[<-f,<-bPP];omega) (by rw[<-f,<-bPP];omega) bs
        simp only[<-f,<-bPP] at h1
        have z:=ad j (by omega)
        have A:=ad k (by omega)
        rw[z,A] at hc
        have:=h1 hc.1
        have:=hc.2
        simp only[a80] at this
        omega)
     ·repeat' first| (first|apply bn1|refine bpL (fun h=> ?_) fun h=> ?_)<;>(simp only[go_sem,t1,bqT,l,au];try simp (disch:=omega) only[Iw])|apply bn2 (by omega)|apply bn3 (by omega)|refine⟨by omega,?_⟩|fail
      all_goals first
       | (exfalso;omega)
       |exact br _ _ _ (j+1) noF _ (by omega) (by omega) (by repeat' first|exact bo2|refine xqI rfl rfl ?_|refine xqO (by omega) rfl rfl (by rfl) ?_|fail) aK ⟨by omega,iS bqA (by intro he;omega),l⟩
    ·repeat' first|apply bn1<;>(simp only[go_sem];try simp (disch:=omega) only[Iw])|apply bn3 (by omega)|fail
     have bt:j=k:=(by omega);subst bt
     exact bp _ _ _ (j+1) noF _ (by omega) (by omega) (by repeat' first|exact bo2|refine xqI rfl rfl ?_|refine xqO (by omega) rfl rfl (by rfl) ?_|fail) aK ⟨by omega,fun a e aw he=>by
      by_cases h:e<j
      ·exact bf2 a e aw h
      ·obtain rfl:e=j:=by omega
       exact bqA a aw,l⟩
   ·repeat' first|apply bn1<;>(simp only[go_sem])|apply bn3 (by omega)|fail
    refine aZ O _ rfl rfl (aAI ⟨?_,?_,?_,?_,?_,?_,?_⟩);·rw[<-f];omega
    ·rw[<-f];omega
    ·rw[<-f];exact⟨y,S⟩
    ·rw[<-f,<-bPP];refine Z6.2 fun i j hi hj bu he=> ?_;have z:=ad i hi;have A:=ad j hj;have:=bf2 i j bu (by omega);rw[z,A] at this;exact this he
    ·rw[<-f];intro x F;rcases o3.1 F with F|F;·obtain⟨d,hd,rfl⟩:=CF.1 F;exact(aKJ (P:=fun d=>a23 s d.who d.n st/\as5 c d) bOV d hd).1
     ·obtain⟨d,hd,rfl⟩:=CF.1 F;exact aKJ (P:=fun d=>a23 s d.who d.n st) (fun i hi=>(aIF i hi).1) d hd
    ·rw[<-f];exact fun d hd=>(aKJ (P:=fun d=>a23 s d.who d.n st/\as5 c d) bOV d hd).2
    ·rw[<-f];exact fun i hi=>(aIF i hi).2
end
end Go.Proofs.YtlncecohbakleaaGreat
