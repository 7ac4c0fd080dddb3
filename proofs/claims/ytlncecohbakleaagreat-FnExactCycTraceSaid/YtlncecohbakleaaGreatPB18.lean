/- Texts laid together by a program: rules, contracts and the walk that leads to the law. -/
import Derived.Test.YtlncecohbakleaaGreatPB15
set_option linter.unusedVariables false
set_option linter.unusedSimpArgs false
set_option linter.unusedSectionVars false
set_option maxRecDepth 100000
set_option maxHeartbeats 8000000
namespace Go.AM
structure Rq(c:Cfg)(who:Nat)(p:cJ)(k:Nat):Prop where
 all: ∀i,i<k->QF c who p (p.out.getD i default)
 srt: ∀i j,i<j->j<k->(p.out.getD i default).n<(p.out.getD j default).n
 ids: ∀i j,i<j->j<k->(bO c who (p.out.getD i default).n).id=(bO c who (p.out.getD j default).n).id->(p.out.getD i default).left=(p.out.getD j default).left
theorem Rq.next{c:Cfg}{who:Nat}{p:cJ}{k:Nat}(h:Rq c who p k)(d:QF c who p (p.out.getD k default))(e:0<k->(p.out.getD (k-1) default).n<(p.out.getD k default).n)
 (f: ∀i,i<k->(bO c who (p.out.getD i default).n).id=(bO c who (p.out.getD k default).n).id->(p.out.getD i default).left=(p.out.getD k default).left):Rq c who p (k+1):=by
 refine⟨bT h.all d,fun i j a g=> ?_,fun i j a g he=> ?_⟩
 ·by_cases b:j<k;·exact h.srt i j a b
  ·obtain rfl:j=k:=by omega
   have l:=e (by omega);by_cases hi:i=j-1;·subst hi;omega
   ·have:=h.srt i (j-1) (by omega) (by omega);omega
 ·by_cases b:j<k;·exact h.ids i j a b he
  ·obtain rfl:j=k:=by omega
   exact f i a he
theorem Rq.end{c:Cfg}{who:Nat}{p:cJ}(h:Rq c who p p.out.length):(∀j∈p.out,QF c who p j)/\(p.out.Pairwise fun a b=>a.n<b.n)/\ ∀a∈p.out,∀b∈p.out,(bO c who a.n).id=(bO c who b.n).id->a.left=b.left:=by
 have f: ∀i (hi:i<p.out.length),p.out.getD i default=p.out[i]:=fun i hi=>by simp[List.getD,hi]
 refine⟨fun j e=> ?_,ak5.2 fun i j hi e d=> ?_,fun a g b k he=> ?_⟩;·obtain⟨i,hi,rfl⟩:=akX.1 e;rw[<-f i hi];exact h.all i hi
 ·rw[<-f i hi,<-f j e];exact h.srt i j d e
 ·obtain⟨i,hi,rfl⟩:=akX.1 g;obtain⟨j,e,rfl⟩:=akX.1 k;rw[<-f i hi,<-f j e] at he ⊢;rcases Nat.lt_trichotomy i j with d|d|d;·exact h.ids i j d e he
  ·subst d;rfl
  ·exact(h.ids j i d hi he.symm).symm
def BU(s:CSt)(who n:Int)(st:Nat):Prop:=(0<=who/\who<=2)/\ ∃j∈(aL s who.toNat).out,j.n=n/\j.left=st
noncomputable def oaB(s:CSt)(who n:Int)(st:Nat):Bool:=@decide (BU s who n st) (Classical.propDecidable _)
theorem Ye{s:CSt}{who n:Int}{st:Nat}(h:BU s who n st):oaB s who n st=true:=by simp[oaB,h]
theorem Qu{s:CSt}{who n:Int}{st:Nat}(h: ¬BU s who n st):oaB s who n st=false:=by simp[oaB,h]
theorem BU.asks{c:Cfg}{s:CSt}{st:Nat}{who n:Int}(hp:C6 c s)(h:BU s who n st):rI c who n:=by obtain⟨hw,j,b,d,_⟩:=h;have a:=hp.port who.toNat (by omega);obtain⟨_,e,_⟩:=a.out _ b;have:=a.asks (n:=n) (by omega) (by omega) (by omega);rwa [show ((who.toNat:Nat):Int)=who by omega] at this
def bq(x:Int×Int):Job:=⟨x.1,x.2,kL⟩
theorem ai7{G:aA}{x2 cap nx':Nat}{W:List Job}{k n:Int}(a:G x2=some ⟨5,cap,W.map aP++[[cI k,cI n,cI 0,cI 0,.osl 0 0 0 0 0]]⟩):CvX noF nx' G (G.set x2 ⟨5,cap,(W++[(⟨k,n,kL⟩:Job)]).map aP⟩):=dd (i:=x2) (o':=⟨5,cap,(W++[(⟨k,n,kL⟩:Job)]).map aP⟩) a (Iv (R:=W.map aP) (r':=aP (⟨k,n,kL⟩:Job)) (by rw[akQ];rfl) rfl (fun r hr=>(aW dE _ r hr).2) rfl (aQ (bZ rfl) (aQ (bZ rfl) (aQ (bZ rfl) (aQ (bZ rfl) (aQ (.frz (.nil ..)) iA))))))
end Go.AM
namespace Go.Proofs.YtlncecohbakleaaGreat
open Go Go.AM
attribute [local irreducible] aH wv aC vd wvH
section
variable{H:aA}{nx:Nat}{K:an4}
theorem S0{c:Cfg}{s:CSt}{who:Nat}(hb:bI c)(V:s.bE.length=3)(hw:who<3)(cc:(aL s who).queue.length<2^21)(cd:(aL s who).out.length<2^21)(h:K (dB (ptB c who (aL s who))) H nx):an3 KH [dA (cD c),dA (dY s),dI who] H nx K:=by
 refine aC.pure (args0:=[dA (cD c),dA (dY s),dI who]) (R:=fun rr=>rr=dB (ptB c who (aL s who))) ?_ rfl (aE ⟨aD rfl,aD rfl,aD rfl,trivial⟩) (fun r hr=>hr▸h);clear h;refine aM.mk Tryz.func127 (by kernel_rfl) uz rfl fun Q v=> ?_;unfold yY;obtain⟨d,W⟩:=eN hb;have cf:=W who;have C:B1 c.map:=hb.1;have ds:=hb.1.1;obtain⟨p,hP⟩: ∃p,p=aL s who:=⟨_,rfl⟩
 have X:s.bE.getD who default=p:=hP.symm;rw[<-hP] at cc cd;have A: ¬gV c who p->dB false=dB (ptB c who (aL s who)):=fun h=>by rw[<-hP,cr h]
 have hT:gV c who p->dB true=dB (ptB c who (aL s who)):=fun h=>by rw[<-hP,Qt h]
 obtain⟨P,a⟩: ∃P,c.b7.getD who default=P:=⟨_,rfl⟩
 rw[a] at cf;have Y: ∀n:Int,bO c who n=P.getD n.toNat default:=fun n=>by unfold bO;rw[Int.toNat_natCast,a]
 by_cases h0:(0<=p.next/\p.next<=(P.length:Int))/\((p.queue.length:Int)<=2/\(p.queue.length:Int)<=p.next)/\(p.out.length:Int)<=4/\0<=p.last/\p.last<=3
 case neg=>
  have cl: ¬gV c who p:=fun h=>h0 ⟨by have:=h.next;rw[a] at this;exact this,by have:=h.ql;omega,by have:=h.ol;omega,h.last⟩;repeat' first| (first|apply vI|refine Y6 (fun h=> ?_) fun h=> ?_|apply bF)<;>(simp only[go_sem,d,V,X,a])|apply vT (by omega)|refine⟨by omega,?_⟩|fail
  all_goals first|exact aJ v _ rfl rfl (A cl)| (exfalso;omega)
 obtain⟨⟨Z,ab⟩,⟨dv,w⟩,dx,ad,ao⟩:=h0;have t1:(0<=p.next/\p.next<=(P.length:Int))=True:=eq_true ⟨Z,ab⟩;have t2:(0<=p.last/\p.last<=3)=True:=eq_true ⟨ad,ao⟩;repeat' first| (first|apply vI|apply Y5 (by omega)|apply bF)<;>(simp only[go_sem,d,V,X,a,t1,t2])|refine⟨by omega,?_⟩|fail
 refine aH.cE (β:=Nat) (fun k=>en [(8,dI k),(7,.one (.c (.ptr 4 8 0 0))),(3,.one (.c (.ptr 3 0 0 0))),(2,dI who)]) (fun k H1 _=>k<=p.queue.length/\(∀i,i<k->p.queue.getD i default=p.next-p.queue.length+i)/\H1 0=some ⟨3,1,[cD c]⟩/\H1 8=some ⟨4,1,[bV p]⟩) (fun k=>p.queue.length-k) 0 ⟨noF,_,by repeat' first|exact C1|refine xqI rfl rfl ?_|refine xqP (by omega) rfl rfl ?_|fail,aF,by omega,fun i hi=>by omega,rfl,rfl⟩ ?_;rintro k H1 dy cp ⟨hk,D,g,e⟩ KL cq;by_cases l:k<p.queue.length
 ·by_cases az:p.queue.getD k default=p.next-p.queue.length+k
  ·repeat' first|apply vI<;>(simp only[go_sem,e];try simp (disch:=omega) only[Iw])|apply vT (by omega)|apply vF (by omega)|refine⟨by omega,?_⟩|fail
   all_goals first|exact cq _ _ _ (k+1) noF _ (by omega) (by omega) (by repeat' first|exact C1|refine xqI rfl rfl ?_|refine xqP (by omega) rfl rfl ?_|fail) aF ⟨by omega,bT D az,g,e⟩| (exfalso;omega)
  ·repeat' first|apply vI<;>(simp only[go_sem,e];try simp (disch:=omega) only[Iw])|apply vT (by omega)|refine⟨by omega,?_⟩|fail
   all_goals first|exact aJ v _ rfl rfl (A fun h=>az (h.queue k l))| (exfalso;omega)
 ·have E:k=p.queue.length:=by omega
  rw[E] at D;repeat' first|apply vI<;>(simp only[go_sem,e])|apply vF (by omega)|fail
  refine aH.cE (β:=Nat) (fun k=>en [(9,dI k),(7,.one (.c (.ptr 4 8 0 0))),(3,.one (.c (.ptr 3 0 0 0))),(2,dI who)]) (fun k H1 _=>k<=p.out.length/\Rq c who p k/\H1 0=some ⟨3,1,[cD c]⟩/\H1 8=some ⟨4,1,[bV p]⟩) (fun k=>p.out.length-k) 0 ⟨noF,_,by repeat' first|exact C1|refine xqI rfl rfl ?_|refine xqP (by omega) rfl rfl ?_|fail,aF,by omega,⟨fun i hi=>by omega,fun i j _ hj=>by omega,fun i j _ hj=>by omega⟩,g,e⟩ ?_;clear g e;rintro k H2 F ct ⟨hk,hI,g,e⟩ KM cw;have G:bH F [0,8]:=AM.apart (by simp) (by simp;omega);simp only[bH,cU] at G;by_cases l:k<p.out.length
  ·have hm:=bL l
   have b:gV c who p->QF c who p (p.out.getD k default)/\(0<k->(p.out.getD (k-1) default).n<(p.out.getD k default).n)/\ ∀i,i<k->(bO c who (p.out.getD i default).n).id=(bO c who (p.out.getD k default).n).id->(p.out.getD i default).left=(p.out.getD k default).left:=fun h=>
    ⟨h.out _ hm,fun h0=>by
      have:=ak5.1 h.Gq (k-1) k (by omega) l (by omega)
      simpa [List.getD,l,show k-1<p.out.length by omega] using this,fun i hi he=>h.Rs _ (bL (by omega)) _ hm he⟩
   have m:=hI.next;generalize S:p.out.getD k default=o at b m;have I:((k:Int)-1).toNat=k-1:=(by omega);by_cases y:o.who=who
   case neg=>
    have J:(o.who=(who:Int))=False:=eq_false y;repeat' first|apply vI<;>(simp only[go_sem,akB,akC,g,e,S,J,G])|apply vT (by omega)|refine⟨by omega,?_⟩|fail
    all_goals exact aJ v _ rfl rfl (A fun h=>y (b h).1.1)
   have J:(o.who=(who:Int))=True:=eq_true y;by_cases L:0<=o.n/\o.n<=p.next-p.queue.length-1
   case neg=>
    have T:(0<=o.n/\o.n<=p.next-p.queue.length-1)=False:=eq_false L;repeat' first| (first|apply vI|apply bF)<;>(simp only[go_sem,akB,akC,g,e,S,J,T,G];try simp (disch:=omega) only[Iw])|apply vT (by omega)|refine⟨by omega,?_⟩|fail
    all_goals first|exact aJ v _ rfl rfl (A fun h=>L (by have:=(b h).1.2.1;omega))| (exfalso;omega)
   have T:(0<=o.n/\o.n<=p.next-p.queue.length-1)=True:=eq_true L;by_cases t:0<k->(p.out.getD (k-1) default).n<o.n
   case neg=>
    have M:0<k:=(by omega);have t:o.n<=(p.out.getD (k-1) default).n:=(by omega);have e3:(o.n<=(p.out.getD ((k:Int)-1).toNat default).n)=True:=eq_true (by rw[I];exact t);repeat' first| (first|apply vI|apply Y4 (by omega)|refine Y6 (fun h=> ?_) fun h=> ?_|apply bF)<;>(simp only[go_sem,akB,akC,g,e,S,J,T,e3,G];try simp (disch:=omega) only[Iw])|apply vT (by omega)|refine⟨by omega,?_⟩|fail
    all_goals first|exact aJ v _ rfl rfl (A fun h=>by have:=(b h).2.1 M;omega)| (exfalso;omega)|exact absurd (of_eq_true e3) (by assumption)
   obtain⟨q,U⟩: ∃q,P.getD o.n.toNat default=q:=⟨_,rfl⟩
   have f:bO c who o.n=q:=(by rw[Y];exact U);have aa:rI c who o.n:=⟨by omega,by omega,by rw[Int.toNat_natCast,a];omega⟩
   have N:fZ q:=f▸MQ hb aa;by_cases u:o.left=iR c.map q
   case neg=>
    have e4:(o.left=iR c.map q)=False:=eq_false u;by_cases M:0<k
    ·have e3:(o.n<=(p.out.getD ((k:Int)-1).toNat default).n)=False:=eq_false (by rw[I];have:=t M;omega);repeat' first| (first|apply vI|apply Y4 (by omega)|refine Y6 (fun h=> ?_) fun h=> ?_|apply bF|apply nO C N (by omega))<;>(simp only[go_sem,akB,akC,g,e,S,d,a,U,J,T,e3,e4,G];try simp (disch:=omega) only[Iw])|apply vT (by omega)|refine⟨by omega,?_⟩|fail
     all_goals first|exact aJ v _ rfl rfl (A fun h=>u (by have:=(b h).1.2.2;rw[f] at this;exact this))| (exfalso;omega)
    ·repeat' first| (first|apply vI|apply Y5 (by omega)|apply bF|apply nO C N (by omega))<;>(simp only[go_sem,akB,akC,g,e,S,d,a,U,J,T,e4,G];try simp (disch:=omega) only[Iw])|apply vT (by omega)|refine⟨by omega,?_⟩|fail
     all_goals first|exact aJ v _ rfl rfl (A fun h=>u (by have:=(b h).1.2.2;rw[f] at this;exact this))| (exfalso;omega)
   have e4:(o.left=iR c.map q)=True:=eq_true u;have cx:QF c who p o:=⟨y,by omega,by rw[f];exact u⟩
   repeat' first| (first|apply vI|refine Y6 (fun h=> ?_) fun h=> ?_|apply bF|apply nO C N (by omega))<;>(simp only[go_sem,akB,akC,g,e,S,d,a,U,J,T,e4,G];try simp (disch:=omega) only[Iw])|apply vT (by omega)|refine⟨by omega,?_⟩|fail
   all_goals try (exfalso;have h3:=t (by omega);rw[<-I] at h3;omega)
   all_goals (
    refine aH.cE (β:=Nat) (fun j=>en [(11,dI j),(10,.one (.c (.ptr 3 (F+10) 0 0))),(9,dI k),(7,.one (.c (.ptr 4 8 0 0))),(3,.one (.c (.ptr 3 0 0 0))),(2,dI who)]) (fun j H3 _=>j<=k/\(∀i,i<j->(bO c who (p.out.getD i default).n).id=(bO c who o.n).id->(p.out.getD i default).left=o.left)/\H3 0=some ⟨3,1,[cD c]⟩/\H3 8=some ⟨4,1,[bV p]⟩/\H3 (F+10)=some ⟨3,1,[eCJ o]⟩) (fun j=>k-j) 0 ⟨noF,_,by repeat' first|exact C1|refine xqI rfl rfl ?_|refine xqP (by omega) rfl rfl ?_|fail,aF,by omega,fun i hi=>by omega,by rw[aA.aB (by omega)];exact g,by rw[aA.aB (by omega)];exact e,aA.aI⟩ ?_
    rintro j H3 dz cy ⟨hj,hJ,f0,f8,z⟩ KN dc
    by_cases br:j<k
    ·obtain⟨x,hx⟩: ∃x,p.out.getD j default=x:=⟨_,rfl⟩
     have ca:=hI.all j br;rw[hx] at ca;obtain⟨O,w⟩: ∃O,P.getD x.n.toNat default=O:=⟨_,rfl⟩
     have B:bO c who x.n=O:=(by rw[Y];exact w);obtain⟨_,ed,_⟩:=ca;by_cases hc:O.id=q.id/\x.left≠o.left
     ·have c1:(O.id=q.id)=True:=eq_true hc.1;have c2:(x.left=o.left)=False:=eq_false hc.2;repeat' first|apply vI<;>(simp only[go_sem,akB,akC,f0,f8,z,hx,d,a,U,w,c1,c2])|apply vT (by omega)|refine⟨by omega,?_⟩|fail
      all_goals exact aJ v _ rfl rfl (A fun h=>hc.2 (by
       have h1:=(b h).2.2 j br
       rw[hx,f,B] at h1
       exact h1 hc.1))
     ·repeat' first| (first|apply vI|apply Y4 (by omega)|refine Y6 (fun h=> ?_) fun h=> ?_)<;>(simp only[go_sem,akB,akC,f0,f8,z,hx,d,a,U,w];try simp (disch:=omega) only[Iw])|apply vT (by omega)|apply vF (by omega)|refine⟨by omega,?_⟩|fail
      all_goals first
       |exact dc _ _ _ (j+1) noF _ (by omega) (by omega) (by repeat' first|exact C1|refine xqI rfl rfl ?_|refine xqP (by omega) rfl rfl ?_|fail) aF ⟨by omega,bT hJ (by rw[hx,f,B];intro he;omega),f0,f8,z⟩
       | (exfalso;omega)
    ·have df:j=k:=(by omega);subst df;have dh:=m cx (fun h=>by have:=t h;omega) hJ;repeat' first|apply vI<;>(simp only[go_sem,z];try simp (disch:=omega) only[Iw])|apply vF (by omega)|fail
     exact cw _ _ _ (j+1) noF _ (by omega) (by omega) (by repeat' first|exact C1|refine xqI rfl rfl ?_|refine xqP (by omega) rfl rfl ?_|fail) aF ⟨by omega,dh,f0,f8⟩)
  ·repeat' first|apply vI<;>(simp only[go_sem,e])|apply vF (by omega)|fail
   have E:k=p.out.length:=(by omega);rw[E] at hI;obtain⟨q1,O,q3⟩:=hI.end;exact aJ v _ rfl rfl (hT ⟨⟨Z,by rw[a];exact ab⟩,by omega,by omega,⟨ad,ao⟩,D,q1,O,q3⟩)
theorem jI{s:CSt}{who:Int}{n:Int}{st:Nat}(c:s.bE.length=3)(a: ∀w,w<3->(aL s w).out.length<2^40){o:D}(d:CvD H (fun _=>True) id 0 (dA (dY s)) o)(h:K (dB (oaB s who n st)) H nx):an3 yK [o,dI who,dI n,dI st] H nx K:=by
 refine aC.pure (args0:=[dA (dY s),dI who,dI n,dI st]) (R:=fun t=>t=dB (oaB s who n st)) ?_ rfl (aE ⟨d,aD rfl,aD rfl,aD rfl,trivial⟩) (fun r hr=>hr▸h);clear h;refine aM.mk Tryz.func212 (by kernel_rfl) ow rfl fun Q e=> ?_;unfold vY;by_cases hw:0<=who/\who<=2
 case neg=>
  have f:(0<=who/\who<=2)=False:=eq_false hw;repeat' first| (first|apply vI|apply bF)<;>(simp only[go_sem,f])|fail
  all_goals first|exact aJ e _ rfl rfl (congrArg dB (Qu fun h=>hw h.1).symm)| (exfalso;omega)
 have f:(0<=who/\who<=2)=True:=eq_true hw;obtain⟨p,b⟩: ∃p,p=aL s who.toNat:=⟨_,rfl⟩
 have g:s.bE.getD who.toNat default=p:=b.symm;have a:=a who.toNat (by omega);rw[<-b] at a;repeat' first| (first|apply vI|apply bF)<;>(simp only[go_sem,f,c,g])|refine⟨by omega,?_⟩|fail
 (refine aH.loop (α:={k:Nat//k<=p.out.length/\(∀i,i<k->¬((p.out.getD i default).n=n/\(p.out.getD i default).left=st))}) (fun u=>en [(10,dI u.1),(9,dS (p.out.map eCJ)),(3,dI st),(2,dI n)]) (fun _=>.nil) _ (fun u=>p.out.length-u.1) ⟨0,by omega,(by intros;first|trivial|omega)⟩ (aS (akA _) (by repeat' first|exact C1|refine xqI rfl rfl ?_|fail)) ?_);(rintro⟨k,v,hinv⟩ x l);by_cases m:k<p.out.length
 ·by_cases hc:(p.out.getD k default).n=n/\(p.out.getD k default).left=st
  ·have c1:((p.out.getD k default).n=n)=True:=eq_true hc.1;have c2:((p.out.getD k default).left=(st:Int))=True:=eq_true hc.2;repeat' first|apply vI<;>(simp only[go_sem,c1,c2])|apply vT (by omega)|refine⟨by omega,?_⟩|fail
   all_goals first|exact aJ e _ rfl rfl (congrArg dB (Ye ⟨hw,_,by rw[<-b];exact bL m,hc⟩).symm)| (exfalso;omega)
  ·repeat' first| (first|apply vI|refine Y6 (fun h=> ?_) fun h=> ?_)<;>(simp only[go_sem];try simp (disch:=omega) only[Iw])|apply vT (by omega)|apply vF (by omega)|refine⟨by omega,?_⟩|fail
   all_goals first| (exfalso;omega)| (refine l _ _ _ ⟨k+1,by omega,bT hinv hc⟩ (by omega) (by(try dsimp only);omega) (aS (akA _) (by repeat' first|exact C1|refine xqI rfl rfl ?_|fail)))
 ·repeat' first|apply vI<;>(simp only[go_sem])|apply vF (by omega)|fail
  all_goals exact aJ e _ rfl rfl (congrArg dB (Qu fun⟨_,j,q,h⟩=>by
   rw[<-b] at q
   obtain⟨i,hi,rfl⟩:=akX.1 q
   have:=hinv i (by omega)
   rw[show p.out.getD i default=p.out[i] by simp[List.getD,hi]] at this
   exact this h).symm)
theorem K6{r:Rsp}(a:r.data.length<2^40)(h:K (dB (decide (jZ r))) H nx):an3 rV [dA [cI r.id,cI r.code,.isl (r.data.map aG)]] H nx K:=oX a h
theorem O8{c:Cfg}{s:CSt}{st:Nat}(hb:bI c)(hp:C6 c s)(cl:s.bM.length=4)(dh:st<4)(ds:(aU s st).pipe.length<2^21)(dv:(aU s st).done.length<2^21)(cp: ∀j∈(aU s st).done,j.rsp.data.length<2^21)(h:K (dB (slB c s st)) H nx):an3 ID [dA (cD c),dA (dY s),dI st] H nx K:=by
 refine aC.pure (args0:=[dA (cD c),dA (dY s),dI st]) (R:=fun rr=>rr=dB (slB c s st)) ?_ rfl (aE ⟨aD rfl,aD rfl,aD rfl,trivial⟩) (fun r hr=>hr▸h);clear h;refine aM.mk Tryz.func128 (by kernel_rfl) pj rfl fun Q T=> ?_;unfold vU;obtain⟨br,dx⟩:=eN hb;obtain⟨v,f⟩: ∃v,v=aU s st:=⟨_,rfl⟩
 have aa:s.bM.getD st default=v:=f.symm;rw[<-f] at ds dv cp;have hF: ¬rP c s st->dB false=dB (slB c s st):=fun h=>by rw[VT h]
 have hT:rP c s st->dB true=dB (slB c s st):=fun h=>by rw[Pw h]
 have cq:=hb.2.1;have dy:=il hb dh;by_cases h0:(v.pipe.length:Int)<=2/\(v.done.length:Int)<=2/\0<=v.last/\v.last<=2
 case neg=>
  have y: ¬rP c s st:=fun h=>h0 ⟨by have:=h.pl;rw[<-f] at this;omega,by have:=h.dl;rw[<-f] at this;omega,by have:=h.last;rw[<-f] at this;omega⟩;repeat' first| (first|apply vI|refine Y6 (fun h=> ?_) fun h=> ?_|apply bF)<;>(simp only[go_sem,cl,aa])|apply vT (by omega)|refine⟨by omega,?_⟩|fail
  all_goals first|exact aJ T _ rfl rfl (hF y)| (exfalso;omega)
 obtain⟨gd,gf,z,U⟩:=h0;have t2:(0<=v.last/\v.last<=2)=True:=eq_true ⟨z,U⟩;have o: ∀w,w<3->(aL s w).out.length<2^40:=fun w hw=>by have:=(hp.port w hw).ol;omega
 obtain⟨V,hV⟩: ∃V,V=gL v:=⟨_,rfl⟩
 have dz:V.length=v.done.length+v.pipe.length:=by rw[hV];simp[gL]
 have ed: ∀k,k<v.done.length->V[k]?=some ((v.done.getD k default).who,(v.done.getD k default).n):=fun k F=>by rw[hV];unfold gL;rw[amE (by simpa using F)];simp[List.getD,F,key]
 have ei: ∀k,k<v.pipe.length->V[v.done.length+k]?=some ((v.pipe.getD k default).who,(v.pipe.getD k default).n):=fun k F=>by rw[hV];unfold gL;rw[amI (by simp)];simp[List.getD,F]
 have ct: ∀k x,V[k]?=some x->(V.map bq).take (k+1)=(V.map bq).take k++[bq x]:=fun k x h=>by obtain⟨F,h2⟩:=akE.1 h;rw[amF (by simpa using F),anL,h2]
 have cw: ∀(k:Nat) (x:Int×Int),V[k]?=some x->rP c s st->BU s x.1 x.2 st:=fun k x h hs=>hs.out x (by rw[<-f,<-hV];exact akF h);repeat' first| (first|apply vI|apply Y5 (by omega)|apply bF)<;>(simp only[go_sem,cl,aa,t2])|refine⟨by omega,?_⟩|fail
 refine aH.cE (β:=Nat×Nat×Nat) (fun u=>en [(9,dI u.1),(8,.one (.c (.osl 5 u.2.1 0 u.1 u.2.2))),(7,.one (.c (.ptr 3 8 0 0))),(4,.one (.c (.ptr 5 1 0 0))),(3,.one (.c (.ptr 3 0 0 0))),(2,dI st)])
  (fun u H1 n1=>u.1<=v.done.length/\(∀i,i<u.1->BU s (v.done.getD i default).who (v.done.getD i default).n st/\y4 c (v.done.getD i default))/\H1 0=some ⟨3,1,[cD c]⟩/\H1 1=some ⟨5,1,[dY s]⟩/\H1 8=some ⟨3,1,[eV v]⟩/\(∃m,H1 u.2.1=some ⟨5,m,((V.map bq).take u.1).map aP⟩/\u.1<=u.2.2/\u.2.2<=m)/\26<=u.2.1/\u.2.1<n1)
  (fun u=>v.done.length-u.1) (0,26,0) ⟨noF,_,by repeat' first|exact C1|refine xqI rfl rfl ?_|refine xqP (by omega) rfl rfl ?_| (with_reducible apply C2)| ((with_reducible apply C0);exact CC)| ((with_reducible apply D0);apply CJ)|fail,aF,by dsimp only;omega,fun i hi=>by dsimp only at hi;omega,rfl,rfl,rfl,⟨0,rfl,by dsimp only;omega,by dsimp only;omega⟩,by dsimp only;omega,by dsimp only;omega⟩ ?_
 rintro⟨k,b,C⟩ H1 W ej ⟨F,hI,D,E,t,⟨m,l,X,M⟩,Y,Z⟩ KL eo;dsimp only at F hI l X M Y Z;have I:bH W [0,1,8,b]:=AM.apart (by simp;omega) (by simp;omega);simp only[bH,cU] at I;have N:((V.map bq).take k).length=k:=by simp;omega
 have O:(((V.map bq).take k).map aP).length=k:=by rw[akU,N]
 by_cases p:k<v.done.length
 ·obtain⟨d,g⟩: ∃d,v.done.getD k default=d:=⟨_,rfl⟩
  have cx:d∈(aU s st).done:=by rw[<-g,<-f];exact bL p
  have J:=ed k p;have hIn:=bT hI (k:=k);rw[g] at J hIn;have ca:d.rsp.data.length<2^40:=by have h1:=cp d (by rw[f];exact cx);omega
  by_cases S:BU s d.who d.n st
  case neg=>
   have A:=Qu S;repeat' first| (first|apply vI|refine jI (s:=s) (who:=d.who) (n:=d.n) (st:=st) hp.pl o (aD rfl) ?_)<;>(simp only[go_sem,akB,akC,D,E,t,g,A,I])|apply vT (by omega)|refine⟨by omega,?_⟩|fail
   all_goals first|exact aJ T _ rfl rfl (hF fun h=>S (cw _ _ J h))| (exfalso;omega)
  have A:=Ye S;have cc:=S.asks hp;obtain⟨gg,ad,ep⟩:=cc;obtain⟨P,hP⟩: ∃P,c.b7.getD d.who.toNat default=P:=⟨_,rfl⟩
  rw[hP] at ep;obtain⟨q,hq⟩: ∃q,P.getD d.n.toNat default=q:=⟨_,rfl⟩
  have cy:bO c d.who d.n=q:=by unfold bO;rw[hP,hq]
  by_cases hr:y4 c d
  case neg=>
   have y: ¬rP c s st:=fun h=>hr (h.rsp d cx);unfold y4 at hr;rw[cy] at hr;by_cases cd:jZ d.rsp
   ·have B:=eq_true cd;have e3:(d.rsp.id=q.id)=False:=eq_false fun h=>hr ⟨cd,h⟩;repeat' first| (first|apply vI|refine jI (s:=s) (who:=d.who) (n:=d.n) (st:=st) hp.pl o (aD rfl) ?_|apply K6 ca)<;>(simp only[go_sem,akB,akC,D,E,t,g,br,hP,hq,A,B,e3,I])|apply vT (by omega)|refine⟨by omega,?_⟩|fail
    all_goals first|exact aJ T _ rfl rfl (hF y)| (exfalso;omega)
   ·have B:=eq_false cd;repeat' first| (first|apply vI|refine jI (s:=s) (who:=d.who) (n:=d.n) (st:=st) hp.pl o (aD rfl) ?_|apply K6 ca)<;>(simp only[go_sem,akB,akC,D,E,t,g,br,hP,hq,A,B,I])|apply vT (by omega)|refine⟨by omega,?_⟩|fail
    all_goals first|exact aJ T _ rfl rfl (hF y)| (exfalso;omega)
  have B:=eq_true hr.1;have e3:(d.rsp.id=q.id)=True:=eq_true (by rw[<-cy];exact hr.2);repeat' first| (first|apply vI|refine jI (s:=s) (who:=d.who) (n:=d.n) (st:=st) hp.pl o (aD rfl) ?_|apply K6 ca)<;>(simp only[go_sem,akB,akC,D,E,t,l,g,br,hP,hq,A,B,e3,O,I];try simp (disch:=omega) only[Iw])|apply vT (by omega)| (with_reducible first|refine fun(cap:Nat) (cf:_<=cap)=> ?_|refine fun(et:_<=cap)=> ?_)|refine⟨by omega,?_⟩|fail
  refine tj (K:=KL) fun G hG=> ?_;have q1:G (W+50)=some ⟨5,cap,((V.map bq).take k).map aP++[[cI d.who,cI d.n,cI 0,cI 0,.osl 0 0 0 0 0]]⟩:=by rw[hG];exact aA.aI
  have q2: ∀id,id<W->id≠b->G id=H1 id:=fun id h1 h2=>by rw[hG,aA.aB (by omega),aA.aB (by omega),aA.aB (by omega),aA.gK h2]
  have q3:=ct k _ J;refine eo _ _ _ (k+1,W+50,cap) noF _ (by omega) (by dsimp only;omega) (by dsimp only;repeat' first|exact C1|refine xqI rfl rfl ?_|refine xqP (by omega) rfl rfl ?_|refine xqO (by omega) rfl rfl (by rfl) ?_|fail) (ai7 q1) ⟨by dsimp only;omega,hIn ⟨S,hr⟩,?_,?_,?_,⟨cap,by dsimp only;rw[q3];exact aA.aI,by dsimp only;omega,akA _⟩,by dsimp only;omega,by dsimp only;omega⟩;·rw[aA.aB (by omega),q2 _ (by omega) (by omega)];exact D
  ·rw[aA.aB (by omega),q2 _ (by omega) (by omega)];exact E
  ·rw[aA.aB (by omega),q2 _ (by omega) (by omega)];exact t
 ·repeat' first|apply vI<;>(simp only[go_sem,t])|apply vF (by omega)|fail
  have ad:k=v.done.length:=by omega
  subst ad;clear p N O I F
  refine aH.cE (β:=Nat×Nat×Nat) (fun u=>en [(11,dI u.1),(8,.one (.c (.osl 5 u.2.1 0 (v.done.length+u.1) u.2.2))),(7,.one (.c (.ptr 3 8 0 0))),(4,.one (.c (.ptr 5 1 0 0))),(3,.one (.c (.ptr 3 0 0 0))),(2,dI st)])
   (fun u H1 n1=>u.1<=v.pipe.length/\(∀i,i<u.1->BU s (v.pipe.getD i default).who (v.pipe.getD i default).n st/\Cx c st i (v.pipe.getD i default))/\H1 0=some ⟨3,1,[cD c]⟩/\H1 1=some ⟨5,1,[dY s]⟩/\H1 8=some ⟨3,1,[eV v]⟩/\(∃m,H1 u.2.1=some ⟨5,m,((V.map bq).take (v.done.length+u.1)).map aP⟩/\v.done.length+u.1<=u.2.2/\u.2.2<=m)/\26<=u.2.1/\u.2.1<n1)
   (fun u=>v.pipe.length-u.1) (0,b,C) ⟨noF,_,by dsimp only;repeat' first|exact C1|refine xqI rfl rfl ?_|refine xqP (by omega) rfl rfl ?_|refine xqO (by omega) rfl rfl (by rfl) ?_|fail,aF,by dsimp only;omega,fun i hi=>by dsimp only at hi;omega,D,E,t,⟨m,l,by dsimp only;omega,M⟩,by dsimp only;omega,by dsimp only;omega⟩ ?_
  clear D E t l X M Y Z;rintro⟨k,b,C⟩ H2 ao eu ⟨F,hJ,D,E,t,⟨m,l,X,M⟩,Y,Z⟩ KM ew;dsimp only at F hJ l X M Y Z;have I:bH ao [0,1,8,b]:=AM.apart (by simp;omega) (by simp;omega);simp only[bH,cU] at I;have N:((V.map bq).take (v.done.length+k)).length=v.done.length+k:=by simp;omega
  have O:(((V.map bq).take (v.done.length+k)).map aP).length=v.done.length+k:=by rw[akU,N]
  by_cases p:k<v.pipe.length
  ·obtain⟨d,g⟩: ∃d,v.pipe.getD k default=d:=⟨_,rfl⟩
   have J:=ei k p;have hIn:=bT hJ (k:=k);rw[g] at J hIn;have ab:rP c s st->Cx c st k d:=fun h=>by have:=h.left k (by rw[<-f];exact p);rw[<-f,g] at this;exact this
   by_cases S:BU s d.who d.n st
   case neg=>
    have A:=Qu S;repeat' first| (first|apply vI|refine jI (s:=s) (who:=d.who) (n:=d.n) (st:=st) hp.pl o (aD rfl) ?_)<;>(simp only[go_sem,akB,akC,D,E,t,g,A,I])|apply vT (by omega)|refine⟨by omega,?_⟩|fail
    all_goals first|exact aJ T _ rfl rfl (hF fun h=>S (cw _ _ J h))| (exfalso;omega)
   have A:=Ye S;by_cases hl:Cx c st k d
   case neg=>
    have y: ¬rP c s st:=fun h=>hl (ab h);unfold Cx at hl;by_cases z:0<=d.left/\d.left<=c.lat.getD st default
    ·have B:(0<=d.left/\d.left<=c.lat.getD st default)=True:=eq_true z
     have gp:0<k:=by
      rcases alV k with h|h;·exact absurd ⟨z,fun h2=>by omega⟩ hl
      ·exact h
     have e3:(d.left=c.lat.getD st default)=False:=eq_false fun h=>hl ⟨z,fun _=>h⟩;repeat' first| (first|apply vI|apply Y4 (by omega)|refine jI (s:=s) (who:=d.who) (n:=d.n) (st:=st) hp.pl o (aD rfl) ?_|apply bF)<;>(simp only[go_sem,akB,akC,D,E,t,g,A,B,e3,I])|apply vT (by omega)|refine⟨by omega,?_⟩|fail
     all_goals first|exact aJ T _ rfl rfl (hF y)| (exfalso;omega)
    ·have B:(0<=d.left/\d.left<=c.lat.getD st default)=False:=eq_false z;repeat' first| (first|apply vI|refine jI (s:=s) (who:=d.who) (n:=d.n) (st:=st) hp.pl o (aD rfl) ?_|apply bF)<;>(simp only[go_sem,akB,akC,D,E,t,g,A,B,I])|apply vT (by omega)|refine⟨by omega,?_⟩|fail
     all_goals first|exact aJ T _ rfl rfl (hF y)| (exfalso;omega)
   have B:(0<=d.left/\d.left<=c.lat.getD st default)=True:=eq_true hl.1;have U:=hl.2;repeat' first| (first|apply vI|refine Y6 (fun h=> ?_) fun h=> ?_|refine jI (s:=s) (who:=d.who) (n:=d.n) (st:=st) hp.pl o (aD rfl) ?_|apply bF)<;>(simp only[go_sem,akB,akC,D,E,t,l,g,A,B,O,I];try simp (disch:=omega) only[Iw])|apply vT (by omega)|apply vF (by omega)| (with_reducible first|refine fun(cap:Nat) (cf:_<=cap)=> ?_|refine fun(et:_<=cap)=> ?_)|refine⟨by omega,?_⟩|fail
   all_goals first| (exfalso;have:=U (by omega);omega)|skip
   all_goals (
    refine tj (K:=KM) fun G hG=> ?_
    have q3:=ct _ _ J
    have q1:G (ao+52)=some ⟨5,cap,((V.map bq).take (v.done.length+k)).map aP++[[cI d.who,cI d.n,cI 0,cI 0,.osl 0 0 0 0 0]]⟩:=by rw[hG];exact aA.aI
    have q2: ∀id,id<ao->id≠b->G id=H2 id:=fun id h1 h2=>by rw[hG,aA.aB (by omega),aA.aB (by omega),aA.aB (by omega),aA.gK h2]
    refine ew _ _ _ (k+1,ao+52,cap) noF _ (by omega) (by dsimp only;omega) (by dsimp only;repeat' first|exact C1|refine xqI rfl rfl ?_|refine xqP (by omega) rfl rfl ?_|refine xqO (by omega) rfl rfl (by rfl) ?_|fail) (ai7 q1) ⟨by dsimp only;omega,hIn ⟨S,hl⟩,?_,?_,?_,⟨cap,by dsimp only;rw[<-akB,q3];exact aA.aI,by dsimp only;omega,akA _⟩,by dsimp only;omega,by dsimp only;omega⟩
    ·rw[aA.aB (by omega),q2 _ (by omega) (by omega)];exact D
    ·rw[aA.aB (by omega),q2 _ (by omega) (by omega)];exact E
    ·rw[aA.aB (by omega),q2 _ (by omega) (by omega)];exact t)
  ·repeat' first|apply vI<;>(simp only[go_sem,t])|apply vF (by omega)|fail
   have ad:k=v.pipe.length:=(by omega);subst ad;obtain⟨L,hL⟩: ∃L,L=V.map bq:=⟨_,rfl⟩
   have az: ∀i (hi:i<V.length),L.getD i default=bq V[i]:=fun i hi=>by rw[hL];simp[List.getD,hi]
   have dc:L.length=v.done.length+v.pipe.length:=(by rw[hL,akU,dz]);rw[<-hL,akM (by omega)] at l;clear p N O I F D E t
   refine aH.cE (β:=Nat) (fun k=>en [(13,dI k),(8,.one (.c (.osl 5 b 0 (v.done.length+v.pipe.length) C)))])
    (fun k H3 _=>k<=L.length/\(∀i j,i<j->j<k->(L.getD i default).who=(L.getD j default).who->(L.getD i default).n<(L.getD j default).n)/\H3 b=some ⟨5,m,L.map aP⟩) (fun k=>L.length-k) 0 ⟨noF,_,by repeat' first|exact C1|refine xqI rfl rfl ?_|refine xqO (by omega) rfl rfl (by rfl) ?_|fail,aF,by omega,fun i j _ hj=>by omega,l⟩ ?_
   clear l;rintro k H3 gq ff ⟨F,hC,l⟩ KN fh;by_cases p:k<L.length
   ·repeat' first|apply vI<;>(simp only[go_sem])|apply vT (by omega)|fail
    refine aH.cE (β:=Nat) (fun j=>en [(14,dI j),(13,dI k),(8,.one (.c (.osl 5 b 0 (v.done.length+v.pipe.length) C)))])
     (fun j H4 _=>j<=k/\(∀i,i<j->(L.getD i default).who=(L.getD k default).who->(L.getD i default).n<(L.getD k default).n)/\H4 b=some ⟨5,m,L.map aP⟩) (fun j=>k-j) 0 ⟨noF,_,by repeat' first|exact C1|refine xqI rfl rfl ?_|refine xqO (by omega) rfl rfl (by rfl) ?_|fail,aF,by omega,fun i hi=>by omega,l⟩ ?_
    clear l;rintro j H4 gr fm ⟨hj,hD,l⟩ KO fo;by_cases fr:j<k
    ·by_cases hc:(L.getD j default).who=(L.getD k default).who/\(L.getD k default).n<=(L.getD j default).n
     ·have c1:((L.getD j default).who=(L.getD k default).who)=True:=eq_true hc.1;have c2:((L.getD k default).n<=(L.getD j default).n)=True:=eq_true hc.2;repeat' first|apply vI<;>(simp only[go_sem,akB,akC,l,dc,c1,c2])|apply vT (by omega)|refine⟨by omega,?_⟩|fail
      all_goals first
       | (exfalso;omega)
       |exact aJ T _ rfl rfl (hF fun h=>by
        have h1:=ak5.1 h.inc j k (by rw[<-f,<-hV];omega) (by rw[<-f,<-hV];omega) fr
        simp only[<-f,<-hV] at h1
        have A:=az j (by omega)
        have B:=az k (by omega)
        rw[A,B] at hc
        have:=h1 hc.1
        have:=hc.2
        simp only[bq] at this
        omega)
     ·repeat' first| (first|apply vI|refine Y6 (fun h=> ?_) fun h=> ?_)<;>(simp only[go_sem,akB,akC,l,dc];try simp (disch:=omega) only[Iw])|apply vT (by omega)|apply vF (by omega)|refine⟨by omega,?_⟩|fail
      all_goals first
       | (exfalso;omega)
       |exact fo _ _ _ (j+1) noF _ (by omega) (by omega) (by repeat' first|exact C1|refine xqI rfl rfl ?_|refine xqO (by omega) rfl rfl (by rfl) ?_|fail) aF ⟨by omega,bT hD (by intro he;omega),l⟩
    ·repeat' first|apply vI<;>(simp only[go_sem];try simp (disch:=omega) only[Iw])|apply vF (by omega)|fail
     have fs:j=k:=(by omega);subst fs
     exact fh _ _ _ (j+1) noF _ (by omega) (by omega) (by repeat' first|exact C1|refine xqI rfl rfl ?_|refine xqO (by omega) rfl rfl (by rfl) ?_|fail) aF ⟨by omega,fun a e df he=>by
      by_cases h:e<j
      ·exact hC a e df h
      ·obtain rfl:e=j:=by omega
       exact hD a df,l⟩
   ·repeat' first|apply vI<;>(simp only[go_sem])|apply vF (by omega)|fail
    refine aJ T _ rfl rfl (hT ⟨?_,?_,?_,?_,?_,?_,?_⟩);·rw[<-f];omega
    ·rw[<-f];omega
    ·rw[<-f];exact⟨z,U⟩
    ·rw[<-f,<-hV];refine ak5.2 fun i j hi hj ga he=> ?_;have A:=az i hi;have B:=az j hj;have:=hC i j ga (by omega);rw[A,B] at this;exact this he
    ·rw[<-f];intro x J;rcases akL.1 J with J|J;·obtain⟨d,hd,rfl⟩:=akJ.1 J;exact(iE (P:=fun d=>BU s d.who d.n st/\y4 c d) hI d hd).1
     ·obtain⟨d,hd,rfl⟩:=akJ.1 J;exact iE (P:=fun d=>BU s d.who d.n st) (fun i hi=>(hJ i hi).1) d hd
    ·rw[<-f];exact fun d hd=>(iE (P:=fun d=>BU s d.who d.n st/\y4 c d) hI d hd).2
    ·rw[<-f];exact fun i hi=>(hJ i hi).2
end
end Go.Proofs.YtlncecohbakleaaGreat
