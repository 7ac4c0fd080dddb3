/- Rules and contracts. -/
import Derived.Test.YtlncecohbakleaaGreatPR17
import Derived.Test.YtlncecohbakleaaGreatPR18
import Derived.Test.YtlncecohbakleaaGreatPR16
set_option linter.unusedVariables false
set_option linter.unusedSimpArgs false
set_option maxRecDepth 100000
set_option maxHeartbeats 8000000
namespace Go.AM
theorem yO.asks{c:Cfg}{s:CSt}{st:Nat}{who n:Int}(hp:zH c s)(h:yO s who n st):pA c who n:=by obtain⟨hw,j,b,d,_⟩:=h;have a:=hp.port who.toNat (by omega);obtain⟨_,e,_⟩:=a.out _ b;have:=a.asks (n:=n) (by omega) (by omega) (by omega);rwa [show ((who.toNat:Nat):Int)=who by omega] at this
def SC(x:Int×Int):Job:=⟨x.1,x.2,jZ⟩
theorem aaJ{G:aA}{x2 cap nx':Nat}{W:List Job}{k n:Int}(a:G x2=some ⟨5,cap,W.map aT++[[cI k,cI n,cI 0,cI 0,.osl 0 0 0 0 0]]⟩):CvX noF nx' G (G.set x2 ⟨5,cap,(W++[(⟨k,n,jZ⟩:Job)]).map aT⟩):=FQ (i:=x2) (o':=⟨5,cap,(W++[(⟨k,n,jZ⟩:Job)]).map aT⟩) a (ft (R:=W.map aT) (r':=aT (⟨k,n,jZ⟩:Job)) (by rw[abU];rfl) rfl (fun r hr=>(aN dQ _ r hr).2) rfl (aG (bE rfl) (aG (bE rfl) (aG (bE rfl) (aG (bE rfl) (aG (.frz (.nil ..)) cJ))))))
theorem RJ{l:List Job}{x:Job}:cW (l++[x])=tL (cW l) x:=by unfold cW;rw[List.foldl_append];rfl
theorem VC{l:List Job}:(cW l).length=l.length:=(iU l).length_eq
end Go.AM
namespace Go.Proofs.YtlncecohbakleaaGreat
open Go Go.AM
attribute [local irreducible] aJ wv aC vd wvH
section
variable{H:aA}{nx:Nat}{K:afC}
theorem jE{s:CSt}{who:Int}{n:Int}{st:Nat}(c:s.bC.length=3)(a: ∀w,w<3->(aL s w).out.length<2^40){o:D}(d:CvD H (fun _=>True) id 0 (dA (bK s)) o)(h:K (dB (oaB s who n st)) H nx):afB wG [o,dI who,dI n,dI st] H nx K:=by
 refine aC.pure (args0:=[dA (bK s),dI who,dI n,dI st]) (R:=fun t=>t=dB (oaB s who n st)) ?_ rfl (aK ⟨d,aF rfl,aF rfl,aF rfl,trivial⟩) (fun r hr=>hr▸h);clear h;refine aR.mk Tryz.func212 (by kernel_rfl) W8 rfl fun Q e=> ?_;unfold sG;by_cases hw:0<=who/\who<=2
 case neg=>
  have f:(0<=who/\who<=2)=False:=eq_false hw;repeat' first| (first|apply vI|apply bB)<;>(simp only[go_sem,f])|fail
  all_goals first|exact aP e _ rfl rfl (congrArg dB (Fz fun h=>hw h.1).symm)| (exfalso;omega)
 have f:(0<=who/\who<=2)=True:=eq_true hw;obtain⟨p,b⟩: ∃p,p=aL s who.toNat:=⟨_,rfl⟩
 have g:s.bC.getD who.toNat default=p:=b.symm;have a:=a who.toNat (by omega);rw[<-b] at a;repeat' first| (first|apply vI|apply bB)<;>(simp only[go_sem,f,c,g])|refine⟨by omega,?_⟩|fail
 (refine aJ.loop (α:={k:Nat//k<=p.out.length/\(∀i,i<k->¬((p.out.getD i default).n=n/\(p.out.getD i default).left=st))}) (fun u=>en [(10,dI u.1),(9,dS (p.out.map eCJ)),(3,dI st),(2,dI n)]) (fun _=>.nil) _ (fun u=>p.out.length-u.1) ⟨0,by omega,(by intros;first|trivial|omega)⟩ (bF (abG _) (by repeat' first|exact C1|refine xqI rfl rfl ?_|fail)) ?_);(rintro⟨k,v,hinv⟩ x l);by_cases m:k<p.out.length
 ·by_cases hc:(p.out.getD k default).n=n/\(p.out.getD k default).left=st
  ·have c1:((p.out.getD k default).n=n)=True:=eq_true hc.1;have c2:((p.out.getD k default).left=(st:Int))=True:=eq_true hc.2;repeat' first|apply vI<;>(simp only[go_sem,c1,c2])|apply vT (by omega)|refine⟨by omega,?_⟩|fail
   all_goals first|exact aP e _ rfl rfl (congrArg dB (Mx ⟨hw,_,by rw[<-b];exact bT m,hc⟩).symm)| (exfalso;omega)
  ·repeat' first| (first|apply vI|refine Y6 (fun h=> ?_) fun h=> ?_)<;>(simp only[go_sem];try simp (disch:=omega) only[Iw])|apply vT (by omega)|apply vF (by omega)|refine⟨by omega,?_⟩|fail
   all_goals first| (exfalso;omega)| (refine l _ _ _ ⟨k+1,by omega,bL hinv hc⟩ (by omega) (by(try dsimp only);omega) (bF (abG _) (by repeat' first|exact C1|refine xqI rfl rfl ?_|fail)))
 ·repeat' first|apply vI<;>(simp only[go_sem])|apply vF (by omega)|fail
  all_goals exact aP e _ rfl rfl (congrArg dB (Fz fun⟨_,j,q,h⟩=>by
   rw[<-b] at q
   obtain⟨i,hi,rfl⟩:=ab6.1 q
   have:=hinv i (by omega)
   rw[show p.out.getD i default=p.out[i] by simp[List.getD,hi]] at this
   exact this h).symm)
theorem F2{r:Rsp}(a:r.data.length<2^40)(h:K (dB (decide (jU r))) H nx):afB pR [dA [cI r.id,cI r.code,.isl (r.data.map aH)]] H nx K:=nH a h
theorem KU{c:Cfg}{s:CSt}{st:Nat}(hb:bH c)(hp:zH c s)(br:s.bN.length=4)(cq:st<4)(cr:(aS s st).pipe.length<2^21)(ct:(aS s st).done.length<2^21)(bw: ∀j∈(aS s st).done,j.rsp.data.length<2^21)(h:K (dB (slB c s st)) H nx):afB D5 [dA (bI c),dA (bK s),dI st] H nx K:=by
 refine aC.pure (args0:=[dA (bI c),dA (bK s),dI st]) (R:=fun rr=>rr=dB (slB c s st)) ?_ rfl (aK ⟨aF rfl,aF rfl,aF rfl,trivial⟩) (fun r hr=>hr▸h);clear h;refine aR.mk Tryz.func128 (by kernel_rfl) V9 rfl fun Q T=> ?_;unfold sJ;obtain⟨aw,cw⟩:=eW hb;obtain⟨v,f⟩: ∃v,v=aS s st:=⟨_,rfl⟩
 have aa:s.bN.getD st default=v:=f.symm;rw[<-f] at cr ct bw;have hF: ¬pE c s st->dB false=dB (slB c s st):=fun h=>by rw[PK h]
 have hT:pE c s st->dB true=dB (slB c s st):=fun h=>by rw[Gs h]
 have ca:=hb.2.1;have cx:=UO hb cq;by_cases h0:(v.pipe.length:Int)<=2/\(v.done.length:Int)<=2/\0<=v.last/\v.last<=2
 case neg=>
  have y: ¬pE c s st:=fun h=>h0 ⟨by have:=h.pl;rw[<-f] at this;omega,by have:=h.dl;rw[<-f] at this;omega,by have:=h.last;rw[<-f] at this;omega⟩;repeat' first| (first|apply vI|refine Y6 (fun h=> ?_) fun h=> ?_|apply bB)<;>(simp only[go_sem,br,aa])|apply vT (by omega)|refine⟨by omega,?_⟩|fail
  all_goals first|exact aP T _ rfl rfl (hF y)| (exfalso;omega)
 obtain⟨et,eu,z,U⟩:=h0;have t2:(0<=v.last/\v.last<=2)=True:=eq_true ⟨z,U⟩;have o: ∀w,w<3->(aL s w).out.length<2^40:=fun w hw=>by have:=(hp.port w hw).ol;omega
 obtain⟨V,hV⟩: ∃V,V=gM v:=⟨_,rfl⟩
 have cy:V.length=v.done.length+v.pipe.length:=by rw[hV];simp[gM]
 have da: ∀k,k<v.done.length->V[k]?=some ((v.done.getD k default).who,(v.done.getD k default).n):=fun k F=>by rw[hV];unfold gM;rw[adC (by simpa using F)];simp[List.getD,F,key]
 have dc: ∀k,k<v.pipe.length->V[v.done.length+k]?=some ((v.pipe.getD k default).who,(v.pipe.getD k default).n):=fun k F=>by rw[hV];unfold gM;rw[adM (by simp)];simp[List.getD,F]
 have cc: ∀k x,V[k]?=some x->(V.map SC).take (k+1)=(V.map SC).take k++[SC x]:=fun k x h=>by obtain⟨F,h2⟩:=abN.1 h;rw[adN (by simpa using F),aeT,h2]
 have cd: ∀(k:Nat) (x:Int×Int),V[k]?=some x->pE c s st->yO s x.1 x.2 st:=fun k x h hs=>hs.out x (by rw[<-f,<-hV];exact abV h);repeat' first| (first|apply vI|apply Y5 (by omega)|apply bB)<;>(simp only[go_sem,br,aa,t2])|refine⟨by omega,?_⟩|fail
 refine aJ.cG (β:=Nat×Nat×Nat) (fun u=>en [(9,dI u.1),(8,.one (.c (.osl 5 u.2.1 0 u.1 u.2.2))),(7,.one (.c (.ptr 3 8 0 0))),(4,.one (.c (.ptr 5 1 0 0))),(3,.one (.c (.ptr 3 0 0 0))),(2,dI st)])
  (fun u H1 n1=>u.1<=v.done.length/\(∀i,i<u.1->yO s (v.done.getD i default).who (v.done.getD i default).n st/\vB c (v.done.getD i default))/\H1 0=some ⟨3,1,[bI c]⟩/\H1 1=some ⟨5,1,[bK s]⟩/\H1 8=some ⟨3,1,[i6 v]⟩/\(∃m,H1 u.2.1=some ⟨5,m,((V.map SC).take u.1).map aT⟩/\u.1<=u.2.2/\u.2.2<=m)/\26<=u.2.1/\u.2.1<n1)
  (fun u=>v.done.length-u.1) (0,26,0) ⟨noF,_,by repeat' first|exact C1|refine xqI rfl rfl ?_|refine xqP (by omega) rfl rfl ?_| (with_reducible apply C2)| ((with_reducible apply C0);exact CC)| ((with_reducible apply D0);apply CJ)|fail,aE,by dsimp only;omega,fun i hi=>by dsimp only at hi;omega,rfl,rfl,rfl,⟨0,rfl,by dsimp only;omega,by dsimp only;omega⟩,by dsimp only;omega,by dsimp only;omega⟩ ?_
 rintro⟨k,b,C⟩ H1 W df ⟨F,hI,D,E,t,⟨m,l,X,M⟩,Y,Z⟩ KL dh;dsimp only at F hI l X M Y Z;have I:aO W [0,1,8,b]:=AM.apart (by simp;omega) (by simp;omega);simp only[aO,bG] at I;have N:((V.map SC).take k).length=k:=by simp;omega
 have O:(((V.map SC).take k).map aT).length=k:=by rw[abT,N]
 by_cases p:k<v.done.length
 ·obtain⟨d,g⟩: ∃d,v.done.getD k default=d:=⟨_,rfl⟩
  have cf:d∈(aS s st).done:=by rw[<-g,<-f];exact bT p
  have J:=da k p;have hIn:=bL hI (k:=k);rw[g] at J hIn;have bb:d.rsp.data.length<2^40:=by have h1:=bw d (by rw[f];exact cf);omega
  by_cases S:yO s d.who d.n st
  case neg=>
   have A:=Fz S;repeat' first| (first|apply vI|refine jE (s:=s) (who:=d.who) (n:=d.n) (st:=st) hp.pl o (aF rfl) ?_)<;>(simp only[go_sem,abH,abI,D,E,t,g,A,I])|apply vT (by omega)|refine⟨by omega,?_⟩|fail
   all_goals first|exact aP T _ rfl rfl (hF fun h=>S (cd _ _ J h))| (exfalso;omega)
  have A:=Mx S;have bh:=S.asks hp;obtain⟨ew,ad,ds⟩:=bh;obtain⟨P,hP⟩: ∃P,c.cN.getD d.who.toNat default=P:=⟨_,rfl⟩
  rw[hP] at ds;obtain⟨q,hq⟩: ∃q,P.getD d.n.toNat default=q:=⟨_,rfl⟩
  have ck:bQ c d.who d.n=q:=by unfold bQ;rw[hP,hq]
  by_cases hr:vB c d
  case neg=>
   have y: ¬pE c s st:=fun h=>hr (h.rsp d cf);unfold vB at hr;rw[ck] at hr;by_cases bk:jU d.rsp
   ·have B:=eq_true bk;have e3:(d.rsp.id=q.id)=False:=eq_false fun h=>hr ⟨bk,h⟩;repeat' first| (first|apply vI|refine jE (s:=s) (who:=d.who) (n:=d.n) (st:=st) hp.pl o (aF rfl) ?_|apply F2 bb)<;>(simp only[go_sem,abH,abI,D,E,t,g,aw,hP,hq,A,B,e3,I])|apply vT (by omega)|refine⟨by omega,?_⟩|fail
    all_goals first|exact aP T _ rfl rfl (hF y)| (exfalso;omega)
   ·have B:=eq_false bk;repeat' first| (first|apply vI|refine jE (s:=s) (who:=d.who) (n:=d.n) (st:=st) hp.pl o (aF rfl) ?_|apply F2 bb)<;>(simp only[go_sem,abH,abI,D,E,t,g,aw,hP,hq,A,B,I])|apply vT (by omega)|refine⟨by omega,?_⟩|fail
    all_goals first|exact aP T _ rfl rfl (hF y)| (exfalso;omega)
  have B:=eq_true hr.1;have e3:(d.rsp.id=q.id)=True:=eq_true (by rw[<-ck];exact hr.2);repeat' first| (first|apply vI|refine jE (s:=s) (who:=d.who) (n:=d.n) (st:=st) hp.pl o (aF rfl) ?_|apply F2 bb)<;>(simp only[go_sem,abH,abI,D,E,t,l,g,aw,hP,hq,A,B,e3,O,I];try simp (disch:=omega) only[Iw])|apply vT (by omega)| (with_reducible first|refine fun(cap:Nat) (bp:_<=cap)=> ?_|refine fun(dv:_<=cap)=> ?_)|refine⟨by omega,?_⟩|fail
  refine SW (K:=KL) fun G hG=> ?_;have q1:G (W+50)=some ⟨5,cap,((V.map SC).take k).map aT++[[cI d.who,cI d.n,cI 0,cI 0,.osl 0 0 0 0 0]]⟩:=by rw[hG];exact aA.aI
  have q2: ∀id,id<W->id≠b->G id=H1 id:=fun id h1 h2=>by rw[hG,aA.aB (by omega),aA.aB (by omega),aA.aB (by omega),aA.cC h2]
  have q3:=cc k _ J;refine dh _ _ _ (k+1,W+50,cap) noF _ (by omega) (by dsimp only;omega) (by dsimp only;repeat' first|exact C1|refine xqI rfl rfl ?_|refine xqP (by omega) rfl rfl ?_|refine xqO (by omega) rfl rfl (by rfl) ?_|fail) (aaJ q1) ⟨by dsimp only;omega,hIn ⟨S,hr⟩,?_,?_,?_,⟨cap,by dsimp only;rw[q3];exact aA.aI,by dsimp only;omega,abG _⟩,by dsimp only;omega,by dsimp only;omega⟩;·rw[aA.aB (by omega),q2 _ (by omega) (by omega)];exact D
  ·rw[aA.aB (by omega),q2 _ (by omega) (by omega)];exact E
  ·rw[aA.aB (by omega),q2 _ (by omega) (by omega)];exact t
 ·repeat' first|apply vI<;>(simp only[go_sem,t])|apply vF (by omega)|fail
  have ad:k=v.done.length:=by omega
  subst ad;clear p N O I F
  refine aJ.cG (β:=Nat×Nat×Nat) (fun u=>en [(11,dI u.1),(8,.one (.c (.osl 5 u.2.1 0 (v.done.length+u.1) u.2.2))),(7,.one (.c (.ptr 3 8 0 0))),(4,.one (.c (.ptr 5 1 0 0))),(3,.one (.c (.ptr 3 0 0 0))),(2,dI st)])
   (fun u H1 n1=>u.1<=v.pipe.length/\(∀i,i<u.1->yO s (v.pipe.getD i default).who (v.pipe.getD i default).n st/\ou c st i (v.pipe.getD i default))/\H1 0=some ⟨3,1,[bI c]⟩/\H1 1=some ⟨5,1,[bK s]⟩/\H1 8=some ⟨3,1,[i6 v]⟩/\(∃m,H1 u.2.1=some ⟨5,m,((V.map SC).take (v.done.length+u.1)).map aT⟩/\v.done.length+u.1<=u.2.2/\u.2.2<=m)/\26<=u.2.1/\u.2.1<n1)
   (fun u=>v.pipe.length-u.1) (0,b,C) ⟨noF,_,by dsimp only;repeat' first|exact C1|refine xqI rfl rfl ?_|refine xqP (by omega) rfl rfl ?_|refine xqO (by omega) rfl rfl (by rfl) ?_|fail,aE,by dsimp only;omega,fun i hi=>by dsimp only at hi;omega,D,E,t,⟨m,l,by dsimp only;omega,M⟩,by dsimp only;omega,by dsimp only;omega⟩ ?_
  clear D E t l X M Y Z;rintro⟨k,b,C⟩ H2 ah dx ⟨F,hJ,D,E,t,⟨m,l,X,M⟩,Y,Z⟩ KM dy;dsimp only at F hJ l X M Y Z;have I:aO ah [0,1,8,b]:=AM.apart (by simp;omega) (by simp;omega);simp only[aO,bG] at I;have N:((V.map SC).take (v.done.length+k)).length=v.done.length+k:=by simp;omega
  have O:(((V.map SC).take (v.done.length+k)).map aT).length=v.done.length+k:=by rw[abT,N]
  by_cases p:k<v.pipe.length
  ·obtain⟨d,g⟩: ∃d,v.pipe.getD k default=d:=⟨_,rfl⟩
   have J:=dc k p;have hIn:=bL hJ (k:=k);rw[g] at J hIn;have ab:pE c s st->ou c st k d:=fun h=>by have:=h.left k (by rw[<-f];exact p);rw[<-f,g] at this;exact this
   by_cases S:yO s d.who d.n st
   case neg=>
    have A:=Fz S;repeat' first| (first|apply vI|refine jE (s:=s) (who:=d.who) (n:=d.n) (st:=st) hp.pl o (aF rfl) ?_)<;>(simp only[go_sem,abH,abI,D,E,t,g,A,I])|apply vT (by omega)|refine⟨by omega,?_⟩|fail
    all_goals first|exact aP T _ rfl rfl (hF fun h=>S (cd _ _ J h))| (exfalso;omega)
   have A:=Mx S;by_cases hl:ou c st k d
   case neg=>
    have y: ¬pE c s st:=fun h=>hl (ab h);unfold ou at hl;by_cases z:0<=d.left/\d.left<=c.lat.getD st default
    ·have B:(0<=d.left/\d.left<=c.lat.getD st default)=True:=eq_true z
     have ff:0<k:=by
      rcases ac3 k with h|h;·exact absurd ⟨z,fun h2=>by omega⟩ hl
      ·exact h
     have e3:(d.left=c.lat.getD st default)=False:=eq_false fun h=>hl ⟨z,fun _=>h⟩;repeat' first| (first|apply vI|apply Y4 (by omega)|refine jE (s:=s) (who:=d.who) (n:=d.n) (st:=st) hp.pl o (aF rfl) ?_|apply bB)<;>(simp only[go_sem,abH,abI,D,E,t,g,A,B,e3,I])|apply vT (by omega)|refine⟨by omega,?_⟩|fail
     all_goals first|exact aP T _ rfl rfl (hF y)| (exfalso;omega)
    ·have B:(0<=d.left/\d.left<=c.lat.getD st default)=False:=eq_false z;repeat' first| (first|apply vI|refine jE (s:=s) (who:=d.who) (n:=d.n) (st:=st) hp.pl o (aF rfl) ?_|apply bB)<;>(simp only[go_sem,abH,abI,D,E,t,g,A,B,I])|apply vT (by omega)|refine⟨by omega,?_⟩|fail
     all_goals first|exact aP T _ rfl rfl (hF y)| (exfalso;omega)
   have B:(0<=d.left/\d.left<=c.lat.getD st default)=True:=eq_true hl.1;have U:=hl.2;repeat' first| (first|apply vI|refine Y6 (fun h=> ?_) fun h=> ?_|refine jE (s:=s) (who:=d.who) (n:=d.n) (st:=st) hp.pl o (aF rfl) ?_|apply bB)<;>(simp only[go_sem,abH,abI,D,E,t,l,g,A,B,O,I];try simp (disch:=omega) only[Iw])|apply vT (by omega)|apply vF (by omega)| (with_reducible first|refine fun(cap:Nat) (bp:_<=cap)=> ?_|refine fun(dv:_<=cap)=> ?_)|refine⟨by omega,?_⟩|fail
   all_goals first| (exfalso;have:=U (by omega);omega)|skip
   all_goals (
    refine SW (K:=KM) fun G hG=> ?_
    have q3:=cc _ _ J
    have q1:G (ah+52)=some ⟨5,cap,((V.map SC).take (v.done.length+k)).map aT++[[cI d.who,cI d.n,cI 0,cI 0,.osl 0 0 0 0 0]]⟩:=by rw[hG];exact aA.aI
    have q2: ∀id,id<ah->id≠b->G id=H2 id:=fun id h1 h2=>by rw[hG,aA.aB (by omega),aA.aB (by omega),aA.aB (by omega),aA.cC h2]
    refine dy _ _ _ (k+1,ah+52,cap) noF _ (by omega) (by dsimp only;omega) (by dsimp only;repeat' first|exact C1|refine xqI rfl rfl ?_|refine xqP (by omega) rfl rfl ?_|refine xqO (by omega) rfl rfl (by rfl) ?_|fail) (aaJ q1) ⟨by dsimp only;omega,hIn ⟨S,hl⟩,?_,?_,?_,⟨cap,by dsimp only;rw[<-abH,q3];exact aA.aI,by dsimp only;omega,abG _⟩,by dsimp only;omega,by dsimp only;omega⟩
    ·rw[aA.aB (by omega),q2 _ (by omega) (by omega)];exact D
    ·rw[aA.aB (by omega),q2 _ (by omega) (by omega)];exact E
    ·rw[aA.aB (by omega),q2 _ (by omega) (by omega)];exact t)
  ·repeat' first|apply vI<;>(simp only[go_sem,t])|apply vF (by omega)|fail
   have ad:k=v.pipe.length:=(by omega);subst ad;obtain⟨L,hL⟩: ∃L,L=V.map SC:=⟨_,rfl⟩
   have ao: ∀i (hi:i<V.length),L.getD i default=SC V[i]:=fun i hi=>by rw[hL];simp[List.getD,hi]
   have cl:L.length=v.done.length+v.pipe.length:=(by rw[hL,abT,cy]);rw[<-hL,abM (by omega)] at l;clear p N O I F D E t
   refine aJ.cG (β:=Nat) (fun k=>en [(13,dI k),(8,.one (.c (.osl 5 b 0 (v.done.length+v.pipe.length) C)))])
    (fun k H3 _=>k<=L.length/\(∀i j,i<j->j<k->(L.getD i default).who=(L.getD j default).who->(L.getD i default).n<(L.getD j default).n)/\H3 b=some ⟨5,m,L.map aT⟩) (fun k=>L.length-k) 0 ⟨noF,_,by repeat' first|exact C1|refine xqI rfl rfl ?_|refine xqO (by omega) rfl rfl (by rfl) ?_|fail,aE,by omega,fun i j _ hj=>by omega,l⟩ ?_
   clear l;rintro k H3 fh dz ⟨F,hC,l⟩ KN eb;by_cases p:k<L.length
   ·repeat' first|apply vI<;>(simp only[go_sem])|apply vT (by omega)|fail
    refine aJ.cG (β:=Nat) (fun j=>en [(14,dI j),(13,dI k),(8,.one (.c (.osl 5 b 0 (v.done.length+v.pipe.length) C)))])
     (fun j H4 _=>j<=k/\(∀i,i<j->(L.getD i default).who=(L.getD k default).who->(L.getD i default).n<(L.getD k default).n)/\H4 b=some ⟨5,m,L.map aT⟩) (fun j=>k-j) 0 ⟨noF,_,by repeat' first|exact C1|refine xqI rfl rfl ?_|refine xqO (by omega) rfl rfl (by rfl) ?_|fail,aE,by omega,fun i hi=>by omega,l⟩ ?_
    clear l;rintro j H4 fi ed ⟨hj,hD,l⟩ KO ei;by_cases ej:j<k
    ·by_cases hc:(L.getD j default).who=(L.getD k default).who/\(L.getD k default).n<=(L.getD j default).n
     ·have c1:((L.getD j default).who=(L.getD k default).who)=True:=eq_true hc.1;have c2:((L.getD k default).n<=(L.getD j default).n)=True:=eq_true hc.2;repeat' first|apply vI<;>(simp only[go_sem,abH,abI,l,cl,c1,c2])|apply vT (by omega)|refine⟨by omega,?_⟩|fail
      all_goals first
       | (exfalso;omega)
       |exact aP T _ rfl rfl (hF fun h=>by
        have h1:=acH.1 h.inc j k (by rw[<-f,<-hV];omega) (by rw[<-f,<-hV];omega) ej
        simp only[<-f,<-hV] at h1
        have A:=ao j (by omega)
        have B:=ao k (by omega)
        rw[A,B] at hc
        have:=h1 hc.1
        have:=hc.2
        simp only[SC] at this
        omega)
     ·repeat' first| (first|apply vI|refine Y6 (fun h=> ?_) fun h=> ?_)<;>(simp only[go_sem,abH,abI,l,cl];try simp (disch:=omega) only[Iw])|apply vT (by omega)|apply vF (by omega)|refine⟨by omega,?_⟩|fail
      all_goals first
       | (exfalso;omega)
       |exact ei _ _ _ (j+1) noF _ (by omega) (by omega) (by repeat' first|exact C1|refine xqI rfl rfl ?_|refine xqO (by omega) rfl rfl (by rfl) ?_|fail) aE ⟨by omega,bL hD (by intro he;omega),l⟩
    ·repeat' first|apply vI<;>(simp only[go_sem];try simp (disch:=omega) only[Iw])|apply vF (by omega)|fail
     have eo:j=k:=(by omega);subst eo
     exact eb _ _ _ (j+1) noF _ (by omega) (by omega) (by repeat' first|exact C1|refine xqI rfl rfl ?_|refine xqO (by omega) rfl rfl (by rfl) ?_|fail) aE ⟨by omega,fun a e cp he=>by
      by_cases h:e<j
      ·exact hC a e cp h
      ·obtain rfl:e=j:=by omega
       exact hD a cp,l⟩
   ·repeat' first|apply vI<;>(simp only[go_sem])|apply vF (by omega)|fail
    refine aP T _ rfl rfl (hT ⟨?_,?_,?_,?_,?_,?_,?_⟩);·rw[<-f];omega
    ·rw[<-f];omega
    ·rw[<-f];exact⟨z,U⟩
    ·rw[<-f,<-hV];refine acH.2 fun i j hi hj ep he=> ?_;have A:=ao i hi;have B:=ao j hj;have:=hC i j ep (by omega);rw[A,B] at this;exact this he
    ·rw[<-f];intro x J;rcases abS.1 J with J|J;·obtain⟨d,hd,rfl⟩:=abP.1 J;exact(iK (P:=fun d=>yO s d.who d.n st/\vB c d) hI d hd).1
     ·obtain⟨d,hd,rfl⟩:=abP.1 J;exact iK (P:=fun d=>yO s d.who d.n st) (fun i hi=>(hJ i hi).1) d hd
    ·rw[<-f];exact fun d hd=>(iK (P:=fun d=>yO s d.who d.n st/\vB c d) hI d hd).2
    ·rw[<-f];exact fun i hi=>(hJ i hi).2
theorem YJ{s:CSt}(hf:EI s)(h:K (dA (eSt (dN s))) H nx):afB F8 [dA (bK s)] H nx K:=by
 refine aC.fresh (R:=fun rr=>rr=dA (eSt (dN s))) ?_ rfl (fun r hr=>hr▸h);clear h;refine aR.mk Tryz.func130 (by kernel_rfl) ea rfl fun Q hQ=> ?_;unfold wB;have Y:=hf.pl;have dx:=hf.sl;obtain⟨N,hN⟩: ∃N,N=s.bN.length:=⟨_,rfl⟩
 rw[<-hN] at dx;have E:=hN.symm;have O:=hf.st;have fx:s.words.length<2^21:=O.words;have gb:s.holds.length<2^21:=O.holds;have gd:s.told.length<2^21:=O.told;have dy: ∀j∈s.told,j.rsp.data.length<2^21:=fun j hj=>O.data j (ac2 _ hj);repeat' first| (first|apply vI|apply mz (w:=s.words) (u:=s.holds) (by omega) (by omega)|apply ly (l:=s.told) (by omega) dy)<;>(simp only[go_sem,umB,umS,umM,muM])|fail
 apply aJ.mM 1;refine aJ.kH _ _ noF (fun t=>.inl rfl) (FQ (i:=9) (o':=⟨6,1,[[.isl (s.words.map aH),.isl (s.holds.map aH),.osl 1 12 0 0 0,.isl ((cW []).map aT),.isl ((cW []).map aT),.isl (s.told.map aT)]]⟩) (by rw[aA.aB (by omega)];exact aA.aI) (bA (aG (bE rfl) (aG (bE rfl) (aG (.BL ..) (aG vZ (aG vZ (aG (bE rfl) cJ)))))))) ?_;refine aJ.KT fun G0 S=> ?_;have c0:G0 0=some ⟨5,1,[bK s]⟩:=by rw[S];rfl
 have c1:G0 1=some ⟨6,1,[[.osl 0 0 0 0 0,.osl 0 0 0 0 0,.osl 0 0 0 0 0,.osl 0 0 0 0 0,.osl 0 0 0 0 0,.osl 0 0 0 0 0]]⟩:=by rw[S];rfl
 have c9:G0 9=some ⟨6,1,[[.isl (s.words.map aH),.isl (s.holds.map aH),.osl 1 12 0 0 0,.isl ((cW []).map aT),.isl ((cW []).map aT),.isl (s.told.map aT)]]⟩:=by rw[S];exact aA.aI
 have dc:G0 12=some ⟨1,0,[]⟩:=by rw[S];rfl
 clear S;obtain⟨A,Z⟩: ∃A:Nat->List Int,A=fun k=>(s.bC.take k).map (·.next):=⟨_,rfl⟩
 have bb: ∀k,k<=3->(A k).length=k:=fun k T=>by rw[Z];simp;omega
 have dz: ∀k,k<3->A (k+1)=A k++[(s.bC.getD k default).next]:=fun k T=>by rw[Z];dsimp only;rw[adN (by omega),abU];simp[List.getD,show k<s.bC.length by omega]
 have y:A 3=(dN s).asked:=by rw[Z];dsimp only;rw[abM (by omega)];rfl
 have df: ∀k,k<3->(gL s k).length<=3:=fun k T=>by have:=hf.q k T;simpa [gL] using this
 have bh: ∀k,k<N->(fD s k).length<=3/\(aS s k).done.length<=3:=fun k T=>⟨by have:=(hf.v k (by omega)).1;simpa [fD] using this,(hf.v k (by omega)).2⟩
 obtain⟨C,ab⟩: ∃C:Nat->List Job,C=fun k=>(List.range k).flatMap (gL s):=⟨_,rfl⟩
 have bk: ∀k,C (k+1)=C k++gL s k:=fun k=>by rw[ab];exact tH
 have aa: ∀k,k<=3->(C k).length<=3*k:=fun k T=>by rw[ab];exact wE k fun j hj=>df j (by omega)
 have bp:C 0=[]:=by rw[ab];rfl
 refine aJ.cG (β:=Nat×Nat×Nat) (fun u=>en [(4,dI u.1),(3,.one (.c (.ptr 6 9 0 0))),(2,.one (.c (.ptr 6 1 0 0))),(1,.one (.c (.ptr 5 0 0 0)))])
  (fun u H1 n1=>u.1<=3/\H1 0=some ⟨5,1,[bK s]⟩/\H1 1=some ⟨6,1,[[.osl 0 0 0 0 0,.osl 0 0 0 0 0,.osl 0 0 0 0 0,.osl 0 0 0 0 0,.osl 0 0 0 0 0,.osl 0 0 0 0 0]]⟩/\H1 9=some ⟨6,1,[[.isl (s.words.map aH),.isl (s.holds.map aH),.osl 1 u.2.1 0 u.1 u.2.2,.isl ((cW (C u.1)).map aT),.isl ((cW []).map aT),.isl (s.told.map aT)]]⟩/\(∃m,H1 u.2.1=some ⟨1,m,(A u.1).map aH⟩/\u.1<=u.2.2/\u.2.2<=m)/\12<=u.2.1/\u.2.1<n1) (fun u=>3-u.1) (0,12,0)
  ⟨noF,_,by repeat' first|exact C1|refine xqI rfl rfl ?_|refine xqP (by omega) rfl rfl ?_|fail,aE,by dsimp only;omega,c0,c1,by dsimp only;rw[bp];exact c9,⟨0,by rw[dc,Z];rfl,abG _,abG _⟩,by dsimp only;omega,by dsimp only;omega⟩ ?_
 clear c0 c1 c9 dc;rintro⟨k,D,ca⟩ H1 z eb ⟨T,b,g,a,⟨m,p,br,ed⟩,bw,cc⟩ KL ei;dsimp only at T a p br ed bw cc;have M:aO z [0,1,9,D]:=AM.apart (by simp;omega) (by simp;omega);simp only[aO,bG] at M;have dh:=bb k T;by_cases cd:k<3
 ·obtain⟨P,hP⟩: ∃P,P=aL s k:=⟨_,rfl⟩
  have ad:s.bC.getD k default=P:=hP.symm;have ej:=hf.q k cd;rw[<-hP] at ej;have m9: ∀G:aA,msk (z+5) [8] G 9=G 9:=fun G=>by unfold msk;rw[if_neg (by simp)]
  rw[<-dh] at a br;repeat' first|apply vI<;>(simp only[go_sem,nL,b,g,a,m9,p,Y,ad,M])|apply vT (by omega)| (with_reducible first|refine fun(cap:Nat) (eo:_<=cap)=> ?_|refine fun(gf:_<=cap)=> ?_)|refine⟨by omega,?_⟩|fail
  refine aJ.KT fun G1 U=> ?_;have hc:A k++[P.next]=A (k+1):=by rw[dz k cd,ad]
  have d0:G1 0=some ⟨5,1,[bK s]⟩:=by rw[U];simp[aA.set,aA.del,M,b]
  have d1:G1 1=some ⟨6,1,[[.osl 0 0 0 0 0,.osl 0 0 0 0 0,.osl 0 0 0 0 0,.osl 0 0 0 0 0,.osl 0 0 0 0 0,.osl 0 0 0 0 0]]⟩:=by rw[U];simp[aA.set,aA.del,M,g]
  have d9:G1 9=some ⟨6,1,[[.isl (s.words.map aH),.isl (s.holds.map aH),.osl 1 (z+14) 0 (k+1) cap,.isl ((cW (C k)).map aT),.isl ((cW []).map aT),.isl (s.told.map aT)]]⟩:=by rw[U,dh];exact aA.aI
  have dA:G1 (z+14)=some ⟨1,cap,(A (k+1)).map aH⟩:=by rw[U,aA.aB (by omega),<-hc];exact aA.aI
  clear U b g a p M
  refine aJ.cG (β:=Nat) (fun j=>en [(5,dI j),(4,dI k),(3,.one (.c (.ptr 6 9 0 0))),(2,.one (.c (.ptr 6 1 0 0))),(1,.one (.c (.ptr 5 0 0 0)))])
   (fun j H2 _=>j<=P.queue.length/\H2 0=some ⟨5,1,[bK s]⟩/\H2 1=some ⟨6,1,[[.osl 0 0 0 0 0,.osl 0 0 0 0 0,.osl 0 0 0 0 0,.osl 0 0 0 0 0,.osl 0 0 0 0 0,.osl 0 0 0 0 0]]⟩/\H2 9=some ⟨6,1,[[.isl (s.words.map aH),.isl (s.holds.map aH),.osl 1 (z+14) 0 (k+1) cap,.isl ((cW (C k++(gL s k).take j)).map aT),.isl ((cW []).map aT),.isl (s.told.map aT)]]⟩/\H2 (z+14)=some ⟨1,cap,(A (k+1)).map aH⟩) (fun j=>P.queue.length-j) 0
   ⟨noF,_,by repeat' first|exact C1|refine xqI rfl rfl ?_|refine xqP (by omega) rfl rfl ?_|fail,aE,by omega,d0,d1,by rw[List.take_zero,ab3];exact d9,dA⟩ ?_
  clear d0 d1 d9 dA;rintro j H2 cf ck ⟨hj,b,g,a,p⟩ KM cl;obtain⟨W,B⟩: ∃W,W=C k++(gL s k).take j:=⟨_,rfl⟩
  rw[<-B] at a;have I:(cW W).length<2^21:=by have h1:=aa k T;have h2:=df k cd;rw[VC,B,abL,ab5];omega
  have M:aO cf [0,1,9,z+14]:=AM.apart (by simp) (by simp;omega);simp only[aO,bG] at M;by_cases e:j<P.queue.length
  ·obtain⟨n,hn⟩: ∃n,P.queue.getD j default=n:=⟨_,rfl⟩
   repeat' first| (first|apply vI|apply O1 I)<;>(simp only[go_sem,nL,b,g,a,Y,ad,hn,M];try simp (disch:=omega) only[Iw])|apply vT (by omega)|refine⟨by omega,?_⟩|fail
   have o:C k++(gL s k).take (j+1)=W++[(⟨k,n,jZ⟩:Job)]:=(by rw[fC (by simpa [gL,<-hP] using e),<-abY,<-B];congr 2;rw[<-hn];simp[gL,<-hP,List.getD,e]);exact cl _ _ _ (j+1) noF _ (by omega) (by omega) (by repeat' first|exact C1|refine xqI rfl rfl ?_|refine xqP (by omega) rfl rfl ?_|fail) aE ⟨by omega,by rw[aA.aB (by omega)];exact b,by rw[aA.aB (by omega)];exact g,by rw[o,RJ];exact aA.aI,by rw[aA.aB (by omega)];exact p⟩
  ·have cp:j=P.queue.length:=(by omega);have o:W=C (k+1):=(by rw[B,bk,abM (by simp[gL,<-hP];omega)]);repeat' first|apply vI<;>(simp only[go_sem,b,Y,ad];try simp (disch:=omega) only[Iw])|apply vF (by omega)|refine⟨by omega,?_⟩|fail
   exact ei _ _ _ (k+1,z+14,cap) noF _ (by omega) (by dsimp only;omega) (by repeat' first|exact C1|refine xqI rfl rfl ?_|refine xqP (by omega) rfl rfl ?_|fail) aE ⟨by dsimp only;omega,b,g,by dsimp only;rw[<-o];exact a,⟨cap,p,by dsimp only;omega,abG _⟩,by dsimp only;omega,by dsimp only;omega⟩
 ·have ep:k=3:=by omega
  subst ep;repeat' first|apply vI<;>(simp only[go_sem,b,g,a])|apply vF (by omega)|fail
  obtain⟨J,ah⟩: ∃J:Nat->List Job,J=fun k=>C 3++(List.range k).flatMap (fD s):=⟨_,rfl⟩
  have cq: ∀k,J (k+1)=J k++fD s k:=fun k=>by rw[ah];dsimp only;rw[tH,abY]
  have cr: ∀k,k<=N->(J k).length<=9+3*k:=fun k T=>by have h1:=aa 3 (by omega);have h2:=wE (f:=fD s) (m:=3) k fun j hj=>(bh j (by omega)).1;rw[ah];dsimp only;rw[abL];omega
  have ct:J 0=C 3:=by rw[ah];simp
  obtain⟨L,ao⟩: ∃L:Nat->List Job,L=fun k=>(List.range k).flatMap fun k=>(aS s k).done:=⟨_,rfl⟩
  have cw: ∀k,L (k+1)=L k++(aS s k).done:=fun k=>by rw[ao];exact tH
  have cx: ∀k,k<=N->(L k).length<=3*k:=fun k T=>by rw[ao];exact wE k fun j hj=>(bh j (by omega)).2
  have cy:L 0=[]:=by rw[ao];rfl
  refine aJ.cG (β:=Nat) (fun k=>en [(6,dI k),(3,.one (.c (.ptr 6 9 0 0))),(2,.one (.c (.ptr 6 1 0 0))),(1,.one (.c (.ptr 5 0 0 0)))])
   (fun k H2 _=>k<=N/\H2 0=some ⟨5,1,[bK s]⟩/\H2 1=some ⟨6,1,[[.osl 0 0 0 0 0,.osl 0 0 0 0 0,.osl 0 0 0 0 0,.osl 0 0 0 0 0,.osl 0 0 0 0 0,.osl 0 0 0 0 0]]⟩/\H2 9=some ⟨6,1,[[.isl (s.words.map aH),.isl (s.holds.map aH),.osl 1 D 0 3 ca,.isl ((cW (J k)).map aT),.isl ((cW (L k)).map aT),.isl (s.told.map aT)]]⟩/\H2 D=some ⟨1,m,(A 3).map aH⟩) (fun k=>N-k) 0
   ⟨noF,_,by repeat' first|exact C1|refine xqI rfl rfl ?_|refine xqP (by omega) rfl rfl ?_|fail,aE,by omega,b,g,by rw[ct,cy];exact a,p⟩ ?_
  clear b g a p M;rintro k H2 cf ck ⟨ds,b,g,a,p⟩ KM cl;have M:aO cf [0,1,9,D]:=AM.apart (by simp;omega) (by simp;omega);simp only[aO,bG] at M;by_cases da:k<N
  ·obtain⟨V,hV⟩: ∃V,V=aS s k:=⟨_,rfl⟩
   have aw:s.bN.getD k default=V:=hV.symm;obtain⟨et,eu⟩:=bh k da;have ew:V.pipe.length<=3:=(by simpa [fD,<-hV] using et);rw[<-hV] at eu;repeat' first|apply vI<;>(simp only[go_sem,b,g,a,E])|apply vT (by omega)|fail
   refine aJ.cG (β:=Nat) (fun j=>en [(7,dI j),(6,dI k),(3,.one (.c (.ptr 6 9 0 0))),(2,.one (.c (.ptr 6 1 0 0))),(1,.one (.c (.ptr 5 0 0 0)))])
    (fun j X _=>j<=V.pipe.length/\X 0=some ⟨5,1,[bK s]⟩/\X 1=some ⟨6,1,[[.osl 0 0 0 0 0,.osl 0 0 0 0 0,.osl 0 0 0 0 0,.osl 0 0 0 0 0,.osl 0 0 0 0 0,.osl 0 0 0 0 0]]⟩/\X 9=some ⟨6,1,[[.isl (s.words.map aH),.isl (s.holds.map aH),.osl 1 D 0 3 ca,.isl ((cW (J k++(fD s k).take j)).map aT),.isl ((cW (L k)).map aT),.isl (s.told.map aT)]]⟩/\X D=some ⟨1,m,(A 3).map aH⟩) (fun j=>V.pipe.length-j) 0
    ⟨noF,_,by repeat' first|exact C1|refine xqI rfl rfl ?_|refine xqP (by omega) rfl rfl ?_|fail,aE,by omega,b,g,by rw[List.take_zero,ab3];exact a,p⟩ ?_
   clear b g a p;rintro j X ff fh ⟨hj,b,g,a,p⟩ KN fi;obtain⟨W,B⟩: ∃W,W=J k++(fD s k).take j:=⟨_,rfl⟩
   rw[<-B] at a;have I:(cW W).length<2^21:=(by have h1:=cr k ds;rw[VC,B,abL,ab5];omega);have y:aO ff [0,1,9,D]:=AM.apart (by simp;omega) (by simp;omega);simp only[aO,bG] at y;by_cases e:j<V.pipe.length
   ·obtain⟨x,hx⟩: ∃x,V.pipe.getD j default=x:=⟨_,rfl⟩
    repeat' first| (first|apply vI|apply O1 I)<;>(simp only[go_sem,nL,b,g,a,E,aw,hx,y];try simp (disch:=omega) only[Iw])|apply vT (by omega)|refine⟨by omega,?_⟩|fail
    have o:J k++(fD s k).take (j+1)=W++[(⟨x.who,x.n,jZ⟩:Job)]:=(by rw[fC (by simpa [fD,<-hV] using e),<-abY,<-B];congr 2;rw[<-hx];simp[fD,<-hV,List.getD,e]);exact fi _ _ _ (j+1) noF _ (by omega) (by omega) (by repeat' first|exact C1|refine xqI rfl rfl ?_|refine xqP (by omega) rfl rfl ?_|fail) aE ⟨by omega,by rw[aA.aB (by omega)];exact b,by rw[aA.aB (by omega)];exact g,by rw[o,RJ];exact aA.aI,by rw[aA.aB (by omega)];exact p⟩
   ·have cp:j=V.pipe.length:=(by omega);have o:W=J (k+1):=(by rw[B,cq,abM (by simp[fD,<-hV];omega)]);rw[o] at a;repeat' first|apply vI<;>(simp only[go_sem,b,E,aw])|apply vF (by omega)|refine⟨by omega,?_⟩|fail
    refine aJ.cG (β:=Nat) (fun j=>en [(8,dI j),(6,dI k),(3,.one (.c (.ptr 6 9 0 0))),(2,.one (.c (.ptr 6 1 0 0))),(1,.one (.c (.ptr 5 0 0 0)))])
     (fun j X _=>j<=V.done.length/\X 0=some ⟨5,1,[bK s]⟩/\X 1=some ⟨6,1,[[.osl 0 0 0 0 0,.osl 0 0 0 0 0,.osl 0 0 0 0 0,.osl 0 0 0 0 0,.osl 0 0 0 0 0,.osl 0 0 0 0 0]]⟩/\X 9=some ⟨6,1,[[.isl (s.words.map aH),.isl (s.holds.map aH),.osl 1 D 0 3 ca,.isl ((cW (J (k+1))).map aT),.isl ((cW (L k++V.done.take j)).map aT),.isl (s.told.map aT)]]⟩/\X D=some ⟨1,m,(A 3).map aH⟩) (fun j=>V.done.length-j) 0
     ⟨noF,_,by repeat' first|exact C1|refine xqI rfl rfl ?_|refine xqP (by omega) rfl rfl ?_|fail,aE,by omega,b,g,by rw[List.take_zero,ab3];exact a,p⟩ ?_
    clear b g a p y I B o W hj cp e;rintro j H4 fl fm ⟨hj,b,g,a,p⟩ KO fo;obtain⟨W,B⟩: ∃W,W=L k++V.done.take j:=⟨_,rfl⟩
    rw[<-B] at a;have I:(cW W).length<2^21:=(by have h1:=cx k ds;rw[VC,B,abL,ab5];omega);have y:aO fl [0,1,9,D]:=AM.apart (by simp;omega) (by simp;omega);simp only[aO,bG] at y;by_cases e:j<V.done.length
    ·obtain⟨x,hx⟩: ∃x,V.done.getD j default=x:=⟨_,rfl⟩
     repeat' first| (first|apply vI|apply vq (l:=cW W) (j:=x) I)<;>(simp only[go_sem,nL,b,g,a,E,aw,hx,y];try simp (disch:=omega) only[Iw])|apply vT (by omega)|refine⟨by omega,?_⟩|fail
     have o:L k++V.done.take (j+1)=W++[x]:=(by rw[fC e,<-abY,<-B,hx]);exact fo _ _ _ (j+1) noF _ (by omega) (by omega) (by repeat' first|exact C1|refine xqI rfl rfl ?_|refine xqP (by omega) rfl rfl ?_|fail) aE ⟨by omega,by rw[aA.aB (by omega)];exact b,by rw[aA.aB (by omega)];exact g,by rw[o,RJ];exact aA.aI,by rw[aA.aB (by omega)];exact p⟩
    ·have cp:j=V.done.length:=(by omega);have o:W=L (k+1):=(by rw[B,cw,abM (by omega),hV]);rw[o] at a;repeat' first|apply vI<;>(simp only[go_sem,b,E,aw];try simp (disch:=omega) only[Iw])|apply vF (by omega)|refine⟨by omega,?_⟩|fail
     exact cl _ _ _ (k+1) noF _ (by omega) (by omega) (by repeat' first|exact C1|refine xqI rfl rfl ?_|refine xqP (by omega) rfl rfl ?_|fail) aE ⟨by omega,b,g,a,p⟩
  ·have dv:k=N:=(by omega);have fp:cW (J k)=(dN s).wait:=(by rw[ah,ab,dv];show _=cW (nR s);unfold nR;rw[Y,hN]);have fs:cW (L k)=(dN s).done:=(by rw[ao,dv];show _=cW (qV s);unfold qV;rw[hN]);rw[fp,fs] at a;repeat' first|apply vI<;>(simp only[go_sem,b,g,a,E,M])|apply vF (by omega)|fail
   refine aC.wj (args':=[dA (eSt (dN s))]) (without (fun j=>j=D) H2) (fun j=>j=D) rfl (fun i d0 d h1 h2=> ?_) eV ?_
   ·cases i with
    |succ i=>simp at h1
    |zero=>simp only[List.getElem?_cons_zero,Option.some.injEq] at h1 h2;subst h1;subst h2;apply iR;show CvL _ _ _ _ [.isl (s.words.map aH),.isl (s.holds.map aH),.isl ((dN s).asked.map aH),.isl ((dN s).wait.map aT),.isl ((dN s).done.map aT),.isl (s.told.map aT)] _;rw[<-y];exact aG (bE rfl) (aG (bE rfl) (aG (cP aV p (by rw[bb 3 (by omega)]) (by rw[bb 3 (by omega)];exact br) rfl) (aG (bE rfl) (aG (bE rfl) (aG (bE rfl) cJ)))))
   have w1:(without (fun j=>j=D) H2) 1=some ⟨6,1,[[.osl 0 0 0 0 0,.osl 0 0 0 0 0,.osl 0 0 0 0 0,.osl 0 0 0 0 0,.osl 0 0 0 0 0,.osl 0 0 0 0 0]]⟩:=(by rw[b9 (F:=fun j=>j=D) (by omega)];exact g);refine ZY O fun H5 gi b0 b1 b2 b3 b4 b5 k0 k1 k2 k3 k4 k5 u1 u2 u3 u4 u5 u6 u7 o0 o1 o2 o3 o4 o5 fr=> ?_;have w2:=(fr 1 (by omega)).trans w1;simp only[go_sem,w2];try apply kI
   repeat' first|apply vI<;>(simp only[go_sem])|fail
   refine KX hQ (dA (eSt (dN s))) _ (gP (m:=1) rfl aA.aI rfl) (iR (aG ((o0.of (aA.aB (by omega))).frz aV (by simp)) (aG ((o1.of (aA.aB (by omega))).frz aV (by simp)) (aG ((o2.of (aA.aB (by omega))).frz aV (by simp)) (aG ((o3.of (aA.aB (by omega))).frz dQ (by simp)) (aG ((o4.of (aA.aB (by omega))).frz dQ (by simp)) (aG ((o5.of (aA.aB (by omega))).frz dQ (by simp)) cJ))))))) rfl rfl
theorem gF{c:Cfg}{s:CSt}(o:iN c)(D:BB s)(h:K (dB (cyB c s)) H nx):afB vP [dA (bI c),dA (bK s)] H nx K:=by
 refine aC.pure (args0:=[dA (bI c),dA (bK s)]) (R:=fun rr=>rr=dB (cyB c s)) ?_ rfl (aK ⟨aF rfl,aF rfl,trivial⟩) (fun r hr=>hr▸h);clear h;refine aR.mk Tryz.func48 (by kernel_rfl) kz rfl fun Q E=> ?_;unfold zG;have aw:=D.w;have bb:=D.h;have bh:=D.pl;have bk:=D.sl;have a: ¬(bH c/\COk c s)->dB false=dB (cyB c s):=fun h=>congrArg dB (Gu h).symm;by_cases z:bH c
 case neg=>
  repeat' first| (first|apply vI|apply lE o)<;>(simp only[go_sem,eq_false z])|fail
  all_goals exact aP E _ rfl rfl (a fun h=>z h.1)
 have U:=eq_true z;by_cases F:o7 s.words s.holds
 case neg=>
  repeat' first| (first|apply vI|apply lE o|apply qP (show s.words.length<2^40 by omega) (show s.holds.length<2^40 by omega))<;>(simp only[go_sem,U,eq_false F])|fail
  all_goals exact aP E _ rfl rfl (a fun h=>F (bo h.2.atm))
 have e2:=eq_true F;by_cases d:(s.bC.length:Int)=3/\(s.bN.length:Int)=4
 case neg=>
  have G: ¬(bH c/\COk c s):=fun⟨_,h⟩=>d ⟨by rw[h.pl];rfl,by rw[h.sl];rfl⟩;repeat' first| (first|apply vI|refine Y6 (fun h=> ?_) fun h=> ?_|apply lE o|apply qP (show s.words.length<2^40 by omega) (show s.holds.length<2^40 by omega))<;>(simp only[go_sem,U,e2])|apply vT (by omega)|fail
  all_goals first|exact aP E _ rfl rfl (a G)| (exfalso;omega)
 have e:s.bN.length=4:=by omega
 have d:s.bC.length=3:=by omega
 repeat' first| (first|apply vI|apply Y5 (by omega)|apply lE o|apply qP (show s.words.length<2^40 by omega) (show s.holds.length<2^40 by omega))<;>(simp only[go_sem,U,e2,d,e])|apply vF (by omega)|fail
 obtain⟨n,A⟩: ∃n:Nat->Int,n=fun k=>((aL s k).out.length:Int):=⟨_,rfl⟩
 obtain⟨l,B⟩: ∃l:Nat->Int,l=fun k=>(((aS s k).pipe.length:Int)+(aS s k).done.length):=⟨_,rfl⟩
 (refine aJ.loop (α:={k:Nat//k<=3/\(∀i,i<k->iA c i (aL s i))}) (fun u=>en [(6,dI u.1),(5,dI (eU n u.1)),(3,.one (.c (.fF (bK s)))),(2,.one (.c (.fF (bI c))))]) (fun _=>.nil) _ (fun u=>3-u.1) ⟨0,by omega,(by intros;first|trivial|omega)⟩ (bF (abG _) (by repeat' first|exact C1|refine xqI rfl rfl ?_| (with_reducible apply C2)| ((with_reducible apply D0);exact CI rfl (by simp) rfl rfl rfl)|fail)) ?_);(rintro⟨k,hk,hinv⟩ KL W);have bp:=IK (f:=n) (m:=4) (by omega) k fun j hj=>by have:=(hinv j (by omega)).ol;rw[A];dsimp only;omega
 by_cases I:k<3
 ·obtain⟨P,X⟩: ∃P,P=aL s k:=⟨_,rfl⟩
  have N:s.bC.getD k default=P:=X.symm;obtain⟨p,q⟩:=D.port k;by_cases b:iA c k (aL s k)
  ·have g:=Fu b;have Y:=b.ol;rw[<-X] at Y;have t:eU n (k+1)=eU n k+P.out.length:=(by rw[eU,A,X]);have J:=bL hinv b;repeat' first| (first|apply vI|apply M7 z d I p q)<;>(simp only[go_sem,N,d,g];try simp (disch:=omega) only[Iw])|apply vT (by omega)|refine⟨by omega,?_⟩|fail
   all_goals (rw[<-t];(refine W _ _ _ ⟨k+1,by omega,J⟩ (by omega) (by(try dsimp only);omega) (bF (abG _) (by repeat' first|exact C1|refine xqI rfl rfl ?_|fail))))
  ·have g:=TN b;repeat' first| (first|apply vI|apply M7 z d I p q)<;>(simp only[go_sem,N,d,g])|apply vT (by omega)|fail
   all_goals exact aP E _ rfl rfl (a fun h=>b (h.2.port k I))
 ·have Z:k=3:=by omega
  subst Z;have L:zH c s:=⟨d,hinv⟩
  have br:eU l 0=0:=rfl;repeat' first|apply vI<;>(simp only[go_sem])|apply vF (by omega)|fail
  refine aJ.loop (α:={k:Nat//k<=4/\ ∀i,i<k->pE c s i}) (fun u=>en [(7,dI u.1),(5,dI (eU n 3-eU l u.1)),(3,.one (.c (.fF (bK s)))),(2,.one (.c (.fF (bI c))))]) (fun _=>.nil) _ (fun u=>4-u.1) ⟨0,by omega,fun i hi=>by omega⟩ (bF (abG _) (by repeat' first|exact C1|refine xqI rfl rfl ?_| (with_reducible apply C2)| ((with_reducible apply C0);(exact CG (by((try dsimp only);exact diE (by omega))) rfl))| ((with_reducible apply D0);apply CJ)|fail)) ?_;rintro⟨k,hk,v⟩ KM aa;have bw:=IK (f:=l) (m:=4) (by omega) k fun j hj=>by have h1:=(v j (by omega)).pl;have h2:=(v j (by omega)).dl;rw[B];dsimp only;omega
  by_cases x:k<4
  ·obtain⟨V,hV⟩: ∃V,V=aS s k:=⟨_,rfl⟩
   have O:s.bN.getD k default=V:=hV.symm;obtain⟨p,q,S⟩:=D.slv k;by_cases b:pE c s k
   ·have ab:=b.pl;have ad:=b.dl;rw[<-hV] at ab ad;have g:=Gs b;have t:eU n 3-eU l (k+1)=eU n 3-eU l k-V.pipe.length-V.done.length:=by have h1:l k=V.pipe.length+V.done.length:=(by rw[B,hV]);have h2:eU l (k+1)=eU l k+l k:=rfl;omega
    have J:=bL v b;repeat' first| (first|apply vI|apply KU z L e x p q S)<;>(simp only[go_sem,O,e,g];try simp (disch:=omega) only[Iw])|apply vT (by omega)|refine⟨by omega,?_⟩|fail
    all_goals (rw[<-t];exact aa _ _ _ ⟨k+1,by omega,J⟩ (by omega) (by(try dsimp only);omega) (bF (abG _) (by repeat' first|exact C1|refine xqI rfl rfl ?_|fail)))
   ·have g:=PK b;repeat' first| (first|apply vI|apply KU z L e x p q S)<;>(simp only[go_sem,O,e,g])|apply vT (by omega)|fail
    all_goals exact aP E _ rfl rfl (a fun h=>b (h.2.slv k x))
  ·have ah:k=4:=(by omega);subst ah;have T:=ru D L e v;by_cases M:eU n 3=eU l 4
   case neg=>
    have G: ¬(bH c/\COk c s):=fun⟨_,h⟩=>M (by
     have:=h.count
     unfold kY at this
     rw[A,B]
     simp only[eU]
     omega)
    have y:(eU n 3-eU l 4=0)=False:=eq_false (by omega);repeat' first|apply vI<;>(simp only[go_sem,y])|apply vF (by omega)|fail
    all_goals exact aP E _ rfl rfl (a G)
   have y:(eU n 3-eU l 4=0)=True:=eq_true (by omega);have ao:=Yy (s:=dN s) z;repeat' first| (first|apply vI|apply YJ T|apply tw o T.st)<;>(simp only[go_sem,y,ao])|apply vF (by omega)|fail
   all_goals (
    refine aP E _ rfl rfl (congrArg dB ?_)
    by_cases C:oD c (dN s)
    ·rw[Rl C];refine(Vu z ⟨⟨by have:=F.1.1;omega,F.1.2,by have:=F.2.1;omega,F.2.2⟩,d,e,hinv,v,?_,C⟩).symm;unfold kY;rw[A,B] at M;simp only[eU] at M;omega
    ·rw[PT C,Gu fun h=>C h.2.st])
end
end Go.Proofs.YtlncecohbakleaaGreat
