/- Texts laid together by a program: rules, contracts and the walk that leads to the law. -/
import Derived.Test.YtlncecohbakleaaGreatPS7
import Derived.Test.YtlncecohbakleaaGreatPS8
set_option linter.unusedVariables false
set_option linter.unusedSimpArgs false
set_option linter.unusedSectionVars false
set_option maxRecDepth 100000
set_option maxHeartbeats 8000000
namespace Go.AM
end Go.AM
namespace Go.Proofs.YtlncecohbakleaaGreat
open Go Go.AM
attribute [local irreducible] aM wv aB vd wvH
section
variable{H:aA}{nx:Nat}{K:bNX}
def rq0(id kind addr many:Int)(wrap:Bool):List D1:=[cI id,cI kind,cI addr,cI many,cB wrap,.osl 0 0 0 0 0,.osl 0 0 0 0 0]
theorem aD5{l:List Rng}(hl:l.length<2^40)(h:K (dB (decide (DH l))) H nx):bNW aBG [dS (l.map eN)] H nx K:=by
 refine aB.pure (args0:=[dS (l.map eN)]) (R:=fun z=>z=dB (decide (DH l))) ?_ rfl (aI ⟨aE rfl,trivial⟩) (fun r hr=>hr▸h);clear h;refine aN.mk Tryz.func164 (by kernel_rfl) aDZ rfl fun Q g=> ?_;unfold aBO;by_cases m:(l.length:Int)<=4
 ·repeat' first|apply bn1<;>(simp only[go_sem])|apply bn3 (by omega)|fail
  refine aM.gP (β:=Nat) (fun k=>en [(3,boP k),(0,dS (l.map eN))]) (fun k _ _=>k<=l.length/\ ∀i,i<k->V9 l i) (fun k=>l.length-k) 0 ⟨noF,_,by repeat' first|exact bo2|refine xqI rfl rfl ?_|fail,aK,by omega,fun i hi=>by omega⟩ ?_;rintro k H1 n w ⟨E,hinv⟩ bpQ p;by_cases o:k<l.length
  ·obtain⟨r,hr⟩: ∃r,r=l.getD k default:=⟨_,rfl⟩
   have e:l.getD k default=r:=hr.symm;have a: ¬SF r->¬DH l:=fun h hm=>h (by rw[hr];exact(hm.2 k o).1);repeat' first| (first|apply bn1|refine bpL (fun h=> ?_) fun h=> ?_|apply aBC)<;>(simp only[go_sem,e,boC])|apply bn2 (by omega)|refine bnE (fun h=> ?_) fun h=> ?_|refine⟨by omega,?_⟩|fail
   ·exact aZ g (dB false) rfl rfl (j7 (a fun hm=>by unfold SF at hm;omega))
   ·exact aZ g (dB false) rfl rfl (j7 (a fun hm=>by unfold SF at hm;omega))
   ·exact aZ g (dB false) rfl rfl (j7 (a fun hm=>by unfold SF at hm;omega))
   have q:SF r:=(by unfold SF;omega);refine aM.gP (β:=Nat) (fun j=>en [(5,boP j),(4,.one (.c (.ptr 4 (n+8) 0 0))),(3,boP k),(0,dS (l.map eN))]) (fun j H2 _=>(j<=k/\ ∀i,i<j->aaM (l.getD i default) r=false)/\H2 (n+8)=some ⟨4,1,[eN r]⟩) (fun j=>k-j) 0 ⟨noF,_,by repeat' first|exact bo2|refine xqI rfl rfl ?_|refine xqP (by omega) rfl rfl ?_|fail,aK,⟨by omega,fun i hi=>by omega⟩,by simp only[aA.set,if_true]⟩ ?_;rintro j H2 A y ⟨⟨F,b⟩,bp4⟩ bqG s;by_cases B:j<k
   ·obtain⟨t,u⟩: ∃t,t=l.getD j default:=⟨_,rfl⟩
    have d:l.getD j default=t:=u.symm;repeat' first| (first|apply bn1|refine bpL (fun h=> ?_) fun h=> ?_)<;>(simp only[go_sem,d,bp4];try simp (disch:=omega) only[Iw])|apply bn2 (by omega)|refine bnE (fun h=> ?_) fun h=> ?_|refine⟨by omega,?_⟩|fail
    ·refine aZ g (dB false) rfl rfl (j7 fun hm=> ?_);have C:=(hm.2 k o).2;refine C (cH.2 ⟨l.getD j default,bqY.2 ⟨j,by simp;omega,by simp[List.getD,show j<l.length by omega]⟩,decide_eq_true ?_⟩);rw[d,e];omega
    all_goals exact s _ _ _ (j+1) noF _ (by omega) (by omega) (by repeat' first|exact bo2|refine xqI rfl rfl ?_|refine xqP (by omega) rfl rfl ?_|fail) aK ⟨⟨by omega,iS b (by rw[d];exact decide_eq_false (by omega))⟩,bp4⟩
   ·repeat' first|apply bn1<;>(simp only[go_sem];try simp (disch:=omega) only[Iw])|apply bn3 (by omega)|fail
    refine p _ _ _ (k+1) noF _ (by omega) (by omega) (by repeat' first|exact bo2|refine xqI rfl rfl ?_|fail) aK ⟨by omega,iS hinv ⟨by rw[e];exact q,fun hc=> ?_⟩⟩;obtain⟨x,D,f⟩:=cH.1 hc;obtain⟨i,hi,rfl⟩:=bqY.1 D;have hi':i<k:=(by simp at hi;omega);have:=b i (by omega);simp only[List.getD,show i<l.length by omega,n1,Option.getD_some] at this;rw[e] at f;simp only[brU] at f;rw[this] at f;cases f
  ·repeat' first|apply bn1<;>(simp only[go_sem])|apply bn3 (by omega)|fail
   have v:k=l.length:=(by omega);subst v;exact aZ g (dB true) rfl rfl (q9 ⟨m,hinv⟩)
 ·repeat' first|apply bn1<;>(simp only[go_sem])|apply bn2 (by omega)|fail
  exact aZ g (dB false) rfl rfl (j7 fun h=>m h.1)
theorem aCC{l:List Int}{lo:Int}{up:Int}(hl:l.length<2^40)(h:K (dB (decide (All l lo up))) H nx):bNW aA3 [dS (l.map aJ),boP lo,boP up] H nx K:=by
 refine aB.pure (args0:=[dS (l.map aJ),boP lo,boP up]) (R:=fun d=>d=dB (decide (All l lo up))) ?_ rfl (aI ⟨aE rfl,aE rfl,aE rfl,trivial⟩) (fun r hr=>hr▸h);clear h;refine aN.mk Tryz.func114 (by kernel_rfl) aDO rfl fun Q c=> ?_;unfold aBP;repeat' first|apply bn1<;>(simp only[go_sem])|fail
 (refine aM.loop (α:={k:Nat//k<=l.length/\(∀i,i<k->lo<=l.getD i default/\l.getD i default<=up)}) (fun u=>en [(7,boP u.1),(2,boP up),(1,boP lo),(0,dS (l.map aJ))]) (fun _=>.nil) _ (fun u=>l.length-u.1) ⟨0,by omega,(by intros;first|trivial|omega)⟩ (bU (m5 _) (by repeat' first|exact bo2|refine xqI rfl rfl ?_|fail)) ?_);(rintro⟨k,f,hinv⟩ bpQ a);by_cases b:k<l.length
 ·repeat' first| (first|apply bn1|apply aBC)<;>(simp only[go_sem];try simp (disch:=omega) only[Iw])|apply bn2 (by omega)|refine bnE (fun h=> ?_) fun h=> ?_|refine⟨by omega,?_⟩|fail
  ·exact aZ c (dB false) rfl rfl (j7 fun e=>by have:=aj1 e b;omega)
  · (refine a _ _ _ ⟨k+1,by omega,iS hinv (by omega)⟩ (by omega) (by(try dsimp only);omega) (bU (m5 _) (by repeat' first|exact bo2|refine xqI rfl rfl ?_|fail)))
 ·repeat' first|apply bn1<;>(simp only[go_sem])|apply bn3 (by omega)|fail
  exact aZ c (dB true) rfl rfl (q9 (aEA fun i hi=>hinv i (by omega)))
theorem aD8{q:Req}(b:q.data.length<2^40)(hl:q.g6.length<2^40)(h:K (dB (decide (dH q))) H nx):bNW aBF [boR (eB q)] H nx K:=by
 refine aB.pure (args0:=[boR (eB q)]) (R:=fun c=>c=dB (decide (dH q))) ?_ rfl (aI ⟨aE rfl,trivial⟩) (fun r hr=>hr▸h);clear h;refine aN.mk Tryz.func247 (by kernel_rfl) aDY rfl fun Q a=> ?_;unfold aBM;repeat' first| (first|apply bn1|refine bpL (fun h=> ?_) fun h=> ?_|apply aBC|apply aC2|apply aCI|apply aCC (l:=q.data) b|apply aCC (l:=q.g6) hl)<;>(simp only[go_sem])|refine bnE (fun h=> ?_) fun h=> ?_| ((refine bnF (fun h=> ?_) (fun h=> ?_))<;>try subst h)|fail
 all_goals first|with_reducible refine aZ a _ rfl rfl ?_|skip
 all_goals
  have d:wrM q=true↔(q.kind=2\/q.kind=4):=by simp[wrM]
  have e:All ([]:List Int) 0 65535:=by simp[All]
  have f:All ([]:List Int) 0 3:=by simp[All]
  have g:q.data.length=0->q.data=[]:=H4.1
  have bOZ:q.g6.length=0->q.g6=[]:=H4.1
  clear a
  first|exact j7 (by unfold dH n5;grind)|exact q9 (by unfold dH n5;grind)|exact pD (by unfold dH n5;grind)
theorem aMP{r:Rsp}(hr:r.data.length<2^40)(h:K (dB (decide (pA r))) H nx):bNW aIP [boR (tG r)] H nx K:=by
 refine aB.pure (args0:=[boR (tG r)]) (R:=fun a=>a=dB (decide (pA r))) ?_ rfl (aI ⟨aE rfl,trivial⟩) (fun r hr=>hr▸h);clear h;refine aN.mk Tryz.func213 (by kernel_rfl) aLS rfl fun Q b=> ?_;unfold aJL;repeat' first| (first|apply bn1|refine bpL (fun h=> ?_) fun h=> ?_|apply aBC|apply aCC (l:=r.data) hr)<;>(simp only[go_sem])|fail
 all_goals first|with_reducible refine aZ b _ rfl rfl ?_|skip
 all_goals first|exact j7 (by unfold pA;grind)|exact pD (by unfold pA;grind)|exact q9 (by unfold pA;grind)
theorem aL2{p:Prog}(hp:p.length<2^40)(d: ∀q∈p,q.data.length<2^40/\q.g6.length<2^40)(h:K (dB (decide (∀q∈p,dH q))) H nx):bNW aI2 [dS (p.map eB)] H nx K:=by
 refine aB.pure (args0:=[dS (p.map eB)]) (R:=fun e=>e=dB (decide (∀q∈p,dH q))) ?_ rfl (aI ⟨aE rfl,trivial⟩) (fun r hr=>hr▸h);clear h;refine aN.mk Tryz.func165 (by kernel_rfl) aK5 rfl fun Q c=> ?_;unfold aJC;repeat' first|apply bn1<;>(simp only[go_sem])|fail
 (refine aM.loop (α:={k:Nat//k<=p.length/\(∀i,i<k->dH (p.getD i default))}) (fun u=>en [(3,boP u.1),(0,dS (p.map eB))]) (fun _=>.nil) _ (fun u=>p.length-u.1) ⟨0,by omega,(by intros;first|trivial|omega)⟩ (bU (m5 _) (by repeat' first|exact bo2|refine xqI rfl rfl ?_|fail)) ?_);(rintro⟨k,g,hinv⟩ bpQ b);by_cases a:k<p.length
 ·have hm:=d _ (cC a);repeat' first| (first|apply bn1|apply aD8 hm.1 hm.2)<;>(simp only[go_sem];try simp (disch:=omega) only[Iw])|apply bn2 (by omega)|refine bnE (fun h=> ?_) fun h=> ?_|refine⟨by omega,?_⟩|fail
  ·exact aZ c (dB false) rfl rfl (j7 fun f=>by have:=f _ (cC a);simp_all)
  · (refine b _ _ _ ⟨k+1,by omega,iS hinv (by simp_all)⟩ (by omega) (by(try dsimp only);omega) (bU (m5 _) (by repeat' first|exact bo2|refine xqI rfl rfl ?_|fail)))
 ·repeat' first|apply bn1<;>(simp only[go_sem])|apply bn3 (by omega)|fail
  exact aZ c (dB true) rfl rfl (q9 (aKJ fun i hi=>hinv i (by omega)))
theorem aKG{c:Cfg}(hc:jO c)(h:K (dB (decide (aQ c))) H nx):bNW aIV [boR (cU c)] H nx K:=by
 refine aB.pure (args0:=[boR (cU c)]) (R:=fun o=>o=dB (decide (aQ c))) ?_ rfl (aI ⟨aE rfl,trivial⟩) (fun r hr=>hr▸h);clear h;refine aN.mk Tryz.func73 (by kernel_rfl) aL8 rfl fun Q b=> ?_;unfold aJQ;have a:aQ c↔DH c.map/\(c.lat.length:Int)=4/\All c.lat 0 3/\(c.cP.length:Int)=3/\ ∀p∈c.cP,(p.length:Int)<=12/\ ∀q∈p,dH q:=by unfold aQ mV;simp only[cH,not_exists,not_and,decide_eq_true_eq,Classical.not_imp,Classical.not_not]
 by_cases d:DH c.map/\(c.lat.length:Int)=4/\All c.lat 0 3/\(c.cP.length:Int)=3
 ·obtain⟨m,s,n,k9⟩:=d;repeat' first| (first|apply bn1|apply bpK (by omega)|apply aD5 hc.map|apply aCC (l:=c.lat) hc.lat)<;>(simp only[go_sem,eq_true m,eq_true n])|apply bn3 (by omega)|fail
  (refine aM.loop (α:={k:Nat//k<=3/\(∀i,i<k->((c.cP.getD i default).length:Int)<=12/\ ∀q∈c.cP.getD i default,dH q)}) (fun u=>en [(3,boP u.1),(1,.one (.c (.fQ (cU c))))]) (fun _=>.nil) _ (fun u=>3-u.1) ⟨0,by omega,(by intros;first|trivial|omega)⟩ (bU (m5 _) (by repeat' first|exact bo2|refine xqI rfl rfl ?_| (with_reducible apply bo3)| ((with_reducible apply bo1);exact bpH rfl (by simp) rfl rfl rfl)|fail)) ?_);(rintro⟨k,v,hinv⟩ bpQ e);by_cases t:k<3
  ·have hm:c.cP.getD k default∈c.cP:=cC (by omega);have f:=hc.prog _ hm;have g:=hc.req _ hm;repeat' first| (first|apply bn1|refine bpL (fun h=> ?_) fun h=> ?_|apply aL2 f g)<;>(simp only[go_sem];try simp (disch:=omega) only[Iw])|apply bn2 (by omega)|refine bnE (fun h=> ?_) fun h=> ?_|refine⟨by omega,?_⟩|fail
   ·exact aZ b (dB false) rfl rfl (j7 fun hB=>by have:=((a.1 hB).2.2.2.2 _ hm).1;omega)
   ·exact aZ b (dB false) rfl rfl (j7 fun hB=>by have:=((a.1 hB).2.2.2.2 _ hm).2;simp_all)
   · (refine e _ _ _ ⟨k+1,by omega,iS hinv ⟨by omega,by simp_all⟩⟩ (by omega) (by(try dsimp only);omega) (bU (m5 _) (by repeat' first|exact bo2|refine xqI rfl rfl ?_|fail)))
  ·repeat' first|apply bn1<;>(simp only[go_sem])|apply bn3 (by omega)|fail
   exact aZ b (dB true) rfl rfl (q9 (a.2 ⟨m,s,n,k9,aKJ fun i hi=>hinv i (by omega)⟩))
 ·have j: ¬aQ c:=fun hB=>d ⟨(a.1 hB).1,(a.1 hB).2.1,(a.1 hB).2.2.1,(a.1 hB).2.2.2.1⟩;repeat' first| (first|apply bn1|refine bpL (fun h=> ?_) fun h=> ?_|apply aD5 hc.map|apply aCC (l:=c.lat) hc.lat)<;>(simp only[go_sem])|refine bnE (fun h=> ?_) fun h=> ?_|fail
  all_goals first|exact aZ b (dB false) rfl rfl (j7 j)|exact absurd ⟨by simp_all,by omega,by simp_all,by omega⟩ d
theorem aMS{l:List Int}(hl:l.length<2^40)(h:K (dB (decide ((l.length:Int)=64/\All l 0 65535))) H nx):bNW aI7 [boR [.isl (l.map aJ)]] H nx K:=by
 refine aB.pure (args0:=[boR [.isl (l.map aJ)]]) (R:=fun f=>f=dB (decide ((l.length:Int)=64/\All l 0 65535))) ?_ rfl (aI ⟨aE rfl,trivial⟩) (fun r hr=>hr▸h);clear h;refine aN.mk Tryz.func211 (by kernel_rfl) aLU rfl fun Q a=> ?_;unfold aJK;repeat' first|apply bn1<;>(simp only[go_sem])|refine bnE (fun h=> ?_) fun h=> ?_|fail
 ·exact aZ a (dB false) rfl rfl (j7 fun e=>by omega)
 (refine aM.loop (α:={k:Nat//k<=l.length/\(∀i,i<k->0<=l.getD i default/\l.getD i default<=65535)}) (fun u=>en [(3,boP u.1),(1,.one (.c (.fQ [.isl (l.map aJ)])))]) (fun _=>.nil) _ (fun u=>l.length-u.1) ⟨0,by omega,(by intros;first|trivial|omega)⟩ (bU (m5 _) (by repeat' first|exact bo2|refine xqI rfl rfl ?_| (with_reducible apply bo3)| ((with_reducible apply bo1);exact bpH rfl (by simp) rfl rfl rfl)|fail)) ?_);(rintro⟨k,g,hinv⟩ bpQ b);by_cases d:k<l.length
 ·repeat' first| (first|apply bn1|apply aBC)<;>(simp only[go_sem];try simp (disch:=omega) only[Iw])|apply bn2 (by omega)|refine bnE (fun h=> ?_) fun h=> ?_|refine⟨by omega,?_⟩|fail
  ·exact aZ a (dB false) rfl rfl (j7 fun e=>by have:=aj1 e.2 d;omega)
  · (refine b _ _ _ ⟨k+1,by omega,iS hinv (by omega)⟩ (by omega) (by(try dsimp only);omega) (bU (m5 _) (by repeat' first|exact bo2|refine xqI rfl rfl ?_|fail)))
 ·repeat' first|apply bn1<;>(simp only[go_sem])|apply bn3 (by omega)|fail
  exact aZ a (dB true) rfl rfl (q9 ⟨by omega,aEA fun i hi=>hinv i (by omega)⟩)
theorem aKH{w:List Int}{u:List Int}(hw:w.length<2^40)(hu:u.length<2^40)(h:K (dB (decide (JS w u))) H nx):bNW aIU [boR [.isl (w.map aJ),.isl (u.map aJ)]] H nx K:=by
 refine aB.pure (args0:=[boR [.isl (w.map aJ),.isl (u.map aJ)]]) (R:=fun a=>a=dB (decide (JS w u))) ?_ rfl (aI ⟨aE rfl,trivial⟩) (fun r hr=>hr▸h);clear h;refine aN.mk Tryz.func126 (by kernel_rfl) aL9 rfl fun Q b=> ?_;unfold aJM;repeat' first| (first|apply bn1|refine bpL (fun h=> ?_) fun h=> ?_|apply aMS hw|apply aCC (l:=u) hu)<;>(simp only[go_sem])|fail
 all_goals first|with_reducible refine aZ b _ rfl rfl ?_|skip
 all_goals first|exact j7 (by unfold JS;grind)|exact pD (by unfold JS;grind)
theorem beM{q:Req}(h:dH q):q.data.length<2^40/\q.g6.length<2^40:=by
 obtain⟨_,_,a,k9,l1,_,_,_⟩:=h;have b:=MK (addr:=q.addr) (many:=q.many) (wrap:=q.wrap);have c:=DF a;have hm:q.many<=4:=by omega
 unfold n5 at k9 l1;constructor;·split at k9<;>omega
 ·split at l1<;>omega
theorem a20{m:List Rng}{q:Req}(hm:DH m)(a:dH q)(hl:m.length<2^21)(h:K (boP (gZ m q)) H nx):bNW y3 [dS (m.map eN),boR (eB q)] H nx K:=by
 refine aB.pure (args0:=[dS (m.map eN),boR (eB q)]) (R:=fun d=>d=boP (gZ m q)) ?_ rfl (aI ⟨aE rfl,aE rfl,trivial⟩) (fun r hr=>hr▸h);clear h;refine aN.mk Tryz.func167 (by kernel_rfl) aCT rfl fun Q e=> ?_;unfold aA7;have f:bV m (bE q.addr q.many q.wrap)<m.length:=by have g:=PQ (p:=(inR · ((bE q.addr q.many q.wrap).getD 0 default))) (l:=m);unfold bV;grind
 have c:=beM a;have b:(bE q.addr q.many q.wrap).length<2^40:=by have:=MK (addr:=q.addr) (many:=q.many) (wrap:=q.wrap);omega
 have d1:=decide_eq_true hm;have d2:=decide_eq_true a;repeat' first| (first|apply bn1|apply aD5 (by omega)|apply aD8 c.1 c.2|apply aC9|apply aDG (by omega) b)<;>(simp only[go_sem,d1,d2,eq_true hm,eq_true a])|refine bnE (fun h=> ?_) fun h=> ?_|refine⟨by omega,?_⟩|fail
 all_goals first|with_reducible refine aZ e _ rfl rfl ?_|skip
 ·unfold gZ;exact(congrArg boP (if_pos h)).symm
 ·unfold gZ;exact(congrArg boP (if_neg h)).symm
theorem bhY{c:Cfg}{s:CSt}{who:Nat}{st:Nat}(F:aQ c)(hs:COk c s)(hw:who<3)(X:st<4){d1:D}(G:CvD H (fun _=>True) id 0 (boR (eI s)) d1)(h:K (dB (decide (HV c s who st))) H nx):bNW bgQ [boR (cU c),d1,boP who,boP st] H nx K:=by
 refine aB.pure (args0:=[boR (cU c),boR (eI s),boP who,boP st]) (R:=fun Y=>Y=dB (decide (HV c s who st))) ?_ rfl (aI ⟨aE rfl,G,aE rfl,aE rfl,trivial⟩) (fun r hr=>hr▸h);clear h;refine aN.mk Tryz.func210 (by kernel_rfl) biW rfl fun Q v=> ?_;unfold bg5;obtain⟨g,I⟩:=hC F;have w:=I who;have x:DH c.map:=F.1;have Z:=F.1.1;have b:=hs.pl;have a:=hs.port who hw;obtain⟨p,hp⟩: ∃p,s.bM.getD who default=p:=⟨_,rfl⟩
 have y:aF s who=p:=hp;obtain⟨u,d⟩: ∃u,p.queue.getD 0 default=u:=⟨_,rfl⟩
 have bPA:HV c s who st↔(0<p.queue.length/\p.out.length<4/\gZ c.map (bT c who u)=st/\ ∀j∈p.out,(bT c who j.n).id=(bT c who u).id->j.left=st):=by unfold HV;rw[y,d]
 rw[y] at a;obtain⟨aa,J⟩:=a.next;obtain⟨ab,l⟩:=a.ql;have m:=a.queue 0;rw[d] at m;have ad:=a.ol;obtain⟨P,boS⟩: ∃P,c.cP.getD who default=P:=⟨_,rfl⟩
 rw[boS] at w J;have z: ∀n:Int,bT c who n=P.getD n.toNat default:=fun n=>by unfold bT;rw[Int.toNat_natCast,boS]
 by_cases h0:p.queue.length=0
 ·have bpN:((p.queue.length:Int)=0)=True:=eq_true (by omega);repeat' first|apply bn1<;>(simp only[go_sem,b,hp,bpN])|refine⟨by omega,?_⟩|fail
  exact aZ v _ rfl rfl (j7 (by rw[bPA];omega))
 have bpN:((p.queue.length:Int)=0)=False:=eq_false (by omega);by_cases k9:p.out.length=4
 ·have bpO:((p.out.length:Int)=4)=True:=eq_true (by omega);repeat' first|apply bn1<;>(simp only[go_sem,b,hp,bpN,bpO])|refine⟨by omega,?_⟩|fail
  exact aZ v _ rfl rfl (j7 (by rw[bPA];omega))
 have bpO:((p.out.length:Int)=4)=False:=eq_false (by omega);have m:=m (by omega);obtain⟨q,L⟩: ∃q,P.getD u.toNat default=q:=⟨_,rfl⟩
 have A:bT c who u=q:=by rw[z];exact L
 have B:dH q:=A▸GK F (a.asks hw (by omega) (by omega));rw[A] at bPA;by_cases t:gZ c.map q=st
 ·have bpP:(gZ c.map q=(st:Int))=True:=eq_true t;repeat' first| (first|apply bn1|apply a20 x B (by omega))<;>(simp only[go_sem,b,g,hp,boS,d,L,bpN,bpO,bpP])|refine⟨by omega,?_⟩|fail
  refine aM.gP (β:=Nat) (fun k=>en [(11,boP k),(10,.one (.c (.ptr 7 31 0 0))),(9,.one (.c (.ptr 4 8 0 0))),(4,.one (.c (.ptr 3 0 0 0))),(3,boP st),(2,boP who)]) (fun k H1 _=>H1 0=some ⟨3,1,[cU c]⟩/\H1 8=some ⟨4,1,[cD p]⟩/\H1 31=some ⟨7,1,[eB q]⟩/\k<=p.out.length/\ ∀i,i<k->(bT c who (p.out.getD i default).n).id=q.id->(p.out.getD i default).left=st) (fun k=>p.out.length-k) 0 ⟨noF,_,by repeat' first|exact bo2|refine xqI rfl rfl ?_|refine xqP (by omega) rfl rfl ?_|fail,aK,rfl,rfl,rfl,by omega,fun i hi=>by omega⟩ ?_;rintro k H1 ae W ⟨bqC,M,N,hk,hinv⟩ bpQ O;by_cases S:k<p.out.length
  ·obtain⟨o,T⟩: ∃o,p.out.getD k default=o:=⟨_,rfl⟩
   have C:o∈p.out:=(by rw[<-T];exact cC S);obtain⟨_,af,_⟩:=a.out o C;obtain⟨U,l⟩: ∃U,P.getD o.n.toNat default=U:=⟨_,rfl⟩
   have f:bT c who o.n=U:=(by rw[z];exact l);repeat' first| (first|apply bn1|refine bpL (fun h=> ?_) fun h=> ?_)<;>(simp only[go_sem,bqC,M,N,b,g,hp,boS,d,T,l];try simp (disch:=omega) only[Iw])|apply bn2 (by omega)|refine bnE (fun h=> ?_) fun h=> ?_|refine⟨by omega,?_⟩|fail
   all_goals first
    | (refine aZ v _ rfl rfl (j7 ?_)
       rw[bPA]
       rintro⟨_,_,_,E⟩
       have:=E o C (by rw[f];omega)
       omega)
    |exact O _ _ _ (k+1) noF _ (by omega) (by omega) (by repeat' first|exact bo2|refine xqI rfl rfl ?_|refine xqP (by omega) rfl rfl ?_|fail) aK ⟨bqC,M,N,by omega,fun i hi e=>by
     by_cases V:i<k
     ·exact hinv i V e
     ·have:i=k:=(by omega);subst this;rw[T] at e ⊢;rw[f] at e;omega⟩
  ·repeat' first|apply bn1<;>(simp only[go_sem,bqC,M,N])|apply bn3 (by omega)|fail
   refine aZ v _ rfl rfl (q9 ?_);rw[bPA];refine⟨by omega,by omega,t,fun j hj e=> ?_⟩;obtain⟨i,hi,rfl⟩:=bqY.1 hj;have:=hinv i (by omega);rw[KL,n1 hi,Option.getD_some] at this;exact this e
 ·have bpP:(gZ c.map q=(st:Int))=False:=eq_false t;repeat' first| (first|apply bn1|apply a20 x B (by omega))<;>(simp only[go_sem,b,g,hp,boS,d,L,bpN,bpO,bpP])|refine⟨by omega,?_⟩|fail
  exact aZ v _ rfl rfl (j7 (by rw[bPA];omega))
end
end Go.Proofs.YtlncecohbakleaaGreat
