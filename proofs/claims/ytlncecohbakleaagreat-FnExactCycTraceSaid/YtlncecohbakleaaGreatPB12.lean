/- Texts laid together by a program: rules, contracts and the walk that leads to the law. -/
import Derived.Test.YtlncecohbakleaaGreatPB7
import Derived.Test.YtlncecohbakleaaGreatPB8
set_option linter.unusedVariables false
set_option linter.unusedSimpArgs false
set_option linter.unusedSectionVars false
set_option maxRecDepth 100000
set_option maxHeartbeats 8000000
namespace Go.AM
end Go.AM
namespace Go.Proofs.YtlncecohbakleaaGreat
open Go Go.AM
attribute [local irreducible] aH wv aC vd wvH
section
variable{H:aA}{nx:Nat}{K:an4}
def rq0(id kind addr many:Int)(wrap:Bool):List D1:=[cI id,cI kind,cI addr,cI many,cB wrap,.osl 0 0 0 0 0,.osl 0 0 0 0 0]
theorem NU{l:List Rng}(hl:l.length<2^40)(h:K (dB (decide (B1 l))) H nx):an3 GJ [dS (l.map c7)] H nx K:=by
 refine aC.pure (args0:=[dS (l.map c7)]) (R:=fun A=>A=dB (decide (B1 l))) ?_ rfl (aE ⟨aD rfl,trivial⟩) (fun r hr=>hr▸h);clear h;refine aM.mk Tryz.func164 (by kernel_rfl) zu rfl fun Q g=> ?_;unfold DB;by_cases m:(l.length:Int)<=4
 ·repeat' first|apply vI<;>(simp only[go_sem])|apply vF (by omega)|fail
  refine aH.cE (β:=Nat) (fun k=>en [(3,dI k),(0,dS (l.map c7))]) (fun k _ _=>k<=l.length/\ ∀i,i<k->vj l i) (fun k=>l.length-k) 0 ⟨noF,_,by repeat' first|exact C1|refine xqI rfl rfl ?_|fail,aF,by omega,fun i hi=>by omega⟩ ?_;rintro k H1 n w ⟨F,hinv⟩ G p;by_cases o:k<l.length
  ·obtain⟨r,hr⟩: ∃r,r=l.getD k default:=⟨_,rfl⟩
   have e:l.getD k default=r:=hr.symm;have a: ¬HD r->¬B1 l:=fun h hm=>h (by rw[hr];exact(hm.2 k o).1);repeat' first| (first|apply vI|refine Y6 (fun h=> ?_) fun h=> ?_|apply bF)<;>(simp only[go_sem,e,nL])|apply vT (by omega)|refine iB (fun h=> ?_) fun h=> ?_|refine⟨by omega,?_⟩|fail
   ·exact aJ g (dB false) rfl rfl (j9 (a fun hm=>by unfold HD at hm;omega))
   ·exact aJ g (dB false) rfl rfl (j9 (a fun hm=>by unfold HD at hm;omega))
   ·exact aJ g (dB false) rfl rfl (j9 (a fun hm=>by unfold HD at hm;omega))
   have q:HD r:=(by unfold HD;omega);refine aH.cE (β:=Nat) (fun j=>en [(5,dI j),(4,.one (.c (.ptr 4 (n+8) 0 0))),(3,dI k),(0,dS (l.map c7))]) (fun j H2 _=>(j<=k/\ ∀i,i<j->Cb (l.getD i default) r=false)/\H2 (n+8)=some ⟨4,1,[c7 r]⟩) (fun j=>k-j) 0 ⟨noF,_,by repeat' first|exact C1|refine xqI rfl rfl ?_|refine xqP (by omega) rfl rfl ?_|fail,aF,⟨by omega,fun i hi=>by omega⟩,by simp only[aA.set,if_true]⟩ ?_;rintro j H2 B y ⟨⟨I,b⟩,z⟩ J s;by_cases C:j<k
   ·obtain⟨t,u⟩: ∃t,t=l.getD j default:=⟨_,rfl⟩
    have d:l.getD j default=t:=u.symm;repeat' first| (first|apply vI|refine Y6 (fun h=> ?_) fun h=> ?_)<;>(simp only[go_sem,d,z];try simp (disch:=omega) only[Iw])|apply vT (by omega)|refine iB (fun h=> ?_) fun h=> ?_|refine⟨by omega,?_⟩|fail
    ·refine aJ g (dB false) rfl rfl (j9 fun hm=> ?_);have D:=(hm.2 k o).2;refine D (eA.2 ⟨l.getD j default,akX.2 ⟨j,by simp;omega,by simp[List.getD,show j<l.length by omega]⟩,decide_eq_true ?_⟩);rw[d,e];omega
    all_goals exact s _ _ _ (j+1) noF _ (by omega) (by omega) (by repeat' first|exact C1|refine xqI rfl rfl ?_|refine xqP (by omega) rfl rfl ?_|fail) aF ⟨⟨by omega,bT b (by rw[d];exact decide_eq_false (by omega))⟩,z⟩
   ·repeat' first|apply vI<;>(simp only[go_sem];try simp (disch:=omega) only[Iw])|apply vF (by omega)|fail
    refine p _ _ _ (k+1) noF _ (by omega) (by omega) (by repeat' first|exact C1|refine xqI rfl rfl ?_|fail) aF ⟨by omega,bT hinv ⟨by rw[e];exact q,fun hc=> ?_⟩⟩;obtain⟨x,E,f⟩:=eA.1 hc;obtain⟨i,hi,rfl⟩:=akX.1 E;have hi':i<k:=(by simp at hi;omega);have:=b i (by omega);simp only[List.getD,show i<l.length by omega,akD,Option.getD_some] at this;rw[e] at f;simp only[amQ] at f;rw[this] at f;cases f
  ·repeat' first|apply vI<;>(simp only[go_sem])|apply vF (by omega)|fail
   have v:k=l.length:=(by omega);subst v;exact aJ g (dB true) rfl rfl (uE ⟨m,hinv⟩)
 ·repeat' first|apply vI<;>(simp only[go_sem])|apply vT (by omega)|fail
  exact aJ g (dB false) rfl rfl (j9 fun h=>m h.1)
theorem tJ{l:List Int}{lo:Int}{up:Int}(hl:l.length<2^40)(h:K (dB (decide (All l lo up))) H nx):an3 pD [dS (l.map aG),dI lo,dI up] H nx K:=by
 refine aC.pure (args0:=[dS (l.map aG),dI lo,dI up]) (R:=fun d=>d=dB (decide (All l lo up))) ?_ rfl (aE ⟨aD rfl,aD rfl,aD rfl,trivial⟩) (fun r hr=>hr▸h);clear h;refine aM.mk Tryz.func114 (by kernel_rfl) yq rfl fun Q c=> ?_;unfold CD;repeat' first|apply vI<;>(simp only[go_sem])|fail
 (refine aH.loop (α:={k:Nat//k<=l.length/\(∀i,i<k->lo<=l.getD i default/\l.getD i default<=up)}) (fun u=>en [(7,dI u.1),(2,dI up),(1,dI lo),(0,dS (l.map aG))]) (fun _=>.nil) _ (fun u=>l.length-u.1) ⟨0,by omega,(by intros;first|trivial|omega)⟩ (aS (akA _) (by repeat' first|exact C1|refine xqI rfl rfl ?_|fail)) ?_);(rintro⟨k,f,hinv⟩ g a);by_cases b:k<l.length
 ·repeat' first| (first|apply vI|apply bF)<;>(simp only[go_sem];try simp (disch:=omega) only[Iw])|apply vT (by omega)|refine iB (fun h=> ?_) fun h=> ?_|refine⟨by omega,?_⟩|fail
  ·exact aJ c (dB false) rfl rfl (j9 fun e=>by have:=wg e b;omega)
  · (refine a _ _ _ ⟨k+1,by omega,bT hinv (by omega)⟩ (by omega) (by(try dsimp only);omega) (aS (akA _) (by repeat' first|exact C1|refine xqI rfl rfl ?_|fail)))
 ·repeat' first|apply vI<;>(simp only[go_sem])|apply vF (by omega)|fail
  exact aJ c (dB true) rfl rfl (uE (lh fun i hi=>hinv i (by omega)))
theorem Z4{q:Req}(b:q.data.length<2^40)(hl:q.lanes.length<2^40)(h:K (dB (decide (fZ q))) H nx):an3 GO [dA (dK q)] H nx K:=by
 refine aC.pure (args0:=[dA (dK q)]) (R:=fun c=>c=dB (decide (fZ q))) ?_ rfl (aE ⟨aD rfl,trivial⟩) (fun r hr=>hr▸h);clear h;refine aM.mk Tryz.func247 (by kernel_rfl) Ax rfl fun Q a=> ?_;unfold B8;repeat' first| (first|apply vI|refine Y6 (fun h=> ?_) fun h=> ?_|apply bF|apply O1|apply an|apply tJ (l:=q.data) b|apply tJ (l:=q.lanes) hl)<;>(simp only[go_sem])|refine iB (fun h=> ?_) fun h=> ?_| ((refine L0 (fun h=> ?_) (fun h=> ?_))<;>try subst h)|fail
 all_goals first|with_reducible refine aJ a _ rfl rfl ?_|skip
 all_goals
  have d:wrM q=true↔(q.kind=2\/q.kind=4):=by simp[wrM]
  have e:All ([]:List Int) 0 65535:=by simp[All]
  have f:All ([]:List Int) 0 3:=by simp[All]
  have g:q.data.length=0->q.data=[]:=alZ.1
  have i:q.lanes.length=0->q.lanes=[]:=alZ.1
  clear a
  first|exact j9 (by unfold fZ HH;grind)|exact uE (by unfold fZ HH;grind)|exact rL (by unfold fZ HH;grind)
theorem oX{r:Rsp}(hr:r.data.length<2^40)(h:K (dB (decide (jZ r))) H nx):an3 rV [dA (nS r)] H nx K:=by
 refine aC.pure (args0:=[dA (nS r)]) (R:=fun a=>a=dB (decide (jZ r))) ?_ rfl (aE ⟨aD rfl,trivial⟩) (fun r hr=>hr▸h);clear h;refine aM.mk Tryz.func213 (by kernel_rfl) Aq rfl fun Q b=> ?_;unfold B4;repeat' first| (first|apply vI|refine Y6 (fun h=> ?_) fun h=> ?_|apply bF|apply tJ (l:=r.data) hr)<;>(simp only[go_sem])|fail
 all_goals first|with_reducible refine aJ b _ rfl rfl ?_|skip
 all_goals first|exact j9 (by unfold jZ;grind)|exact rL (by unfold jZ;grind)|exact uE (by unfold jZ;grind)
theorem Bd{p:Prog}(hp:p.length<2^40)(d: ∀q∈p,q.data.length<2^40/\q.lanes.length<2^40)(h:K (dB (decide (∀q∈p,fZ q))) H nx):an3 KT [dS (p.map dK)] H nx K:=by
 refine aC.pure (args0:=[dS (p.map dK)]) (R:=fun e=>e=dB (decide (∀q∈p,fZ q))) ?_ rfl (aE ⟨aD rfl,trivial⟩) (fun r hr=>hr▸h);clear h;refine aM.mk Tryz.func165 (by kernel_rfl) uu rfl fun Q c=> ?_;unfold yA;repeat' first|apply vI<;>(simp only[go_sem])|fail
 (refine aH.loop (α:={k:Nat//k<=p.length/\(∀i,i<k->fZ (p.getD i default))}) (fun u=>en [(3,dI u.1),(0,dS (p.map dK))]) (fun _=>.nil) _ (fun u=>p.length-u.1) ⟨0,by omega,(by intros;first|trivial|omega)⟩ (aS (akA _) (by repeat' first|exact C1|refine xqI rfl rfl ?_|fail)) ?_);(rintro⟨k,g,hinv⟩ j b);by_cases a:k<p.length
 ·have hm:=d _ (bL a);repeat' first| (first|apply vI|apply Z4 hm.1 hm.2)<;>(simp only[go_sem];try simp (disch:=omega) only[Iw])|apply vT (by omega)|refine iB (fun h=> ?_) fun h=> ?_|refine⟨by omega,?_⟩|fail
  ·exact aJ c (dB false) rfl rfl (j9 fun f=>by have:=f _ (bL a);simp_all)
  · (refine b _ _ _ ⟨k+1,by omega,bT hinv (by simp_all)⟩ (by omega) (by(try dsimp only);omega) (aS (akA _) (by repeat' first|exact C1|refine xqI rfl rfl ?_|fail)))
 ·repeat' first|apply vI<;>(simp only[go_sem])|apply vF (by omega)|fail
  exact aJ c (dB true) rfl rfl (uE (iE fun i hi=>hinv i (by omega)))
theorem mA{c:Cfg}(hc:OJ c)(h:K (dB (decide (bI c))) H nx):an3 F9 [dA (cD c)] H nx K:=by
 refine aC.pure (args0:=[dA (cD c)]) (R:=fun o=>o=dB (decide (bI c))) ?_ rfl (aE ⟨aD rfl,trivial⟩) (fun r hr=>hr▸h);clear h;refine aM.mk Tryz.func73 (by kernel_rfl) Bu rfl fun Q b=> ?_;unfold DD;have a:bI c↔B1 c.map/\(c.lat.length:Int)=4/\All c.lat 0 3/\(c.b7.length:Int)=3/\ ∀p∈c.b7,(p.length:Int)<=12/\ ∀q∈p,fZ q:=by unfold bI vA;simp only[eA,not_exists,not_and,decide_eq_true_eq,Classical.not_imp,Classical.not_not]
 by_cases d:B1 c.map/\(c.lat.length:Int)=4/\All c.lat 0 3/\(c.b7.length:Int)=3
 ·obtain⟨m,s,n,t⟩:=d;repeat' first| (first|apply vI|apply Y5 (by omega)|apply NU hc.map|apply tJ (l:=c.lat) hc.lat)<;>(simp only[go_sem,eq_true m,eq_true n])|apply vF (by omega)|fail
  (refine aH.loop (α:={k:Nat//k<=3/\(∀i,i<k->((c.b7.getD i default).length:Int)<=12/\ ∀q∈c.b7.getD i default,fZ q)}) (fun u=>en [(3,dI u.1),(1,.one (.c (.eT (cD c))))]) (fun _=>.nil) _ (fun u=>3-u.1) ⟨0,by omega,(by intros;first|trivial|omega)⟩ (aS (akA _) (by repeat' first|exact C1|refine xqI rfl rfl ?_| (with_reducible apply C2)| ((with_reducible apply D0);exact CI rfl (by simp) rfl rfl rfl)|fail)) ?_);(rintro⟨k,w,hinv⟩ x e);by_cases v:k<3
  ·have hm:c.b7.getD k default∈c.b7:=bL (by omega);have f:=hc.prog _ hm;have g:=hc.req _ hm;repeat' first| (first|apply vI|refine Y6 (fun h=> ?_) fun h=> ?_|apply Bd f g)<;>(simp only[go_sem];try simp (disch:=omega) only[Iw])|apply vT (by omega)|refine iB (fun h=> ?_) fun h=> ?_|refine⟨by omega,?_⟩|fail
   ·exact aJ b (dB false) rfl rfl (j9 fun hB=>by have:=((a.1 hB).2.2.2.2 _ hm).1;omega)
   ·exact aJ b (dB false) rfl rfl (j9 fun hB=>by have:=((a.1 hB).2.2.2.2 _ hm).2;simp_all)
   · (refine e _ _ _ ⟨k+1,by omega,bT hinv ⟨by omega,by simp_all⟩⟩ (by omega) (by(try dsimp only);omega) (aS (akA _) (by repeat' first|exact C1|refine xqI rfl rfl ?_|fail)))
  ·repeat' first|apply vI<;>(simp only[go_sem])|apply vF (by omega)|fail
   exact aJ b (dB true) rfl rfl (uE (a.2 ⟨m,s,n,t,iE fun i hi=>hinv i (by omega)⟩))
 ·have j: ¬bI c:=fun hB=>d ⟨(a.1 hB).1,(a.1 hB).2.1,(a.1 hB).2.2.1,(a.1 hB).2.2.2.1⟩;repeat' first| (first|apply vI|refine Y6 (fun h=> ?_) fun h=> ?_|apply NU hc.map|apply tJ (l:=c.lat) hc.lat)<;>(simp only[go_sem])|refine iB (fun h=> ?_) fun h=> ?_|fail
  all_goals first|exact aJ b (dB false) rfl rfl (j9 j)|exact absurd ⟨by simp_all,by omega,by simp_all,by omega⟩ d
theorem Fp{l:List Int}(hl:l.length<2^40)(h:K (dB (decide ((l.length:Int)=64/\All l 0 65535))) H nx):an3 OD [dA [.isl (l.map aG)]] H nx K:=by
 refine aC.pure (args0:=[dA [.isl (l.map aG)]]) (R:=fun f=>f=dB (decide ((l.length:Int)=64/\All l 0 65535))) ?_ rfl (aE ⟨aD rfl,trivial⟩) (fun r hr=>hr▸h);clear h;refine aM.mk Tryz.func211 (by kernel_rfl) Ap rfl fun Q a=> ?_;unfold CT;repeat' first|apply vI<;>(simp only[go_sem])|refine iB (fun h=> ?_) fun h=> ?_|fail
 ·exact aJ a (dB false) rfl rfl (j9 fun e=>by omega)
 (refine aH.loop (α:={k:Nat//k<=l.length/\(∀i,i<k->0<=l.getD i default/\l.getD i default<=65535)}) (fun u=>en [(3,dI u.1),(1,.one (.c (.eT [.isl (l.map aG)])))]) (fun _=>.nil) _ (fun u=>l.length-u.1) ⟨0,by omega,(by intros;first|trivial|omega)⟩ (aS (akA _) (by repeat' first|exact C1|refine xqI rfl rfl ?_| (with_reducible apply C2)| ((with_reducible apply D0);exact CI rfl (by simp) rfl rfl rfl)|fail)) ?_);(rintro⟨k,g,hinv⟩ j b);by_cases d:k<l.length
 ·repeat' first| (first|apply vI|apply bF)<;>(simp only[go_sem];try simp (disch:=omega) only[Iw])|apply vT (by omega)|refine iB (fun h=> ?_) fun h=> ?_|refine⟨by omega,?_⟩|fail
  ·exact aJ a (dB false) rfl rfl (j9 fun e=>by have:=wg e.2 d;omega)
  · (refine b _ _ _ ⟨k+1,by omega,bT hinv (by omega)⟩ (by omega) (by(try dsimp only);omega) (aS (akA _) (by repeat' first|exact C1|refine xqI rfl rfl ?_|fail)))
 ·repeat' first|apply vI<;>(simp only[go_sem])|apply vF (by omega)|fail
  exact aJ a (dB true) rfl rfl (uE ⟨by omega,lh fun i hi=>hinv i (by omega)⟩)
theorem rW{w:List Int}{u:List Int}(hw:w.length<2^40)(hu:u.length<2^40)(h:K (dB (decide (rH w u))) H nx):an3 GS [dA [.isl (w.map aG),.isl (u.map aG)]] H nx K:=by
 refine aC.pure (args0:=[dA [.isl (w.map aG),.isl (u.map aG)]]) (R:=fun a=>a=dB (decide (rH w u))) ?_ rfl (aE ⟨aD rfl,trivial⟩) (fun r hr=>hr▸h);clear h;refine aM.mk Tryz.func126 (by kernel_rfl) Bq rfl fun Q b=> ?_;unfold B9;repeat' first| (first|apply vI|refine Y6 (fun h=> ?_) fun h=> ?_|apply Fp hw|apply tJ (l:=u) hu)<;>(simp only[go_sem])|fail
 all_goals first|with_reducible refine aJ b _ rfl rfl ?_|skip
 all_goals first|exact j9 (by unfold rH;grind)|exact rL (by unfold rH;grind)
theorem Kp{q:Req}(h:fZ q):q.data.length<2^40/\q.lanes.length<2^40:=by
 obtain⟨_,_,c,a,b,_,_,_⟩:=h;have d:=G4 (addr:=q.addr) (many:=q.many) (wrap:=q.wrap);have e:=BJ c;have hm:q.many<=4:=by omega
 unfold HH at a b;constructor;·split at a<;>omega
 ·split at b<;>omega
theorem nO{m:List Rng}{q:Req}(hm:B1 m)(a:fZ q)(hl:m.length<2^21)(h:K (dI (iR m q)) H nx):an3 vE [dS (m.map c7),dA (dK q)] H nx K:=by
 refine aC.pure (args0:=[dS (m.map c7),dA (dK q)]) (R:=fun d=>d=dI (iR m q)) ?_ rfl (aE ⟨aD rfl,aD rfl,trivial⟩) (fun r hr=>hr▸h);clear h;refine aM.mk Tryz.func167 (by kernel_rfl) jm rfl fun Q e=> ?_;unfold tF;have f:eD m (bN q.addr q.many q.wrap)<m.length:=by have g:=ZY (p:=(inR · ((bN q.addr q.many q.wrap).getD 0 default))) (l:=m);unfold eD;grind
 have c:=Kp a;have b:(bN q.addr q.many q.wrap).length<2^40:=by have:=G4 (addr:=q.addr) (many:=q.many) (wrap:=q.wrap);omega
 have d1:=decide_eq_true hm;have d2:=decide_eq_true a;repeat' first| (first|apply vI|apply NU (by omega)|apply Z4 c.1 c.2|apply PH|apply QL (by omega) b)<;>(simp only[go_sem,d1,d2,eq_true hm,eq_true a])|refine iB (fun h=> ?_) fun h=> ?_|refine⟨by omega,?_⟩|fail
 all_goals first|with_reducible refine aJ e _ rfl rfl ?_|skip
 ·unfold iR;exact(congrArg dI (if_pos h)).symm
 ·unfold iR;exact(congrArg dI (if_neg h)).symm
theorem V4{c:Cfg}{s:CSt}{who:Nat}{st:Nat}(J:bI c)(hs:COk c s)(hw:who<3)(ad:st<4){d1:D}(M:CvD H (fun _=>True) id 0 (dA (dY s)) d1)(h:K (dB (decide (SF c s who st))) H nx):an3 KQ [dA (cD c),d1,dI who,dI st] H nx K:=by
 refine aC.pure (args0:=[dA (cD c),dA (dY s),dI who,dI st]) (R:=fun rr=>rr=dB (decide (SF c s who st))) ?_ rfl (aE ⟨aD rfl,M,aD rfl,aD rfl,trivial⟩) (fun r hr=>hr▸h);clear h;refine aM.mk Tryz.func210 (by kernel_rfl) yg rfl fun Q w=> ?_;unfold yI;obtain⟨g,N⟩:=eN J;have x:=N who;have y:B1 c.map:=J.1;have ao:=J.1.1;have b:=hs.pl;have a:=hs.port who hw;obtain⟨p,hp⟩: ∃p,s.bE.getD who default=p:=⟨_,rfl⟩
 have z:aL s who=p:=hp;obtain⟨u,d⟩: ∃u,p.queue.getD 0 default=u:=⟨_,rfl⟩
 have v:SF c s who st↔(0<p.queue.length/\p.out.length<4/\iR c.map (bO c who u)=st/\ ∀j∈p.out,(bO c who j.n).id=(bO c who u).id->j.left=st):=by unfold SF;rw[z,d]
 rw[z] at a;obtain⟨az,O⟩:=a.next;obtain⟨br,l⟩:=a.ql;have m:=a.queue 0;rw[d] at m;have ca:=a.ol;obtain⟨P,A⟩: ∃P,c.b7.getD who default=P:=⟨_,rfl⟩
 rw[A] at x O;have B: ∀n:Int,bO c who n=P.getD n.toNat default:=fun n=>by unfold bO;rw[Int.toNat_natCast,A]
 by_cases h0:p.queue.length=0
 ·have C:((p.queue.length:Int)=0)=True:=eq_true (by omega);repeat' first|apply vI<;>(simp only[go_sem,b,hp,C])|refine⟨by omega,?_⟩|fail
  exact aJ w _ rfl rfl (j9 (by rw[v];omega))
 have C:((p.queue.length:Int)=0)=False:=eq_false (by omega);by_cases h4:p.out.length=4
 ·have L:((p.out.length:Int)=4)=True:=eq_true (by omega);repeat' first|apply vI<;>(simp only[go_sem,b,hp,C,L])|refine⟨by omega,?_⟩|fail
  exact aJ w _ rfl rfl (j9 (by rw[v];omega))
 have L:((p.out.length:Int)=4)=False:=eq_false (by omega);have m:=m (by omega);obtain⟨q,S⟩: ∃q,P.getD u.toNat default=q:=⟨_,rfl⟩
 have E:bO c who u=q:=by rw[B];exact S
 have F:fZ q:=E▸MQ J (a.asks hw (by omega) (by omega));rw[E] at v;by_cases t:iR c.map q=st
 ·have T:(iR c.map q=(st:Int))=True:=eq_true t;repeat' first| (first|apply vI|apply nO y F (by omega))<;>(simp only[go_sem,b,g,hp,A,d,S,C,L,T])|refine⟨by omega,?_⟩|fail
  refine aH.cE (β:=Nat) (fun k=>en [(11,dI k),(10,.one (.c (.ptr 7 31 0 0))),(9,.one (.c (.ptr 4 8 0 0))),(4,.one (.c (.ptr 3 0 0 0))),(3,dI st),(2,dI who)]) (fun k H1 _=>H1 0=some ⟨3,1,[cD c]⟩/\H1 8=some ⟨4,1,[bV p]⟩/\H1 31=some ⟨7,1,[dK q]⟩/\k<=p.out.length/\ ∀i,i<k->(bO c who (p.out.getD i default).n).id=q.id->(p.out.getD i default).left=st) (fun k=>p.out.length-k) 0 ⟨noF,_,by repeat' first|exact C1|refine xqI rfl rfl ?_|refine xqP (by omega) rfl rfl ?_|fail,aF,rfl,rfl,rfl,by omega,fun i hi=>by omega⟩ ?_;rintro k H1 cc aa ⟨U,V,W,hk,hinv⟩ KL X;by_cases Y:k<p.out.length
  ·obtain⟨o,Z⟩: ∃o,p.out.getD k default=o:=⟨_,rfl⟩
   have G:o∈p.out:=(by rw[<-Z];exact bL Y);obtain⟨_,cd,_⟩:=a.out o G;obtain⟨q2,l⟩: ∃q2,P.getD o.n.toNat default=q2:=⟨_,rfl⟩
   have f:bO c who o.n=q2:=(by rw[B];exact l);repeat' first| (first|apply vI|refine Y6 (fun h=> ?_) fun h=> ?_)<;>(simp only[go_sem,U,V,W,b,g,hp,A,d,Z,l];try simp (disch:=omega) only[Iw])|apply vT (by omega)|refine iB (fun h=> ?_) fun h=> ?_|refine⟨by omega,?_⟩|fail
   all_goals first
    | (refine aJ w _ rfl rfl (j9 ?_)
       rw[v]
       rintro⟨_,_,_,I⟩
       have:=I o G (by rw[f];omega)
       omega)
    |exact X _ _ _ (k+1) noF _ (by omega) (by omega) (by repeat' first|exact C1|refine xqI rfl rfl ?_|refine xqP (by omega) rfl rfl ?_|fail) aF ⟨U,V,W,by omega,fun i hi e=>by
     by_cases ab:i<k
     ·exact hinv i ab e
     ·have:i=k:=(by omega);subst this;rw[Z] at e ⊢;rw[f] at e;omega⟩
  ·repeat' first|apply vI<;>(simp only[go_sem,U,V,W])|apply vF (by omega)|fail
   refine aJ w _ rfl rfl (uE ?_);rw[v];refine⟨by omega,by omega,t,fun j hj e=> ?_⟩;obtain⟨i,hi,rfl⟩:=akX.1 hj;have:=hinv i (by omega);rw[amB,akD hi,Option.getD_some] at this;exact this e
 ·have T:(iR c.map q=(st:Int))=False:=eq_false t;repeat' first| (first|apply vI|apply nO y F (by omega))<;>(simp only[go_sem,b,g,hp,A,d,S,C,L,T])|refine⟨by omega,?_⟩|fail
  exact aJ w _ rfl rfl (j9 (by rw[v];omega))
end
end Go.Proofs.YtlncecohbakleaaGreat
