/- Texts laid together by a program: rules, contracts and the walk that leads to the law. -/
import Derived.Test.YtlncecohbakleaaGreatPB8
import Derived.Test.YtlncecohbakleaaGreatPB7
set_option linter.unusedVariables false
set_option linter.unusedSimpArgs false
set_option linter.unusedSectionVars false
set_option maxRecDepth 100000
set_option maxHeartbeats 8000000
namespace Go.AM
theorem qW.cells{X:Nat->Prop}{H:aA}{nx i0 i1:Nat}{nm:Nat->Nat}{s:CSt}{es:List Ev}(h:qW X H nx i0 i1 nm s es){r r':List D1}{k:Nat}(j:k<4)(p:H i1=some ⟨5,1,[r]⟩)(hr:r'=r.set (1+k) (cI 1)):qW X (H.set i1 ⟨5,1,[r']⟩) nx i0 i1 nm s es:=by
 subst hr;have g:=h.rep.names.av;have i:=h.rep.i0;refine⟨h.rep.frame (akA _) (aA.aB fun he=>i.2 (.inr he)) (fun k j=>aA.aB fun he=>g k j (.inr he)) fun id f=>⟨h.rep.x id f,fun he=>i.2 (he▸f),fun k j he=>g k j (he▸f)⟩,?_⟩;obtain⟨⟨d,a,b,c,e,n,m⟩,q,t⟩:=h.hap;rw[p] at n;obtain rfl:r=[d,cI a,cI b,cI c,cI e]:=by simpa using n
 have l:ae3 (fun id=>X id\/id=i0\/ ∃k,k<19/\id=nm k) (H.set i1 ⟨5,1,[[d,cI a,cI b,cI c,cI e].set (1+k) (cI 1)]⟩) nx i1 es d:=by
  rcases m with m|⟨ev,cap,u,v,w,y,o⟩
  ·exact .inl m
  ·exact .inr ⟨ev,cap,u,v.frame (aA.aB o),w,y,o⟩
 refine⟨?_,q,t⟩;obtain rfl|rfl|rfl|rfl:k=0\/k=1\/k=2\/k=3:=by omega
 ·exact⟨d,1,b,c,e,aA.aI,l⟩
 ·exact⟨d,a,1,c,e,aA.aI,l⟩
 ·exact⟨d,a,b,1,e,aA.aI,l⟩
 ·exact⟨d,a,b,c,1,aA.aI,l⟩
theorem qW.ajM{X:Nat->Prop}{H:aA}{nx i0 i1:Nat}{nm:Nat->Nat}{s:CSt}{es:List Ev}{j:Nat}{o:bQ}(h:qW X H nx i0 i1 nm s es)(b:X j):qW X (H.set j o) nx i0 i1 nm s es:=h.next (akA _) (fun id _ c=>aA.aB fun he=>c (he▸b)) fun id a=>⟨h.rep.x id (.inl a),.inl a⟩
end Go.AM
namespace Go.Proofs.YtlncecohbakleaaGreat
open Go Go.AM
attribute [local irreducible] aH wv aC vd wvH
section
variable{H:aA}{nx:Nat}{K:an4}
theorem UA{Y:Nat->Prop}{i1:Nat}{es:List Ev}{kind who n:Int}(v:Rk Y H nx i1 es)(hl:es.length<1000)
 (h: ∀H' nx',nx<=nx'->Rk Y H' nx' i1 (es++[⟨kind,who,n⟩])->(∀id,Y id->H' id=H id)->K (.tup []) H' nx'):an3 fO [.one (.c (.ptr 5 i1 0 0)),dI kind,dI who,dI n] H nx K:=by
 obtain⟨⟨d,a,b,c,e,q,w⟩,⟨F,i⟩,g⟩:=v
 have r: ∀k,(i1=nx+k)=False:=fun k=>eq_false (by omega)
 have j: ∀k,(nx+k=i1)=False:=fun k=>eq_false (by omega)
 refine bA.mk Tryz.func267 (by kernel_rfl) QG rfl fun Q s=> ?_
 unfold mJ
 rcases w with⟨rfl,rfl⟩|⟨ev,cap,rfl,⟨m,rows,x,t,G,I,J,L⟩,M,y,u⟩
 ·repeat' first|apply vI<;>(simp only[go_sem,q,r,j])| (with_reducible first|refine fun(cap:Nat) (f:_<=cap)=> ?_|refine fun(l:_<=cap)=> ?_)|fail
  refine s _ _ _ _ _ (.inl rfl) rfl (h _ _ (by omega) ⟨⟨_,a,b,c,e,by simp only[aA.set,if_true];rfl,.inr ⟨nx+10,cap,rfl,⟨_,_,by simp only[aA.set,j,if_false,if_true];rfl,rfl,by simp,by simp,by simpa using f,by simp⟩,by omega,fun o=>by have:=g _ o;omega,by omega⟩⟩,⟨by omega,i⟩,fun id hi=>by have:=g id hi;omega⟩ fun id hi=> ?_);have z:=g id hi;have p:id≠i1:=fun he=>i (he▸hi);simp only[aA.set,p,show ¬id=nx+9 by omega,show ¬id=nx+10 by omega,if_false]
 ·have A: ∀k,(ev=nx+k)=False:=fun k=>eq_false (by omega);have B: ∀k,(nx+k=ev)=False:=fun k=>eq_false (by omega);have C:=eq_false u;have D:=eq_false (Ne.symm u);rw[alK] at t;subst t;repeat' first|apply vI<;>(simp only[go_sem,q,r,j,A,B,C,D,x])| (with_reducible first|refine fun(cap:Nat) (f:_<=cap)=> ?_|refine fun(l:_<=cap)=> ?_)|refine⟨by omega,?_⟩|fail
  refine s _ _ _ _ _ (.inl rfl) rfl (h _ _ (by omega) ⟨⟨_,a,b,c,e,by simp only[aA.set,if_true];rfl,.inr ⟨nx+10,cap,by simp,⟨_,_,by simp only[aA.set,j,if_false,if_true];rfl,by simp[eEv],by simp,by simp,by simpa using f,by simp⟩,by omega,fun o=>by have:=g _ o;omega,by omega⟩⟩,⟨by omega,i⟩,fun id hi=>by have:=g id hi;omega⟩ fun id hi=> ?_);have z:=g id hi;have p:id≠i1:=fun he=>i (he▸hi);have E:id≠ev:=fun he=>y (he▸hi);simp only[aA.set,aA.del,p,E,show ¬id=nx+9 by omega,show ¬id=nx+10 by omega,if_false]
theorem agV{X:Nat->Prop}{i0 i1:Nat}{nm:Nat->Nat}{s:CSt}{es:List Ev}{kind who n:Int}(hB:qW X H nx i0 i1 nm s es)(hl:es.length<1000)
 (h: ∀H' nx',nx<=nx'->qW X H' nx' i0 i1 nm s (es++[⟨kind,who,n⟩])->(∀id,X id->H' id=H id)->K (.tup []) H' nx'):an3 fO [.one (.c (.ptr 5 i1 0 0)),dI kind,dI who,dI n] H nx K:=by
 refine UA hB.hap hl fun H' nx' e hc b=>h H' nx' e ⟨hB.rep.frame e (b _ (.inr (.inl rfl))) (fun k d=>b _ (.inr (.inr ⟨k,d,rfl⟩))) fun id a=>⟨?_,fun he=>hB.rep.i0.2 (he▸a),fun k d he=>hB.rep.names.av k d (he▸a)⟩,hc⟩ fun id a=>b id (.inl a)
 have:=hB.rep.x id a;omega
theorem Mb{X:Nat->Prop}{H0:aA}{i0 i1:Nat}{nm:Nat->Nat}{s:CSt}{es:List Ev}{kind who n:Int}(hB:qW X H nx i0 i1 nm s es/\ ∀id,X id->H id=H0 id)(hl:es.length<1000)
 (h: ∀H' nx',nx<=nx'->qW X H' nx' i0 i1 nm s (es++[⟨kind,who,n⟩])->(∀id,X id->H' id=H0 id)->K (.tup []) H' nx'):an3 fO [.one (.c (.ptr 5 i1 0 0)),dI kind,dI who,dI n] H nx K:=
 agV hB.1 hl fun H' nx' b d e=>h H' nx' b d fun id a=>(e id a).trans (hB.2 id a)
theorem xK(l:List eZ)(f:FuncId)(caps:List D1)(p:eZ->Bool)(hl:l.length<2^40)(hc:caps.all D1.fV=true)(j: ∀x∈l,∀(H:aA) (nx:Nat) (K:an4),K (dB (p x)) H nx->an3 f (dA (eCJ x)::caps.map fun d=>.one (.c d)) H nx K):
 an3 cQ [dS (l.map eCJ),.one (.c (.clo f caps))] .nil 0 fun r _ _=>r.plain=true/\r=dI (bR p l):=by
 refine aM.mk Tryz.func319 (by kernel_rfl) wS rfl fun Q g=> ?_
 unfold eH
 repeat' first|apply vI<;>(simp only[go_sem])|fail
 (refine aH.loop (α:={k:Nat//k<=l.length/\(∀i,i<k->p (l.getD i default)=false)}) (fun u=>en [(8,dI u.1),(7,dI l.length),(1,.one (.c (.clo f caps))),(0,dS (l.map eCJ))]) (fun _=>.nil) _ (fun u=>l.length-u.1) ⟨0,by omega,(by intros;first|trivial|omega)⟩ (aS (akA _) (by repeat' first|exact C1|refine xqI rfl rfl ?_| (with_reducible apply C2)| ((with_reducible apply C0);exact CH (by assumption))| ((with_reducible apply D0);apply CJ)|fail)) ?_);(rintro⟨k,m,hinv⟩ n b)
 by_cases e:k<l.length
 ·have a:l.getD k default∈l:=by simp[List.getD,e]
  repeat' first| (first|apply vI|apply j _ a _ _ _)<;>(simp only[go_sem];try simp (disch:=omega) only[Iw])|apply vT (by omega)| ((refine L0 (fun h=> ?_) (fun h=> ?_))<;>try subst h)|refine⟨by omega,?_⟩|fail
  ·refine aJ g _ rfl rfl (jC (ak3 (F8 (by omega) (by assumption) hinv)))
  · (refine b _ _ _ ⟨k+1,by omega,bT hinv (by assumption)⟩ (by omega) (by(try dsimp only);omega) (aS (akA _) (by repeat' first|exact C1|refine xqI rfl rfl ?_| (with_reducible apply C2)| ((with_reducible apply C0);exact CH (by assumption))| ((with_reducible apply D0);apply CJ)|fail)))
 ·repeat' first|apply vI<;>(simp only[go_sem])|apply vF (by omega)|fail
  ·refine aJ g _ rfl rfl (jC (ak3 (s8 fun i hi=>hinv i (by omega))))
theorem lP{l:List eZ}{f:FuncId}{caps a:List D1}{p:eZ->Bool}{d:D}(hl:l.length<2^40)(hc:caps.all D1.fV=true)(b:CvD H (fun _=>True) id 0 (dS (l.map eCJ)) d)(e:CvD H (fun _=>True) id 0 (.one (.c (.clo f caps))) (.one (.c (.clo f a))))(g: ∀x∈l,∀(H:aA) (nx:Nat) (K:an4),K (dB (p x)) H nx->an3 f (dA (eCJ x)::caps.map fun d=>.one (.c d)) H nx K)
 (h:K (dI (bR p l)) H nx):an3 cQ [d,.one (.c (.clo f a))] H nx K:=
 (xK l f caps p hl hc g).pure rfl (aE ⟨b,e,trivial⟩) fun r hr=>hr▸h
theorem uC(l:List eZ)(f:FuncId)(caps:List D1)(p:eZ->Bool)(hl:l.length<2^40)(hc:caps.all D1.fV=true)(a: ∀x∈l,∀(H:aA) (nx:Nat) (K:an4),K (dB (p x)) H nx->an3 f (dA (eCJ x)::caps.map fun d=>.one (.c d)) H nx K):
 an3 dM [dS (l.map eCJ),.one (.c (.clo f caps))] .nil 0 fun r _ _=>r.plain=true/\r=dB (decide (0<=bR p l)):=by
 refine aM.mk Tryz.func321 (by kernel_rfl) sQ rfl fun Q b=> ?_
 unfold dD
 repeat' first| (first|apply vI|refine lP hl hc (aD rfl) (pO hc) a ?_)<;>(simp only[go_sem])|fail
 all_goals exact aJ b _ rfl rfl rfl
theorem tW{l:List eZ}{f:FuncId}{caps a:List D1}{p:eZ->Bool}{d:D}(hl:l.length<2^40)(hc:caps.all D1.fV=true)(b:CvD H (fun _=>True) id 0 (dS (l.map eCJ)) d)(e:CvD H (fun _=>True) id 0 (.one (.c (.clo f caps))) (.one (.c (.clo f a))))(g: ∀x∈l,∀(H:aA) (nx:Nat) (K:an4),K (dB (p x)) H nx->an3 f (dA (eCJ x)::caps.map fun d=>.one (.c d)) H nx K)
 (h:K (dB (decide (0<=bR p l))) H nx):an3 dM [d,.one (.c (.clo f a))] H nx K:=
 (uC l f caps p hl hc g).pure rfl (aE ⟨b,e,trivial⟩) fun r hr=>hr▸h
theorem ve{j:eZ}{n:Int}(h:K (dB (isC n j)) H nx):an3 HN [dA (eCJ j),.one (.c (.eT [cI n]))] H nx K:=by
 refine aC.pure (args0:=[dA (eCJ j),.one (.c (.eT [cI n]))]) (R:=fun a=>a=dB (isC n j)) ?_ rfl (aE ⟨aD rfl,aD rfl,trivial⟩) (fun r hr=>hr▸h);clear h;refine aM.mk Tryz.func320 (by kernel_rfl) nc rfl fun Q b=> ?_;unfold vO;repeat' first|apply vI<;>(simp only[go_sem])|fail
 all_goals first|with_reducible refine aJ b _ rfl rfl ?_|skip
 all_goals first|exact rL (by omega)|exact uE (by omega)|exact j9 (by omega)|rfl
theorem NX{p:cJ}{n:Int}(hl:p.out.length<2^40){b:D}(a:CvD H (fun _=>True) id 0 (dA (bV p)) b)(h:K (dI (bR (isC n) p.out)) H nx):an3 oN [b,dI n] H nx K:=by
 refine aC.pure (args0:=[dA (bV p),dI n]) (R:=fun c=>c=dI (bR (isC n) p.out)) ?_ rfl (aE ⟨a,aD rfl,trivial⟩) (fun r hr=>hr▸h);clear h;refine aM.mk Tryz.func265 (by kernel_rfl) zo rfl fun Q d=> ?_;unfold DK;repeat' first| (first|apply vI|refine lP (l:=p.out) (caps:=[.eT [cI n]]) (p:=isC n) hl rfl (aD rfl) (ri ⟨JU rfl trivial rfl rfl rfl,trivial⟩) (fun x _ H nx K h=>ve h) ?_)<;>(simp only[go_sem])|fail
 all_goals first|with_reducible refine aJ d _ rfl rfl ?_|skip
 all_goals first|rfl|exact jC (by omega)
theorem yQ{m:List Rng}{q:Req}(hl:m.length<2^40)(h:K (dI (iR m q)) H nx):an3 GK [dS (m.map c7),dA (dK q)] H nx K:=by
 refine aC.pure (args0:=[dS (m.map c7),dA (dK q)]) (R:=fun a=>a=dI (iR m q)) ?_ rfl (aE ⟨aD rfl,aD rfl,trivial⟩) (fun r hr=>hr▸h);clear h;refine aM.mk Tryz.func173 (by kernel_rfl) Bg rfl fun Q b=> ?_;unfold DI;have c:eD m (bN q.addr q.many q.wrap)<m.length:=by have d:=ZY (p:=(inR · ((bN q.addr q.many q.wrap).getD 0 default))) (l:=m);unfold eD;grind
 repeat' first| (first|apply vI|apply au hl)<;>(simp only[go_sem])|refine iB (fun h=> ?_) fun h=> ?_|refine⟨by omega,?_⟩|fail
 all_goals first|with_reducible refine aJ b _ rfl rfl ?_|skip
 all_goals first|exact jC (by unfold iR;rw[if_pos (by omega)])|exact jC (by unfold iR;rw[if_neg (by omega)])
theorem PS{c:Cfg}{who:Nat}{st:Nat}{i:Int}{j:eZ}(hp:c.b7.length=3)(a:rI c who j.n)(h:K (dB (decide ((bO c who j.n).id=i/\ ¬j.left=st))) H nx):an3 pW [dA (eCJ j),.one (.c (.eT (cD c))),.one (.c (.eT [cI who])),.one (.c (.eT [cI i])),.one (.c (.eT [cI st]))] H nx K:=by
 refine aC.pure (args0:=[dA (eCJ j),.one (.c (.eT (cD c))),.one (.c (.eT [cI who])),.one (.c (.eT [cI i])),.one (.c (.eT [cI st]))]) (R:=fun b=>b=dB (decide ((bO c who j.n).id=i/\ ¬j.left=st))) ?_ rfl (aE ⟨aD rfl,aD rfl,aD rfl,aD rfl,aD rfl,trivial⟩) (fun r hr=>hr▸h);clear h;refine aM.mk Tryz.func322 (by kernel_rfl) N1 rfl fun Q d=> ?_;unfold kJ;repeat' first| (first|apply vI|refine Y6 (fun h=> ?_) fun h=> ?_|apply gM hp a)<;>(simp only[go_sem])|fail
 all_goals first|with_reducible refine aJ d _ rfl rfl ?_|skip
 all_goals first|exact rL (by omega)|exact uE (by omega)|exact j9 (by omega)|rfl
theorem FO{c:Cfg}{s:CSt}{who:Nat}{st:Nat}(m:bI c)(hs:COk c s)(hw:who<3)(u:st<4){o:D}(g:CvD H (fun _=>True) id 0 (.one (.c (.eT (dY s)))) o)(h:K (dB (decide (SF c s who st))) H nx):an3 t0 [o,dA (cD c),dI who,dI st] H nx K:=by
 refine aC.pure (args0:=[.one (.c (.eT (dY s))),dA (cD c),dI who,dI st]) (R:=fun v=>v=dB (decide (SF c s who st))) ?_ rfl (aE ⟨g,aD rfl,aD rfl,aD rfl,trivial⟩) (fun r hr=>hr▸h);clear h;refine aM.mk Tryz.func268 (by kernel_rfl) R3 rfl fun Q w=> ?_;unfold l9;obtain⟨d,i⟩:=eN m;have q:=i who;have y:=m.1.1;have z:=hs.pl;have a:=hs.port who hw;obtain⟨p,b⟩: ∃p,p=s.bE.getD who default:=⟨_,rfl⟩
 have e:SF c s who st=(0<p.queue.length/\p.out.length<4/\iR c.map (bO c who (p.queue.getD 0 default))=st/\ ∀j∈p.out,(bO c who j.n).id=(bO c who (p.queue.getD 0 default)).id->j.left=st):=by subst b;rfl
 rw[show aL s who=p from b.symm] at a;obtain⟨A,B⟩:=a.next;obtain⟨C,E⟩:=a.ql;have F:=a.queue 0;have G:=a.ol;repeat' first| (first|apply vI|refine Y6 (fun h=> ?_) fun h=> ?_|apply yQ (by omega)|apply gM d (a.asks hw (by omega) (by omega))| (refine tW (l:=p.out) (caps:=[.eT (cD c),.eT [cI who],.eT [cI (bO c who (p.queue.getD 0 default)).id],.eT [cI st]]) (p:=fun j=>decide ((bO c who j.n).id=(bO c who (p.queue.getD 0 default)).id/\ ¬j.left=st)) (by omega) rfl (aD rfl) (ri ⟨JU rfl trivial rfl rfl rfl,JU rfl trivial rfl rfl rfl,JU rfl trivial rfl rfl rfl,JU rfl trivial rfl rfl rfl,trivial⟩) (fun x t H nx K h=>PS d (a.asks hw (a.out x t).2.1.1 (by have:=(a.out x t).2.1.2;omega)) h) ?_))<;>(simp only[go_sem,b.symm])|refine iB (fun h=> ?_) fun h=> ?_|refine⟨by omega,?_⟩|fail
 all_goals first|with_reducible refine aJ w _ rfl rfl ?_|skip
 all_goals have hr:iR c.map (List.getD (c.b7.getD who default) (p.queue.getD 0 default).toNat default)=iR c.map (bO c who (p.queue.getD 0 default)):=rfl
 ·exact j9 (by rw[e];omega)
 ·exact j9 (by rw[e];omega)
 ·exact j9 (by rw[e];omega)
 ·apply rL;rw[e,eA];refine⟨fun h=>⟨by omega,by omega,by omega,fun j k hi=>Classical.byContradiction fun I=>h ⟨j,k,decide_eq_true ⟨hi,I⟩⟩⟩,fun h ⟨j,k,f⟩=> ?_⟩;have f:=of_decide_eq_true f;exact f.2 (h.2.2.2 j k f.1)
end
theorem Dx{τ:Nat->Nat}{n m:Nat}{l:List eZ}:bQ.rn τ ⟨n,m,l.map eCJ⟩=⟨n,m,l.map eCJ⟩:=by refine CS fun r hr x a=> ?_;obtain⟨y,_,rfl⟩:=akJ.1 hr;exact akR.1 (E0 y).2 x a
section
variable{H:aA}{nx:Nat}{K:an4}
theorem Ug{l:List eZ}{a:Nat}{z:List D1}(b:a<l.length):wr ((l.take a).map eCJ++(l.drop (a+1)).map eCJ) (l.length-1) (List.replicate (l.length-(l.length-1)) z)=(K9 l a).map eCJ++[z]:=by
 have c:(l.take a).map eCJ++(l.drop (a+1)).map eCJ=(K9 l a).map eCJ:=by simp[K9]
 have d:((K9 l a).map eCJ).length=l.length-1:=by have:=tr b;simp;omega
 have e:l.length-(l.length-1)=1:=by omega
 rw[c,e,List.replicate_one];unfold wr;have f:List.drop (l.length-1+[z].length) ((K9 l a).map eCJ)=[]:=amP (by simp at d ⊢;omega);rw[f,akM (by omega),alE]
theorem BV(l:List eZ)(a cap m:Nat)(hl:l.length<2^21)(c:a<l.length)(hc:l.length<=cap)(f:cap<=m):
 an3 fH [dO 3 0 l.length cap,dI a,dI (a+1)] (hp [(0,⟨3,m,l.map eCJ⟩)]) 1
 fun r H' g=>∃b d,(K9 l a).length<=b/\b<=d/\g=2/\H'=hp [(1,⟨3,d,(K9 l a).map eCJ⟩)]/\r=dO 3 1 (K9 l a).length b:=by
 refine aM.mk Tryz.func266 (by kernel_rfl) AI rfl fun Q h=> ?_
 unfold fA
 have i:((a:Int)+1).toNat=a+1:=by omega
 have j:a+(l.length-(a+1))=l.length-1:=by omega
 have k:(a+1+(l.length-(a+1))<=l.length)=True:=eq_true (by omega)
 have n:List.take (l.length-(a+1)) (List.drop (a+1) l)=List.drop (a+1) l:=akM (by simp)
 have o:(List.drop (a+1) l).length=l.length-(a+1):=akS
 have p:=tr c
 repeat' first|apply vI<;>(simp only[go_sem,i,j,k,n,o])|apply vF (by omega)| (with_reducible first|refine fun(cap:Nat) (e:_<=cap)=> ?_|refine fun(q:_<=cap)=> ?_)|refine⟨by omega,?_⟩| (refine⟨by(rw[ak1];omega),?_⟩)|fail
 (refine h _ _ _ _ _ 2 (dO 3 1 (K9 l a).length cap) (hp [(1,⟨3,cap,(K9 l a).map eCJ⟩)]) _ _ (.inr rfl) rfl (oE [20,0] (by omega) (by repeat' first|exact C1| ((with_reducible apply C0);exact CQ (by omega) rfl rfl (by first|rfl|omega) rfl)| ((with_reducible apply D0);apply CJ)|fail) ⟨⟨by simp,by simp[sgL],_,rfl,adK (junk:=[[cI 0,cI 0,cI 0]]) (fun r hr=>(aW E0 _ r hr).2) (Ug c) rfl (by decide)⟩,trivial⟩ (by simp[sgL])) ?_)
 exact⟨cap,cap,by omega,akA _,rfl,rfl,rfl⟩
theorem A9{l:List eZ}{z:Int}{cap m i0:Nat}(hl:l.length<2^21)(q: ¬z<0)(f:z.toNat<l.length)(hc:l.length<=cap)(d:cap<=m)(s:i0<nx)(g:H i0=some ⟨3,m,l.map eCJ⟩)
 (h: ∀b c,(K9 l z.toNat).length<=b->b<=c->K (dO 3 nx (K9 l z.toNat).length b) ((H.del i0).set nx ⟨3,c,(K9 l z.toNat).map eCJ⟩) (nx+1)):
 an3 fH [dO 3 i0 l.length cap,dI z,dI (z+1)] H nx K:=by
 obtain⟨a,rfl⟩: ∃a:Nat,z=a:=⟨z.toNat,by omega⟩
 refine(BV l a cap m hl f hc d).YD [i0] rfl ⟨I2 (by simp) rfl rfl rfl rfl,aD rfl,aD rfl,trivial⟩
  ⟨⟨by simp,id,_,g,dX (aW E0 _) rfl rfl⟩,trivial⟩ (by simp) (by simp;omega) (by simp) fun r H' t _ ⟨b,c,i,j,k,n,o⟩=> ?_
 simp only[Int.toNat_natCast] at h
 have h:=h b c i j
 subst k;subst n;subst o
 generalize K9 l a=e at*
 have p:back (tau 1 nx (nth [i0])) (hp [(1,⟨3,c,e.map eCJ⟩)]) 2 H=(H.del i0).set nx ⟨3,c,e.map eCJ⟩:=by simp[back,hp,aA.set,aA.nil,tau,nth,P9,Dx,aA.mF,aA.dp]
 rw[<-p] at h
 exact h
end
theorem kD{H:aA}{e:Env}{t n id m:Nat}{cs:List D1}(he:e t= .one (.c (.ptr n id 0 0)))(a:H id=some ⟨n,m,[cs]⟩)(hl:cs.length=n):AJ H e [.cell t n true]=some (dA cs):=by subst hl;simp[AJ,nz,he,vS,a,mkV]
theorem Eu{nx i:Nat}{H:aA}:CvX (fun j=>j=i) nx H (H.del i):=fun j o' a=>by
 simp only[aA.del] at a;split at a;·cases a
 ·exact⟨by assumption,o',a,.inl rfl⟩
section
variable{H:aA}{nx:Nat}{K:an4}
theorem UC{m:List Rng}{w e:List Int}{who:Int}{q:Req}{c0 c1 m0 m1 i0 i1 g:Nat}{x y z:D1}(eo:m.length<2^21)(hf:mg w e)(ep:w.length<=c0)(et:e.length<=c1)(hw:0<=who/\who<=2)(hq:fZ q)
 (cl:i0<nx/\i1<nx/\g<nx) (hd:[i0,i1,g].Nodup) (P:H i0=some ⟨5,1,[[.osl 1 i1 0 w.length c0,.osl 1 g 0 e.length c1,x,y,z]]⟩) (G:H i1=some ⟨1,m0,w.map aG⟩) (I:H g=some ⟨1,m1,e.map aG⟩)
 (B: ∀H' nx',nx<=nx'->H' i1=some ⟨1,m0,(doM m w e who q).1.1.map aG⟩->H' g=some ⟨1,m1,(doM m w e who q).1.2.map aG⟩->(∀id,id<nx->id≠i1->id≠g->H' id=H id)->K (dA (nS (doM m w e who q).2)) H' nx'):
 an3 wZ [.one (.c (.ptr 5 i0 0 0)),dS (m.map c7),dI who,dA (dK q)] H nx K:=by
 obtain⟨eu,cp,ew,ff⟩:=hf
 obtain⟨fh,fm,aa,ab,ad,ao,cq,fo⟩:=hq
 have fr:=BJ aa
 have fs:=Dr aa
 have ga:=G4 (addr:=q.addr) (many:=q.many) (wrap:=q.wrap)
 have az:All (bN q.addr q.many q.wrap) 0 63:=Cl
 have ct:=ZY (p:=(inR · ((bN q.addr q.many q.wrap).getD 0 default))) (l:=m)
 have gb:eD m (bN q.addr q.many q.wrap)<m.length:=by unfold eD;grind
 have cw:wrM q=true->q.data.length=(bN q.addr q.many q.wrap).length/\q.lanes.length=(bN q.addr q.many q.wrap).length:=by intro h;unfold wrM at h;unfold HH at ab ad;simp at h;simp only[h,if_true] at ab ad;omega
 have R:=rz (q:=q)
 apply aC.VP
 refine bA.mk Tryz.func224 (by kernel_rfl) UF rfl fun Q Y=> ?_
 unfold nD
 generalize b:bN q.addr q.many q.wrap=all at*
 have C: ∀{H:aA} {nx:Nat} {K:an4},K (dI (eD m all)) H nx->an3 y9 [dS (m.map c7),dA (dK q)] H nx K:=fun h=>au (by omega) (by rw[b];exact h)
 have br: ∀{H:aA} {nx:Nat} {K:an4},K (dS (all.map aG)) H nx->an3 kB [dA (dK q)] H nx K:=fun h=>FK (by rw[b];exact h)
 have v:bH nx [i0,i1,g]:=AM.apart hd (by simp;omega)
 simp only[bH,cU] at v
 simp only[alG,akK,alM,or_false,not_or] at hd
 by_cases ca:eD m all<0
 ·rw[Hq (by rw[b];exact ca)] at B;repeat' first| (first|apply vI|apply C)<;>(simp only[go_sem,akB,akC,P,G,I,v];try simp (disch:=omega) only[Iw])|apply vT (by omega)|refine⟨by omega,?_⟩|fail
  refine Y _ _ _ _ _ (.inr rfl) (kD rfl (by simp only[aA.set,if_true];rfl) rfl) ⟨dA (nS ⟨q.id,4,[]⟩),_,noF,by repeat' first|exact C1| (with_reducible first|exact C3|apply C4)| ((with_reducible apply C0);first|exact CB rfl|exact CF)| ((with_reducible apply D0);apply C9)|apply C4|fail,aF,B _ _ (by omega) ?_ ?_ fun id n o Z=> ?_⟩;·simp only[aA.set,v,if_false];exact G
  ·simp only[aA.set,v,if_false];exact I
  ·simp only[aA.set,show ¬id=nx by omega,show ¬id=nx+1 by omega,show ¬id=nx+9 by omega,if_false]
 have A: ¬eD m (bN q.addr q.many q.wrap)<0:=by rw[b];exact ca
 by_cases i:wrM q=true
 ·obtain⟨gf,gg⟩:=cw i;by_cases h3:(m.getD (eD m all).toNat default).only=true
  ·rw[Hs A i (by rw[b];exact h3)] at B;repeat' first| (first|apply vI|apply C|apply jG)<;>(simp only[go_sem,akB,akC,P,G,I,v,i,h3];try simp (disch:=omega) only[Iw])|apply vF (by omega)|refine⟨by omega,?_⟩|fail
   refine Y _ _ _ _ _ (.inr rfl) (kD rfl (by simp only[aA.set,if_true];rfl) rfl) ⟨dA (nS ⟨q.id,3,[]⟩),_,noF,by repeat' first|exact C1| (with_reducible first|exact C3|apply C4)| ((with_reducible apply C0);first|exact CB rfl|exact CF)| ((with_reducible apply D0);apply C9)|apply C4|fail,aF,B _ _ (by omega) ?_ ?_ fun id n o Z=> ?_⟩;·simp only[aA.set,v,if_false];exact G
   ·simp only[aA.set,v,if_false];exact I
   ·simp only[aA.set,show ¬id=nx by omega,show ¬id=nx+1 by omega,show ¬id=nx+9 by omega,if_false]
  have S: ¬(m.getD (eD m (bN q.addr q.many q.wrap)).toNat default).only=true:=by rw[b];exact h3
  have cc:(m.getD (eD m all).toNat default).only=false:=by simpa using h3
  by_cases h4:q.kind=4/\ ¬e.getD (who*2+q.id).toNat default=q.addr
  ·rw[Xp A S h4.1 h4.2] at B;have gp:=h4.1;have gr:=h4.2;repeat' first| (first|apply vI|apply Y4 (by omega)|apply C|apply jG)<;>(simp only[go_sem,akB,akC,P,G,I,v,i,cc];try simp (disch:=omega) only[Iw])|apply vT (by omega)|apply vF (by omega)|refine⟨by omega,?_⟩|fail
   refine Y _ _ _ _ _ (.inr rfl) (kD rfl (by simp only[aA.set,if_true];rfl) rfl) ⟨dA (nS ⟨q.id,1,[]⟩),_,noF,by repeat' first|exact C1| (with_reducible first|exact C3|apply C4)| ((with_reducible apply C0);first|exact CB rfl|exact CF)| ((with_reducible apply D0);apply C9)|apply C4|fail,aF,B _ _ (by omega) ?_ ?_ fun id n o Z=> ?_⟩;·simp only[aA.set,v,if_false];exact G
   ·simp only[aA.set,v,if_false];exact I
   ·simp only[aA.set,show ¬id=nx by omega,show ¬id=nx+1 by omega,show ¬id=nx+9 by omega,if_false]
  obtain⟨code,r⟩: ∃code:Int,code=if q.kind=4 then 2 else 1:=⟨_,rfl⟩
  have hD:doM m w e who q=((WT w all q.data q.lanes all.length,tR e all),⟨q.id,code,[]⟩):=by
   rcases R.1 i with L|L;·rw[Qd A S L,b,r,if_neg (by omega)]
   ·rw[Pn A S L (Classical.byContradiction fun hc=>h4 ⟨L,hc⟩),b,r,if_pos L]
  rw[hD] at B;have cx:=R.1 i;repeat' first| (first|apply vI|refine Y6 (fun h=> ?_) fun h=> ?_|apply C|apply br|apply jG)<;>(simp only[go_sem,akB,akC,P,G,I,v,i,cc];try simp (disch:=omega) only[Iw])|apply vT (by omega)|apply vF (by omega)|refine⟨by omega,?_⟩|fail
  all_goals
   have cy:(code=2/\q.kind=4)\/(code=1/\ ¬q.kind=4):=by rw[r];split<;>simp[*]
   refine aH.cE (β:=Nat) (fun k=>en [(109,dI k),(108,dI all.length),(107,dS (all.map aG)),(12,dS (all.map aG)),(10,.one (.c (.ptr 3 (nx+9) 0 0))),(8,.one (.c (.ptr 3 (nx+1) 0 0))),(7,.one (.c (.ptr 7 nx 0 0))),(0,.one (.c (.ptr 5 i0 0 0)))])
    (fun k H1 _=>k<=all.length/\H1 i1=some ⟨1,m0,(WT w all q.data q.lanes k).map aG⟩/\H1 nx=some ⟨7,1,[dK q]⟩/\H1 (nx+9)=some ⟨3,1,[[cI q.id,cI code,.osl 0 0 0 0 0]]⟩/\H1 (nx+1)=some ⟨3,1,[[cI 0,cI 0,.osl 0 0 0 0 0]]⟩/\ ∀id,id<nx->id≠i1->H1 id=H id) (fun k=>all.length-k) 0 ⟨noF,_,by repeat' first|exact C1|refine xqI rfl rfl ?_|refine xqP (by omega) rfl rfl ?_|fail,aF,?_⟩ ?_
   ·refine⟨by omega,by simp only[aA.set,v,if_false];exact G,?_,?_,?_,fun id n o=> ?_⟩;·simp only[aA.set,akC,Nat.reduceEqDiff,anD,if_false,if_true,reduceIte]
    ·simp only[aA.set,if_true];rcases cy with⟨rfl,_⟩|⟨rfl,_⟩<;>first|rfl|contradiction
    ·simp only[aA.set,akW,Nat.reduceEqDiff,if_false,if_true]
    ·simp only[aA.set,show ¬id=nx by omega,show ¬id=nx+1 by omega,show ¬id=nx+9 by omega,if_false]
   rintro k H1 J dc ⟨L,M,T,N,O,d⟩ KL U
   have g0:H1 i0=some ⟨5,1,[[.osl 1 i1 0 w.length c0,.osl 1 g 0 e.length c1,x,y,z]]⟩:=by rw[d i0 (by omega) (by omega)];exact P
   have V:H1 g=some ⟨1,m1,e.map aG⟩:=by rw[d g (by omega) (by omega)];exact I
   have ha:=sm (w:=w) (all:=all) (data:=q.data) (lanes:=q.lanes) k
   have df:=Ff (all:=all) (lanes:=q.lanes) cp ao k
   have s:bH J [i0,i1,g,nx,nx+1,nx+9]:=AM.apart (by simp;omega) (by simp;omega)
   simp only[bH,cU] at s
   by_cases u:k<all.length
   ·have hb:=wG az u;have dh:(all.getD k default).toNat<(WT w all q.data q.lanes k).length:=(by omega);repeat' first| (first|apply vI|apply Od (wG df dh) (wG ao (by omega)) (wG cq (by omega)))<;>(simp only[go_sem,akB,akC,g0,M,V,T,N,O,s];try simp (disch:=omega) only[Iw])|apply vT (by omega)|refine⟨by omega,?_⟩|fail
    exact U _ _ _ (k+1) noF _ (by omega) (by omega) (by repeat' first|exact C1|refine xqI rfl rfl ?_|refine xqP (by omega) rfl rfl ?_|fail) aF ⟨by omega,aA.aI,by rw[aA.aB (by omega)];exact T,by rw[aA.aB (by omega)];exact N,by rw[aA.aB (by omega)];exact O,fun id n o=>by rw[aA.aB o];exact d id n o⟩
   ·repeat' first|apply vI<;>(simp only[go_sem,akB,akC,g0,M,V,T,N,O,s])|apply vF (by omega)|fail
    have E:k=all.length:=(by omega);subst E
    refine aH.cE (β:=Nat) (fun k=>en [(146,dI k),(145,dI 6),(144,dO 1 g 6 c1),(12,dS (all.map aG)),(10,.one (.c (.ptr 3 (nx+9) 0 0))),(8,.one (.c (.ptr 3 (nx+1) 0 0))),(0,.one (.c (.ptr 5 i0 0 0)))])
     (fun k H2 _=>k<=6/\H2 g=some ⟨1,m1,(xE e all k).map aG⟩/\ ∀id,id<J->id≠g->H2 id=H1 id) (fun k=>6-k) 0 ⟨noF,_,by repeat' first|exact C1|refine xqI rfl rfl ?_|refine xqP (by omega) rfl rfl ?_|refine xqO (by omega) rfl rfl (by first|rfl|omega) ?_|refine xqV rfl (by omega) ?_|fail,aF,by omega,by rw[tg];exact V,fun _ _ _=>rfl⟩ ?_
    rintro k H2 ds dv ⟨L,f2,t⟩ KM cd;have f0:H2 i0=some ⟨5,1,[[.osl 1 i1 0 w.length c0,.osl 1 g 0 e.length c1,x,y,z]]⟩:=(by rw[t i0 (by omega) (by omega)];exact g0);have f9:H2 (nx+9)=some ⟨3,1,[[cI q.id,cI code,.osl 0 0 0 0 0]]⟩:=(by rw[t _ (by omega) (by omega)];exact N);have f8:H2 (nx+1)=some ⟨3,1,[[cI 0,cI 0,.osl 0 0 0 0 0]]⟩:=(by rw[t _ (by omega) (by omega)];exact O);have hg:=By (all:=all) (show k<=e.length by omega);have W:bH ds [i0,i1,g,nx,nx+1,nx+9]:=AM.apart (by simp;omega) (by simp;omega);simp only[bH,cU] at W;by_cases cl:k<6
    ·have dx:=Js (all:=all) (show k<e.length by omega);have cf:=fun x=>Ci (all:=all) (x:=x) (show k<e.length by omega);have dy:=vy (all:=all) (show k<e.length by omega);repeat' first| (first|apply vI|refine HX (by omega) (aD rfl) ?_)<;>(simp only[go_sem,akB,akC,f0,f2,f9,f8,W,dx];try simp (disch:=omega) only[Iw])|apply vT (by omega)|refine iB (fun h=> ?_) fun h=> ?_|refine⟨by omega,?_⟩|fail
     ·exact cd _ _ _ (k+1) noF _ (by omega) (by omega) (by repeat' first|exact C1|refine xqI rfl rfl ?_|refine xqP (by omega) rfl rfl ?_|refine xqO (by omega) rfl rfl (by rfl) ?_|fail) aF ⟨by omega,by rw[<-cf (-1) (by rw[if_pos (by assumption)])];exact aA.aI,fun id n o=>by rw[aA.aB o];exact t id n o⟩
     ·exact cd _ _ _ (k+1) noF _ (by omega) (by omega) (by repeat' first|exact C1|refine xqI rfl rfl ?_|refine xqP (by omega) rfl rfl ?_|refine xqO (by omega) rfl rfl (by rfl) ?_|fail) aF ⟨by omega,by rw[<-cf _ (by rw[if_neg (by assumption)]),dy];exact f2,fun id n o=>t id n o⟩
    ·repeat' first|apply vI<;>(simp only[go_sem,akB,akC,f0,f2,f9,f8,W])|apply vF (by omega)|fail
     have E:k=e.length:=(by omega);subst E;rw[Cz] at f2;refine Y _ _ _ _ _ (.inr rfl) (kD rfl (by simp only[aA.set,if_true];rfl) rfl) ⟨dA (nS ⟨q.id,code,[]⟩),_,noF,by repeat' first|exact C1| (with_reducible first|exact C3|apply C4)| ((with_reducible apply C0);first|exact CB rfl|exact CF)| ((with_reducible apply D0);apply C9)|apply C4|fail,aF,B _ _ (by omega) ?_ ?_ fun id n o Z=> ?_⟩;·rw[aA.aB (by omega),t _ (by omega) (by omega)];exact M
     ·rw[aA.aB (by omega)];exact f2
     ·rw[aA.aB (by omega),t _ (by omega) Z];exact d id n o
 have dz:wrM q=false:=by simpa using i
 have ed:q.kind=1\/q.kind=3:=by have h3: ¬(q.kind=2\/q.kind=4):=fun h=>i (R.2 h);omega
 repeat' first| (first|apply vI|apply Y5 (by omega)|apply C|apply br|apply jG)<;>(simp only[go_sem,akB,akC,P,G,I,v,dz];try simp (disch:=omega) only[Iw])|apply vF (by omega)|refine⟨by omega,?_⟩|fail
 refine aH.cE (β:=Nat) (fun k=>en [(76,dI k),(75,dI all.length),(74,dS (all.map aG)),(11,.one (.c (.ptr 1 g (who*2+q.id).toNat 0))),(10,.one (.c (.ptr 3 (nx+9) 0 0))),(8,.one (.c (.ptr 3 (nx+1) 0 0))),(7,.one (.c (.ptr 7 nx 0 0))),(0,.one (.c (.ptr 5 i0 0 0)))])
  (fun k H1 _=>k<=all.length/\H1 nx=some ⟨7,1,[dK q]⟩/\H1 (nx+9)=some ⟨3,1,[[cI q.id,cI 1,.osl 1 (nx+55) 0 all.length all.length]]⟩/\H1 (nx+1)=some ⟨3,1,[[cI 0,cI 0,.osl 0 0 0 0 0]]⟩/\H1 (nx+55)=some ⟨1,all.length,((List.range k).map (fun k=>w.getD (all.getD k default).toNat default)++List.replicate (all.length-k) (0:Int)).map aG⟩/\ ∀id,id<nx->H1 id=H id)
  (fun k=>all.length-k) 0 ⟨noF,_,by repeat' first|exact C1|refine xqI rfl rfl ?_|refine xqP (by omega) rfl rfl ?_|fail,aF,?_⟩ ?_
 ·refine⟨by omega,?_,?_,?_,?_,fun id n=> ?_⟩;·simp only[aA.set,akC,Nat.reduceEqDiff,anD,if_false,if_true,reduceIte]
  ·simp only[aA.set,if_true]
  ·simp only[aA.set,akW,Nat.reduceEqDiff,if_false,if_true]
  ·simp only[aA.set,akW,Nat.reduceEqDiff,if_false,if_true];simp[aG]
  ·simp only[aA.set,show ¬id=nx by omega,show ¬id=nx+1 by omega,show ¬id=nx+9 by omega,show ¬id=nx+55 by omega,if_false]
 rintro k H1 J dc ⟨L,T,N,O,gd,d⟩ KL U
 have g0:H1 i0=some ⟨5,1,[[.osl 1 i1 0 w.length c0,.osl 1 g 0 e.length c1,x,y,z]]⟩:=by rw[d i0 (by omega)];exact P
 have M:H1 i1=some ⟨1,m0,w.map aG⟩:=by rw[d i1 (by omega)];exact G
 have V:H1 g=some ⟨1,m1,e.map aG⟩:=by rw[d g (by omega)];exact I
 have X:((List.range k).map (fun k=>w.getD (all.getD k default).toNat default)++List.replicate (all.length-k) (0:Int)).length=all.length:=by simp;omega
 have s:bH J [i0,i1,g,nx,nx+1,nx+9,nx+55]:=AM.apart (by simp;omega) (by simp;omega)
 simp only[bH,cU] at s
 by_cases u:k<all.length
 ·have hb:=wG az u;have ei:=fun x=>Ed (f:=fun k=>w.getD (all.getD k default).toNat default) (x:=x) u;repeat' first|apply vI<;>(simp only[go_sem,akB,akC,g0,M,V,T,N,O,gd,s,X];try simp (disch:=omega) only[Iw])|apply vT (by omega)|refine⟨by omega,?_⟩|fail
  exact U _ _ _ (k+1) noF _ (by omega) (by omega) (by repeat' first|exact C1|refine xqI rfl rfl ?_|refine xqP (by omega) rfl rfl ?_|fail) aF ⟨by omega,by rw[aA.aB (by omega)];exact T,by rw[aA.aB (by omega)];exact N,by rw[aA.aB (by omega)];exact O,by rw[<-ei _ rfl];exact aA.aI,fun id n=>by rw[aA.aB (by omega)];exact d id n⟩
 ·have E:k=all.length:=by omega
  subst E;have ej:(List.range all.length).map (fun k=>w.getD (all.getD k default).toNat default)++List.replicate (all.length-all.length) (0:Int)=all.map fun a=>w.getD a.toNat default:=by rw[ahE];simp
  rw[ej] at gd;repeat' first|apply vI<;>(simp only[go_sem,akB,akC,g0,M,V,T,N,O,gd,s])|apply vF (by omega)|refine iB (fun h=> ?_) fun h=> ?_|refine⟨by omega,?_⟩|fail
  ·rw[Ht A (by assumption),b] at B;refine Y _ _ _ _ _ (.inr rfl) (kD rfl (by simp only[aA.set,if_true];rfl) rfl) ⟨dA (nS ⟨q.id,2,all.map fun a=>w.getD a.toNat default⟩),_,fun j=>j=nx+55,sR (aQ (bZ rfl) (aQ (bZ rfl) (aQ (iN (l:=all.map fun a=>w.getD a.toNat default) (F:=fun j=>j=nx+55) (m:=all.length) (len:=all.length) (cap:=all.length) bG ?_ (by simp) (by simp) rfl) iA))),Eu,B _ _ (by omega) ?_ ?_ fun id n o Z=> ?_⟩;·rw[aA.aB (by omega),aA.aB (by omega),aA.aB (by omega)];exact gd
   ·rw[aA.gK (by omega),aA.aB (by omega),aA.aB (by omega),aA.aB (by omega)];exact M
   ·rw[aA.gK (by omega),aA.aB (by omega),aA.aI]
   ·rw[aA.gK (by omega),aA.aB (by omega),aA.aB (by omega),aA.aB (by omega)];exact d id n
  ·rw[Jl A (by omega),b] at B;refine Y _ _ _ _ _ (.inr rfl) (kD rfl (by simp only[aA.set,if_true];rfl) rfl) ⟨dA (nS ⟨q.id,1,all.map fun a=>w.getD a.toNat default⟩),_,fun j=>j=nx+55,sR (aQ (bZ rfl) (aQ (bZ rfl) (aQ (iN (l:=all.map fun a=>w.getD a.toNat default) (F:=fun j=>j=nx+55) (m:=all.length) (len:=all.length) (cap:=all.length) bG ?_ (by simp) (by simp) rfl) iA))),Eu,B _ _ (by omega) ?_ ?_ fun id n o Z=> ?_⟩;·rw[aA.aB (by omega)];exact gd
   ·rw[aA.gK (by omega),aA.aB (by omega)];exact M
   ·rw[aA.gK (by omega),aA.aB (by omega)];exact V
   ·rw[aA.gK (by omega),aA.aB (by omega)];exact d id n
end
section
variable{H:aA}{nx:Nat}{K:an4}
theorem QQ{X:Nat->Prop}{c:Cfg}{i:CIn}{s:CSt}{es:List Ev}{i0 i1:Nat}{nm:Nat->Nat}(hb:bI c)(hs:COk c s)(fm:i.ready.length=3)(hB:qW X H nx i0 i1 nm s es)(hl:es.length<900)
 (h: ∀H' nx' w,nx<=nx'->qW X H' nx' i0 i1 w (QY c i s) (es++jV c s (V0 c i s))->(∀id,X id->H' id=H id)->K (.tup []) H' nx'):
 an3 rT [.one (.c (.ptr 5 i0 0 0)),dA (eIn i),.one (.c (.ptr 5 i1 0 0))] H nx K:=by
 refine bA.mk Tryz.func187 (by kernel_rfl) PX rfl fun Q hQ=> ?_
 unfold lK
 obtain⟨wc,hc,pc,vc,tc,cw,fo,fr,fs,gf,gg⟩: ∃wc hc pc vc tc,H i0=some ⟨5,1,[[.osl 1 (nm 0) 0 s.words.length wc,.osl 1 (nm 1) 0 s.holds.length hc,.osl 4 (nm 2) 0 3 pc,.osl 3 (nm 3) 0 4 vc,.osl 5 (nm 4) 0 s.told.length tc]]⟩/\_:=by obtain⟨cells,F,⟨wc,hc,pc,vc,tc,rfl,V⟩,_⟩:=hB.rep.st;exact⟨wc,hc,pc,vc,tc,F,V⟩
 have y:=hB.rep.apart (nx':=nx) [] [] (akA _) (by simp) (by simp) (by simp) (by simp)
 simp only[bH,cU,List.map,List.nil_append] at y
 repeat' first|apply vI<;>(simp only[go_sem,cw,y])|fail
 obtain⟨H0,W⟩: ∃H0,H0=H.set nx ⟨3,1,[eIn i]⟩:=⟨_,rfl⟩
 rw[<-W]
 have cx:H0 nx=some ⟨3,1,[eIn i]⟩:=by rw[W];exact aA.aI
 have cy:qW (fun id=>X id\/id=nx) H0 (nx+7) i0 i1 nm s es:=hB.next (by omega) (fun id F V=>by rw[W,aA.aB (by omega)]) fun id f=>by
  rcases f with f|rfl;·have:=hB.rep.x id (.inl f);exact⟨by omega,.inl f⟩
  ·exact⟨by omega,.inr (akA _)⟩
 have df:=hB.rep.i0.1
 have dh:=hB.hap.i1.1
 refine aH.cE (β:=Nat×CSt×List Ev×(Nat->Nat)) (fun u=>en [(18,dI u.1),(17,dI 3),(4,.one (.c (.ptr 3 nx 0 0))),(2,.one (.c (.ptr 5 i1 0 0))),(0,.one (.c (.ptr 5 i0 0 0)))])
  (fun u H1 ab=>u.1<=3/\COk c u.2.1/\qW (fun id=>X id\/id=nx) H1 ab i0 i1 u.2.2.2 u.2.1 u.2.2.1/\(∀id,X id\/id=nx->H1 id=H0 id)/\FL c (AB i) ([0,1,2].drop u.1) u.2.1 u.2.2.1 (QY c i s) (es++jV c s (V0 c i s))/\u.2.2.1.length<=es.length+u.1)
  (fun u=>3-u.1) (0,s,es,nm) ⟨noF,_,by repeat' first|exact C1|refine xqI rfl rfl ?_|refine xqP (by omega) rfl rfl ?_|fail,aF,by dsimp only;omega,hs,cy,fun _ _=>rfl,⟨rfl,rfl⟩,by simp⟩ ?_
 rintro⟨k,s1,ad,a⟩ H1 ab ha ⟨hk,g,q,L,ao,ds⟩ KL az
 dsimp only at hk g q ao ds
 obtain⟨wc,hc,pc,vc,tc,mp,rp,mv,rv,g0,g1,g2,g3,g4,g5,g6,g7,g8,g9,ga,gb⟩:=q.rep.get
 have z:H1 nx=some ⟨3,1,[eIn i]⟩:=by rw[L nx (.inr rfl)];exact cx
 by_cases M:k<3
 ·have Y:=ao;rw[Pq M] at Y;obtain⟨p,N⟩: ∃p,p=aL s1 k:=⟨_,rfl⟩
  obtain⟨qo,qc,oc,gr,gq,go⟩:=ga k M;rw[<-N] at gr gq go;repeat' first|apply vI<;>(simp only[go_sem,g0,g1,gr,z])|apply vT (by omega)|refine⟨by omega,?_⟩|fail
  have br:=g.port k M;rw[<-N] at br;have hd:=q.rep.names.lt 2 (by omega);obtain⟨hf,hg⟩:=br.last
  refine aH.cE (β:=Nat) (fun j=>en [(18,dI k),(17,dI 3),(8,dI j),(7,.one (.c (.ptr 4 (a 2) k 0))),(6,dI k),(4,.one (.c (.ptr 3 nx 0 0))),(2,.one (.c (.ptr 5 i1 0 0))),(0,.one (.c (.ptr 5 i0 0 0)))])
   (fun j H2 _=>1<=j/\j<=5/\H2=H1/\ ∀B,1<=B->B<j->Ce s1 k (KY s1 k B)=false) (fun j=>5-j) 1 ⟨noF,_,by repeat' first|exact C1|refine xqI rfl rfl ?_|refine xqP (by omega) rfl rfl ?_|fail,aF,by omega,by omega,rfl,fun B F V=>by omega⟩ ?_
  rintro j H2 b dv ⟨dx,hh,dy,hinv⟩ KJ cl;subst dy;by_cases dz:j<=4
  ·cases I:i.ready.getD k default with
   |false=>
    repeat' first| (first|apply vI|apply Y4 (by omega))<;>(simp only[go_sem,z,I];try simp (disch:=omega) only[Iw])|refine⟨by omega,?_⟩|fail
    exact az _ _ _ (k+1,s1,ad,a) noF _ (by omega) (by dsimp only;omega) (by repeat' first|exact C1|refine xqI rfl rfl ?_|refine xqP (by omega) rfl rfl ?_|fail) aF ⟨by dsimp only;omega,g,q.mono (by omega),L,Y.none (Cy I),by dsimp only;omega⟩
   |true=>
   obtain⟨st,O⟩: ∃st,st=KY s1 k j:=⟨_,rfl⟩
   have ed:st=((p.last+(j:Int))%4).toNat:=(by rw[O,N];rfl);have P:st<4:=(by omega);have R:(p.last+(j:Int)).tmod 4=(st:Int):=(by rw[alQ (by omega)];omega);obtain⟨v,A⟩: ∃v,v=aU s1 st:=⟨_,rfl⟩
   obtain⟨po,ca,do_,dc,gs,gp,gd⟩:=gb st P;rw[<-A] at gs gp gd;obtain⟨md,rd,d1,d2,d3,d4,d5,d6⟩:=gd.ex;by_cases ho:v.done.length=0
   ·have hlen:((v.done.length:Int)=0)=True:=eq_true (by omega);repeat' first| (first|apply vI|apply Y4 (by omega))<;>(simp only[go_sem,g0,g1,g2,gr,gs,z,R,I,hlen];try simp (disch:=omega) only[Iw])|refine⟨by omega,?_⟩|fail
    exact cl _ _ _ (j+1) noF _ (by omega) (by omega) (by repeat' first|exact C1|refine xqI rfl rfl ?_|refine xqP (by omega) rfl rfl ?_|fail) aF ⟨by omega,by omega,rfl,fun B F V=>by
     by_cases Z:B<j
     ·exact hinv B F Z
     ·have:B=j:=(by omega);subst this;rw[<-O];exact decide_eq_false fun hc=>by rw[<-A] at hc;omega⟩
   have hlen:((v.done.length:Int)=0)=False:=eq_false (by omega);obtain⟨d,S⟩: ∃d,d=v.done.getD 0 default:=⟨_,rfl⟩
   have d7:rd[do_]?=some (aP d):=(by have:(rd.drop do_)[0]?=some (aP d):=(by rw[d2,akN];simp[S,List.getD,show 0<v.done.length by omega]);rwa [akY,Nat.add_zero] at this);by_cases C:d.who=k
   ·have hq:=q.rep.names.lt (8+k) (by omega);have ht:s1.told.length<=36:=(by have:=g.st.lens hb;simp only[dH] at this;omega);have hy:=br.ol;have hex: ∃j∈p.out,j.n=d.n:=by obtain⟨_,j,q1,q2,_⟩:=(g.slv st P).out (key d) (by rw[<-A];exact sx (by rw[S];exact bL (by omega)));have e:(key d).1.toNat=k:=(by show d.who.toNat=k;omega);rw[e,<-N] at q1;exact⟨j,q1,q2⟩
    obtain⟨ei,hz⟩:=qy hex;have ej: ¬bR (isC d.n) p.out<0:=by have:0<=bR (isC d.n) p.out:=eA.2 (by obtain⟨j,q1,q2⟩:=hex;exact⟨j,q1,decide_eq_true q2⟩);omega
    have cc: ∀{G:aA} {n':Nat} {K:an4},G (a (5+k))=H2 (a (5+k))->G (a (8+k))=H2 (a (8+k))->K (dI (bR (isC d.n) p.out)) G n'->an3 oN [.one (.agg [cI p.next,.osl 1 (a (5+k)) qo p.queue.length qc,.osl 3 (a (8+k)) 0 p.out.length oc,cI p.last]),dI d.n] G n' K:=fun F V h3=>
     NX (by omega) (sR (Im (iD Hp (iD ((gq.frame F).frz (aW bG _) trivial) (iD ((go.frame V).frz (aW E0 _) trivial) (iD Hp ax)))))) h3
    have y:=q.rep.apart (nx':=b) [nx] [0,1,2,3,4,5+k,8+k,11+st,15+st] (by omega) (by simp) (fun x hx=>.inl (.inr (by simpa using hx))) (by simp;omega) (by simp;omega);simp only[bH,cU,List.map,List.cons_append,List.nil_append] at y;obtain⟨mt,rt,e1,e2,e3,e4,e5,e6⟩:=g5.ex;obtain⟨mo,ro,o1,o2,o3,o4,o5,o6⟩:=go.ex;rw[alK] at e2 o2;subst e2;subst o2;refine aH.EN fun eo=> ?_;have cp: ∀r,(rp.set k r)[k]?=some r:=fun r=>by rw[ak6 (by omega)]
    have ep: ∀k l,msk (b+k) l H2=H2:=fun k l=>CW eo (by omega);repeat' first| (first|apply vI|apply Y4 (by omega)|apply cc (by simp only[aA.set,aA.del,y,if_false]) (by simp only[aA.set,aA.del,y,if_false])| (refine A9 (m:=mo) (by omega) ej ei o5 (by omega) (by omega) (by simp only[aA.set,aA.del,y,if_false];exact o1) (fun aa m' q1 q2=> ?_)))<;>(simp only[go_sem,akB,akC,ep,umS (G:=H2),umD (G:=H2),umB,cp,ak4,g0,g1,g2,gr,gs,z,R,I,hlen,d1,d7,C,e1,o1,y];try simp (disch:=omega) only[Iw])| (with_reducible first|refine fun(cap:Nat) (cd:_<=cap)=> ?_|refine fun(ia:_<=cap)=> ?_)|refine⟨by omega,?_⟩|fail
    obtain⟨w,E⟩: ∃w,w=put (put a 4 (b+56)) (8+k) (b+88):=⟨_,rfl⟩
    have J: ∀j,j≠4->j≠8+k->w j=a j:=fun j F V=>by rw[E,dG V,dG F]
    have p4:w 4=b+56:=(by rw[E,dG (by omega),kQ]);have p8:w (8+k)=b+88:=(by rw[E,kQ]);obtain⟨s',t⟩: ∃s',s'=bS c s1 (.tell k st):=⟨_,rfl⟩
    have cf:o8 s1 st=d:=(by rw[S,A];rfl);have T:aL s' k= {p with out:=W1 p.out d.n,last:=st}:=(by rw[t,cH rfl (by rw[g.pl];omega),if_pos rfl,cf,<-N]);have U:aU s' st= {v with done:=v.done.drop 1}:=(by rw[t,dF rfl (by rw[g.sl];omega),if_pos rfl,<-A]);have cq:s'.told=s1.told++[d]:=(by rw[t,<-cf];rfl);refine Mb (q.upd k st w s' (by omega) ?_ ?_ ?_ ?_ ?_ ?_ (.inl M) (.inl P) (fun j Z o=>by rw[t,cH rfl (by rw[g.pl];omega),if_neg o]) (fun j Z o=>by rw[t,dF rfl (by rw[g.sl];omega),if_neg o])) (by omega) fun H' nx' hx et eu=> ?_
    ·rw[E];have ct: ∀v,b<=v->¬((X v\/v=nx)\/v=i1):=fun v hv hn=>by have:=q.rep.x v hn;omega
     exact((q.rep.names.mono (by omega:ab<=b)).put (nx':=b+57) (by omega) (by omega) (ct _ (by omega))).put (by omega) (by omega) (ct _ (by omega))
    ·intro j Z;by_cases h4:j=4;·subst h4;exact .inr ⟨.inl rfl,by omega⟩
     ·by_cases h8:j=8+k;·subst h8;exact .inr ⟨.inr (.inr (.inl rfl)),by omega⟩
      ·exact .inl (J j h4 h8)
    ·intro id f h0 o;simp only[aA.set,aA.del,h0,o 2 (by omega) (by omega),o 3 (by omega) (by omega),o 4 (by omega) (by omega),o (8+k) (by omega) (by omega),show ¬id=b+47 by omega,show ¬id=b+55 by omega,show ¬id=b+56 by omega,show ¬id=b+88 by omega,if_false]
    ·refine⟨wc,hc,pc,vc,cap,?_,?_,?_,?_,g6,g7⟩;·simp only[aA.set,aA.del,y,if_false,if_true,kh,J 0 (by omega) (by omega),J 1 (by omega) (by omega),J 2 (by omega) (by omega),J 3 (by omega) (by omega),p4,cq,akG,List.length_singleton];rw[t];rfl
     ·rw[J 0 (by omega) (by omega),t];exact g3.frame (by simp only[aA.set,aA.del,y,if_false])
     ·rw[J 1 (by omega) (by omega),t];exact g4.frame (by simp only[aA.set,aA.del,y,if_false])
     ·rw[p4,cq];exact⟨cap,(s1.told++[d]).map aP,by simp only[aA.set,aA.del,y,if_false,if_true,show ¬b+56=b+88 by omega],rfl,by simp,by simp,by simpa using cd,by simp⟩
    ·refine⟨mp,rp.set k [cI p.next,.osl 1 (a (5+k)) qo p.queue.length qc,.osl 3 (b+88) 0 (W1 p.out d.n).length aa,cI st],mp,rp,g1,by simp only[aA.set,aA.del,y,if_false,if_true];rfl,by simp only[akI,g8],fun j Z o=>by rw[ak7 (Ne.symm o)],fun _=>⟨_,cp _,⟨qo,qc,aa,?_,?_,?_⟩⟩⟩;·rw[T,J (5+k) (by omega) (by omega),p8];rfl
     ·rw[T,J (5+k) (by omega) (by omega)];exact gq.frame (by simp only[aA.set,aA.del,y,if_false])
     ·rw[T,p8];exact⟨m',(W1 p.out d.n).map eCJ,by simp only[aA.set,aA.del,y,if_false,if_true];rfl,rfl,by simp,by simp,q1,by omega⟩
    ·refine⟨mv,rv.set st [.osl 3 (a (11+st)) po v.pipe.length ca,.osl 5 (a (15+st)) (do_+1) (v.done.length-1) (dc-1),cI v.last],mv,rv,g2,by simp only[aA.set,aA.del,y,if_false,if_true],by simp only[akI,g9],fun j Z o=>by rw[ak7 (Ne.symm o)],fun _=>⟨[.osl 3 (a (11+st)) po v.pipe.length ca,.osl 5 (a (15+st)) (do_+1) (v.done.length-1) (dc-1),cI v.last],ak6 (by omega),⟨po,ca,do_+1,dc-1,?_,?_,?_⟩⟩⟩;·rw[U,J (11+st) (by omega) (by omega),J (15+st) (by omega) (by omega)];simp only[Gm,akS]
     ·rw[U,J (11+st) (by omega) (by omega)];exact gp.frame (by simp only[aA.set,aA.del,y,if_false])
     ·rw[U,J (15+st) (by omega) (by omega)];refine⟨md,rd,by simp only[aA.set,aA.del,y,if_false];exact d1,by rw[amD,<-d2,alX],?_,by simp,?_,?_⟩;·simp only[akS];omega
      ·simp only[akS];omega
      ·omega
    ·simp only[go_sem];repeat' first|apply vI<;>(simp only[go_sem];try simp (disch:=omega) only[Iw])|fail
     have hO:AB i s1 k=some (.tell k st):=(by rw[O];exact xc I dx dz hinv (by rw[<-O];exact decide_eq_true ⟨by rw[<-A];omega,by rw[<-A,<-S];exact C⟩));have hL:=Y.some hO;rw[<-t,show JE s1 (.tell k st)=[⟨3,k,d.n⟩] from by rw[<-cf];rfl] at hL;have ew:COk c s':=(by rw[t];exact ES hb g (YU g M hO));exact az _ _ _ (k+1,s',ad++[⟨3,k,d.n⟩],w) noF _ (by omega) (by dsimp only;omega) (by repeat' first|exact C1|refine xqI rfl rfl ?_|refine xqP (by omega) rfl rfl ?_|fail) aF ⟨by dsimp only;omega,ew,et.mono (by omega),fun id f=>(eu id f).trans (L id f),hL,by simp;omega⟩
   ·have ff:(d.who=(k:Int))=False:=eq_false C;repeat' first| (first|apply vI|apply Y4 (by omega))<;>(simp only[go_sem,g0,g1,g2,gr,gs,z,R,I,hlen,d1,d7,ff];try simp (disch:=omega) only[Iw])|refine⟨by omega,?_⟩|fail
    exact cl _ _ _ (j+1) noF _ (by omega) (by omega) (by repeat' first|exact C1|refine xqI rfl rfl ?_|refine xqP (by omega) rfl rfl ?_|fail) aF ⟨by omega,by omega,rfl,fun B F V=>by
     by_cases Z:B<j
     ·exact hinv B F Z
     ·have:B=j:=(by omega);subst this;rw[<-O];exact decide_eq_false fun hc=>C (by rw[S,A];exact hc.2)⟩
  ·repeat' first| (first|apply vI|apply Y5 (by omega))<;>(simp only[go_sem];try simp (disch:=omega) only[Iw])|fail
   exact az _ _ _ (k+1,s1,ad,a) noF _ (by omega) (by dsimp only;omega) (by repeat' first|exact C1|refine xqI rfl rfl ?_|refine xqP (by omega) rfl rfl ?_|fail) aF ⟨by dsimp only;omega,g,q.mono (by omega),L,Y.none (xj fun B F V=>hinv B F (by omega)),by dsimp only;omega⟩
 ·repeat' first|apply vI<;>(simp only[go_sem])|apply vF (by omega)|fail
  have fh:k=3:=by omega
  subst fh;obtain⟨rfl,rfl⟩:=FL.nil ao;refine hQ _ _ _ _ _ (.inl rfl) rfl (h _ _ a (by omega) (q.next (by omega) (fun _ _ _=>rfl) fun id f=>⟨?_,.inl (.inl f)⟩) fun id f=> ?_);·have:=hB.rep.x id (.inl f);omega
  ·rw[L id (.inl f),W,aA.aB];have:=hB.rep.x id (.inl f);omega
end
section
variable{H:aA}{nx:Nat}{K:an4}
theorem UX{X:Nat->Prop}{c:Cfg}{s:CSt}{es:List Ev}{i0 i1:Nat}{nm:Nat->Nat}(hb:bI c)(hs:COk c s)(hB:qW X H nx i0 i1 nm s es)
 (h: ∀H' nx' n,nx<=nx'->qW X H' nx' i0 i1 n (mU c s (Nn c s)) es->(∀id,X id->H' id=H id)->K (.tup []) H' nx'):
 an3 uB [.one (.c (.ptr 5 i0 0 0)),dA (cD c),.one (.c (.ptr 5 i1 0 0))] H nx K:=by
 refine bA.mk Tryz.func189 (by kernel_rfl) R1 rfl fun Q hQ=> ?_
 unfold mD
 obtain⟨ia,ih⟩:=eN hb
 obtain⟨wc,hc,pc,vc,tc,ej,iv,iw,jh,ju,kc⟩: ∃wc hc pc vc tc,H i0=some ⟨5,1,[[.osl 1 (nm 0) 0 s.words.length wc,.osl 1 (nm 1) 0 s.holds.length hc,.osl 4 (nm 2) 0 3 pc,.osl 3 (nm 3) 0 4 vc,.osl 5 (nm 4) 0 s.told.length tc]]⟩/\_:=by obtain⟨cells,F,⟨wc,hc,pc,vc,tc,rfl,h2⟩,_⟩:=hB.rep.st;exact⟨wc,hc,pc,vc,tc,F,h2⟩
 have t:=hB.rep.apart (nx':=nx) [] [] (akA _) (by simp) (by simp) (by simp) (by simp)
 simp only[bH,cU,List.map,List.nil_append] at t
 repeat' first|apply vI<;>(simp only[go_sem,akB,akC,ej,t])|fail
 obtain⟨H0,I⟩: ∃H0,H0=(H.set nx ⟨3,1,[cD c]⟩).set (nx+1) ⟨3,1,[[false,false,false].map cB]⟩:=⟨_,rfl⟩
 have w:=I
 simp only[List.map] at w
 unfold cB at w
 rw[<-w]
 clear w
 have et:H0 nx=some ⟨3,1,[cD c]⟩:=by rw[I,aA.aB (by omega)];exact aA.aI
 have ew:H0 (nx+1)=some ⟨3,1,[[false,false,false].map cB]⟩:=by rw[I];exact aA.aI
 have ff:=hB.rep.i0.1
 have fh:=hB.hap.i1.1
 have fm:qW (fun id=>X id\/id=nx\/id=nx+1) H0 (nx+8) i0 i1 nm s es:=hB.next (by omega) (fun id F h2=>by rw[I,aA.aB (by omega),aA.aB (by omega)]) fun id b=>by
  rcases b with b|rfl|rfl;·have:=hB.rep.x id (.inl b);exact⟨by omega,.inl b⟩
  ·exact⟨by omega,.inr (akA _)⟩
  ·exact⟨by omega,.inr (by omega)⟩
 refine aH.cE (β:=Nat×CSt×List Bool×(Nat->Nat)) (fun u=>en [(18,dI u.1),(17,dI 4),(6,.one (.c (.ptr 3 (nx+1) 0 0))),(4,.one (.c (.ptr 3 nx 0 0))),(2,.one (.c (.ptr 5 i1 0 0))),(0,.one (.c (.ptr 5 i0 0 0)))])
  (fun u H1 ad=>u.1<=4/\COk c u.2.1/\qW (fun id=>X id\/id=nx\/id=nx+1) H1 ad i0 i1 u.2.2.2 u.2.1 es/\(∀id,X id\/id=nx->H1 id=H0 id)/\ND c ([0,1,2,3].drop u.1) u.2.1 u.2.2.1 (mU c s (Nn c s))/\u.2.2.1.length=3/\H1 (nx+1)=some ⟨3,1,[u.2.2.1.map cB]⟩)
  (fun u=>4-u.1) (0,s,[false,false,false],nm) ⟨noF,_,by repeat' first|exact C1|refine xqI rfl rfl ?_|refine xqP (by omega) rfl rfl ?_|fail,aF,by dsimp only;omega,hs,fm.mono (by omega),fun _ _=>rfl,rfl,rfl,ew⟩ ?_
 rintro⟨k,s1,u,e⟩ H1 ad kf ⟨hk,d,f,J,br,L,B⟩ KL ca
 dsimp only at hk d f br L B
 obtain⟨wc,hc,pc,vc,tc,mp,rp,mv,rv,g0,g1,g2,g3,g4,g5,g6,g7,g8,g9,ga,gb⟩:=f.rep.get
 have aa:H1 nx=some ⟨3,1,[cD c]⟩:=by rw[J _ (.inr rfl)];exact et
 by_cases o:k<4
 ·have ao:=br;rw[Qo o] at ao;obtain⟨v,C⟩: ∃v,v=aU s1 k:=⟨_,rfl⟩
  obtain⟨po,kt,do_,dc,gs,gp,gd⟩:=gb k o;rw[<-C] at gs gp gd;obtain⟨me,re,p1,p2,p3,p4,p5,p6⟩:=gp.ex;rw[akU] at p4;have fo:=(d.slv k o).last;have la:=f.rep.names.lt 3 (by omega);rw[<-C] at fo;repeat' first|apply vI<;>(simp only[go_sem,akB,akC,g0,g2,gs])|apply vT (by omega)|refine⟨by omega,?_⟩|fail
  refine aH.cE (β:=Nat) (fun j=>en [(18,dI k),(17,dI 4),(9,dI j),(8,.one (.c (.ptr 3 (e 3) k 0))),(7,dI k),(6,.one (.c (.ptr 3 (nx+1) 0 0))),(4,.one (.c (.ptr 3 nx 0 0))),(2,.one (.c (.ptr 5 i1 0 0))),(0,.one (.c (.ptr 5 i0 0 0)))])
   (fun j H2 _=>1<=j/\j<=4/\H2=H1/\ ∀y,1<=y->y<j->Q1 c s1 u k (L6 s1 k y)=false) (fun j=>4-j) 1 ⟨noF,_,by repeat' first|exact C1|refine xqI rfl rfl ?_|refine xqP (by omega) rfl rfl ?_|fail,aF,by omega,by omega,rfl,fun y F h2=>by omega⟩ ?_
  rintro j H2 a fr ⟨fs,lb,gf,hinv⟩ KJ ct;subst gf;by_cases cw:v.pipe.length<2
  ·by_cases gg:j<=3
   ·obtain⟨who,az⟩: ∃who,who=L6 s1 k j:=⟨_,rfl⟩
    have ha:who=((v.last+(j:Int))%3).toNat:=(by rw[az,C];rfl);have M:who<3:=(by omega);have N:(v.last+(j:Int)).tmod 3=(who:Int):=(by rw[alQ (by omega)];omega);have cc:((u.map cB).drop who).take 1=[cB (u.getD who default)]:=(by rw[alF (by simp;omega)];simp[List.getD,show who<u.length by omega]);have O:(u.map cB).length=3:=(by rw[akU,L]);have hle:(who+1<=3)=True:=eq_true (by omega)
    have P:Q1 c s1 u k who=false->∀y,1<=y->y<j+1->Q1 c s1 u k (L6 s1 k y)=false:=fun hf y F h2=>by
     by_cases hj:y<j;·exact hinv y F hj
     ·have:y=j:=(by omega);subst this;rw[<-az];exact hf
    cases D:u.getD who default with
    |true=>
     repeat' first| (first|apply vI|apply Y4 (by omega))<;>(simp only[go_sem,akB,akC,g0,g2,gs,al2,N,B,cc,O,hle,D];try simp (disch:=omega) only[Iw])|apply vT (by omega)|refine⟨by omega,?_⟩|fail
     exact ct _ _ _ (j+1) noF _ (by omega) (by omega) (by repeat' first|exact C1|refine xqI rfl rfl ?_|refine xqP (by omega) rfl rfl ?_|fail) aF ⟨by omega,by omega,rfl,P (by unfold Q1;rw[D];rfl)⟩
    |false=>
    by_cases z:SF c s1 who k
    ·have R:decide (SF c s1 who k)=true:=decide_eq_true z;obtain⟨p,S⟩: ∃p,p=aL s1 who:=⟨_,rfl⟩
     obtain⟨qo,qc,oc,gr,gq,go⟩:=ga who M;rw[<-S] at gr gq go;have hd:=z.1;have hg:=z.2.1;rw[<-S] at hd hg;have cx:=d.port who M;rw[<-S] at cx;have lk:=cx.ql;obtain⟨mq,rq0,q1,q2,q3,q4,q5,q6⟩:=gq.ex;obtain⟨mo,ro,o1,o2,o3,o4,o5,o6⟩:=go.ex;rw[akU] at q4 o4;rw[alK] at o2;subst o2;obtain⟨n0,cd⟩: ∃n0,n0=p.queue.getD 0 default:=⟨_,rfl⟩
     have q7:rq0[qo]?=some [cI n0]:=(by have:(rq0.drop qo)[0]?=some [cI n0]:=(by rw[q2,akN];simp[cd,List.getD,show 0<p.queue.length by omega,aG]);rwa [akY,Nat.add_zero] at this);have hh:=hb.2.1;have cy: ∀r,(rp.set who r)[who]?=some r:=fun r=>by rw[ak6 (by omega)]
     have df: ∀r,(rv.set k r)[k]?=some r:=fun r=>by rw[ak6 (by omega)]
     have t:=f.rep.apart (nx':=a) [nx,nx+1,i1] [0,1,2,3,4,5+who,8+who,11+k,15+k] (by omega) (by simp;omega) (fun x hx=>by simp at hx;rcases hx with rfl|rfl|rfl;exact .inl (.inr (.inl rfl));exact .inl (.inr (.inr rfl));exact .inr rfl) (by simp;omega) (by simp;omega);simp only[bH,cU,List.map,List.cons_append,List.nil_append] at t;obtain⟨dh,T,U,V,W,ds,_⟩:=f.hap.ex;refine aH.EN fun ho=> ?_;have hq: ∀k l,msk (a+k) l H2=H2:=fun k l=>CW ho (by omega);repeat' first| (first|apply vI|apply Y4 (by omega)|apply FO (s:=s1) hb d M o (f.rep.tn d.pl d.sl))<;>(simp only[go_sem,akB,akC,al2,N,B,cc,O,hle,D,aa,R,hq,umS (G:=H2),umD (G:=H2),umB,ak4,g0,g1,g2,gr,gs,cy,df,q1,q7,o1,p1,ds,t];try simp (disch:=omega) only[Iw])|apply vT (by omega)| (with_reducible first|refine fun(cap:Nat) (cf:_<=cap)=> ?_|refine fun(ma:_<=cap)=> ?_)|refine⟨by omega,?_⟩|fail
     rename_i q ab ht;obtain⟨jo,cl⟩: ∃jo:eZ,jo=⟨who,n0,k⟩:=⟨_,rfl⟩
     obtain⟨jp,cp⟩: ∃jp:eZ,jp=⟨who,n0,c.lat.getD k default⟩:=⟨_,rfl⟩
     have eo:List.map eCJ p.out++[[D1.v (.int .i64 who),cI n0,D1.v (.int .i64 k)]]=(p.out++[jo]).map eCJ:=(by rw[akQ,cl];rfl);have ep:List.take v.pipe.length (List.drop po re)++[[D1.v (.int .i64 who),cI n0,D1.v (.int .i64 (c.lat.getD k default))]]=(v.pipe++[jp]).map eCJ:=(by rw[p2,akM (by simp),akQ,cp];rfl);have eu:List.take who (List.map cB u)++[D1.v (.bool true)]++List.drop (who+1) (List.map cB u)=(u.set who true).map cB:=(by rw[al8,anN,if_pos (by simp;omega),akO];rfl);have ei:List.take (1+k) [dh,cI T,cI U,cI V,cI W]++[D1.v (.int .i64 1)]++List.drop (1+(k+1)) [dh,cI T,cI U,cI V,cI W]=[dh,cI T,cI U,cI V,cI W].set (1+k) (cI 1):=(by rw[anN,if_pos (by simp;omega),akO];rfl);rw[eo,ep,eu,ei];obtain⟨n,A⟩: ∃n,n=put (put e (8+who) (a+62)) (11+k) (a+80):=⟨_,rfl⟩
     have E: ∀j,j≠8+who->j≠11+k->n j=e j:=fun j F h2=>by rw[A,dG h2,dG F]
     have dv:n (8+who)=a+62:=(by rw[A,dG (by omega),kQ]);have dx:n (11+k)=a+80:=(by rw[A,kQ]);have hW:XF c s1 u k=some who:=(by rw[az];exact Cw (by rw[<-C];exact cw) fs gg hinv (by rw[<-az];unfold Q1;rw[D,R];rfl));obtain⟨s',m⟩: ∃s',s'=bS c s1 (.adm who k):=⟨_,rfl⟩
     have hL:=ao.some hW;rw[<-m] at hL;have hy:COk c s':=(by rw[m];exact ES hb d (Ge o hW));have Y:aL s' who= {p with queue:=p.queue.drop 1,out:=p.out++[jo]}:=(by rw[m,cH rfl (by rw[d.pl];omega),if_pos rfl,<-S,cl,cd]);have Z:aU s' k= {v with pipe:=v.pipe++[jp],last:=who}:=(by rw[m,dF rfl (by rw[d.sl];omega),if_pos rfl,<-S,<-C,cp,cd]);obtain⟨Hm,g⟩: ∃Hm,Hm=(((((((H2.del (e (8+who))).del (e (11+k))).set (e 2) ⟨4,mp,rp.set who [cI p.next,.osl 1 (e (5+who)) (qo+1) (p.queue.length-1) (qc-1),.osl 3 (a+62) 0 (p.out.length+1) q,cI p.last]⟩).set (a+61) ⟨3,1,[eCJ jo]⟩).set (a+62) ⟨3,q,(p.out++[jo]).map eCJ⟩).set (a+79) ⟨3,1,[eCJ jp]⟩).set (a+80) ⟨3,cap,(v.pipe++[jp]).map eCJ⟩).set (e 3) ⟨3,mv,rv.set k [.osl 3 (a+80) 0 (v.pipe.length+1) cap,.osl 5 (e (15+k)) do_ v.done.length dc,cI who]⟩:=⟨_,rfl⟩
     have dy:=f.upd (H':=Hm) (nx':=a+100) who k n s' (by omega) ?_ ?_ ?_ ?_ ?_ ?_ (.inl M) (.inl o) (fun j hj i=>by rw[m,cH rfl (by rw[d.pl];omega),if_neg i]) (fun j hj i=>by rw[m,dF rfl (by rw[d.sl];omega),if_neg i])
     ·have mh:X nx\/nx=nx\/nx=nx+1:=.inr (.inl rfl);have cq:Hm i1=some ⟨5,1,[[dh,cI T,cI U,cI V,cI W]]⟩:=(by rw[g];simp only[aA.set,aA.del,t,if_false];exact ds);have dz:i1≠nx+1:=(by omega);refine ca _ _ _ (k+1,s',u.set who true,n) noF ((Hm.set (nx+1) ⟨3,1,[(u.set who true).map cB]⟩).set i1 ⟨5,1,[[dh,cI T,cI U,cI V,cI W].set (1+k) (cI 1)]⟩) (by omega) (by dsimp only;omega) (by repeat' first|exact C1|refine xqI rfl rfl ?_|refine xqP (by omega) rfl rfl ?_|fail) ?_ ⟨by dsimp only;omega,hy,(dy.1.ajM (.inr (.inr rfl))).cells o ((aA.aB dz).trans cq) rfl,fun id b=> ?_,hL,by simpa using L,?_⟩;·rw[g,cl,cp];exact aF
      ·have F:id≠i1:=by
        rintro rfl
        rcases b with b|rfl
        ·exact f.hap.i1.2 (.inl (.inl b))
        ·omega
       have h2:id≠nx+1:=by
        rcases b with b|rfl;·have:=hB.rep.x id (.inl b);omega
        ·omega
       rw[aA.aB F,aA.aB h2,dy.2 id (b.imp (fun h=>h) .inl)]
       exact J id b
      ·rw[aA.aB dz.symm];exact aA.aI
     ·rw[A];have ed: ∀v,ad<=v->¬((X v\/v=nx\/v=nx+1)\/v=i1):=fun v hv hn=>by have:=f.rep.x v hn;omega
      exact((f.rep.names.mono (by omega:ad<=a)).put (nx':=a+63) (by omega) (by omega) (ed _ (by omega))).put (by omega) (by omega) (ed _ (by omega))
     ·intro j hj;by_cases h4:j=8+who;·subst h4;exact .inr ⟨.inr (.inr (.inl rfl)),by omega⟩
      ·by_cases h8:j=11+k;·subst h8;exact .inr ⟨.inr (.inr (.inr (.inl rfl))),by omega⟩
       ·exact .inl (E j h4 h8)
     ·intro id b h0 i;rw[g];simp only[aA.set,aA.del,i 2 (by omega) (by omega),i 3 (by omega) (by omega),i (8+who) (by omega) (by omega),i (11+k) (by omega) (by omega),show ¬id=a+61 by omega,show ¬id=a+62 by omega,show ¬id=a+79 by omega,show ¬id=a+80 by omega,if_false]
     ·refine⟨wc,hc,pc,vc,tc,?_,?_,?_,?_,g6,g7⟩;·rw[g];simp only[aA.set,aA.del,t,if_false,kh,E 0 (by omega) (by omega),E 1 (by omega) (by omega),E 2 (by omega) (by omega),E 3 (by omega) (by omega),E 4 (by omega) (by omega)];rw[m];exact g0
      ·rw[E 0 (by omega) (by omega),m];exact g3.frame (by rw[g];simp only[aA.set,aA.del,t,if_false])
      ·rw[E 1 (by omega) (by omega),m];exact g4.frame (by rw[g];simp only[aA.set,aA.del,t,if_false])
      ·rw[E 4 (by omega) (by omega),m];exact g5.frame (by rw[g];simp only[aA.set,aA.del,t,if_false])
     ·refine⟨mp,rp.set who [cI p.next,.osl 1 (e (5+who)) (qo+1) (p.queue.length-1) (qc-1),.osl 3 (a+62) 0 (p.out.length+1) q,cI p.last],mp,rp,g1,by rw[g];simp only[aA.set,aA.del,t,if_false,if_true],by simp only[akI,g8],fun j hj i=>by rw[ak7 (Ne.symm i)],fun _=>⟨_,cy _,⟨qo+1,qc-1,q,?_,?_,?_⟩⟩⟩;·rw[Y,E (5+who) (by omega) (by omega),dv];simp only[Cp,akS,akG,List.length_singleton]
      ·rw[Y,E (5+who) (by omega) (by omega)];refine⟨mq,rq0,?_,by rw[amD,<-q2,alX],?_,by simp,?_,?_⟩;·rw[g];simp only[aA.set,aA.del,t,if_false];exact q1
       ·simp only[akS];omega
       ·simp only[akS];omega
       ·omega
      ·rw[Y,dv];refine⟨q,(p.out++[jo]).map eCJ,?_,rfl,by simp,by simp,by simpa using ab,by simp⟩;rw[g];simp only[aA.set,aA.del,t,if_false,if_true,akW,Nat.reduceEqDiff]
     ·refine⟨mv,rv.set k [.osl 3 (a+80) 0 (v.pipe.length+1) cap,.osl 5 (e (15+k)) do_ v.done.length dc,cI who],mv,rv,g2,by rw[g];exact aA.aI,by simp only[akI,g9],fun j hj i=>by rw[ak7 (Ne.symm i)],fun _=>⟨_,df _,⟨0,cap,do_,dc,?_,?_,?_⟩⟩⟩;·rw[Z,dx,E (15+k) (by omega) (by omega)];simp only[Gm,akG,List.length_singleton]
      ·rw[Z,dx];refine⟨cap,(v.pipe++[jp]).map eCJ,?_,rfl,by simp,by simp,by simpa using cf,by simp⟩;rw[g];simp only[aA.set,aA.del,t,if_false,if_true]
      ·rw[Z,E (15+k) (by omega) (by omega)];exact gd.frame (by rw[g];simp only[aA.set,aA.del,t,if_false])
    ·have R:decide (SF c s1 who k)=false:=decide_eq_false z;repeat' first| (first|apply vI|apply Y4 (by omega)|apply FO (s:=s1) hb d M o (f.rep.tn d.pl d.sl))<;>(simp only[go_sem,akB,akC,g0,g2,gs,al2,N,B,cc,O,hle,D,aa,R];try simp (disch:=omega) only[Iw])|apply vT (by omega)|refine⟨by omega,?_⟩|fail
     exact ct _ _ _ (j+1) noF _ (by omega) (by omega) (by repeat' first|exact C1|refine xqI rfl rfl ?_|refine xqP (by omega) rfl rfl ?_|fail) aF ⟨by omega,by omega,rfl,P (by unfold Q1;rw[D];rw[R];rfl)⟩
   ·repeat' first| (first|apply vI|apply Y5 (by omega))<;>(simp only[go_sem,akB,akC,g0,g2,gs];try simp (disch:=omega) only[Iw])|fail
    exact ca _ _ _ (k+1,s1,u,e) noF _ (by omega) (by dsimp only;omega) (by repeat' first|exact C1|refine xqI rfl rfl ?_|refine xqP (by omega) rfl rfl ?_|fail) aF ⟨by dsimp only;omega,d,f.mono (by omega),J,ao.none (Cc fun y F h2=>hinv y F (by omega)),L,B⟩
  ·repeat' first| (first|apply vI|refine Y6 (fun h=> ?_) fun h=> ?_)<;>(simp only[go_sem,akB,akC,g0,g2,gs];try simp (disch:=omega) only[Iw])|apply vF (by omega)|fail
   all_goals exact ca _ _ _ (k+1,s1,u,e) noF _ (by omega) (by dsimp only;omega) (by repeat' first|exact C1|refine xqI rfl rfl ?_|refine xqP (by omega) rfl rfl ?_|fail) aF ⟨by dsimp only;omega,d,f.mono (by omega),J,ao.none (Hh (by rw[<-C];exact cw)),L,B⟩
 ·repeat' first|apply vI<;>(simp only[go_sem])|apply vF (by omega)|fail
  have hz:k=4:=by omega
  subst hz;obtain rfl:=br;refine hQ _ _ _ _ _ (.inl rfl) rfl (h _ _ e (by omega) (f.next (by omega) (fun _ _ _=>rfl) fun id b=>⟨?_,.inl (.inl b)⟩) fun id b=> ?_);·have:=hB.rep.x id (.inl b);omega
  ·have:=hB.rep.x id (.inl b);rw[J id (.inl b),I,aA.aB (by omega),aA.aB (by omega)]
end
theorem ZX{i:CIn}{s:CSt}{st:Nat}(h:i.iP.getD st default=true\/(aU s st).pipe.length=0):AA i s st=none:=if_pos h
theorem ui{i:CIn}{s:CSt}{st:Nat}(h: ¬(i.iP.getD st default=true\/(aU s st).pipe.length=0))(a:0<(dZ s st).left):AA i s st=some (.tick st):=by unfold AA;rw[if_neg h,if_pos a]
theorem yl{i:CIn}{s:CSt}{st:Nat}(h: ¬(i.iP.getD st default=true\/(aU s st).pipe.length=0))(a: ¬0<(dZ s st).left)(b:(aU s st).done.length<2):AA i s st=some (.work st):=by unfold AA;rw[if_neg h,if_neg a,if_pos b]
theorem xt{i:CIn}{s:CSt}{st:Nat}(h: ¬(i.iP.getD st default=true\/(aU s st).pipe.length=0))(a: ¬0<(dZ s st).left)(b: ¬(aU s st).done.length<2):AA i s st=none:=by unfold AA;rw[if_neg h,if_neg a,if_neg b]
section
variable{H:aA}{nx:Nat}{K:an4}
theorem Q5{X:Nat->Prop}{c:Cfg}{i:CIn}{s:CSt}{es:List Ev}{i0 i1:Nat}{nm:Nat->Nat}(hb:bI c)(hs:COk c s)(hy:i.iP.length=4)(hB:qW X H nx i0 i1 nm s es)(hl:es.length<900)
 (h: ∀H' nx' E,nx<=nx'->qW X H' nx' i0 i1 E (mU c s (PL c i s)) (es++jV c s (PL c i s))->(∀id,X id->H' id=H id)->K (.tup []) H' nx'):
 an3 rR [.one (.c (.ptr 5 i0 0 0)),dA (cD c),dA (eIn i),.one (.c (.ptr 5 i1 0 0))] H nx K:=by
 refine bA.mk Tryz.func188 (by kernel_rfl) PV rfl fun Q hQ=> ?_
 unfold lE
 obtain⟨hz,ia⟩:=eN hb
 obtain⟨wc,hc,pc,vc,tc,dx,ih,iv,iw,jh,jo⟩: ∃wc hc pc vc tc,H i0=some ⟨5,1,[[.osl 1 (nm 0) 0 s.words.length wc,.osl 1 (nm 1) 0 s.holds.length hc,.osl 4 (nm 2) 0 3 pc,.osl 3 (nm 3) 0 4 vc,.osl 5 (nm 4) 0 s.told.length tc]]⟩/\_:=by obtain⟨cells,h1,⟨wc,hc,pc,vc,tc,rfl,h2⟩,_⟩:=hB.rep.st;exact⟨wc,hc,pc,vc,tc,h1,h2⟩
 have f:=hB.rep.apart (nx':=nx) [] [] (akA _) (by simp) (by simp) (by simp) (by simp)
 simp only[bH,cU,List.map,List.nil_append] at f
 repeat' first|apply vI<;>(simp only[go_sem,akB,akC,dx,f])|fail
 obtain⟨H0,M⟩: ∃H0,H0=(H.set nx ⟨3,1,[cD c]⟩).set (nx+1) ⟨3,1,[eIn i]⟩:=⟨_,rfl⟩
 rw[<-M]
 have dy:H0 nx=some ⟨3,1,[cD c]⟩:=by rw[M,aA.aB (by omega)];exact aA.aI
 have dz:H0 (nx+1)=some ⟨3,1,[eIn i]⟩:=by rw[M];exact aA.aI
 have ei:=hB.rep.i0.1
 have eo:=hB.hap.i1.1
 have ep:qW (fun id=>X id\/id=nx\/id=nx+1) H0 (nx+8) i0 i1 nm s es:=hB.next (by omega) (fun id h1 h2=>by rw[M,aA.aB (by omega),aA.aB (by omega)]) fun id b=>by
  rcases b with b|rfl|rfl;·have:=hB.rep.x id (.inl b);exact⟨by omega,.inl b⟩
  ·exact⟨by omega,.inr (akA _)⟩
  ·exact⟨by omega,.inr (by omega)⟩
 refine aH.cE (β:=Nat×CSt×List Ev×(Nat->Nat)) (fun u=>en [(16,dI u.1),(15,dI 4),(6,.one (.c (.ptr 3 (nx+1) 0 0))),(5,.one (.c (.ptr 3 nx 0 0))),(3,.one (.c (.ptr 5 i1 0 0))),(0,.one (.c (.ptr 5 i0 0 0)))])
  (fun u H1 t=>u.1<=4/\COk c u.2.1/\qW (fun id=>X id\/id=nx\/id=nx+1) H1 t i0 i1 u.2.2.2 u.2.1 u.2.2.1/\(∀id,X id\/id=nx\/id=nx+1->H1 id=H0 id)/\FL c (AA i) ([0,1,2,3].drop u.1) u.2.1 u.2.2.1 (mU c s (PL c i s)) (es++jV c s (PL c i s))/\u.2.2.1.length<=es.length+u.1)
  (fun u=>4-u.1) (0,s,es,nm) ⟨noF,_,by repeat' first|exact C1|refine xqI rfl rfl ?_|refine xqP (by omega) rfl rfl ?_|fail,aF,by dsimp only;omega,hs,ep.mono (by omega),fun _ _=>rfl,⟨rfl,rfl⟩,by simp⟩ ?_
 rintro⟨k,s1,N,p⟩ H1 t ju ⟨hk,m,g,F,ab,et⟩ KL O
 dsimp only at hk m g ab et
 obtain⟨wc,hc,pc,vc,tc,mp,rp,mv,rv,W,g1,Y,g3,g4,g5,g6,g7,g8,g9,ga,gb⟩:=g.rep.get
 have I:H1 (nx+1)=some ⟨3,1,[eIn i]⟩:=by rw[F _ (.inr (.inr rfl))];exact dz
 have ad:H1 nx=some ⟨3,1,[cD c]⟩:=by rw[F _ (.inr (.inl rfl))];exact dy
 by_cases B:k<4
 ·have L:=ab;rw[Qo B] at L;obtain⟨v,y⟩: ∃v,v=aU s1 k:=⟨_,rfl⟩
  obtain⟨po,ao,do_,dc,gs,gp,gd⟩:=gb k B;rw[<-y] at gs gp gd;obtain⟨md,rd,d1,d2,d3,d4,d5,d6⟩:=gd.ex;obtain⟨me,re,p1,p2,p3,p4,p5,p6⟩:=gp.ex;rw[akU] at d4 p4
  cases J:i.iP.getD k default with
  |true=>
   repeat' first|apply vI<;>(simp only[go_sem,akB,akC,W,Y,gs,I,J];try simp (disch:=omega) only[Iw])|apply vT (by omega)|refine⟨by omega,?_⟩|fail
   exact O _ _ _ (k+1,s1,N,p) noF _ (by omega) (by dsimp only;omega) (by repeat' first|exact C1|refine xqI rfl rfl ?_|refine xqP (by omega) rfl rfl ?_|fail) aF ⟨by dsimp only;omega,m,g.mono (by omega),F,L.none (ZX (.inl J)),by dsimp only;omega⟩
  |false=>
  have eu: ∀{A:Prop},¬(i.iP.getD k default=true\/A)↔¬A:=fun {A}=>by rw[J];simp
  by_cases cl:v.pipe.length=0
  ·have hlen:((v.pipe.length:Int)=0)=True:=eq_true (by omega);repeat' first|apply vI<;>(simp only[go_sem,akB,akC,W,Y,gs,I,J,hlen];try simp (disch:=omega) only[Iw])|apply vT (by omega)|refine⟨by omega,?_⟩|fail
   exact O _ _ _ (k+1,s1,N,p) noF _ (by omega) (by dsimp only;omega) (by repeat' first|exact C1|refine xqI rfl rfl ?_|refine xqP (by omega) rfl rfl ?_|fail) aF ⟨by dsimp only;omega,m,g.mono (by omega),F,L.none (ZX (.inr (by rw[<-y];exact cl))),by dsimp only;omega⟩
  have az: ¬(i.iP.getD k default=true\/(aU s1 k).pipe.length=0):=by rw[<-y];exact eu.2 cl
  have hlen:((v.pipe.length:Int)=0)=False:=eq_false (by omega);obtain⟨j,T⟩: ∃j,j=v.pipe.getD 0 default:=⟨_,rfl⟩
  have C:dZ s1 k=j:=by rw[T,y];rfl
  have p7:re[po]?=some (eCJ j):=by have:(re.drop po)[0]?=some (eCJ j):=(by rw[p2,akN];simp[T,List.getD,show 0<v.pipe.length by omega]);rwa [akY,Nat.add_zero] at this
  have f:=g.rep.apart (nx':=t) [nx,nx+1] [0,1,2,3,4,11+k,15+k] (akA _) (by simp) (fun x hx=>.inl (.inr (by simpa using hx))) (by simp;omega) (by simp;omega);simp only[bH,cU,List.map,List.cons_append,List.nil_append] at f;have ew:=m.slv k B;have ff:j∈(aU s1 k).pipe:=by rw[T,y];exact bL (by rw[<-y];omega)
  obtain⟨cp,Z,br⟩:=m.vIn B (km ff);dsimp only at cp Z br;have aa:rI c j.who j.n:=by have:=(m.port j.who.toNat (by omega)).asks (n:=j.n) (by omega) Z (by omega);rwa [show ((j.who.toNat:Nat):Int)=j.who by omega] at this
  have fh:=(ew.left 0 (by rw[<-y];omega)).1;rw[<-y,<-T] at fh;have fm:=il hb B;have fo:=MQ hb aa;have kc:=hb.1.1;have cq: ∀r,(rv.set k r)[k]?=some r:=fun r=>by rw[ak6 (by omega)]
  obtain⟨ct,cw,cx⟩:=aa;have kf:s1.told.length<=36:=by have:=m.st.lens hb;simp only[dH] at this;omega
  obtain⟨mw,kt,w1,w2,w3,w4,w5,w6⟩:=g3.ex;obtain⟨mh,la,fr,cy,lb,lk,fs,gf⟩:=g4.ex;rw[alK] at w2 cy;subst w2;subst cy;refine aH.EN fun gg=> ?_;have ca: ∀k l,msk (t+k) l H1=H1:=fun k l=>CW gg (by omega);by_cases cc:0<j.left
  ·repeat' first|apply vI<;>(simp only[go_sem,akB,akC,ca,umS (G:=H1),umD (G:=H1),umB,W,Y,gs,I,J,hlen,p1,p7,f];try simp (disch:=omega) only[Iw])|apply vT (by omega)|refine⟨by omega,?_⟩|fail
   have hO:AA i s1 k=some (.tick k):=ui az (by rw[C];exact cc);have hL:=L.some hO;obtain⟨s',o⟩: ∃s',s'=bS c s1 (.tick k):=⟨_,rfl⟩
   rw[<-o,show JE s1 (.tick k)=[] from rfl,alE] at hL;have P:COk c s':=(by rw[o];exact ES hb m (S7 m B hO));have z:aU s' k= {v with pipe:=v.pipe.set 0 {j with left:=j.left-1}}:=(by rw[o,dF rfl (by rw[m.sl];omega),if_pos rfl,C,<-y]);have df:=g.upd (H':=(H1.set (t+29) ⟨3,1,[eCJ j]⟩).set (p (11+k)) ⟨3,me,re.set po [cI j.who,cI j.n,cI (j.left-1)]⟩) (nx':=t+48) 14 k p s' (by omega) (g.rep.names.mono (by omega)) (fun j _=>.inl rfl) ?_ ?_ ?_ ?_ (.inr rfl) (.inl B) (fun j hj w=>by rw[o];rfl) (fun j hj w=>by rw[o,dF rfl (by rw[m.sl];omega),if_neg w]);·exact O _ _ _ (k+1,s',N,p) noF _ (by omega) (by dsimp only;omega) (by repeat' first|exact C1|refine xqI rfl rfl ?_|refine xqP (by omega) rfl rfl ?_|fail) aF ⟨by dsimp only;omega,P,df.1,fun id b=>(df.2 id b).trans (F id b),hL,by dsimp only;omega⟩
   ·intro id b h0 w;rw[aA.aB (w (11+k) (by omega) (by omega)),aA.aB (by omega)]
   ·refine⟨wc,hc,pc,vc,tc,?_,?_,?_,?_,g6,g7⟩;·simp only[aA.set,f,if_false];rw[W,o];rfl
    ·rw[o];exact g3.frame (by simp only[aA.set,f,if_false])
    ·rw[o];exact g4.frame (by simp only[aA.set,f,if_false])
    ·rw[o];exact g5.frame (by simp only[aA.set,f,if_false])
   ·exact⟨mp,rp,mp,rp,g1,by simp only[aA.set,f,if_false];exact g1,g8,fun _ _ _=>rfl,fun hh=>by omega⟩
   ·refine⟨mv,rv,mv,rv,Y,by simp only[aA.set,f,if_false];exact Y,g9,fun _ _ _=>rfl,fun _=>⟨_,gs,⟨po,ao,do_,dc,?_,?_,?_⟩⟩⟩;·rw[z];simp only[Gm,akI]
    ·rw[z];refine⟨me,_,aA.aI,?_,by simpa using p3,by simp,by simpa using p5,p6⟩;rw[List.drop_set,if_neg (by omega),al9,p2,al8];rfl
    ·rw[z];exact gd.frame (by simp only[aA.set,f,if_false])
  by_cases dh:v.done.length<2
  ·repeat' first|apply vI<;>(simp only[go_sem,akB,akC,ca,umS (G:=H1),umD (G:=H1),umB,W,Y,gs,cq,ak4,ad,I,J,hlen,p1,p7,f])|apply vT (by omega)|apply vF (by omega)|refine⟨by omega,?_⟩|fail
   refine UC (q:=bO c j.who j.n) (m0:=mw) (m1:=mh) (i0:=i0) (by omega) m.atm w5 fs cp fo ?_ ?_ (by simp only[aA.set,f,if_false];exact W) (by simp only[aA.set,f,if_false];exact w1) (by simp only[aA.set,f,if_false];exact fr) (fun H' nx' ma f1 f2 U=> ?_);·have:=g.rep.i0.1;have:=g.rep.names.lt 0 (by omega);have:=g.rep.names.lt 1 (by omega);omega
   ·simp only[alG,akK,alM,or_false,not_or,f,not_false_eq_true,and_self,List.nodup_nil]
   have V: ∀a,a<19->p a<t:=g.rep.names.lt;have e3:H' (p 3)=some ⟨3,mv,rv.set k [.osl 3 (p (11+k)) (po+1) (v.pipe.length-1) (ao-1),.osl 5 (p (15+k)) do_ v.done.length dc,cI v.last]⟩:=(by rw[U _ (by have:=V 3 (by omega);omega) (by simp only[ne_eq,f,not_false_eq_true]) (by simp only[ne_eq,f,not_false_eq_true])];exact aA.aI);have ej:H' (t+29)=some ⟨3,1,[eCJ j]⟩:=(by rw[U _ (by omega) (by have:=V 0 (by omega);omega) (by have:=V 1 (by omega);omega)];simp only[aA.set,f,if_false,if_true]);have ed:H' (p (15+k))=some ⟨5,md,rd⟩:=(by rw[U _ (by have:=V (15+k) (by omega);omega) (by simp only[ne_eq,f,not_false_eq_true]) (by simp only[ne_eq,f,not_false_eq_true])];simp only[aA.set,f,if_false];exact d1);have D:=g.rep.apart (nx':=nx') [nx,nx+1] [0,1,2,3,4,11+k,15+k] (by omega) (by simp) (fun x hx=>.inl (.inr (by simpa using hx))) (by simp;omega) (by simp;omega);simp only[bH,cU,List.map,List.cons_append,List.nil_append] at D;simp only[go_sem,akB,akC,msk,List.map,akK,alM,or_false,akW,Nat.reduceEqDiff,Nat.reduceAdd,e3,ej,ed,cq,f,D,if_false,if_true,ak4];refine⟨⟨by omega,by omega⟩,by omega,fun cap cd mm=> ?_⟩;obtain⟨d,cf⟩: ∃d:Job,d=⟨j.who,j.n,(doM c.map s1.words s1.holds j.who (bO c j.who j.n)).2⟩:=⟨_,rfl⟩
   have er:List.take v.done.length (List.drop do_ rd)++[cI j.who::cI j.n::nS (doM c.map s1.words s1.holds j.who (bO c j.who j.n)).snd]=(v.done++[d]).map aP:=(by rw[d2,akM (by simp),akQ,cf];rfl);have gq:[cI j.who::cI j.n::nS (doM c.map s1.words s1.holds j.who (bO c j.who j.n)).snd]=[aP d]:=(by rw[cf];rfl);rw[er,gq];repeat' first|apply vI<;>(simp only[go_sem,akB,akC,ej,f,D])|fail
   obtain⟨E,R⟩: ∃E,E=put p (15+k) (t+80):=⟨_,rfl⟩
   have S: ∀j,j≠15+k->E j=p j:=fun j h1=>by rw[R,dG h1]
   have ds:E (15+k)=t+80:=(by rw[R,kQ]);have hO:AA i s1 k=some (.work k):=yl az (by rw[C];exact cc) (by rw[<-y];exact dh);have hL:=L.some hO;obtain⟨s',o⟩: ∃s',s'=bS c s1 (.work k):=⟨_,rfl⟩
   rw[<-o,show JE s1 (.work k)=[⟨2,j.who,j.n⟩] from by rw[<-C];rfl] at hL;have P:COk c s':=(by rw[o];exact ES hb m (S7 m B hO));have z:aU s' k= {v with pipe:=v.pipe.drop 1,done:=v.done++[d]}:=(by rw[o,dF rfl (by rw[m.sl];omega),if_pos rfl,C,<-y,cf];unfold O6;rw[C]);have gr:s'.words=(doM c.map s1.words s1.holds j.who (bO c j.who j.n)).1.1:=(by rw[o,<-C];rfl);have ha:s'.holds=(doM c.map s1.words s1.holds j.who (bO c j.who j.n)).1.2:=(by rw[o,<-C];rfl);have hd:s'.words.length=s1.words.length:=(by obtain⟨h1,_⟩:=P.atm;obtain⟨h2,_⟩:=m.atm;omega);have hf:s'.holds.length=s1.holds.length:=(by obtain⟨_,_,h1,_⟩:=P.atm;obtain⟨_,_,h2,_⟩:=m.atm;omega);rw[<-gr] at f1;rw[<-ha] at f2;have dv:s'.told=s1.told:=(by rw[o];rfl);have hH: ∀id,id<t->id≠p 0->id≠p 1->id≠p 3->H' id=H1 id:=fun id e e0 e1 e3=>by rw[U id (by omega) e0 e1,aA.aB e3,aA.aB (by omega)]
   refine Mb (g.upd 14 k E s' (by omega) ?_ ?_ ?_ ?_ ?_ ?_ (.inr rfl) (.inl B) (fun j hj w=>by rw[o];rfl) (fun j hj w=>by rw[o,dF rfl (by rw[m.sl];omega),if_neg w])) (by omega) fun H2 mn hx hg ho=> ?_
   ·rw[R];have hq: ∀v,t<=v->¬((X v\/v=nx\/v=nx+1)\/v=i1):=fun v hv V=>by have:=g.rep.x v V;omega
    exact g.rep.names.put (by omega) (by omega) (hq _ (by omega))
   ·intro j hj;by_cases h4:j=15+k;·subst h4;exact .inr ⟨.inr (.inr (.inr (.inr rfl))),by omega⟩
    ·exact .inl (S j h4)
   ·intro id b h0 w;have e3:=w 3 (by omega) (by omega);simp only[aA.set,aA.del,e3,w (15+k) (by omega) (by omega),show ¬id=t+79 by omega,show ¬id=t+80 by omega,if_false];exact hH id b (w 0 (by omega) (by omega)) (w 1 (by omega) (by omega)) e3
   ·refine⟨wc,hc,pc,vc,tc,?_,?_,?_,?_,g6,g7⟩;·simp only[aA.set,aA.del,f,D,if_false,kh,S 0 (by omega),S 1 (by omega),S 2 (by omega),S 3 (by omega),S 4 (by omega),hd,hf,dv];rw[hH i0 (by have:=g.rep.i0.1;omega) (by simp only[ne_eq,f,not_false_eq_true]) (by simp only[ne_eq,f,not_false_eq_true]) (by simp only[ne_eq,f,not_false_eq_true])];exact W
    ·rw[S 0 (by omega)];exact⟨mw,s'.words.map aG,by simp only[aA.set,aA.del,f,D,if_false];exact f1,rfl,by simp,by simp,by omega,w6⟩
    ·rw[S 1 (by omega)];exact⟨mh,s'.holds.map aG,by simp only[aA.set,aA.del,f,D,if_false];exact f2,rfl,by simp,by simp,by omega,gf⟩
    ·rw[S 4 (by omega),dv];apply g5.frame;simp only[aA.set,aA.del,f,D,if_false];exact hH _ (V 4 (by omega)) (by simp only[ne_eq,f,not_false_eq_true]) (by simp only[ne_eq,f,not_false_eq_true]) (by simp only[ne_eq,f,not_false_eq_true])
   ·refine⟨mp,rp,mp,rp,g1,?_,g8,fun _ _ _=>rfl,fun hh=>by omega⟩;simp only[aA.set,aA.del,f,D,if_false];rw[hH _ (V 2 (by omega)) (by simp only[ne_eq,f,not_false_eq_true]) (by simp only[ne_eq,f,not_false_eq_true]) (by simp only[ne_eq,f,not_false_eq_true])];exact g1
   ·refine⟨mv,_,mv,rv,Y,aA.aI,by simp only[akI,g9],fun j hj w=>by rw[ak7 (Ne.symm w)],fun _=>⟨_,ak6 (by omega),⟨po+1,ao-1,0,cap,?_,?_,?_⟩⟩⟩;·rw[z,S (11+k) (by omega),ds];simp only[Gm,akS,akG,List.length_singleton]
    ·rw[z,S (11+k) (by omega)];refine⟨me,re,?_,by rw[amD,<-p2,alX],?_,by simp,?_,?_⟩;·simp only[aA.set,aA.del,f,D,if_false];rw[hH _ (V (11+k) (by omega)) (by simp only[ne_eq,f,not_false_eq_true]) (by simp only[ne_eq,f,not_false_eq_true]) (by simp only[ne_eq,f,not_false_eq_true])];exact p1
     ·simp only[akS];omega
     ·simp only[akS];omega
     ·omega
    ·rw[z,ds];refine⟨cap,(v.done++[d]).map aP,by simp only[aA.set,aA.del,f,if_false,if_true],rfl,by simp,by simp,by simpa using cd,by simp⟩
   ·simp only[go_sem];repeat' first|apply vI<;>(simp only[go_sem];try simp (disch:=omega) only[Iw])|fail
    exact O _ _ _ (k+1,s',N++[⟨2,j.who,j.n⟩],E) noF _ (by omega) (by dsimp only;omega) (by repeat' first|exact C1|refine xqI rfl rfl ?_|refine xqP (by omega) rfl rfl ?_|fail) aF ⟨by dsimp only;omega,P,hg.mono (by omega),fun id b=>(ho id b).trans (F id b),hL,by simp;omega⟩
  ·repeat' first|apply vI<;>(simp only[go_sem,akB,akC,ca,umS (G:=H1),umD (G:=H1),umB,W,Y,gs,I,J,hlen,p1,p7,f];try simp (disch:=omega) only[Iw])|apply vT (by omega)|apply vF (by omega)|refine⟨by omega,?_⟩|fail
   have hO:=xt az (by rw[C];exact cc) (by rw[<-y];exact dh);refine O _ _ _ (k+1,s1,N,p) noF _ (by omega) (by dsimp only;omega) (by repeat' first|exact C1|refine xqI rfl rfl ?_|refine xqP (by omega) rfl rfl ?_|fail) aF ⟨by dsimp only;omega,m,g.next (by omega) (fun id h1 h2=>by rw[aA.aB (by omega)]) fun id b=>⟨?_,.inl b⟩,fun id b=> ?_,L.none hO,by dsimp only;omega⟩;·have:=g.rep.x id (.inl b);omega
   ·have:=g.rep.x id (.inl b);rw[aA.aB (by omega)];exact F id b
 ·repeat' first|apply vI<;>(simp only[go_sem])|apply vF (by omega)|fail
  have ht:k=4:=by omega
  subst ht;obtain⟨rfl,rfl⟩:=FL.nil ab;refine hQ _ _ _ _ _ (.inl rfl) rfl (h _ _ p (by omega) (g.next (by omega) (fun _ _ _=>rfl) fun id b=>⟨?_,.inl (.inl b)⟩) fun id b=> ?_);·have:=hB.rep.x id (.inl b);omega
  ·have:=hB.rep.x id (.inl b);rw[F id (.inl b),M,aA.aB (by omega),aA.aB (by omega)]
end
end Go.Proofs.YtlncecohbakleaaGreat
