/- Rules and contracts. -/
import Derived.Test.YtlncecohbakleaaGreatPR8
import Derived.Test.YtlncecohbakleaaGreatPR7
set_option linter.unusedVariables false
set_option linter.unusedSimpArgs false
set_option maxRecDepth 100000
set_option maxHeartbeats 8000000
namespace Go.AM
theorem oR.cells{X:Nat->Prop}{H:aA}{nx i0 i1:Nat}{nm:Nat->Nat}{s:CSt}{es:List Ev}(h:oR X H nx i0 i1 nm s es){r r':List D1}{k:Nat}(j:k<4)(p:H i1=some ⟨5,1,[r]⟩)(hr:r'=r.set (1+k) (cI 1)):oR X (H.set i1 ⟨5,1,[r']⟩) nx i0 i1 nm s es:=by
 subst hr;have g:=h.rep.names.av;have i:=h.rep.i0;refine⟨h.rep.frame (abG _) (aA.aB fun he=>i.2 (.inr he)) (fun k j=>aA.aB fun he=>g k j (.inr he)) fun id f=>⟨h.rep.x id f,fun he=>i.2 (he▸f),fun k j he=>g k j (he▸f)⟩,?_⟩;obtain⟨⟨d,a,b,c,e,n,m⟩,q,t⟩:=h.hap;rw[p] at n;obtain rfl:r=[d,cI a,cI b,cI c,cI e]:=by simpa using n
 have l:Wc (fun id=>X id\/id=i0\/ ∃k,k<19/\id=nm k) (H.set i1 ⟨5,1,[[d,cI a,cI b,cI c,cI e].set (1+k) (cI 1)]⟩) nx i1 es d:=by
  rcases m with m|⟨ev,cap,u,v,w,y,o⟩
  ·exact .inl m
  ·exact .inr ⟨ev,cap,u,v.frame (aA.aB o),w,y,o⟩
 refine⟨?_,q,t⟩;obtain rfl|rfl|rfl|rfl:k=0\/k=1\/k=2\/k=3:=by omega
 ·exact⟨d,1,b,c,e,aA.aI,l⟩
 ·exact⟨d,a,1,c,e,aA.aI,l⟩
 ·exact⟨d,a,b,1,e,aA.aI,l⟩
 ·exact⟨d,a,b,c,1,aA.aI,l⟩
theorem oR.aa8{X:Nat->Prop}{H:aA}{nx i0 i1:Nat}{nm:Nat->Nat}{s:CSt}{es:List Ev}{j:Nat}{o:bM}(h:oR X H nx i0 i1 nm s es)(b:X j):oR X (H.set j o) nx i0 i1 nm s es:=h.next (abG _) (fun id _ c=>aA.aB fun he=>c (he▸b)) fun id a=>⟨h.rep.x id (.inl a),.inl a⟩
end Go.AM
namespace Go.Proofs.YtlncecohbakleaaGreat
open Go Go.AM
attribute [local irreducible] aJ wv aC vd wvH
section
variable{H:aA}{nx:Nat}{K:afC}
theorem OR{Y:Nat->Prop}{i1:Nat}{es:List Ev}{kind who n:Int}(v:Hu Y H nx i1 es)(hl:es.length<1000)
 (h: ∀H' nx',nx<=nx'->Hu Y H' nx' i1 (es++[⟨kind,who,n⟩])->(∀id,Y id->H' id=H id)->K (.tup []) H' nx'):afB fV [.one (.c (.ptr 5 i1 0 0)),dI kind,dI who,dI n] H nx K:=by
 obtain⟨⟨d,a,b,c,e,q,w⟩,⟨F,i⟩,g⟩:=v
 have r: ∀k,(i1=nx+k)=False:=fun k=>eq_false (by omega)
 have j: ∀k,(nx+k=i1)=False:=fun k=>eq_false (by omega)
 refine bR.mk Tryz.func267 (by kernel_rfl) M6 rfl fun Q s=> ?_
 unfold lH
 rcases w with⟨rfl,rfl⟩|⟨ev,cap,rfl,⟨m,rows,x,t,G,I,J,L⟩,M,y,u⟩
 ·repeat' first|apply vI<;>(simp only[go_sem,q,r,j])| (with_reducible first|refine fun(cap:Nat) (f:_<=cap)=> ?_|refine fun(l:_<=cap)=> ?_)|fail
  refine s _ _ _ _ _ (.inl rfl) rfl (h _ _ (by omega) ⟨⟨_,a,b,c,e,by simp only[aA.set,if_true];rfl,.inr ⟨nx+10,cap,rfl,⟨_,_,by simp only[aA.set,j,if_false,if_true];rfl,rfl,by simp,by simp,by simpa using f,by simp⟩,by omega,fun o=>by have:=g _ o;omega,by omega⟩⟩,⟨by omega,i⟩,fun id hi=>by have:=g id hi;omega⟩ fun id hi=> ?_);have z:=g id hi;have p:id≠i1:=fun he=>i (he▸hi);simp only[aA.set,p,show ¬id=nx+9 by omega,show ¬id=nx+10 by omega,if_false]
 ·have A: ∀k,(ev=nx+k)=False:=fun k=>eq_false (by omega);have B: ∀k,(nx+k=ev)=False:=fun k=>eq_false (by omega);have C:=eq_false u;have D:=eq_false (Ne.symm u);rw[acK] at t;subst t;repeat' first|apply vI<;>(simp only[go_sem,q,r,j,A,B,C,D,x])| (with_reducible first|refine fun(cap:Nat) (f:_<=cap)=> ?_|refine fun(l:_<=cap)=> ?_)|refine⟨by omega,?_⟩|fail
  refine s _ _ _ _ _ (.inl rfl) rfl (h _ _ (by omega) ⟨⟨_,a,b,c,e,by simp only[aA.set,if_true];rfl,.inr ⟨nx+10,cap,by simp,⟨_,_,by simp only[aA.set,j,if_false,if_true];rfl,by simp[eEv],by simp,by simp,by simpa using f,by simp⟩,by omega,fun o=>by have:=g _ o;omega,by omega⟩⟩,⟨by omega,i⟩,fun id hi=>by have:=g id hi;omega⟩ fun id hi=> ?_);have z:=g id hi;have p:id≠i1:=fun he=>i (he▸hi);have E:id≠ev:=fun he=>y (he▸hi);simp only[aA.set,aA.del,p,E,show ¬id=nx+9 by omega,show ¬id=nx+10 by omega,if_false]
theorem Yr{X:Nat->Prop}{i0 i1:Nat}{nm:Nat->Nat}{s:CSt}{es:List Ev}{kind who n:Int}(hB:oR X H nx i0 i1 nm s es)(hl:es.length<1000)
 (h: ∀H' nx',nx<=nx'->oR X H' nx' i0 i1 nm s (es++[⟨kind,who,n⟩])->(∀id,X id->H' id=H id)->K (.tup []) H' nx'):afB fV [.one (.c (.ptr 5 i1 0 0)),dI kind,dI who,dI n] H nx K:=by
 refine OR hB.hap hl fun H' nx' e hc b=>h H' nx' e ⟨hB.rep.frame e (b _ (.inr (.inl rfl))) (fun k d=>b _ (.inr (.inr ⟨k,d,rfl⟩))) fun id a=>⟨?_,fun he=>hB.rep.i0.2 (he▸a),fun k d he=>hB.rep.names.av k d (he▸a)⟩,hc⟩ fun id a=>b id (.inl a)
 have:=hB.rep.x id a;omega
theorem Ca{X:Nat->Prop}{H0:aA}{i0 i1:Nat}{nm:Nat->Nat}{s:CSt}{es:List Ev}{kind who n:Int}(hB:oR X H nx i0 i1 nm s es/\ ∀id,X id->H id=H0 id)(hl:es.length<1000)
 (h: ∀H' nx',nx<=nx'->oR X H' nx' i0 i1 nm s (es++[⟨kind,who,n⟩])->(∀id,X id->H' id=H0 id)->K (.tup []) H' nx'):afB fV [.one (.c (.ptr 5 i1 0 0)),dI kind,dI who,dI n] H nx K:=
 Yr hB.1 hl fun H' nx' b d e=>h H' nx' b d fun id a=>(e id a).trans (hB.2 id a)
theorem uD(l:List gD)(f:FuncId)(caps:List D1)(p:gD->Bool)(hl:l.length<2^40)(hc:caps.all D1.eS=true)(j: ∀x∈l,∀(H:aA) (nx:Nat) (K:afC),K (dB (p x)) H nx->afB f (dA (eCJ x)::caps.map fun d=>.one (.c d)) H nx K):
 afB cZ [dS (l.map eCJ),.one (.c (.clo f caps))] .nil 0 fun r _ _=>r.plain=true/\r=dI (bP p l):=by
 refine aR.mk Tryz.func319 (by kernel_rfl) tD rfl fun Q g=> ?_
 unfold eI
 repeat' first|apply vI<;>(simp only[go_sem])|fail
 (refine aJ.loop (α:={k:Nat//k<=l.length/\(∀i,i<k->p (l.getD i default)=false)}) (fun u=>en [(8,dI u.1),(7,dI l.length),(1,.one (.c (.clo f caps))),(0,dS (l.map eCJ))]) (fun _=>.nil) _ (fun u=>l.length-u.1) ⟨0,by omega,(by intros;first|trivial|omega)⟩ (bF (abG _) (by repeat' first|exact C1|refine xqI rfl rfl ?_| (with_reducible apply C2)| ((with_reducible apply C0);exact CH (by assumption))| ((with_reducible apply D0);apply CJ)|fail)) ?_);(rintro⟨k,m,hinv⟩ n b)
 by_cases e:k<l.length
 ·have a:l.getD k default∈l:=by simp[List.getD,e]
  repeat' first| (first|apply vI|apply j _ a _ _ _)<;>(simp only[go_sem];try simp (disch:=omega) only[Iw])|apply vT (by omega)| ((refine y5 (fun h=> ?_) (fun h=> ?_))<;>try subst h)|refine⟨by omega,?_⟩|fail
  ·refine aP g _ rfl rfl (nP (acD (CU (by omega) (by assumption) hinv)))
  · (refine b _ _ _ ⟨k+1,by omega,bL hinv (by assumption)⟩ (by omega) (by(try dsimp only);omega) (bF (abG _) (by repeat' first|exact C1|refine xqI rfl rfl ?_| (with_reducible apply C2)| ((with_reducible apply C0);exact CH (by assumption))| ((with_reducible apply D0);apply CJ)|fail)))
 ·repeat' first|apply vI<;>(simp only[go_sem])|apply vF (by omega)|fail
  ·refine aP g _ rfl rfl (nP (acD (qC fun i hi=>hinv i (by omega))))
theorem kW{l:List gD}{f:FuncId}{caps a:List D1}{p:gD->Bool}{d:D}(hl:l.length<2^40)(hc:caps.all D1.eS=true)(b:CvD H (fun _=>True) id 0 (dS (l.map eCJ)) d)(e:CvD H (fun _=>True) id 0 (.one (.c (.clo f caps))) (.one (.c (.clo f a))))(g: ∀x∈l,∀(H:aA) (nx:Nat) (K:afC),K (dB (p x)) H nx->afB f (dA (eCJ x)::caps.map fun d=>.one (.c d)) H nx K)
 (h:K (dI (bP p l)) H nx):afB cZ [d,.one (.c (.clo f a))] H nx K:=
 (uD l f caps p hl hc g).pure rfl (aK ⟨b,e,trivial⟩) fun r hr=>hr▸h
theorem qY(l:List gD)(f:FuncId)(caps:List D1)(p:gD->Bool)(hl:l.length<2^40)(hc:caps.all D1.eS=true)(a: ∀x∈l,∀(H:aA) (nx:Nat) (K:afC),K (dB (p x)) H nx->afB f (dA (eCJ x)::caps.map fun d=>.one (.c d)) H nx K):
 afB dV [dS (l.map eCJ),.one (.c (.clo f caps))] .nil 0 fun r _ _=>r.plain=true/\r=dB (decide (0<=bP p l)):=by
 refine aR.mk Tryz.func321 (by kernel_rfl) pT rfl fun Q b=> ?_
 unfold dT
 repeat' first| (first|apply vI|refine kW hl hc (aF rfl) (lI hc) a ?_)<;>(simp only[go_sem])|fail
 all_goals exact aP b _ rfl rfl rfl
theorem qZ{l:List gD}{f:FuncId}{caps a:List D1}{p:gD->Bool}{d:D}(hl:l.length<2^40)(hc:caps.all D1.eS=true)(b:CvD H (fun _=>True) id 0 (dS (l.map eCJ)) d)(e:CvD H (fun _=>True) id 0 (.one (.c (.clo f caps))) (.one (.c (.clo f a))))(g: ∀x∈l,∀(H:aA) (nx:Nat) (K:afC),K (dB (p x)) H nx->afB f (dA (eCJ x)::caps.map fun d=>.one (.c d)) H nx K)
 (h:K (dB (decide (0<=bP p l))) H nx):afB dV [d,.one (.c (.clo f a))] H nx K:=
 (qY l f caps p hl hc g).pure rfl (aK ⟨b,e,trivial⟩) fun r hr=>hr▸h
theorem bd{j:gD}{n:Int}(h:K (dB (isC n j)) H nx):afB EP [dA (eCJ j),.one (.c (.fF [cI n]))] H nx K:=by
 refine aC.pure (args0:=[dA (eCJ j),.one (.c (.fF [cI n]))]) (R:=fun a=>a=dB (isC n j)) ?_ rfl (aK ⟨aF rfl,aF rfl,trivial⟩) (fun r hr=>hr▸h);clear h;refine aR.mk Tryz.func320 (by kernel_rfl) WH rfl fun Q b=> ?_;unfold sV;repeat' first|apply vI<;>(simp only[go_sem])|fail
 all_goals first|with_reducible refine aP b _ rfl rfl ?_|skip
 all_goals first|exact nU (by omega)|exact l8 (by omega)|exact fX (by omega)|rfl
theorem JH{p:eT}{n:Int}(hl:p.out.length<2^40){b:D}(a:CvD H (fun _=>True) id 0 (dA (dD p)) b)(h:K (dI (bP (isC n) p.out)) H nx):afB nF [b,dI n] H nx K:=by
 refine aC.pure (args0:=[dA (dD p),dI n]) (R:=fun c=>c=dI (bP (isC n) p.out)) ?_ rfl (aK ⟨a,aF rfl,trivial⟩) (fun r hr=>hr▸h);clear h;refine aR.mk Tryz.func265 (by kernel_rfl) gx rfl fun Q d=> ?_;unfold zT;repeat' first| (first|apply vI|refine kW (l:=p.out) (caps:=[.fF [cI n]]) (p:=isC n) hl rfl (aF rfl) (XX ⟨FP rfl trivial rfl rfl rfl,trivial⟩) (fun x _ H nx K h=>bd h) ?_)<;>(simp only[go_sem])|fail
 all_goals first|with_reducible refine aP d _ rfl rfl ?_|skip
 all_goals first|rfl|exact nP (by omega)
theorem uK{m:List Rng}{q:Req}(hl:m.length<2^40)(h:K (dI (iV m q)) H nx):afB DC [dS (m.map cX),dA (dM q)] H nx K:=by
 refine aC.pure (args0:=[dS (m.map cX),dA (dM q)]) (R:=fun a=>a=dI (iV m q)) ?_ rfl (aK ⟨aF rfl,aF rfl,trivial⟩) (fun r hr=>hr▸h);clear h;refine aR.mk Tryz.func173 (by kernel_rfl) jj rfl fun Q b=> ?_;unfold zB;have c:eL m (bO q.addr q.many q.wrap)<m.length:=by have d:=S1 (p:=(inR · ((bO q.addr q.many q.wrap).getD 0 default))) (l:=m);unfold eL;grind
 repeat' first| (first|apply vI|apply S0 hl)<;>(simp only[go_sem])|refine iE (fun h=> ?_) fun h=> ?_|refine⟨by omega,?_⟩|fail
 all_goals first|with_reducible refine aP b _ rfl rfl ?_|skip
 all_goals first|exact nP (by unfold iV;rw[if_pos (by omega)])|exact nP (by unfold iV;rw[if_neg (by omega)])
theorem K8{c:Cfg}{who:Nat}{st:Nat}{i:Int}{j:gD}(hp:c.cN.length=3)(a:pA c who j.n)(h:K (dB (decide ((bQ c who j.n).id=i/\ ¬j.left=st))) H nx):afB oA [dA (eCJ j),.one (.c (.fF (bI c))),.one (.c (.fF [cI who])),.one (.c (.fF [cI i])),.one (.c (.fF [cI st]))] H nx K:=by
 refine aC.pure (args0:=[dA (eCJ j),.one (.c (.fF (bI c))),.one (.c (.fF [cI who])),.one (.c (.fF [cI i])),.one (.c (.fF [cI st]))]) (R:=fun b=>b=dB (decide ((bQ c who j.n).id=i/\ ¬j.left=st))) ?_ rfl (aK ⟨aF rfl,aF rfl,aF rfl,aF rfl,aF rfl,trivial⟩) (fun r hr=>hr▸h);clear h;refine aR.mk Tryz.func322 (by kernel_rfl) I4 rfl fun Q d=> ?_;unfold j7;repeat' first| (first|apply vI|refine Y6 (fun h=> ?_) fun h=> ?_|apply gU hp a)<;>(simp only[go_sem])|fail
 all_goals first|with_reducible refine aP d _ rfl rfl ?_|skip
 all_goals first|exact nU (by omega)|exact l8 (by omega)|exact fX (by omega)|rfl
theorem B3{c:Cfg}{s:CSt}{who:Nat}{st:Nat}(m:bH c)(hs:COk c s)(hw:who<3)(u:st<4){o:D}(g:CvD H (fun _=>True) id 0 (.one (.c (.fF (bK s)))) o)(h:K (dB (decide (NM c s who st))) H nx):afB rF [o,dA (bI c),dI who,dI st] H nx K:=by
 refine aC.pure (args0:=[.one (.c (.fF (bK s))),dA (bI c),dI who,dI st]) (R:=fun v=>v=dB (decide (NM c s who st))) ?_ rfl (aK ⟨g,aF rfl,aF rfl,aF rfl,trivial⟩) (fun r hr=>hr▸h);clear h;refine aR.mk Tryz.func268 (by kernel_rfl) M0 rfl fun Q w=> ?_;unfold lM;obtain⟨d,i⟩:=eW m;have q:=i who;have y:=m.1.1;have z:=hs.pl;have a:=hs.port who hw;obtain⟨p,b⟩: ∃p,p=s.bC.getD who default:=⟨_,rfl⟩
 have e:NM c s who st=(0<p.queue.length/\p.out.length<4/\iV c.map (bQ c who (p.queue.getD 0 default))=st/\ ∀j∈p.out,(bQ c who j.n).id=(bQ c who (p.queue.getD 0 default)).id->j.left=st):=by subst b;rfl
 rw[show aL s who=p from b.symm] at a;obtain⟨A,B⟩:=a.next;obtain⟨C,E⟩:=a.ql;have F:=a.queue 0;have G:=a.ol;repeat' first| (first|apply vI|refine Y6 (fun h=> ?_) fun h=> ?_|apply uK (by omega)|apply gU d (a.asks hw (by omega) (by omega))| (refine qZ (l:=p.out) (caps:=[.fF (bI c),.fF [cI who],.fF [cI (bQ c who (p.queue.getD 0 default)).id],.fF [cI st]]) (p:=fun j=>decide ((bQ c who j.n).id=(bQ c who (p.queue.getD 0 default)).id/\ ¬j.left=st)) (by omega) rfl (aF rfl) (XX ⟨FP rfl trivial rfl rfl rfl,FP rfl trivial rfl rfl rfl,FP rfl trivial rfl rfl rfl,FP rfl trivial rfl rfl rfl,trivial⟩) (fun x t H nx K h=>K8 d (a.asks hw (a.out x t).2.1.1 (by have:=(a.out x t).2.1.2;omega)) h) ?_))<;>(simp only[go_sem,b.symm])|refine iE (fun h=> ?_) fun h=> ?_|refine⟨by omega,?_⟩|fail
 all_goals first|with_reducible refine aP w _ rfl rfl ?_|skip
 all_goals have hr:iV c.map (List.getD (c.cN.getD who default) (p.queue.getD 0 default).toNat default)=iV c.map (bQ c who (p.queue.getD 0 default)):=rfl
 ·exact fX (by rw[e];omega)
 ·exact fX (by rw[e];omega)
 ·exact fX (by rw[e];omega)
 ·apply nU;rw[e,cU];refine⟨fun h=>⟨by omega,by omega,by omega,fun j k hi=>Classical.byContradiction fun I=>h ⟨j,k,decide_eq_true ⟨hi,I⟩⟩⟩,fun h ⟨j,k,f⟩=> ?_⟩;have f:=of_decide_eq_true f;exact f.2 (h.2.2.2 j k f.1)
end
theorem tr{τ:Nat->Nat}{n m:Nat}{l:List gD}:bM.rn τ ⟨n,m,l.map eCJ⟩=⟨n,m,l.map eCJ⟩:=by refine sZ fun r hr x a=> ?_;obtain⟨y,_,rfl⟩:=abP.1 hr;exact abX.1 (B0 y).2 x a
section
variable{H:aA}{nx:Nat}{K:afC}
theorem Jh{l:List gD}{a:Nat}{z:List D1}(b:a<l.length):wr ((l.take a).map eCJ++(l.drop (a+1)).map eCJ) (l.length-1) (List.replicate (l.length-(l.length-1)) z)=(HG l a).map eCJ++[z]:=by
 have c:(l.take a).map eCJ++(l.drop (a+1)).map eCJ=(HG l a).map eCJ:=by simp[HG]
 have d:((HG l a).map eCJ).length=l.length-1:=by have:=dt b;simp;omega
 have e:l.length-(l.length-1)=1:=by omega
 rw[c,e,List.replicate_one];unfold wr;have f:List.drop (l.length-1+[z].length) ((HG l a).map eCJ)=[]:=ad8 (by simp at d ⊢;omega);rw[f,abM (by omega),ab3]
theorem yH(l:List gD)(a cap m:Nat)(hl:l.length<2^21)(c:a<l.length)(hc:l.length<=cap)(f:cap<=m):
 afB fP [dO 3 0 l.length cap,dI a,dI (a+1)] (hp [(0,⟨3,m,l.map eCJ⟩)]) 1
 fun r H' n'=>∃b d,(HG l a).length<=b/\b<=d/\n'=2/\H'=hp [(1,⟨3,d,(HG l a).map eCJ⟩)]/\r=dO 3 1 (HG l a).length b:=by
 refine aR.mk Tryz.func266 (by kernel_rfl) xY rfl fun Q g=> ?_
 unfold fH
 have h:((a:Int)+1).toNat=a+1:=by omega
 have i:a+(l.length-(a+1))=l.length-1:=by omega
 have j:(a+1+(l.length-(a+1))<=l.length)=True:=eq_true (by omega)
 have k:List.take (l.length-(a+1)) (List.drop (a+1) l)=List.drop (a+1) l:=abM (by simp)
 have n:(List.drop (a+1) l).length=l.length-(a+1):=ab1
 have o:=dt c
 repeat' first|apply vI<;>(simp only[go_sem,h,i,j,k,n])|apply vF (by omega)| (with_reducible first|refine fun(cap:Nat) (e:_<=cap)=> ?_|refine fun(p:_<=cap)=> ?_)|refine⟨by omega,?_⟩| (refine⟨by(rw[ab5];omega),?_⟩)|fail
 (refine g _ _ _ _ _ 2 (dO 3 1 (HG l a).length cap) (hp [(1,⟨3,cap,(HG l a).map eCJ⟩)]) _ _ (.inr rfl) rfl (jT [20,0] (by omega) (by repeat' first|exact C1| ((with_reducible apply C0);exact CQ (by omega) rfl rfl (by first|rfl|omega) rfl)| ((with_reducible apply D0);apply CJ)|fail) ⟨⟨by simp,by simp[sgL],_,rfl,Sz (junk:=[[cI 0,cI 0,cI 0]]) (fun r hr=>(aN B0 _ r hr).2) (Jh c) rfl (by decide)⟩,trivial⟩ (by simp[sgL])) ?_)
 exact⟨cap,cap,by omega,abG _,rfl,rfl,rfl⟩
theorem yU{l:List gD}{z:Int}{cap m i0:Nat}(hl:l.length<2^21)(q: ¬z<0)(f:z.toNat<l.length)(hc:l.length<=cap)(d:cap<=m)(s:i0<nx)(g:H i0=some ⟨3,m,l.map eCJ⟩)
 (h: ∀b c,(HG l z.toNat).length<=b->b<=c->K (dO 3 nx (HG l z.toNat).length b) ((H.del i0).set nx ⟨3,c,(HG l z.toNat).map eCJ⟩) (nx+1)):
 afB fP [dO 3 i0 l.length cap,dI z,dI (z+1)] H nx K:=by
 obtain⟨a,rfl⟩: ∃a:Nat,z=a:=⟨z.toNat,by omega⟩
 refine(yH l a cap m hl f hc d).JG [i0] rfl ⟨EZ (by simp) rfl rfl rfl rfl,aF rfl,aF rfl,trivial⟩
  ⟨⟨by simp,id,_,g,cD (aN B0 _) rfl rfl⟩,trivial⟩ (by simp) (by simp;omega) (by simp) fun r H' n' _ ⟨b,c,i,j,k,n,o⟩=> ?_
 simp only[Int.toNat_natCast] at h
 have h:=h b c i j
 subst k;subst n;subst o
 generalize HG l a=e at*
 have p:back (tau 1 nx (nth [i0])) (hp [(1,⟨3,c,e.map eCJ⟩)]) 2 H=(H.del i0).set nx ⟨3,c,e.map eCJ⟩:=by simp[back,hp,aA.set,aA.nil,tau,nth,EG,tr,aA.iS,aA.S5]
 rw[<-p] at h
 exact h
end
theorem gP{H:aA}{e:Env}{t n id m:Nat}{cs:List D1}(he:e t= .one (.c (.ptr n id 0 0)))(a:H id=some ⟨n,m,[cs]⟩)(hl:cs.length=n):mT H e [.cell t n true]=some (dA cs):=by subst hl;simp[mT,VF,he,qB,a,mkV]
theorem C6{nx i:Nat}{H:aA}:CvX (fun j=>j=i) nx H (H.del i):=fun j o' a=>by
 simp only[aA.del] at a;split at a;·cases a
 ·exact⟨by assumption,o',a,.inl rfl⟩
section
variable{H:aA}{nx:Nat}{K:afC}
theorem OV{m:List Rng}{w e:List Int}{who:Int}{q:Req}{c0 c1 m0 m1 i0 i1 g:Nat}{x y z:D1}(dh:m.length<2^21)(hf:VX w e)(ds:w.length<=c0)(dv:e.length<=c1)(hw:0<=who/\who<=2)(hq:cR q)
 (br:i0<nx/\i1<nx/\g<nx) (hd:[i0,i1,g].Nodup) (P:H i0=some ⟨5,1,[[.osl 1 i1 0 w.length c0,.osl 1 g 0 e.length c1,x,y,z]]⟩) (G:H i1=some ⟨1,m0,w.map aH⟩) (I:H g=some ⟨1,m1,e.map aH⟩)
 (B: ∀H' nx',nx<=nx'->H' i1=some ⟨1,m0,(doM m w e who q).1.1.map aH⟩->H' g=some ⟨1,m1,(doM m w e who q).1.2.map aH⟩->(∀id,id<nx->id≠i1->id≠g->H' id=H id)->K (dA (mS (doM m w e who q).2)) H' nx'):
 afB tK [.one (.c (.ptr 5 i0 0 0)),dS (m.map cX),dI who,dA (dM q)] H nx K:=by
 obtain⟨dx,bw,dy,dz⟩:=hf
 obtain⟨eb,ed,aa,ab,ad,ah,ca,ei⟩:=hq
 have ej:=yI aa
 have eo:=om aa
 have ep:=DY (addr:=q.addr) (many:=q.many) (wrap:=q.wrap)
 have ao:All (bO q.addr q.many q.wrap) 0 63:=pv
 have cc:=S1 (p:=(inR · ((bO q.addr q.many q.wrap).getD 0 default))) (l:=m)
 have et:eL m (bO q.addr q.many q.wrap)<m.length:=by unfold eL;grind
 have cd:wrM q=true->q.data.length=(bO q.addr q.many q.wrap).length/\q.lanes.length=(bO q.addr q.many q.wrap).length:=by intro h;unfold wrM at h;unfold nG at ab ad;simp at h;simp only[h,if_true] at ab ad;omega
 have R:=XN (q:=q)
 apply aC.kH
 refine bR.mk Tryz.func224 (by kernel_rfl) OS rfl fun Q Y=> ?_
 unfold mA
 generalize b:bO q.addr q.many q.wrap=all at*
 have C: ∀{H:aA} {nx:Nat} {K:afC},K (dI (eL m all)) H nx->afB wT [dS (m.map cX),dA (dM q)] H nx K:=fun h=>S0 (by omega) (by rw[b];exact h)
 have aw: ∀{H:aA} {nx:Nat} {K:afC},K (dS (all.map aH)) H nx->afB jV [dA (dM q)] H nx K:=fun h=>B9 (by rw[b];exact h)
 have v:aO nx [i0,i1,g]:=AM.apart hd (by simp;omega)
 simp only[aO,bG] at v
 simp only[acO,abQ,acG,or_false,not_or] at hd
 by_cases bb:eL m all<0
 ·rw[xj (by rw[b];exact bb)] at B;repeat' first| (first|apply vI|apply C)<;>(simp only[go_sem,abH,abI,P,G,I,v];try simp (disch:=omega) only[Iw])|apply vT (by omega)|refine⟨by omega,?_⟩|fail
  refine Y _ _ _ _ _ (.inr rfl) (gP rfl (by simp only[aA.set,if_true];rfl) rfl) ⟨dA (mS ⟨q.id,4,[]⟩),_,noF,by repeat' first|exact C1| (with_reducible first|exact C3|apply C4)| ((with_reducible apply C0);first|exact CB rfl|exact CF)| ((with_reducible apply D0);apply C9)|apply C4|fail,aE,B _ _ (by omega) ?_ ?_ fun id n o Z=> ?_⟩;·simp only[aA.set,v,if_false];exact G
  ·simp only[aA.set,v,if_false];exact I
  ·simp only[aA.set,show ¬id=nx by omega,show ¬id=nx+1 by omega,show ¬id=nx+9 by omega,if_false]
 have A: ¬eL m (bO q.addr q.many q.wrap)<0:=by rw[b];exact bb
 by_cases i:wrM q=true
 ·obtain⟨eu,ew⟩:=cd i;by_cases h3:(m.getD (eL m all).toNat default).only=true
  ·rw[zy A i (by rw[b];exact h3)] at B;repeat' first| (first|apply vI|apply C|apply jD)<;>(simp only[go_sem,abH,abI,P,G,I,v,i,h3];try simp (disch:=omega) only[Iw])|apply vF (by omega)|refine⟨by omega,?_⟩|fail
   refine Y _ _ _ _ _ (.inr rfl) (gP rfl (by simp only[aA.set,if_true];rfl) rfl) ⟨dA (mS ⟨q.id,3,[]⟩),_,noF,by repeat' first|exact C1| (with_reducible first|exact C3|apply C4)| ((with_reducible apply C0);first|exact CB rfl|exact CF)| ((with_reducible apply D0);apply C9)|apply C4|fail,aE,B _ _ (by omega) ?_ ?_ fun id n o Z=> ?_⟩;·simp only[aA.set,v,if_false];exact G
   ·simp only[aA.set,v,if_false];exact I
   ·simp only[aA.set,show ¬id=nx by omega,show ¬id=nx+1 by omega,show ¬id=nx+9 by omega,if_false]
  have S: ¬(m.getD (eL m (bO q.addr q.many q.wrap)).toNat default).only=true:=by rw[b];exact h3
  have bh:(m.getD (eL m all).toNat default).only=false:=by simpa using h3
  by_cases h4:q.kind=4/\ ¬e.getD (who*2+q.id).toNat default=q.addr
  ·rw[Oy A S h4.1 h4.2] at B;have ff:=h4.1;have fh:=h4.2;repeat' first| (first|apply vI|apply Y4 (by omega)|apply C|apply jD)<;>(simp only[go_sem,abH,abI,P,G,I,v,i,bh];try simp (disch:=omega) only[Iw])|apply vT (by omega)|apply vF (by omega)|refine⟨by omega,?_⟩|fail
   refine Y _ _ _ _ _ (.inr rfl) (gP rfl (by simp only[aA.set,if_true];rfl) rfl) ⟨dA (mS ⟨q.id,1,[]⟩),_,noF,by repeat' first|exact C1| (with_reducible first|exact C3|apply C4)| ((with_reducible apply C0);first|exact CB rfl|exact CF)| ((with_reducible apply D0);apply C9)|apply C4|fail,aE,B _ _ (by omega) ?_ ?_ fun id n o Z=> ?_⟩;·simp only[aA.set,v,if_false];exact G
   ·simp only[aA.set,v,if_false];exact I
   ·simp only[aA.set,show ¬id=nx by omega,show ¬id=nx+1 by omega,show ¬id=nx+9 by omega,if_false]
  obtain⟨code,r⟩: ∃code:Int,code=if q.kind=4 then 2 else 1:=⟨_,rfl⟩
  have hD:doM m w e who q=((Q1 w all q.data q.lanes all.length,qS e all),⟨q.id,code,[]⟩):=by
   rcases R.1 i with L|L;·rw[Gt A S L,b,r,if_neg (by omega)]
   ·rw[Gv A S L (Classical.byContradiction fun hc=>h4 ⟨L,hc⟩),b,r,if_pos L]
  rw[hD] at B;have cf:=R.1 i;repeat' first| (first|apply vI|refine Y6 (fun h=> ?_) fun h=> ?_|apply C|apply aw|apply jD)<;>(simp only[go_sem,abH,abI,P,G,I,v,i,bh];try simp (disch:=omega) only[Iw])|apply vT (by omega)|apply vF (by omega)|refine⟨by omega,?_⟩|fail
  all_goals
   have ck:(code=2/\q.kind=4)\/(code=1/\ ¬q.kind=4):=by rw[r];split<;>simp[*]
   refine aJ.cG (β:=Nat) (fun k=>en [(109,dI k),(108,dI all.length),(107,dS (all.map aH)),(12,dS (all.map aH)),(10,.one (.c (.ptr 3 (nx+9) 0 0))),(8,.one (.c (.ptr 3 (nx+1) 0 0))),(7,.one (.c (.ptr 7 nx 0 0))),(0,.one (.c (.ptr 5 i0 0 0)))])
    (fun k H1 _=>k<=all.length/\H1 i1=some ⟨1,m0,(Q1 w all q.data q.lanes k).map aH⟩/\H1 nx=some ⟨7,1,[dM q]⟩/\H1 (nx+9)=some ⟨3,1,[[cI q.id,cI code,.osl 0 0 0 0 0]]⟩/\H1 (nx+1)=some ⟨3,1,[[cI 0,cI 0,.osl 0 0 0 0 0]]⟩/\ ∀id,id<nx->id≠i1->H1 id=H id) (fun k=>all.length-k) 0 ⟨noF,_,by repeat' first|exact C1|refine xqI rfl rfl ?_|refine xqP (by omega) rfl rfl ?_|fail,aE,?_⟩ ?_
   ·refine⟨by omega,by simp only[aA.set,v,if_false];exact G,?_,?_,?_,fun id n o=> ?_⟩;·simp only[aA.set,abI,Nat.reduceEqDiff,adK,if_false,if_true,reduceIte]
    ·simp only[aA.set,if_true];rcases ck with⟨rfl,_⟩|⟨rfl,_⟩<;>first|rfl|contradiction
    ·simp only[aA.set,abJ,Nat.reduceEqDiff,if_false,if_true]
    ·simp only[aA.set,show ¬id=nx by omega,show ¬id=nx+1 by omega,show ¬id=nx+9 by omega,if_false]
   rintro k H1 J cl ⟨L,M,T,N,O,d⟩ KL U
   have g0:H1 i0=some ⟨5,1,[[.osl 1 i1 0 w.length c0,.osl 1 g 0 e.length c1,x,y,z]]⟩:=by rw[d i0 (by omega) (by omega)];exact P
   have V:H1 g=some ⟨1,m1,e.map aH⟩:=by rw[d g (by omega) (by omega)];exact I
   have fi:=YS (w:=w) (all:=all) (data:=q.data) (lanes:=q.lanes) k
   have cp:=tg (all:=all) (lanes:=q.lanes) bw ah k
   have s:aO J [i0,i1,g,nx,nx+1,nx+9]:=AM.apart (by simp;omega) (by simp;omega)
   simp only[aO,bG] at s
   by_cases u:k<all.length
   ·have hb:=sX ao u;have cq:(all.getD k default).toNat<(Q1 w all q.data q.lanes k).length:=(by omega);repeat' first| (first|apply vI|apply Dm (sX cp cq) (sX ah (by omega)) (sX ca (by omega)))<;>(simp only[go_sem,abH,abI,g0,M,V,T,N,O,s];try simp (disch:=omega) only[Iw])|apply vT (by omega)|refine⟨by omega,?_⟩|fail
    exact U _ _ _ (k+1) noF _ (by omega) (by omega) (by repeat' first|exact C1|refine xqI rfl rfl ?_|refine xqP (by omega) rfl rfl ?_|fail) aE ⟨by omega,aA.aI,by rw[aA.aB (by omega)];exact T,by rw[aA.aB (by omega)];exact N,by rw[aA.aB (by omega)];exact O,fun id n o=>by rw[aA.aB o];exact d id n o⟩
   ·repeat' first|apply vI<;>(simp only[go_sem,abH,abI,g0,M,V,T,N,O,s])|apply vF (by omega)|fail
    have E:k=all.length:=(by omega);subst E
    refine aJ.cG (β:=Nat) (fun k=>en [(146,dI k),(145,dI 6),(144,dO 1 g 6 c1),(12,dS (all.map aH)),(10,.one (.c (.ptr 3 (nx+9) 0 0))),(8,.one (.c (.ptr 3 (nx+1) 0 0))),(0,.one (.c (.ptr 5 i0 0 0)))])
     (fun k H2 _=>k<=6/\H2 g=some ⟨1,m1,(tT e all k).map aH⟩/\ ∀id,id<J->id≠g->H2 id=H1 id) (fun k=>6-k) 0 ⟨noF,_,by repeat' first|exact C1|refine xqI rfl rfl ?_|refine xqP (by omega) rfl rfl ?_|refine xqO (by omega) rfl rfl (by first|rfl|omega) ?_|refine xqV rfl (by omega) ?_|fail,aE,by omega,by rw[gg];exact V,fun _ _ _=>rfl⟩ ?_
    rintro k H2 cr ct ⟨L,f2,t⟩ KM bk;have f0:H2 i0=some ⟨5,1,[[.osl 1 i1 0 w.length c0,.osl 1 g 0 e.length c1,x,y,z]]⟩:=(by rw[t i0 (by omega) (by omega)];exact g0);have f9:H2 (nx+9)=some ⟨3,1,[[cI q.id,cI code,.osl 0 0 0 0 0]]⟩:=(by rw[t _ (by omega) (by omega)];exact N);have f8:H2 (nx+1)=some ⟨3,1,[[cI 0,cI 0,.osl 0 0 0 0 0]]⟩:=(by rw[t _ (by omega) (by omega)];exact O);have fl:=pg (all:=all) (show k<=e.length by omega);have W:aO cr [i0,i1,g,nx,nx+1,nx+9]:=AM.apart (by simp;omega) (by simp;omega);simp only[aO,bG] at W;by_cases br:k<6
    ·have cw:=yw (all:=all) (show k<e.length by omega);have bp:=fun x=>qd (all:=all) (x:=x) (show k<e.length by omega);have cx:=ZE (all:=all) (show k<e.length by omega);repeat' first| (first|apply vI|refine EC (by omega) (aF rfl) ?_)<;>(simp only[go_sem,abH,abI,f0,f2,f9,f8,W,cw];try simp (disch:=omega) only[Iw])|apply vT (by omega)|refine iE (fun h=> ?_) fun h=> ?_|refine⟨by omega,?_⟩|fail
     ·exact bk _ _ _ (k+1) noF _ (by omega) (by omega) (by repeat' first|exact C1|refine xqI rfl rfl ?_|refine xqP (by omega) rfl rfl ?_|refine xqO (by omega) rfl rfl (by rfl) ?_|fail) aE ⟨by omega,by rw[<-bp (-1) (by rw[if_pos (by assumption)])];exact aA.aI,fun id n o=>by rw[aA.aB o];exact t id n o⟩
     ·exact bk _ _ _ (k+1) noF _ (by omega) (by omega) (by repeat' first|exact C1|refine xqI rfl rfl ?_|refine xqP (by omega) rfl rfl ?_|refine xqO (by omega) rfl rfl (by rfl) ?_|fail) aE ⟨by omega,by rw[<-bp _ (by rw[if_neg (by assumption)]),cx];exact f2,fun id n o=>t id n o⟩
    ·repeat' first|apply vI<;>(simp only[go_sem,abH,abI,f0,f2,f9,f8,W])|apply vF (by omega)|fail
     have E:k=e.length:=(by omega);subst E;rw[px] at f2;refine Y _ _ _ _ _ (.inr rfl) (gP rfl (by simp only[aA.set,if_true];rfl) rfl) ⟨dA (mS ⟨q.id,code,[]⟩),_,noF,by repeat' first|exact C1| (with_reducible first|exact C3|apply C4)| ((with_reducible apply C0);first|exact CB rfl|exact CF)| ((with_reducible apply D0);apply C9)|apply C4|fail,aE,B _ _ (by omega) ?_ ?_ fun id n o Z=> ?_⟩;·rw[aA.aB (by omega),t _ (by omega) (by omega)];exact M
     ·rw[aA.aB (by omega)];exact f2
     ·rw[aA.aB (by omega),t _ (by omega) Z];exact d id n o
 have cy:wrM q=false:=by simpa using i
 have da:q.kind=1\/q.kind=3:=by have h3: ¬(q.kind=2\/q.kind=4):=fun h=>i (R.2 h);omega
 repeat' first| (first|apply vI|apply Y5 (by omega)|apply C|apply aw|apply jD)<;>(simp only[go_sem,abH,abI,P,G,I,v,cy];try simp (disch:=omega) only[Iw])|apply vF (by omega)|refine⟨by omega,?_⟩|fail
 refine aJ.cG (β:=Nat) (fun k=>en [(76,dI k),(75,dI all.length),(74,dS (all.map aH)),(11,.one (.c (.ptr 1 g (who*2+q.id).toNat 0))),(10,.one (.c (.ptr 3 (nx+9) 0 0))),(8,.one (.c (.ptr 3 (nx+1) 0 0))),(7,.one (.c (.ptr 7 nx 0 0))),(0,.one (.c (.ptr 5 i0 0 0)))])
  (fun k H1 _=>k<=all.length/\H1 nx=some ⟨7,1,[dM q]⟩/\H1 (nx+9)=some ⟨3,1,[[cI q.id,cI 1,.osl 1 (nx+55) 0 all.length all.length]]⟩/\H1 (nx+1)=some ⟨3,1,[[cI 0,cI 0,.osl 0 0 0 0 0]]⟩/\H1 (nx+55)=some ⟨1,all.length,((List.range k).map (fun k=>w.getD (all.getD k default).toNat default)++List.replicate (all.length-k) (0:Int)).map aH⟩/\ ∀id,id<nx->H1 id=H id)
  (fun k=>all.length-k) 0 ⟨noF,_,by repeat' first|exact C1|refine xqI rfl rfl ?_|refine xqP (by omega) rfl rfl ?_|fail,aE,?_⟩ ?_
 ·refine⟨by omega,?_,?_,?_,?_,fun id n=> ?_⟩;·simp only[aA.set,abI,Nat.reduceEqDiff,adK,if_false,if_true,reduceIte]
  ·simp only[aA.set,if_true]
  ·simp only[aA.set,abJ,Nat.reduceEqDiff,if_false,if_true]
  ·simp only[aA.set,abJ,Nat.reduceEqDiff,if_false,if_true];simp[aH]
  ·simp only[aA.set,show ¬id=nx by omega,show ¬id=nx+1 by omega,show ¬id=nx+9 by omega,show ¬id=nx+55 by omega,if_false]
 rintro k H1 J cl ⟨L,T,N,O,gd,d⟩ KL U
 have g0:H1 i0=some ⟨5,1,[[.osl 1 i1 0 w.length c0,.osl 1 g 0 e.length c1,x,y,z]]⟩:=by rw[d i0 (by omega)];exact P
 have M:H1 i1=some ⟨1,m0,w.map aH⟩:=by rw[d i1 (by omega)];exact G
 have V:H1 g=some ⟨1,m1,e.map aH⟩:=by rw[d g (by omega)];exact I
 have X:((List.range k).map (fun k=>w.getD (all.getD k default).toNat default)++List.replicate (all.length-k) (0:Int)).length=all.length:=by simp;omega
 have s:aO J [i0,i1,g,nx,nx+1,nx+9,nx+55]:=AM.apart (by simp;omega) (by simp;omega)
 simp only[aO,bG] at s
 by_cases u:k<all.length
 ·have hb:=sX ao u;have dc:=fun x=>ux (f:=fun k=>w.getD (all.getD k default).toNat default) (x:=x) u;repeat' first|apply vI<;>(simp only[go_sem,abH,abI,g0,M,V,T,N,O,gd,s,X];try simp (disch:=omega) only[Iw])|apply vT (by omega)|refine⟨by omega,?_⟩|fail
  exact U _ _ _ (k+1) noF _ (by omega) (by omega) (by repeat' first|exact C1|refine xqI rfl rfl ?_|refine xqP (by omega) rfl rfl ?_|fail) aE ⟨by omega,by rw[aA.aB (by omega)];exact T,by rw[aA.aB (by omega)];exact N,by rw[aA.aB (by omega)];exact O,by rw[<-dc _ rfl];exact aA.aI,fun id n=>by rw[aA.aB (by omega)];exact d id n⟩
 ·have E:k=all.length:=by omega
  subst E;have df:(List.range all.length).map (fun k=>w.getD (all.getD k default).toNat default)++List.replicate (all.length-all.length) (0:Int)=all.map fun a=>w.getD a.toNat default:=by rw[Wq];simp
  rw[df] at gd;repeat' first|apply vI<;>(simp only[go_sem,abH,abI,g0,M,V,T,N,O,gd,s])|apply vF (by omega)|refine iE (fun h=> ?_) fun h=> ?_|refine⟨by omega,?_⟩|fail
  ·rw[yl A (by assumption),b] at B;refine Y _ _ _ _ _ (.inr rfl) (gP rfl (by simp only[aA.set,if_true];rfl) rfl) ⟨dA (mS ⟨q.id,2,all.map fun a=>w.getD a.toNat default⟩),_,fun j=>j=nx+55,iR (aG (bE rfl) (aG (bE rfl) (aG (cP (l:=all.map fun a=>w.getD a.toNat default) (F:=fun j=>j=nx+55) (m:=all.length) (len:=all.length) (cap:=all.length) aV ?_ (by simp) (by simp) rfl) cJ))),C6,B _ _ (by omega) ?_ ?_ fun id n o Z=> ?_⟩;·rw[aA.aB (by omega),aA.aB (by omega),aA.aB (by omega)];exact gd
   ·rw[aA.cC (by omega),aA.aB (by omega),aA.aB (by omega),aA.aB (by omega)];exact M
   ·rw[aA.cC (by omega),aA.aB (by omega),aA.aI]
   ·rw[aA.cC (by omega),aA.aB (by omega),aA.aB (by omega),aA.aB (by omega)];exact d id n
  ·rw[yg A (by omega),b] at B;refine Y _ _ _ _ _ (.inr rfl) (gP rfl (by simp only[aA.set,if_true];rfl) rfl) ⟨dA (mS ⟨q.id,1,all.map fun a=>w.getD a.toNat default⟩),_,fun j=>j=nx+55,iR (aG (bE rfl) (aG (bE rfl) (aG (cP (l:=all.map fun a=>w.getD a.toNat default) (F:=fun j=>j=nx+55) (m:=all.length) (len:=all.length) (cap:=all.length) aV ?_ (by simp) (by simp) rfl) cJ))),C6,B _ _ (by omega) ?_ ?_ fun id n o Z=> ?_⟩;·rw[aA.aB (by omega)];exact gd
   ·rw[aA.cC (by omega),aA.aB (by omega)];exact M
   ·rw[aA.cC (by omega),aA.aB (by omega)];exact V
   ·rw[aA.cC (by omega),aA.aB (by omega)];exact d id n
end
section
variable{H:aA}{nx:Nat}{K:afC}
theorem MG{X:Nat->Prop}{c:Cfg}{i:CIn}{s:CSt}{es:List Ev}{i0 i1:Nat}{nm:Nat->Nat}(hb:bH c)(hs:COk c s)(ed:i.ready.length=3)(hB:oR X H nx i0 i1 nm s es)(hl:es.length<900)
 (h: ∀H' nx' w,nx<=nx'->oR X H' nx' i0 i1 w (D9 c i s) (es++gV c s (LZ c i s))->(∀id,X id->H' id=H id)->K (.tup []) H' nx'):
 afB pB [.one (.c (.ptr 5 i0 0 0)),dA (eIn i),.one (.c (.ptr 5 i1 0 0))] H nx K:=by
 refine bR.mk Tryz.func187 (by kernel_rfl) LJ rfl fun Q hQ=> ?_
 unfold kP
 obtain⟨wc,hc,pc,vc,tc,cd,ei,ej,eo,ep,et⟩: ∃wc hc pc vc tc,H i0=some ⟨5,1,[[.osl 1 (nm 0) 0 s.words.length wc,.osl 1 (nm 1) 0 s.holds.length hc,.osl 4 (nm 2) 0 3 pc,.osl 3 (nm 3) 0 4 vc,.osl 5 (nm 4) 0 s.told.length tc]]⟩/\_:=by obtain⟨cells,F,⟨wc,hc,pc,vc,tc,rfl,V⟩,_⟩:=hB.rep.st;exact⟨wc,hc,pc,vc,tc,F,V⟩
 have y:=hB.rep.apart (nx':=nx) [] [] (abG _) (by simp) (by simp) (by simp) (by simp)
 simp only[aO,bG,List.map,List.nil_append] at y
 repeat' first|apply vI<;>(simp only[go_sem,cd,y])|fail
 obtain⟨H0,W⟩: ∃H0,H0=H.set nx ⟨3,1,[eIn i]⟩:=⟨_,rfl⟩
 rw[<-W]
 have cf:H0 nx=some ⟨3,1,[eIn i]⟩:=by rw[W];exact aA.aI
 have ck:oR (fun id=>X id\/id=nx) H0 (nx+7) i0 i1 nm s es:=hB.next (by omega) (fun id F V=>by rw[W,aA.aB (by omega)]) fun id f=>by
  rcases f with f|rfl;·have:=hB.rep.x id (.inl f);exact⟨by omega,.inl f⟩
  ·exact⟨by omega,.inr (abG _)⟩
 have cl:=hB.rep.i0.1
 have cp:=hB.hap.i1.1
 refine aJ.cG (β:=Nat×CSt×List Ev×(Nat->Nat)) (fun u=>en [(18,dI u.1),(17,dI 3),(4,.one (.c (.ptr 3 nx 0 0))),(2,.one (.c (.ptr 5 i1 0 0))),(0,.one (.c (.ptr 5 i0 0 0)))])
  (fun u H1 ab=>u.1<=3/\COk c u.2.1/\oR (fun id=>X id\/id=nx) H1 ab i0 i1 u.2.2.2 u.2.1 u.2.2.1/\(∀id,X id\/id=nx->H1 id=H0 id)/\B4 c (pJ i) ([0,1,2].drop u.1) u.2.1 u.2.2.1 (D9 c i s) (es++gV c s (LZ c i s))/\u.2.2.1.length<=es.length+u.1)
  (fun u=>3-u.1) (0,s,es,nm) ⟨noF,_,by repeat' first|exact C1|refine xqI rfl rfl ?_|refine xqP (by omega) rfl rfl ?_|fail,aE,by dsimp only;omega,hs,ck,fun _ _=>rfl,⟨rfl,rfl⟩,by simp⟩ ?_
 rintro⟨k,s1,ad,a⟩ H1 ab eu ⟨hk,g,q,L,ah,cq⟩ KL ao
 dsimp only at hk g q ah cq
 obtain⟨wc,hc,pc,vc,tc,mp,rp,mv,rv,g0,g1,g2,g3,g4,g5,g6,g7,g8,g9,ga,gb⟩:=q.rep.get
 have z:H1 nx=some ⟨3,1,[eIn i]⟩:=by rw[L nx (.inr rfl)];exact cf
 by_cases M:k<3
 ·have Y:=ah;rw[zg M] at Y;obtain⟨p,N⟩: ∃p,p=aL s1 k:=⟨_,rfl⟩
  obtain⟨qo,qc,oc,gr,gq,go⟩:=ga k M;rw[<-N] at gr gq go;repeat' first|apply vI<;>(simp only[go_sem,g0,g1,gr,z])|apply vT (by omega)|refine⟨by omega,?_⟩|fail
  have aw:=g.port k M;rw[<-N] at aw;have ew:=q.rep.names.lt 2 (by omega);obtain⟨ff,fh⟩:=aw.last
  refine aJ.cG (β:=Nat) (fun j=>en [(18,dI k),(17,dI 3),(8,dI j),(7,.one (.c (.ptr 4 (a 2) k 0))),(6,dI k),(4,.one (.c (.ptr 3 nx 0 0))),(2,.one (.c (.ptr 5 i1 0 0))),(0,.one (.c (.ptr 5 i0 0 0)))])
   (fun j H2 _=>1<=j/\j<=5/\H2=H1/\ ∀B,1<=B->B<j->qp s1 k (GS s1 k B)=false) (fun j=>5-j) 1 ⟨noF,_,by repeat' first|exact C1|refine xqI rfl rfl ?_|refine xqP (by omega) rfl rfl ?_|fail,aE,by omega,by omega,rfl,fun B F V=>by omega⟩ ?_
  rintro j H2 b cr ⟨ct,fi,cw,hinv⟩ KJ br;subst cw;by_cases cx:j<=4
  ·cases I:i.ready.getD k default with
   |false=>
    repeat' first| (first|apply vI|apply Y4 (by omega))<;>(simp only[go_sem,z,I];try simp (disch:=omega) only[Iw])|refine⟨by omega,?_⟩|fail
    exact ao _ _ _ (k+1,s1,ad,a) noF _ (by omega) (by dsimp only;omega) (by repeat' first|exact C1|refine xqI rfl rfl ?_|refine xqP (by omega) rfl rfl ?_|fail) aE ⟨by dsimp only;omega,g,q.mono (by omega),L,Y.none (U6 I),by dsimp only;omega⟩
   |true=>
   obtain⟨st,O⟩: ∃st,st=GS s1 k j:=⟨_,rfl⟩
   have cy:st=((p.last+(j:Int))%4).toNat:=(by rw[O,N];rfl);have P:st<4:=(by omega);have R:(p.last+(j:Int)).tmod 4=(st:Int):=(by rw[ac0 (by omega)];omega);obtain⟨v,A⟩: ∃v,v=aS s1 st:=⟨_,rfl⟩
   obtain⟨po,bb,do_,dc,gs,gp,gd⟩:=gb st P;rw[<-A] at gs gp gd;obtain⟨md,rd,d1,d2,d3,d4,d5,d6⟩:=gd.ex;by_cases fl:v.done.length=0
   ·have hlen:((v.done.length:Int)=0)=True:=eq_true (by omega);repeat' first| (first|apply vI|apply Y4 (by omega))<;>(simp only[go_sem,g0,g1,g2,gr,gs,z,R,I,hlen];try simp (disch:=omega) only[Iw])|refine⟨by omega,?_⟩|fail
    exact br _ _ _ (j+1) noF _ (by omega) (by omega) (by repeat' first|exact C1|refine xqI rfl rfl ?_|refine xqP (by omega) rfl rfl ?_|fail) aE ⟨by omega,by omega,rfl,fun B F V=>by
     by_cases Z:B<j
     ·exact hinv B F Z
     ·have:B=j:=(by omega);subst this;rw[<-O];exact decide_eq_false fun hc=>by rw[<-A] at hc;omega⟩
   have hlen:((v.done.length:Int)=0)=False:=eq_false (by omega);obtain⟨d,S⟩: ∃d,d=v.done.getD 0 default:=⟨_,rfl⟩
   have d7:rd[do_]?=some (aT d):=(by have:(rd.drop do_)[0]?=some (aT d):=(by rw[d2,abW];simp[S,List.getD,show 0<v.done.length by omega]);rwa [ab4,Nat.add_zero] at this);by_cases C:d.who=k
   ·have fm:=q.rep.names.lt (8+k) (by omega);have fo:s1.told.length<=36:=(by have:=g.st.lens hb;simp only[dN] at this;omega);have fp:=aw.ol;have hex: ∃j∈p.out,j.n=d.n:=by obtain⟨_,j,q1,q2,_⟩:=(g.slv st P).out (key d) (by rw[<-A];exact ZB (by rw[S];exact bT (by omega)));have e:(key d).1.toNat=k:=(by show d.who.toNat=k;omega);rw[e,<-N] at q1;exact⟨j,q1,q2⟩
    obtain⟨da,fs⟩:=XO hex;have df: ¬bP (isC d.n) p.out<0:=by have:0<=bP (isC d.n) p.out:=cU.2 (by obtain⟨j,q1,q2⟩:=hex;exact⟨j,q1,decide_eq_true q2⟩);omega
    have bh: ∀{G:aA} {n':Nat} {K:afC},G (a (5+k))=H2 (a (5+k))->G (a (8+k))=H2 (a (8+k))->K (dI (bP (isC d.n) p.out)) G n'->afB nF [.one (.agg [cI p.next,.osl 1 (a (5+k)) qo p.queue.length qc,.osl 3 (a (8+k)) 0 p.out.length oc,cI p.last]),dI d.n] G n' K:=fun F V h3=>
     JH (by omega) (iR (nM (bZ wq (bZ ((gq.frame F).frz (aN aV _) trivial) (bZ ((go.frame V).frz (aN B0 _) trivial) (bZ wq xC)))))) h3
    have y:=q.rep.apart (nx':=b) [nx] [0,1,2,3,4,5+k,8+k,11+st,15+st] (by omega) (by simp) (fun x hx=>.inl (.inr (by simpa using hx))) (by simp;omega) (by simp;omega);simp only[aO,bG,List.map,List.cons_append,List.nil_append] at y;obtain⟨mt,rt,e1,e2,e3,e4,e5,e6⟩:=g5.ex;obtain⟨mo,ro,o1,o2,o3,o4,o5,o6⟩:=go.ex;rw[acK] at e2 o2;subst e2;subst o2;refine aJ.BM fun dh=> ?_;have bw: ∀r,(rp.set k r)[k]?=some r:=fun r=>by rw[acA (by omega)]
    have ds: ∀k l,msk (b+k) l H2=H2:=fun k l=>zQ dh (by omega);repeat' first| (first|apply vI|apply Y4 (by omega)|apply bh (by simp only[aA.set,aA.del,y,if_false]) (by simp only[aA.set,aA.del,y,if_false])| (refine yU (m:=mo) (by omega) df da o5 (by omega) (by omega) (by simp only[aA.set,aA.del,y,if_false];exact o1) (fun aa m' q1 q2=> ?_)))<;>(simp only[go_sem,abH,abI,ds,umS (G:=H2),umD (G:=H2),umB,bw,acE,g0,g1,g2,gr,gs,z,R,I,hlen,d1,d7,C,e1,o1,y];try simp (disch:=omega) only[Iw])| (with_reducible first|refine fun(cap:Nat) (bk:_<=cap)=> ?_|refine fun(fx:_<=cap)=> ?_)|refine⟨by omega,?_⟩|fail
    obtain⟨w,E⟩: ∃w,w=put (put a 4 (b+56)) (8+k) (b+88):=⟨_,rfl⟩
    have J: ∀j,j≠4->j≠8+k->w j=a j:=fun j F V=>by rw[E,bV V,bV F]
    have p4:w 4=b+56:=(by rw[E,bV (by omega),fL]);have p8:w (8+k)=b+88:=(by rw[E,fL]);obtain⟨s',t⟩: ∃s',s'=bS c s1 (.tell k st):=⟨_,rfl⟩
    have bp:nC s1 st=d:=(by rw[S,A];rfl);have T:aL s' k= {p with out:=QX p.out d.n,last:=st}:=(by rw[t,cH rfl (by rw[g.pl];omega),if_pos rfl,bp,<-N]);have U:aS s' st= {v with done:=v.done.drop 1}:=(by rw[t,cY rfl (by rw[g.sl];omega),if_pos rfl,<-A]);have ca:s'.told=s1.told++[d]:=(by rw[t,<-bp];rfl);refine Ca (q.upd k st w s' (by omega) ?_ ?_ ?_ ?_ ?_ ?_ (.inl M) (.inl P) (fun j Z o=>by rw[t,cH rfl (by rw[g.pl];omega),if_neg o]) (fun j Z o=>by rw[t,cY rfl (by rw[g.sl];omega),if_neg o])) (by omega) fun H' nx' hx dv dx=> ?_
    ·rw[E];have cc: ∀v,b<=v->¬((X v\/v=nx)\/v=i1):=fun v hv hn=>by have:=q.rep.x v hn;omega
     exact((q.rep.names.mono (by omega:ab<=b)).put (nx':=b+57) (by omega) (by omega) (cc _ (by omega))).put (by omega) (by omega) (cc _ (by omega))
    ·intro j Z;by_cases h4:j=4;·subst h4;exact .inr ⟨.inl rfl,by omega⟩
     ·by_cases h8:j=8+k;·subst h8;exact .inr ⟨.inr (.inr (.inl rfl)),by omega⟩
      ·exact .inl (J j h4 h8)
    ·intro id f h0 o;simp only[aA.set,aA.del,h0,o 2 (by omega) (by omega),o 3 (by omega) (by omega),o 4 (by omega) (by omega),o (8+k) (by omega) (by omega),show ¬id=b+47 by omega,show ¬id=b+55 by omega,show ¬id=b+56 by omega,show ¬id=b+88 by omega,if_false]
    ·refine⟨wc,hc,pc,vc,cap,?_,?_,?_,?_,g6,g7⟩;·simp only[aA.set,aA.del,y,if_false,if_true,F3,J 0 (by omega) (by omega),J 1 (by omega) (by omega),J 2 (by omega) (by omega),J 3 (by omega) (by omega),p4,ca,abL,List.length_singleton];rw[t];rfl
     ·rw[J 0 (by omega) (by omega),t];exact g3.frame (by simp only[aA.set,aA.del,y,if_false])
     ·rw[J 1 (by omega) (by omega),t];exact g4.frame (by simp only[aA.set,aA.del,y,if_false])
     ·rw[p4,ca];exact⟨cap,(s1.told++[d]).map aT,by simp only[aA.set,aA.del,y,if_false,if_true,show ¬b+56=b+88 by omega],rfl,by simp,by simp,by simpa using bk,by simp⟩
    ·refine⟨mp,rp.set k [cI p.next,.osl 1 (a (5+k)) qo p.queue.length qc,.osl 3 (b+88) 0 (QX p.out d.n).length aa,cI st],mp,rp,g1,by simp only[aA.set,aA.del,y,if_false,if_true];rfl,by simp only[ab0,g8],fun j Z o=>by rw[acB (Ne.symm o)],fun _=>⟨_,bw _,⟨qo,qc,aa,?_,?_,?_⟩⟩⟩;·rw[T,J (5+k) (by omega) (by omega),p8];rfl
     ·rw[T,J (5+k) (by omega) (by omega)];exact gq.frame (by simp only[aA.set,aA.del,y,if_false])
     ·rw[T,p8];exact⟨m',(QX p.out d.n).map eCJ,by simp only[aA.set,aA.del,y,if_false,if_true];rfl,rfl,by simp,by simp,q1,by omega⟩
    ·refine⟨mv,rv.set st [.osl 3 (a (11+st)) po v.pipe.length bb,.osl 5 (a (15+st)) (do_+1) (v.done.length-1) (dc-1),cI v.last],mv,rv,g2,by simp only[aA.set,aA.del,y,if_false,if_true],by simp only[ab0,g9],fun j Z o=>by rw[acB (Ne.symm o)],fun _=>⟨[.osl 3 (a (11+st)) po v.pipe.length bb,.osl 5 (a (15+st)) (do_+1) (v.done.length-1) (dc-1),cI v.last],acA (by omega),⟨po,bb,do_+1,dc-1,?_,?_,?_⟩⟩⟩;·rw[U,J (11+st) (by omega) (by omega),J (15+st) (by omega) (by omega)];simp only[ja,ab1]
     ·rw[U,J (11+st) (by omega) (by omega)];exact gp.frame (by simp only[aA.set,aA.del,y,if_false])
     ·rw[U,J (15+st) (by omega) (by omega)];refine⟨md,rd,by simp only[aA.set,aA.del,y,if_false];exact d1,by rw[acZ,<-d2,ac5],?_,by simp,?_,?_⟩;·simp only[ab1];omega
      ·simp only[ab1];omega
      ·omega
    ·simp only[go_sem];repeat' first|apply vI<;>(simp only[go_sem];try simp (disch:=omega) only[Iw])|fail
     have hO:pJ i s1 k=some (.tell k st):=(by rw[O];exact fb I ct cx hinv (by rw[<-O];exact decide_eq_true ⟨by rw[<-A];omega,by rw[<-A,<-S];exact C⟩));have hL:=Y.some hO;rw[<-t,show BQ s1 (.tell k st)=[⟨3,k,d.n⟩] from by rw[<-bp];rfl] at hL;have dy:COk c s':=(by rw[t];exact BV hb g (HR g M hO));exact ao _ _ _ (k+1,s',ad++[⟨3,k,d.n⟩],w) noF _ (by omega) (by dsimp only;omega) (by repeat' first|exact C1|refine xqI rfl rfl ?_|refine xqP (by omega) rfl rfl ?_|fail) aE ⟨by dsimp only;omega,dy,dv.mono (by omega),fun id f=>(dx id f).trans (L id f),hL,by simp;omega⟩
   ·have dz:(d.who=(k:Int))=False:=eq_false C;repeat' first| (first|apply vI|apply Y4 (by omega))<;>(simp only[go_sem,g0,g1,g2,gr,gs,z,R,I,hlen,d1,d7,dz];try simp (disch:=omega) only[Iw])|refine⟨by omega,?_⟩|fail
    exact br _ _ _ (j+1) noF _ (by omega) (by omega) (by repeat' first|exact C1|refine xqI rfl rfl ?_|refine xqP (by omega) rfl rfl ?_|fail) aE ⟨by omega,by omega,rfl,fun B F V=>by
     by_cases Z:B<j
     ·exact hinv B F Z
     ·have:B=j:=(by omega);subst this;rw[<-O];exact decide_eq_false fun hc=>C (by rw[S,A];exact hc.2)⟩
  ·repeat' first| (first|apply vI|apply Y5 (by omega))<;>(simp only[go_sem];try simp (disch:=omega) only[Iw])|fail
   exact ao _ _ _ (k+1,s1,ad,a) noF _ (by omega) (by dsimp only;omega) (by repeat' first|exact C1|refine xqI rfl rfl ?_|refine xqP (by omega) rfl rfl ?_|fail) aE ⟨by dsimp only;omega,g,q.mono (by omega),L,Y.none (YA fun B F V=>hinv B F (by omega)),by dsimp only;omega⟩
 ·repeat' first|apply vI<;>(simp only[go_sem])|apply vF (by omega)|fail
  have eb:k=3:=by omega
  subst eb;obtain⟨rfl,rfl⟩:=B4.nil ah;refine hQ _ _ _ _ _ (.inl rfl) rfl (h _ _ a (by omega) (q.next (by omega) (fun _ _ _=>rfl) fun id f=>⟨?_,.inl (.inl f)⟩) fun id f=> ?_);·have:=hB.rep.x id (.inl f);omega
  ·rw[L id (.inl f),W,aA.aB];have:=hB.rep.x id (.inl f);omega
end
section
variable{H:aA}{nx:Nat}{K:afC}
theorem OT{X:Nat->Prop}{c:Cfg}{s:CSt}{es:List Ev}{i0 i1:Nat}{nm:Nat->Nat}(hb:bH c)(hs:COk c s)(hB:oR X H nx i0 i1 nm s es)
 (h: ∀H' nx' n,nx<=nx'->oR X H' nx' i0 i1 n (lQ c s (Cs c s)) es->(∀id,X id->H' id=H id)->K (.tup []) H' nx'):
 afB rD [.one (.c (.ptr 5 i0 0 0)),dA (bI c),.one (.c (.ptr 5 i1 0 0))] H nx K:=by
 refine bR.mk Tryz.func189 (by kernel_rfl) NR rfl fun Q hQ=> ?_
 unfold lP
 obtain⟨fs,fx⟩:=eW hb
 obtain⟨wc,hc,pc,vc,tc,cy,gf,gi,ha,hd,hg⟩: ∃wc hc pc vc tc,H i0=some ⟨5,1,[[.osl 1 (nm 0) 0 s.words.length wc,.osl 1 (nm 1) 0 s.holds.length hc,.osl 4 (nm 2) 0 3 pc,.osl 3 (nm 3) 0 4 vc,.osl 5 (nm 4) 0 s.told.length tc]]⟩/\_:=by obtain⟨cells,F,⟨wc,hc,pc,vc,tc,rfl,h2⟩,_⟩:=hB.rep.st;exact⟨wc,hc,pc,vc,tc,F,h2⟩
 have t:=hB.rep.apart (nx':=nx) [] [] (abG _) (by simp) (by simp) (by simp) (by simp)
 simp only[aO,bG,List.map,List.nil_append] at t
 repeat' first|apply vI<;>(simp only[go_sem,abH,abI,cy,t])|fail
 obtain⟨H0,I⟩: ∃H0,H0=(H.set nx ⟨3,1,[bI c]⟩).set (nx+1) ⟨3,1,[[false,false,false].map cB]⟩:=⟨_,rfl⟩
 have w:=I
 simp only[List.map] at w
 unfold cB at w
 rw[<-w]
 clear w
 have da:H0 nx=some ⟨3,1,[bI c]⟩:=by rw[I,aA.aB (by omega)];exact aA.aI
 have df:H0 (nx+1)=some ⟨3,1,[[false,false,false].map cB]⟩:=by rw[I];exact aA.aI
 have ds:=hB.rep.i0.1
 have dv:=hB.hap.i1.1
 have dx:oR (fun id=>X id\/id=nx\/id=nx+1) H0 (nx+8) i0 i1 nm s es:=hB.next (by omega) (fun id F h2=>by rw[I,aA.aB (by omega),aA.aB (by omega)]) fun id b=>by
  rcases b with b|rfl|rfl;·have:=hB.rep.x id (.inl b);exact⟨by omega,.inl b⟩
  ·exact⟨by omega,.inr (abG _)⟩
  ·exact⟨by omega,.inr (by omega)⟩
 refine aJ.cG (β:=Nat×CSt×List Bool×(Nat->Nat)) (fun u=>en [(18,dI u.1),(17,dI 4),(6,.one (.c (.ptr 3 (nx+1) 0 0))),(4,.one (.c (.ptr 3 nx 0 0))),(2,.one (.c (.ptr 5 i1 0 0))),(0,.one (.c (.ptr 5 i0 0 0)))])
  (fun u H1 ad=>u.1<=4/\COk c u.2.1/\oR (fun id=>X id\/id=nx\/id=nx+1) H1 ad i0 i1 u.2.2.2 u.2.1 es/\(∀id,X id\/id=nx->H1 id=H0 id)/\FU c ([0,1,2,3].drop u.1) u.2.1 u.2.2.1 (lQ c s (Cs c s))/\u.2.2.1.length=3/\H1 (nx+1)=some ⟨3,1,[u.2.2.1.map cB]⟩)
  (fun u=>4-u.1) (0,s,[false,false,false],nm) ⟨noF,_,by repeat' first|exact C1|refine xqI rfl rfl ?_|refine xqP (by omega) rfl rfl ?_|fail,aE,by dsimp only;omega,hs,dx.mono (by omega),fun _ _=>rfl,rfl,rfl,df⟩ ?_
 rintro⟨k,s1,u,e⟩ H1 ad hh ⟨hk,d,f,J,aw,L,B⟩ KL bb
 dsimp only at hk d f aw L B
 obtain⟨wc,hc,pc,vc,tc,mp,rp,mv,rv,g0,g1,g2,g3,g4,g5,g6,g7,g8,g9,ga,gb⟩:=f.rep.get
 have aa:H1 nx=some ⟨3,1,[bI c]⟩:=by rw[J _ (.inr rfl)];exact da
 by_cases o:k<4
 ·have ah:=aw;rw[rz o] at ah;obtain⟨v,C⟩: ∃v,v=aS s1 k:=⟨_,rfl⟩
  obtain⟨po,ho,do_,dc,gs,gp,gd⟩:=gb k o;rw[<-C] at gs gp gd;obtain⟨me,re,p1,p2,p3,p4,p5,p6⟩:=gp.ex;rw[abT] at p4;have dy:=(d.slv k o).last;have hq:=f.rep.names.lt 3 (by omega);rw[<-C] at dy;repeat' first|apply vI<;>(simp only[go_sem,abH,abI,g0,g2,gs])|apply vT (by omega)|refine⟨by omega,?_⟩|fail
  refine aJ.cG (β:=Nat) (fun j=>en [(18,dI k),(17,dI 4),(9,dI j),(8,.one (.c (.ptr 3 (e 3) k 0))),(7,dI k),(6,.one (.c (.ptr 3 (nx+1) 0 0))),(4,.one (.c (.ptr 3 nx 0 0))),(2,.one (.c (.ptr 5 i1 0 0))),(0,.one (.c (.ptr 5 i0 0 0)))])
   (fun j H2 _=>1<=j/\j<=4/\H2=H1/\ ∀y,1<=y->y<j->MA c s1 u k (H9 s1 k y)=false) (fun j=>4-j) 1 ⟨noF,_,by repeat' first|exact C1|refine xqI rfl rfl ?_|refine xqP (by omega) rfl rfl ?_|fail,aE,by omega,by omega,rfl,fun y F h2=>by omega⟩ ?_
  rintro j H2 a dz ⟨eb,ht,ed,hinv⟩ KJ cc;subst ed;by_cases cd:v.pipe.length<2
  ·by_cases ej:j<=3
   ·obtain⟨who,ao⟩: ∃who,who=H9 s1 k j:=⟨_,rfl⟩
    have et:who=((v.last+(j:Int))%3).toNat:=(by rw[ao,C];rfl);have M:who<3:=(by omega);have N:(v.last+(j:Int)).tmod 3=(who:Int):=(by rw[ac0 (by omega)];omega);have bh:((u.map cB).drop who).take 1=[cB (u.getD who default)]:=(by rw[acR (by simp;omega)];simp[List.getD,show who<u.length by omega]);have O:(u.map cB).length=3:=(by rw[abT,L]);have hle:(who+1<=3)=True:=eq_true (by omega)
    have P:MA c s1 u k who=false->∀y,1<=y->y<j+1->MA c s1 u k (H9 s1 k y)=false:=fun hf y F h2=>by
     by_cases hj:y<j;·exact hinv y F hj
     ·have:y=j:=(by omega);subst this;rw[<-ao];exact hf
    cases D:u.getD who default with
    |true=>
     repeat' first| (first|apply vI|apply Y4 (by omega))<;>(simp only[go_sem,abH,abI,g0,g2,gs,adF,N,B,bh,O,hle,D];try simp (disch:=omega) only[Iw])|apply vT (by omega)|refine⟨by omega,?_⟩|fail
     exact cc _ _ _ (j+1) noF _ (by omega) (by omega) (by repeat' first|exact C1|refine xqI rfl rfl ?_|refine xqP (by omega) rfl rfl ?_|fail) aE ⟨by omega,by omega,rfl,P (by unfold MA;rw[D];rfl)⟩
    |false=>
    by_cases z:NM c s1 who k
    ·have R:decide (NM c s1 who k)=true:=decide_eq_true z;obtain⟨p,S⟩: ∃p,p=aL s1 who:=⟨_,rfl⟩
     obtain⟨qo,qc,oc,gr,gq,go⟩:=ga who M;rw[<-S] at gr gq go;have ew:=z.1;have ff:=z.2.1;rw[<-S] at ew ff;have cf:=d.port who M;rw[<-S] at cf;have hy:=cf.ql;obtain⟨mq,rq0,q1,q2,q3,q4,q5,q6⟩:=gq.ex;obtain⟨mo,ro,o1,o2,o3,o4,o5,o6⟩:=go.ex;rw[abT] at q4 o4;rw[acK] at o2;subst o2;obtain⟨n0,bk⟩: ∃n0,n0=p.queue.getD 0 default:=⟨_,rfl⟩
     have q7:rq0[qo]?=some [cI n0]:=(by have:(rq0.drop qo)[0]?=some [cI n0]:=(by rw[q2,abW];simp[bk,List.getD,show 0<p.queue.length by omega,aH]);rwa [ab4,Nat.add_zero] at this);have fh:=hb.2.1;have ck: ∀r,(rp.set who r)[who]?=some r:=fun r=>by rw[acA (by omega)]
     have cl: ∀r,(rv.set k r)[k]?=some r:=fun r=>by rw[acA (by omega)]
     have t:=f.rep.apart (nx':=a) [nx,nx+1,i1] [0,1,2,3,4,5+who,8+who,11+k,15+k] (by omega) (by simp;omega) (fun x hx=>by simp at hx;rcases hx with rfl|rfl|rfl;exact .inl (.inr (.inl rfl));exact .inl (.inr (.inr rfl));exact .inr rfl) (by simp;omega) (by simp;omega);simp only[aO,bG,List.map,List.cons_append,List.nil_append] at t;obtain⟨dh,T,U,V,W,cp,_⟩:=f.hap.ex;refine aJ.BM fun fi=> ?_;have fl: ∀k l,msk (a+k) l H2=H2:=fun k l=>zQ fi (by omega);repeat' first| (first|apply vI|apply Y4 (by omega)|apply B3 (s:=s1) hb d M o (f.rep.Q6 d.pl d.sl))<;>(simp only[go_sem,abH,abI,adF,N,B,bh,O,hle,D,aa,R,fl,umS (G:=H2),umD (G:=H2),umB,acE,g0,g1,g2,gr,gs,ck,cl,q1,q7,o1,p1,cp,t];try simp (disch:=omega) only[Iw])|apply vT (by omega)| (with_reducible first|refine fun(cap:Nat) (bp:_<=cap)=> ?_|refine fun(hz:_<=cap)=> ?_)|refine⟨by omega,?_⟩|fail
     rename_i q ab fm;obtain⟨jo,br⟩: ∃jo:gD,jo=⟨who,n0,k⟩:=⟨_,rfl⟩
     obtain⟨jp,bw⟩: ∃jp:gD,jp=⟨who,n0,c.lat.getD k default⟩:=⟨_,rfl⟩
     have eo:List.map eCJ p.out++[[D1.v (.int .i64 who),cI n0,D1.v (.int .i64 k)]]=(p.out++[jo]).map eCJ:=(by rw[abU,br];rfl);have ep:List.take v.pipe.length (List.drop po re)++[[D1.v (.int .i64 who),cI n0,D1.v (.int .i64 (c.lat.getD k default))]]=(v.pipe++[jp]).map eCJ:=(by rw[p2,abM (by simp),abU,bw];rfl);have eu:List.take who (List.map cB u)++[D1.v (.bool true)]++List.drop (who+1) (List.map cB u)=(u.set who true).map cB:=(by rw[acY,aeU,if_pos (by simp;omega),abY];rfl);have ei:List.take (1+k) [dh,cI T,cI U,cI V,cI W]++[D1.v (.int .i64 1)]++List.drop (1+(k+1)) [dh,cI T,cI U,cI V,cI W]=[dh,cI T,cI U,cI V,cI W].set (1+k) (cI 1):=(by rw[aeU,if_pos (by simp;omega),abY];rfl);rw[eo,ep,eu,ei];obtain⟨n,A⟩: ∃n,n=put (put e (8+who) (a+62)) (11+k) (a+80):=⟨_,rfl⟩
     have E: ∀j,j≠8+who->j≠11+k->n j=e j:=fun j F h2=>by rw[A,bV h2,bV F]
     have cq:n (8+who)=a+62:=(by rw[A,bV (by omega),fL]);have cr:n (11+k)=a+80:=(by rw[A,fL]);have hW:QV c s1 u k=some who:=(by rw[ao];exact qw (by rw[<-C];exact cd) eb ej hinv (by rw[<-ao];unfold MA;rw[D,R];rfl));obtain⟨s',m⟩: ∃s',s'=bS c s1 (.adm who k):=⟨_,rfl⟩
     have hL:=ah.some hW;rw[<-m] at hL;have fo:COk c s':=(by rw[m];exact BV hb d (sm o hW));have Y:aL s' who= {p with queue:=p.queue.drop 1,out:=p.out++[jo]}:=(by rw[m,cH rfl (by rw[d.pl];omega),if_pos rfl,<-S,br,bk]);have Z:aS s' k= {v with pipe:=v.pipe++[jp],last:=who}:=(by rw[m,cY rfl (by rw[d.sl];omega),if_pos rfl,<-S,<-C,bw,bk]);obtain⟨Hm,g⟩: ∃Hm,Hm=(((((((H2.del (e (8+who))).del (e (11+k))).set (e 2) ⟨4,mp,rp.set who [cI p.next,.osl 1 (e (5+who)) (qo+1) (p.queue.length-1) (qc-1),.osl 3 (a+62) 0 (p.out.length+1) q,cI p.last]⟩).set (a+61) ⟨3,1,[eCJ jo]⟩).set (a+62) ⟨3,q,(p.out++[jo]).map eCJ⟩).set (a+79) ⟨3,1,[eCJ jp]⟩).set (a+80) ⟨3,cap,(v.pipe++[jp]).map eCJ⟩).set (e 3) ⟨3,mv,rv.set k [.osl 3 (a+80) 0 (v.pipe.length+1) cap,.osl 5 (e (15+k)) do_ v.done.length dc,cI who]⟩:=⟨_,rfl⟩
     have ct:=f.upd (H':=Hm) (nx':=a+100) who k n s' (by omega) ?_ ?_ ?_ ?_ ?_ ?_ (.inl M) (.inl o) (fun j hj i=>by rw[m,cH rfl (by rw[d.pl];omega),if_neg i]) (fun j hj i=>by rw[m,cY rfl (by rw[d.sl];omega),if_neg i])
     ·have ia:X nx\/nx=nx\/nx=nx+1:=.inr (.inl rfl);have ca:Hm i1=some ⟨5,1,[[dh,cI T,cI U,cI V,cI W]]⟩:=(by rw[g];simp only[aA.set,aA.del,t,if_false];exact cp);have cw:i1≠nx+1:=(by omega);refine bb _ _ _ (k+1,s',u.set who true,n) noF ((Hm.set (nx+1) ⟨3,1,[(u.set who true).map cB]⟩).set i1 ⟨5,1,[[dh,cI T,cI U,cI V,cI W].set (1+k) (cI 1)]⟩) (by omega) (by dsimp only;omega) (by repeat' first|exact C1|refine xqI rfl rfl ?_|refine xqP (by omega) rfl rfl ?_|fail) ?_ ⟨by dsimp only;omega,fo,(ct.1.aa8 (.inr (.inr rfl))).cells o ((aA.aB cw).trans ca) rfl,fun id b=> ?_,hL,by simpa using L,?_⟩;·rw[g,br,bw];exact aE
      ·have F:id≠i1:=by
        rintro rfl
        rcases b with b|rfl
        ·exact f.hap.i1.2 (.inl (.inl b))
        ·omega
       have h2:id≠nx+1:=by
        rcases b with b|rfl;·have:=hB.rep.x id (.inl b);omega
        ·omega
       rw[aA.aB F,aA.aB h2,ct.2 id (b.imp (fun h=>h) .inl)]
       exact J id b
      ·rw[aA.aB cw.symm];exact aA.aI
     ·rw[A];have cx: ∀v,ad<=v->¬((X v\/v=nx\/v=nx+1)\/v=i1):=fun v hv hn=>by have:=f.rep.x v hn;omega
      exact((f.rep.names.mono (by omega:ad<=a)).put (nx':=a+63) (by omega) (by omega) (cx _ (by omega))).put (by omega) (by omega) (cx _ (by omega))
     ·intro j hj;by_cases h4:j=8+who;·subst h4;exact .inr ⟨.inr (.inr (.inl rfl)),by omega⟩
      ·by_cases h8:j=11+k;·subst h8;exact .inr ⟨.inr (.inr (.inr (.inl rfl))),by omega⟩
       ·exact .inl (E j h4 h8)
     ·intro id b h0 i;rw[g];simp only[aA.set,aA.del,i 2 (by omega) (by omega),i 3 (by omega) (by omega),i (8+who) (by omega) (by omega),i (11+k) (by omega) (by omega),show ¬id=a+61 by omega,show ¬id=a+62 by omega,show ¬id=a+79 by omega,show ¬id=a+80 by omega,if_false]
     ·refine⟨wc,hc,pc,vc,tc,?_,?_,?_,?_,g6,g7⟩;·rw[g];simp only[aA.set,aA.del,t,if_false,F3,E 0 (by omega) (by omega),E 1 (by omega) (by omega),E 2 (by omega) (by omega),E 3 (by omega) (by omega),E 4 (by omega) (by omega)];rw[m];exact g0
      ·rw[E 0 (by omega) (by omega),m];exact g3.frame (by rw[g];simp only[aA.set,aA.del,t,if_false])
      ·rw[E 1 (by omega) (by omega),m];exact g4.frame (by rw[g];simp only[aA.set,aA.del,t,if_false])
      ·rw[E 4 (by omega) (by omega),m];exact g5.frame (by rw[g];simp only[aA.set,aA.del,t,if_false])
     ·refine⟨mp,rp.set who [cI p.next,.osl 1 (e (5+who)) (qo+1) (p.queue.length-1) (qc-1),.osl 3 (a+62) 0 (p.out.length+1) q,cI p.last],mp,rp,g1,by rw[g];simp only[aA.set,aA.del,t,if_false,if_true],by simp only[ab0,g8],fun j hj i=>by rw[acB (Ne.symm i)],fun _=>⟨_,ck _,⟨qo+1,qc-1,q,?_,?_,?_⟩⟩⟩;·rw[Y,E (5+who) (by omega) (by omega),cq];simp only[VV,ab1,abL,List.length_singleton]
      ·rw[Y,E (5+who) (by omega) (by omega)];refine⟨mq,rq0,?_,by rw[acZ,<-q2,ac5],?_,by simp,?_,?_⟩;·rw[g];simp only[aA.set,aA.del,t,if_false];exact q1
       ·simp only[ab1];omega
       ·simp only[ab1];omega
       ·omega
      ·rw[Y,cq];refine⟨q,(p.out++[jo]).map eCJ,?_,rfl,by simp,by simp,by simpa using ab,by simp⟩;rw[g];simp only[aA.set,aA.del,t,if_false,if_true,abJ,Nat.reduceEqDiff]
     ·refine⟨mv,rv.set k [.osl 3 (a+80) 0 (v.pipe.length+1) cap,.osl 5 (e (15+k)) do_ v.done.length dc,cI who],mv,rv,g2,by rw[g];exact aA.aI,by simp only[ab0,g9],fun j hj i=>by rw[acB (Ne.symm i)],fun _=>⟨_,cl _,⟨0,cap,do_,dc,?_,?_,?_⟩⟩⟩;·rw[Z,cr,E (15+k) (by omega) (by omega)];simp only[ja,abL,List.length_singleton]
      ·rw[Z,cr];refine⟨cap,(v.pipe++[jp]).map eCJ,?_,rfl,by simp,by simp,by simpa using bp,by simp⟩;rw[g];simp only[aA.set,aA.del,t,if_false,if_true]
      ·rw[Z,E (15+k) (by omega) (by omega)];exact gd.frame (by rw[g];simp only[aA.set,aA.del,t,if_false])
    ·have R:decide (NM c s1 who k)=false:=decide_eq_false z;repeat' first| (first|apply vI|apply Y4 (by omega)|apply B3 (s:=s1) hb d M o (f.rep.Q6 d.pl d.sl))<;>(simp only[go_sem,abH,abI,g0,g2,gs,adF,N,B,bh,O,hle,D,aa,R];try simp (disch:=omega) only[Iw])|apply vT (by omega)|refine⟨by omega,?_⟩|fail
     exact cc _ _ _ (j+1) noF _ (by omega) (by omega) (by repeat' first|exact C1|refine xqI rfl rfl ?_|refine xqP (by omega) rfl rfl ?_|fail) aE ⟨by omega,by omega,rfl,P (by unfold MA;rw[D];rw[R];rfl)⟩
   ·repeat' first| (first|apply vI|apply Y5 (by omega))<;>(simp only[go_sem,abH,abI,g0,g2,gs];try simp (disch:=omega) only[Iw])|fail
    exact bb _ _ _ (k+1,s1,u,e) noF _ (by omega) (by dsimp only;omega) (by repeat' first|exact C1|refine xqI rfl rfl ?_|refine xqP (by omega) rfl rfl ?_|fail) aE ⟨by dsimp only;omega,d,f.mono (by omega),J,ah.none (ov fun y F h2=>hinv y F (by omega)),L,B⟩
  ·repeat' first| (first|apply vI|refine Y6 (fun h=> ?_) fun h=> ?_)<;>(simp only[go_sem,abH,abI,g0,g2,gs];try simp (disch:=omega) only[Iw])|apply vF (by omega)|fail
   all_goals exact bb _ _ _ (k+1,s1,u,e) noF _ (by omega) (by dsimp only;omega) (by repeat' first|exact C1|refine xqI rfl rfl ?_|refine xqP (by omega) rfl rfl ?_|fail) aE ⟨by dsimp only;omega,d,f.mono (by omega),J,ah.none (zj (by rw[<-C];exact cd)),L,B⟩
 ·repeat' first|apply vI<;>(simp only[go_sem])|apply vF (by omega)|fail
  have fp:k=4:=by omega
  subst fp;obtain rfl:=aw;refine hQ _ _ _ _ _ (.inl rfl) rfl (h _ _ e (by omega) (f.next (by omega) (fun _ _ _=>rfl) fun id b=>⟨?_,.inl (.inl b)⟩) fun id b=> ?_);·have:=hB.rep.x id (.inl b);omega
  ·have:=hB.rep.x id (.inl b);rw[J id (.inl b),I,aA.aB (by omega),aA.aB (by omega)]
end
theorem MV{i:CIn}{s:CSt}{st:Nat}(h:i.mW.getD st default=true\/(aS s st).pipe.length=0):lZ i s st=none:=if_pos h
theorem ZA{i:CIn}{s:CSt}{st:Nat}(h: ¬(i.mW.getD st default=true\/(aS s st).pipe.length=0))(a:0<(eA s st).left):lZ i s st=some (.tick st):=by unfold lZ;rw[if_neg h,if_pos a]
theorem YL{i:CIn}{s:CSt}{st:Nat}(h: ¬(i.mW.getD st default=true\/(aS s st).pipe.length=0))(a: ¬0<(eA s st).left)(b:(aS s st).done.length<2):lZ i s st=some (.work st):=by unfold lZ;rw[if_neg h,if_neg a,if_pos b]
theorem YV{i:CIn}{s:CSt}{st:Nat}(h: ¬(i.mW.getD st default=true\/(aS s st).pipe.length=0))(a: ¬0<(eA s st).left)(b: ¬(aS s st).done.length<2):lZ i s st=none:=by unfold lZ;rw[if_neg h,if_neg a,if_neg b]
section
variable{H:aA}{nx:Nat}{K:afC}
theorem NT{X:Nat->Prop}{c:Cfg}{i:CIn}{s:CSt}{es:List Ev}{i0 i1:Nat}{nm:Nat->Nat}(hb:bH c)(hs:COk c s)(fs:i.mW.length=4)(hB:oR X H nx i0 i1 nm s es)(hl:es.length<900)
 (h: ∀H' nx' E,nx<=nx'->oR X H' nx' i0 i1 E (lQ c s (FJ c i s)) (es++gV c s (FJ c i s))->(∀id,X id->H' id=H id)->K (.tup []) H' nx'):
 afB o9 [.one (.c (.ptr 5 i0 0 0)),dA (bI c),dA (eIn i),.one (.c (.ptr 5 i1 0 0))] H nx K:=by
 refine bR.mk Tryz.func188 (by kernel_rfl) K9 rfl fun Q hQ=> ?_
 unfold kU
 obtain⟨fx,gf⟩:=eW hb
 obtain⟨wc,hc,pc,vc,tc,ct,gi,gq,gr,ha,hd⟩: ∃wc hc pc vc tc,H i0=some ⟨5,1,[[.osl 1 (nm 0) 0 s.words.length wc,.osl 1 (nm 1) 0 s.holds.length hc,.osl 4 (nm 2) 0 3 pc,.osl 3 (nm 3) 0 4 vc,.osl 5 (nm 4) 0 s.told.length tc]]⟩/\_:=by obtain⟨cells,h1,⟨wc,hc,pc,vc,tc,rfl,h2⟩,_⟩:=hB.rep.st;exact⟨wc,hc,pc,vc,tc,h1,h2⟩
 have f:=hB.rep.apart (nx':=nx) [] [] (abG _) (by simp) (by simp) (by simp) (by simp)
 simp only[aO,bG,List.map,List.nil_append] at f
 repeat' first|apply vI<;>(simp only[go_sem,abH,abI,ct,f])|fail
 obtain⟨H0,M⟩: ∃H0,H0=(H.set nx ⟨3,1,[bI c]⟩).set (nx+1) ⟨3,1,[eIn i]⟩:=⟨_,rfl⟩
 rw[<-M]
 have cw:H0 nx=some ⟨3,1,[bI c]⟩:=by rw[M,aA.aB (by omega)];exact aA.aI
 have cx:H0 (nx+1)=some ⟨3,1,[eIn i]⟩:=by rw[M];exact aA.aI
 have cy:=hB.rep.i0.1
 have da:=hB.hap.i1.1
 have df:oR (fun id=>X id\/id=nx\/id=nx+1) H0 (nx+8) i0 i1 nm s es:=hB.next (by omega) (fun id h1 h2=>by rw[M,aA.aB (by omega),aA.aB (by omega)]) fun id b=>by
  rcases b with b|rfl|rfl;·have:=hB.rep.x id (.inl b);exact⟨by omega,.inl b⟩
  ·exact⟨by omega,.inr (abG _)⟩
  ·exact⟨by omega,.inr (by omega)⟩
 refine aJ.cG (β:=Nat×CSt×List Ev×(Nat->Nat)) (fun u=>en [(16,dI u.1),(15,dI 4),(6,.one (.c (.ptr 3 (nx+1) 0 0))),(5,.one (.c (.ptr 3 nx 0 0))),(3,.one (.c (.ptr 5 i1 0 0))),(0,.one (.c (.ptr 5 i0 0 0)))])
  (fun u H1 t=>u.1<=4/\COk c u.2.1/\oR (fun id=>X id\/id=nx\/id=nx+1) H1 t i0 i1 u.2.2.2 u.2.1 u.2.2.1/\(∀id,X id\/id=nx\/id=nx+1->H1 id=H0 id)/\B4 c (lZ i) ([0,1,2,3].drop u.1) u.2.1 u.2.2.1 (lQ c s (FJ c i s)) (es++gV c s (FJ c i s))/\u.2.2.1.length<=es.length+u.1)
  (fun u=>4-u.1) (0,s,es,nm) ⟨noF,_,by repeat' first|exact C1|refine xqI rfl rfl ?_|refine xqP (by omega) rfl rfl ?_|fail,aE,by dsimp only;omega,hs,df.mono (by omega),fun _ _=>rfl,⟨rfl,rfl⟩,by simp⟩ ?_
 rintro⟨k,s1,N,p⟩ H1 t hf ⟨hk,m,g,F,ab,dh⟩ KL O
 dsimp only at hk m g ab dh
 obtain⟨wc,hc,pc,vc,tc,mp,rp,mv,rv,W,g1,Y,g3,g4,g5,g6,g7,g8,g9,ga,gb⟩:=g.rep.get
 have I:H1 (nx+1)=some ⟨3,1,[eIn i]⟩:=by rw[F _ (.inr (.inr rfl))];exact cx
 have ad:H1 nx=some ⟨3,1,[bI c]⟩:=by rw[F _ (.inr (.inl rfl))];exact cw
 by_cases B:k<4
 ·have L:=ab;rw[rz B] at L;obtain⟨v,y⟩: ∃v,v=aS s1 k:=⟨_,rfl⟩
  obtain⟨po,ah,do_,dc,gs,gp,gd⟩:=gb k B;rw[<-y] at gs gp gd;obtain⟨md,rd,d1,d2,d3,d4,d5,d6⟩:=gd.ex;obtain⟨me,re,p1,p2,p3,p4,p5,p6⟩:=gp.ex;rw[abT] at d4 p4
  cases J:i.mW.getD k default with
  |true=>
   repeat' first|apply vI<;>(simp only[go_sem,abH,abI,W,Y,gs,I,J];try simp (disch:=omega) only[Iw])|apply vT (by omega)|refine⟨by omega,?_⟩|fail
   exact O _ _ _ (k+1,s1,N,p) noF _ (by omega) (by dsimp only;omega) (by repeat' first|exact C1|refine xqI rfl rfl ?_|refine xqP (by omega) rfl rfl ?_|fail) aE ⟨by dsimp only;omega,m,g.mono (by omega),F,L.none (MV (.inl J)),by dsimp only;omega⟩
  |false=>
  have ds: ∀{A:Prop},¬(i.mW.getD k default=true\/A)↔¬A:=fun {A}=>by rw[J];simp
  by_cases br:v.pipe.length=0
  ·have hlen:((v.pipe.length:Int)=0)=True:=eq_true (by omega);repeat' first|apply vI<;>(simp only[go_sem,abH,abI,W,Y,gs,I,J,hlen];try simp (disch:=omega) only[Iw])|apply vT (by omega)|refine⟨by omega,?_⟩|fail
   exact O _ _ _ (k+1,s1,N,p) noF _ (by omega) (by dsimp only;omega) (by repeat' first|exact C1|refine xqI rfl rfl ?_|refine xqP (by omega) rfl rfl ?_|fail) aE ⟨by dsimp only;omega,m,g.mono (by omega),F,L.none (MV (.inr (by rw[<-y];exact br))),by dsimp only;omega⟩
  have ao: ¬(i.mW.getD k default=true\/(aS s1 k).pipe.length=0):=by rw[<-y];exact ds.2 br
  have hlen:((v.pipe.length:Int)=0)=False:=eq_false (by omega);obtain⟨j,T⟩: ∃j,j=v.pipe.getD 0 default:=⟨_,rfl⟩
  have C:eA s1 k=j:=by rw[T,y];rfl
  have p7:re[po]?=some (eCJ j):=by have:(re.drop po)[0]?=some (eCJ j):=(by rw[p2,abW];simp[T,List.getD,show 0<v.pipe.length by omega]);rwa [ab4,Nat.add_zero] at this
  have f:=g.rep.apart (nx':=t) [nx,nx+1] [0,1,2,3,4,11+k,15+k] (abG _) (by simp) (fun x hx=>.inl (.inr (by simpa using hx))) (by simp;omega) (by simp;omega);simp only[aO,bG,List.map,List.cons_append,List.nil_append] at f;have dv:=m.slv k B;have dx:j∈(aS s1 k).pipe:=by rw[T,y];exact bT (by rw[<-y];omega)
  obtain⟨bw,Z,aw⟩:=m.vIn B (UU dx);dsimp only at bw Z aw;have aa:pA c j.who j.n:=by have:=(m.port j.who.toNat (by omega)).asks (n:=j.n) (by omega) Z (by omega);rwa [show ((j.who.toNat:Nat):Int)=j.who by omega] at this
  have dy:=(dv.left 0 (by rw[<-y];omega)).1;rw[<-y,<-T] at dy;have dz:=UO hb B;have eb:=H7 hb aa;have hg:=hb.1.1;have ca: ∀r,(rv.set k r)[k]?=some r:=fun r=>by rw[acA (by omega)]
  obtain⟨cc,cd,cf⟩:=aa;have ho:s1.told.length<=36:=by have:=m.st.lens hb;simp only[dN] at this;omega
  obtain⟨mw,hq,w1,w2,w3,w4,w5,w6⟩:=g3.ex;obtain⟨mh,ht,ei,ck,hy,hz,eo,ep⟩:=g4.ex;rw[acK] at w2 ck;subst w2;subst ck;refine aJ.BM fun et=> ?_;have bb: ∀k l,msk (t+k) l H1=H1:=fun k l=>zQ et (by omega);by_cases bh:0<j.left
  ·repeat' first|apply vI<;>(simp only[go_sem,abH,abI,bb,umS (G:=H1),umD (G:=H1),umB,W,Y,gs,I,J,hlen,p1,p7,f];try simp (disch:=omega) only[Iw])|apply vT (by omega)|refine⟨by omega,?_⟩|fail
   have hO:lZ i s1 k=some (.tick k):=ZA ao (by rw[C];exact bh);have hL:=L.some hO;obtain⟨s',o⟩: ∃s',s'=bS c s1 (.tick k):=⟨_,rfl⟩
   rw[<-o,show BQ s1 (.tick k)=[] from rfl,ab3] at hL;have P:COk c s':=(by rw[o];exact BV hb m (HS m B hO));have z:aS s' k= {v with pipe:=v.pipe.set 0 {j with left:=j.left-1}}:=(by rw[o,cY rfl (by rw[m.sl];omega),if_pos rfl,C,<-y]);have cl:=g.upd (H':=(H1.set (t+29) ⟨3,1,[eCJ j]⟩).set (p (11+k)) ⟨3,me,re.set po [cI j.who,cI j.n,cI (j.left-1)]⟩) (nx':=t+48) 14 k p s' (by omega) (g.rep.names.mono (by omega)) (fun j _=>.inl rfl) ?_ ?_ ?_ ?_ (.inr rfl) (.inl B) (fun j hj w=>by rw[o];rfl) (fun j hj w=>by rw[o,cY rfl (by rw[m.sl];omega),if_neg w]);·exact O _ _ _ (k+1,s',N,p) noF _ (by omega) (by dsimp only;omega) (by repeat' first|exact C1|refine xqI rfl rfl ?_|refine xqP (by omega) rfl rfl ?_|fail) aE ⟨by dsimp only;omega,P,cl.1,fun id b=>(cl.2 id b).trans (F id b),hL,by dsimp only;omega⟩
   ·intro id b h0 w;rw[aA.aB (w (11+k) (by omega) (by omega)),aA.aB (by omega)]
   ·refine⟨wc,hc,pc,vc,tc,?_,?_,?_,?_,g6,g7⟩;·simp only[aA.set,f,if_false];rw[W,o];rfl
    ·rw[o];exact g3.frame (by simp only[aA.set,f,if_false])
    ·rw[o];exact g4.frame (by simp only[aA.set,f,if_false])
    ·rw[o];exact g5.frame (by simp only[aA.set,f,if_false])
   ·exact⟨mp,rp,mp,rp,g1,by simp only[aA.set,f,if_false];exact g1,g8,fun _ _ _=>rfl,fun hh=>by omega⟩
   ·refine⟨mv,rv,mv,rv,Y,by simp only[aA.set,f,if_false];exact Y,g9,fun _ _ _=>rfl,fun _=>⟨_,gs,⟨po,ah,do_,dc,?_,?_,?_⟩⟩⟩;·rw[z];simp only[ja,ab0]
    ·rw[z];refine⟨me,_,aA.aI,?_,by simpa using p3,by simp,by simpa using p5,p6⟩;rw[List.drop_set,if_neg (by omega),adE,p2,acY];rfl
    ·rw[z];exact gd.frame (by simp only[aA.set,f,if_false])
  by_cases cp:v.done.length<2
  ·repeat' first|apply vI<;>(simp only[go_sem,abH,abI,bb,umS (G:=H1),umD (G:=H1),umB,W,Y,gs,ca,acE,ad,I,J,hlen,p1,p7,f])|apply vT (by omega)|apply vF (by omega)|refine⟨by omega,?_⟩|fail
   refine OV (q:=bQ c j.who j.n) (m0:=mw) (m1:=mh) (i0:=i0) (by omega) m.atm w5 eo bw eb ?_ ?_ (by simp only[aA.set,f,if_false];exact W) (by simp only[aA.set,f,if_false];exact w1) (by simp only[aA.set,f,if_false];exact ei) (fun H' nx' ia f1 f2 U=> ?_);·have:=g.rep.i0.1;have:=g.rep.names.lt 0 (by omega);have:=g.rep.names.lt 1 (by omega);omega
   ·simp only[acO,abQ,acG,or_false,not_or,f,not_false_eq_true,and_self,List.nodup_nil]
   have V: ∀a,a<19->p a<t:=g.rep.names.lt;have e3:H' (p 3)=some ⟨3,mv,rv.set k [.osl 3 (p (11+k)) (po+1) (v.pipe.length-1) (ah-1),.osl 5 (p (15+k)) do_ v.done.length dc,cI v.last]⟩:=(by rw[U _ (by have:=V 3 (by omega);omega) (by simp only[ne_eq,f,not_false_eq_true]) (by simp only[ne_eq,f,not_false_eq_true])];exact aA.aI);have ej:H' (t+29)=some ⟨3,1,[eCJ j]⟩:=(by rw[U _ (by omega) (by have:=V 0 (by omega);omega) (by have:=V 1 (by omega);omega)];simp only[aA.set,f,if_false,if_true]);have ed:H' (p (15+k))=some ⟨5,md,rd⟩:=(by rw[U _ (by have:=V (15+k) (by omega);omega) (by simp only[ne_eq,f,not_false_eq_true]) (by simp only[ne_eq,f,not_false_eq_true])];simp only[aA.set,f,if_false];exact d1);have D:=g.rep.apart (nx':=nx') [nx,nx+1] [0,1,2,3,4,11+k,15+k] (by omega) (by simp) (fun x hx=>.inl (.inr (by simpa using hx))) (by simp;omega) (by simp;omega);simp only[aO,bG,List.map,List.cons_append,List.nil_append] at D;simp only[go_sem,abH,abI,msk,List.map,abQ,acG,or_false,abJ,Nat.reduceEqDiff,Nat.reduceAdd,e3,ej,ed,ca,f,D,if_false,if_true,acE];refine⟨⟨by omega,by omega⟩,by omega,fun cap bk ie=> ?_⟩;obtain⟨d,bp⟩: ∃d:Job,d=⟨j.who,j.n,(doM c.map s1.words s1.holds j.who (bQ c j.who j.n)).2⟩:=⟨_,rfl⟩
   have er:List.take v.done.length (List.drop do_ rd)++[cI j.who::cI j.n::mS (doM c.map s1.words s1.holds j.who (bQ c j.who j.n)).snd]=(v.done++[d]).map aT:=(by rw[d2,abM (by simp),abU,bp];rfl);have eu:[cI j.who::cI j.n::mS (doM c.map s1.words s1.holds j.who (bQ c j.who j.n)).snd]=[aT d]:=(by rw[bp];rfl);rw[er,eu];repeat' first|apply vI<;>(simp only[go_sem,abH,abI,ej,f,D])|fail
   obtain⟨E,R⟩: ∃E,E=put p (15+k) (t+80):=⟨_,rfl⟩
   have S: ∀j,j≠15+k->E j=p j:=fun j h1=>by rw[R,bV h1]
   have cq:E (15+k)=t+80:=(by rw[R,fL]);have hO:lZ i s1 k=some (.work k):=YL ao (by rw[C];exact bh) (by rw[<-y];exact cp);have hL:=L.some hO;obtain⟨s',o⟩: ∃s',s'=bS c s1 (.work k):=⟨_,rfl⟩
   rw[<-o,show BQ s1 (.work k)=[⟨2,j.who,j.n⟩] from by rw[<-C];rfl] at hL;have P:COk c s':=(by rw[o];exact BV hb m (HS m B hO));have z:aS s' k= {v with pipe:=v.pipe.drop 1,done:=v.done++[d]}:=(by rw[o,cY rfl (by rw[m.sl];omega),if_pos rfl,C,<-y,bp];unfold KR;rw[C]);have ew:s'.words=(doM c.map s1.words s1.holds j.who (bQ c j.who j.n)).1.1:=(by rw[o,<-C];rfl);have ff:s'.holds=(doM c.map s1.words s1.holds j.who (bQ c j.who j.n)).1.2:=(by rw[o,<-C];rfl);have fh:s'.words.length=s1.words.length:=(by obtain⟨h1,_⟩:=P.atm;obtain⟨h2,_⟩:=m.atm;omega);have fi:s'.holds.length=s1.holds.length:=(by obtain⟨_,_,h1,_⟩:=P.atm;obtain⟨_,_,h2,_⟩:=m.atm;omega);rw[<-ew] at f1;rw[<-ff] at f2;have cr:s'.told=s1.told:=(by rw[o];rfl);have hH: ∀id,id<t->id≠p 0->id≠p 1->id≠p 3->H' id=H1 id:=fun id e e0 e1 e3=>by rw[U id (by omega) e0 e1,aA.aB e3,aA.aB (by omega)]
   refine Ca (g.upd 14 k E s' (by omega) ?_ ?_ ?_ ?_ ?_ ?_ (.inr rfl) (.inl B) (fun j hj w=>by rw[o];rfl) (fun j hj w=>by rw[o,cY rfl (by rw[m.sl];omega),if_neg w])) (by omega) fun H2 ih hx fl fm=> ?_
   ·rw[R];have fo: ∀v,t<=v->¬((X v\/v=nx\/v=nx+1)\/v=i1):=fun v hv V=>by have:=g.rep.x v V;omega
    exact g.rep.names.put (by omega) (by omega) (fo _ (by omega))
   ·intro j hj;by_cases h4:j=15+k;·subst h4;exact .inr ⟨.inr (.inr (.inr (.inr rfl))),by omega⟩
    ·exact .inl (S j h4)
   ·intro id b h0 w;have e3:=w 3 (by omega) (by omega);simp only[aA.set,aA.del,e3,w (15+k) (by omega) (by omega),show ¬id=t+79 by omega,show ¬id=t+80 by omega,if_false];exact hH id b (w 0 (by omega) (by omega)) (w 1 (by omega) (by omega)) e3
   ·refine⟨wc,hc,pc,vc,tc,?_,?_,?_,?_,g6,g7⟩;·simp only[aA.set,aA.del,f,D,if_false,F3,S 0 (by omega),S 1 (by omega),S 2 (by omega),S 3 (by omega),S 4 (by omega),fh,fi,cr];rw[hH i0 (by have:=g.rep.i0.1;omega) (by simp only[ne_eq,f,not_false_eq_true]) (by simp only[ne_eq,f,not_false_eq_true]) (by simp only[ne_eq,f,not_false_eq_true])];exact W
    ·rw[S 0 (by omega)];exact⟨mw,s'.words.map aH,by simp only[aA.set,aA.del,f,D,if_false];exact f1,rfl,by simp,by simp,by omega,w6⟩
    ·rw[S 1 (by omega)];exact⟨mh,s'.holds.map aH,by simp only[aA.set,aA.del,f,D,if_false];exact f2,rfl,by simp,by simp,by omega,ep⟩
    ·rw[S 4 (by omega),cr];apply g5.frame;simp only[aA.set,aA.del,f,D,if_false];exact hH _ (V 4 (by omega)) (by simp only[ne_eq,f,not_false_eq_true]) (by simp only[ne_eq,f,not_false_eq_true]) (by simp only[ne_eq,f,not_false_eq_true])
   ·refine⟨mp,rp,mp,rp,g1,?_,g8,fun _ _ _=>rfl,fun hh=>by omega⟩;simp only[aA.set,aA.del,f,D,if_false];rw[hH _ (V 2 (by omega)) (by simp only[ne_eq,f,not_false_eq_true]) (by simp only[ne_eq,f,not_false_eq_true]) (by simp only[ne_eq,f,not_false_eq_true])];exact g1
   ·refine⟨mv,_,mv,rv,Y,aA.aI,by simp only[ab0,g9],fun j hj w=>by rw[acB (Ne.symm w)],fun _=>⟨_,acA (by omega),⟨po+1,ah-1,0,cap,?_,?_,?_⟩⟩⟩;·rw[z,S (11+k) (by omega),cq];simp only[ja,ab1,abL,List.length_singleton]
    ·rw[z,S (11+k) (by omega)];refine⟨me,re,?_,by rw[acZ,<-p2,ac5],?_,by simp,?_,?_⟩;·simp only[aA.set,aA.del,f,D,if_false];rw[hH _ (V (11+k) (by omega)) (by simp only[ne_eq,f,not_false_eq_true]) (by simp only[ne_eq,f,not_false_eq_true]) (by simp only[ne_eq,f,not_false_eq_true])];exact p1
     ·simp only[ab1];omega
     ·simp only[ab1];omega
     ·omega
    ·rw[z,cq];refine⟨cap,(v.done++[d]).map aT,by simp only[aA.set,aA.del,f,if_false,if_true],rfl,by simp,by simp,by simpa using bk,by simp⟩
   ·simp only[go_sem];repeat' first|apply vI<;>(simp only[go_sem];try simp (disch:=omega) only[Iw])|fail
    exact O _ _ _ (k+1,s',N++[⟨2,j.who,j.n⟩],E) noF _ (by omega) (by dsimp only;omega) (by repeat' first|exact C1|refine xqI rfl rfl ?_|refine xqP (by omega) rfl rfl ?_|fail) aE ⟨by dsimp only;omega,P,fl.mono (by omega),fun id b=>(fm id b).trans (F id b),hL,by simp;omega⟩
  ·repeat' first|apply vI<;>(simp only[go_sem,abH,abI,bb,umS (G:=H1),umD (G:=H1),umB,W,Y,gs,I,J,hlen,p1,p7,f];try simp (disch:=omega) only[Iw])|apply vT (by omega)|apply vF (by omega)|refine⟨by omega,?_⟩|fail
   have hO:=YV ao (by rw[C];exact bh) (by rw[<-y];exact cp);refine O _ _ _ (k+1,s1,N,p) noF _ (by omega) (by dsimp only;omega) (by repeat' first|exact C1|refine xqI rfl rfl ?_|refine xqP (by omega) rfl rfl ?_|fail) aE ⟨by dsimp only;omega,m,g.next (by omega) (fun id h1 h2=>by rw[aA.aB (by omega)]) fun id b=>⟨?_,.inl b⟩,fun id b=> ?_,L.none hO,by dsimp only;omega⟩;·have:=g.rep.x id (.inl b);omega
   ·have:=g.rep.x id (.inl b);rw[aA.aB (by omega)];exact F id b
 ·repeat' first|apply vI<;>(simp only[go_sem])|apply vF (by omega)|fail
  have fp:k=4:=by omega
  subst fp;obtain⟨rfl,rfl⟩:=B4.nil ab;refine hQ _ _ _ _ _ (.inl rfl) rfl (h _ _ p (by omega) (g.next (by omega) (fun _ _ _=>rfl) fun id b=>⟨?_,.inl (.inl b)⟩) fun id b=> ?_);·have:=hB.rep.x id (.inl b);omega
  ·have:=hB.rep.x id (.inl b);rw[F id (.inl b),M,aA.aB (by omega),aA.aB (by omega)]
end
end Go.Proofs.YtlncecohbakleaaGreat
