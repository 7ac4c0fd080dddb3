/- Rules and contracts. -/
import Derived.Test.YtlncecohbakleaaGreatPM8
import Derived.Test.YtlncecohbakleaaGreatPM7
set_option linter.unusedVariables false
set_option linter.unusedSimpArgs false
set_option maxRecDepth 100000
set_option maxHeartbeats 8000000
namespace Go.AM
theorem pN.cells{X:Nat->Prop}{H:aA}{nx i0 i1:Nat}{nm:Nat->Nat}{s:CSt}{es:List Ev}(h:pN X H nx i0 i1 nm s es){r r':List D1}{k:Nat}(j:k<4)(p:H i1=some ⟨5,1,[r]⟩)(hr:r'=r.set (1+k) (cI 1)):pN X (H.set i1 ⟨5,1,[r']⟩) nx i0 i1 nm s es:=by
 subst hr;have g:=h.rep.names.av;have i:=h.rep.i0;refine⟨h.rep.frame (ac1 _) (aA.aB fun he=>i.2 (.inr he)) (fun k j=>aA.aB fun he=>g k j (.inr he)) fun id f=>⟨h.rep.x id f,fun he=>i.2 (he▸f),fun k j he=>g k j (he▸f)⟩,?_⟩;obtain⟨⟨d,a,b,c,e,n,m⟩,q,t⟩:=h.hap;rw[p] at n;obtain rfl:r=[d,cI a,cI b,cI c,cI e]:=by simpa using n
 have l:Ye (fun id=>X id\/id=i0\/ ∃k,k<19/\id=nm k) (H.set i1 ⟨5,1,[[d,cI a,cI b,cI c,cI e].set (1+k) (cI 1)]⟩) nx i1 es d:=by
  rcases m with m|⟨ev,cap,u,v,w,y,o⟩
  ·exact .inl m
  ·exact .inr ⟨ev,cap,u,v.frame (aA.aB o),w,y,o⟩
 refine⟨?_,q,t⟩;obtain rfl|rfl|rfl|rfl:k=0\/k=1\/k=2\/k=3:=by omega
 ·exact⟨d,1,b,c,e,aA.aJ,l⟩
 ·exact⟨d,a,1,c,e,aA.aJ,l⟩
 ·exact⟨d,a,b,1,e,aA.aJ,l⟩
 ·exact⟨d,a,b,c,1,aA.aJ,l⟩
theorem pN.acC{X:Nat->Prop}{H:aA}{nx i0 i1:Nat}{nm:Nat->Nat}{s:CSt}{es:List Ev}{j:Nat}{o:bN}(h:pN X H nx i0 i1 nm s es)(b:X j):pN X (H.set j o) nx i0 i1 nm s es:=h.next (ac1 _) (fun id _ c=>aA.aB fun he=>c (he▸b)) fun id a=>⟨h.rep.x id (.inl a),.inl a⟩
end Go.AM
namespace Go.Proofs.YtlncecohbakleaaGreat
open Go Go.AM
attribute [local irreducible] aK wv aC vd wvH
section
variable{H:aA}{nx:Nat}{K:ag2}
theorem PZ{Y:Nat->Prop}{i1:Nat}{es:List Ev}{kind who n:Int}(v:Kj Y H nx i1 es)(hl:es.length<1000)
 (h: ∀H' nx',nx<=nx'->Kj Y H' nx' i1 (es++[⟨kind,who,n⟩])->(∀id,Y id->H' id=H id)->K (.tup []) H' nx'):ag1 gI [.one (.c (.ptr 5 i1 0 0)),dI kind,dI who,dI n] H nx K:=by
 obtain⟨⟨d,a,b,c,e,q,w⟩,⟨F,i⟩,g⟩:=v
 have r: ∀k,(i1=nx+k)=False:=fun k=>eq_false (by omega)
 have j: ∀k,(nx+k=i1)=False:=fun k=>eq_false (by omega)
 refine bW.mk Tryz.func267 (by kernel_rfl) OK rfl fun Q s=> ?_
 unfold l4
 rcases w with⟨rfl,rfl⟩|⟨ev,cap,rfl,⟨m,rows,x,t,G,I,J,L⟩,M,y,u⟩
 ·repeat' first|apply vI<;>(simp only[go_sem,q,r,j])| (with_reducible first|refine fun(cap:Nat) (f:_<=cap)=> ?_|refine fun(l:_<=cap)=> ?_)|fail
  refine s _ _ _ _ _ (.inl rfl) rfl (h _ _ (by omega) ⟨⟨_,a,b,c,e,by simp only[aA.set,if_true];rfl,.inr ⟨nx+10,cap,rfl,⟨_,_,by simp only[aA.set,j,if_false,if_true];rfl,rfl,by simp,by simp,by simpa using f,by simp⟩,by omega,fun o=>by have:=g _ o;omega,by omega⟩⟩,⟨by omega,i⟩,fun id hi=>by have:=g id hi;omega⟩ fun id hi=> ?_);have z:=g id hi;have p:id≠i1:=fun he=>i (he▸hi);simp only[aA.set,p,show ¬id=nx+9 by omega,show ¬id=nx+10 by omega,if_false]
 ·have A: ∀k,(ev=nx+k)=False:=fun k=>eq_false (by omega);have B: ∀k,(nx+k=ev)=False:=fun k=>eq_false (by omega);have C:=eq_false u;have D:=eq_false (Ne.symm u);rw[ad6] at t;subst t;repeat' first|apply vI<;>(simp only[go_sem,q,r,j,A,B,C,D,x])| (with_reducible first|refine fun(cap:Nat) (f:_<=cap)=> ?_|refine fun(l:_<=cap)=> ?_)|refine⟨by omega,?_⟩|fail
  refine s _ _ _ _ _ (.inl rfl) rfl (h _ _ (by omega) ⟨⟨_,a,b,c,e,by simp only[aA.set,if_true];rfl,.inr ⟨nx+10,cap,by simp,⟨_,_,by simp only[aA.set,j,if_false,if_true];rfl,by simp[eEv],by simp,by simp,by simpa using f,by simp⟩,by omega,fun o=>by have:=g _ o;omega,by omega⟩⟩,⟨by omega,i⟩,fun id hi=>by have:=g id hi;omega⟩ fun id hi=> ?_);have z:=g id hi;have p:id≠i1:=fun he=>i (he▸hi);have E:id≠ev:=fun he=>y (he▸hi);simp only[aA.set,aA.del,p,E,show ¬id=nx+9 by omega,show ¬id=nx+10 by omega,if_false]
theorem aaG{X:Nat->Prop}{i0 i1:Nat}{nm:Nat->Nat}{s:CSt}{es:List Ev}{kind who n:Int}(hB:pN X H nx i0 i1 nm s es)(hl:es.length<1000)
 (h: ∀H' nx',nx<=nx'->pN X H' nx' i0 i1 nm s (es++[⟨kind,who,n⟩])->(∀id,X id->H' id=H id)->K (.tup []) H' nx'):ag1 gI [.one (.c (.ptr 5 i1 0 0)),dI kind,dI who,dI n] H nx K:=by
 refine PZ hB.hap hl fun H' nx' e hc b=>h H' nx' e ⟨hB.rep.frame e (b _ (.inr (.inl rfl))) (fun k d=>b _ (.inr (.inr ⟨k,d,rfl⟩))) fun id a=>⟨?_,fun he=>hB.rep.i0.2 (he▸a),fun k d he=>hB.rep.names.av k d (he▸a)⟩,hc⟩ fun id a=>b id (.inl a)
 have:=hB.rep.x id a;omega
theorem Ey{X:Nat->Prop}{H0:aA}{i0 i1:Nat}{nm:Nat->Nat}{s:CSt}{es:List Ev}{kind who n:Int}(hB:pN X H nx i0 i1 nm s es/\ ∀id,X id->H id=H0 id)(hl:es.length<1000)
 (h: ∀H' nx',nx<=nx'->pN X H' nx' i0 i1 nm s (es++[⟨kind,who,n⟩])->(∀id,X id->H' id=H0 id)->K (.tup []) H' nx'):ag1 gI [.one (.c (.ptr 5 i1 0 0)),dI kind,dI who,dI n] H nx K:=
 aaG hB.1 hl fun H' nx' b d e=>h H' nx' b d fun id a=>(e id a).trans (hB.2 id a)
theorem vQ(l:List gX)(f:FuncId)(caps:List D1)(p:gX->Bool)(hl:l.length<2^40)(hc:caps.all D1.eW=true)(j: ∀x∈l,∀(H:aA) (nx:Nat) (K:ag2),K (dB (p x)) H nx->ag1 f (dA (eCJ x)::caps.map fun d=>.one (.c d)) H nx K):
 ag1 dD [dS (l.map eCJ),.one (.c (.clo f caps))] .nil 0 fun r _ _=>r.plain=true/\r=dI (bK p l):=by
 refine aR.mk Tryz.func319 (by kernel_rfl) uD rfl fun Q g=> ?_
 unfold eS
 repeat' first|apply vI<;>(simp only[go_sem])|fail
 (refine aK.loop (α:={k:Nat//k<=l.length/\(∀i,i<k->p (l.getD i default)=false)}) (fun u=>en [(8,dI u.1),(7,dI l.length),(1,.one (.c (.clo f caps))),(0,dS (l.map eCJ))]) (fun _=>.nil) _ (fun u=>l.length-u.1) ⟨0,by omega,(by intros;first|trivial|omega)⟩ (bI (ac1 _) (by repeat' first|exact C1|refine xqI rfl rfl ?_| (with_reducible apply C2)| ((with_reducible apply C0);exact CH (by assumption))| ((with_reducible apply D0);apply CJ)|fail)) ?_);(rintro⟨k,m,hinv⟩ n b)
 by_cases e:k<l.length
 ·have a:l.getD k default∈l:=by simp[List.getD,e]
  repeat' first| (first|apply vI|apply j _ a _ _ _)<;>(simp only[go_sem];try simp (disch:=omega) only[Iw])|apply vT (by omega)| ((refine CK (fun h=> ?_) (fun h=> ?_))<;>try subst h)|refine⟨by omega,?_⟩|fail
  ·refine aQ g _ rfl rfl (nK (adY (EE (by omega) (by assumption) hinv)))
  · (refine b _ _ _ ⟨k+1,by omega,bT hinv (by assumption)⟩ (by omega) (by(try dsimp only);omega) (bI (ac1 _) (by repeat' first|exact C1|refine xqI rfl rfl ?_| (with_reducible apply C2)| ((with_reducible apply C0);exact CH (by assumption))| ((with_reducible apply D0);apply CJ)|fail)))
 ·repeat' first|apply vI<;>(simp only[go_sem])|apply vF (by omega)|fail
  ·refine aQ g _ rfl rfl (nK (adY (rU fun i hi=>hinv i (by omega))))
theorem lI{l:List gX}{f:FuncId}{caps a:List D1}{p:gX->Bool}{d:D}(hl:l.length<2^40)(hc:caps.all D1.eW=true)(b:CvD H (fun _=>True) id 0 (dS (l.map eCJ)) d)(e:CvD H (fun _=>True) id 0 (.one (.c (.clo f caps))) (.one (.c (.clo f a))))(g: ∀x∈l,∀(H:aA) (nx:Nat) (K:ag2),K (dB (p x)) H nx->ag1 f (dA (eCJ x)::caps.map fun d=>.one (.c d)) H nx K)
 (h:K (dI (bK p l)) H nx):ag1 dD [d,.one (.c (.clo f a))] H nx K:=
 (vQ l f caps p hl hc g).pure rfl (aM ⟨b,e,trivial⟩) fun r hr=>hr▸h
theorem sC(l:List gX)(f:FuncId)(caps:List D1)(p:gX->Bool)(hl:l.length<2^40)(hc:caps.all D1.eW=true)(a: ∀x∈l,∀(H:aA) (nx:Nat) (K:ag2),K (dB (p x)) H nx->ag1 f (dA (eCJ x)::caps.map fun d=>.one (.c d)) H nx K):
 ag1 eF [dS (l.map eCJ),.one (.c (.clo f caps))] .nil 0 fun r _ _=>r.plain=true/\r=dB (decide (0<=bK p l)):=by
 refine aR.mk Tryz.func321 (by kernel_rfl) qO rfl fun Q b=> ?_
 unfold dZ
 repeat' first| (first|apply vI|refine lI hl hc (aE rfl) (nM hc) a ?_)<;>(simp only[go_sem])|fail
 all_goals exact aQ b _ rfl rfl rfl
theorem r9{l:List gX}{f:FuncId}{caps a:List D1}{p:gX->Bool}{d:D}(hl:l.length<2^40)(hc:caps.all D1.eW=true)(b:CvD H (fun _=>True) id 0 (dS (l.map eCJ)) d)(e:CvD H (fun _=>True) id 0 (.one (.c (.clo f caps))) (.one (.c (.clo f a))))(g: ∀x∈l,∀(H:aA) (nx:Nat) (K:ag2),K (dB (p x)) H nx->ag1 f (dA (eCJ x)::caps.map fun d=>.one (.c d)) H nx K)
 (h:K (dB (decide (0<=bK p l))) H nx):ag1 eF [d,.one (.c (.clo f a))] H nx K:=
 (sC l f caps p hl hc g).pure rfl (aM ⟨b,e,trivial⟩) fun r hr=>hr▸h
theorem jg{j:gX}{n:Int}(h:K (dB (isC n j)) H nx):ag1 FC [dA (eCJ j),.one (.c (.dQ [cI n]))] H nx K:=by
 refine aC.pure (args0:=[dA (eCJ j),.one (.c (.dQ [cI n]))]) (R:=fun a=>a=dB (isC n j)) ?_ rfl (aM ⟨aE rfl,aE rfl,trivial⟩) (fun r hr=>hr▸h);clear h;refine aR.mk Tryz.func320 (by kernel_rfl) XA rfl fun Q b=> ?_;unfold tT;repeat' first|apply vI<;>(simp only[go_sem])|fail
 all_goals first|with_reducible refine aQ b _ rfl rfl ?_|skip
 all_goals first|exact nJ (by omega)|exact nB (by omega)|exact gV (by omega)|rfl
theorem J6{p:fF}{n:Int}(hl:p.out.length<2^40){b:D}(a:CvD H (fun _=>True) id 0 (dA (dK p)) b)(h:K (dI (bK (isC n) p.out)) H nx):ag1 nV [b,dI n] H nx K:=by
 refine aC.pure (args0:=[dA (dK p),dI n]) (R:=fun c=>c=dI (bK (isC n) p.out)) ?_ rfl (aM ⟨a,aE rfl,trivial⟩) (fun r hr=>hr▸h);clear h;refine aR.mk Tryz.func265 (by kernel_rfl) rz rfl fun Q d=> ?_;unfold BL;repeat' first| (first|apply vI|refine lI (l:=p.out) (caps:=[.dQ [cI n]]) (p:=isC n) hl rfl (aE rfl) (O4 ⟨tI rfl trivial rfl rfl rfl,trivial⟩) (fun x _ H nx K h=>jg h) ?_)<;>(simp only[go_sem])|fail
 all_goals first|with_reducible refine aQ d _ rfl rfl ?_|skip
 all_goals first|rfl|exact nK (by omega)
theorem yH{m:List Rng}{q:Req}(hl:m.length<2^40)(h:K (dI (iZ m q)) H nx):ag1 E5 [dS (m.map cY),dA (dT q)] H nx K:=by
 refine aC.pure (args0:=[dS (m.map cY),dA (dT q)]) (R:=fun a=>a=dI (iZ m q)) ?_ rfl (aM ⟨aE rfl,aE rfl,trivial⟩) (fun r hr=>hr▸h);clear h;refine aR.mk Tryz.func173 (by kernel_rfl) mc rfl fun Q b=> ?_;unfold BN;have c:eT m (bQ q.addr q.many q.wrap)<m.length:=by have d:=S9 (p:=(inR · ((bQ q.addr q.many q.wrap).getD 0 default))) (l:=m);unfold eT;grind
 repeat' first| (first|apply vI|apply TI hl)<;>(simp only[go_sem])|refine iR (fun h=> ?_) fun h=> ?_|refine⟨by omega,?_⟩|fail
 all_goals first|with_reducible refine aQ b _ rfl rfl ?_|skip
 all_goals first|exact nK (by unfold iZ;rw[if_pos (by omega)])|exact nK (by unfold iZ;rw[if_neg (by omega)])
theorem L1{c:Cfg}{who:Nat}{st:Nat}{i:Int}{j:gX}(hp:c.cH.length=3)(a:kL c who j.n)(h:K (dB (decide ((bF c who j.n).id=i/\ ¬j.left=st))) H nx):ag1 oY [dA (eCJ j),.one (.c (.dQ (bO c))),.one (.c (.dQ [cI who])),.one (.c (.dQ [cI i])),.one (.c (.dQ [cI st]))] H nx K:=by
 refine aC.pure (args0:=[dA (eCJ j),.one (.c (.dQ (bO c))),.one (.c (.dQ [cI who])),.one (.c (.dQ [cI i])),.one (.c (.dQ [cI st]))]) (R:=fun b=>b=dB (decide ((bF c who j.n).id=i/\ ¬j.left=st))) ?_ rfl (aM ⟨aE rfl,aE rfl,aE rfl,aE rfl,aE rfl,trivial⟩) (fun r hr=>hr▸h);clear h;refine aR.mk Tryz.func322 (by kernel_rfl) KQ rfl fun Q d=> ?_;unfold kE;repeat' first| (first|apply vI|refine Y6 (fun h=> ?_) fun h=> ?_|apply fC hp a)<;>(simp only[go_sem])|fail
 all_goals first|with_reducible refine aQ d _ rfl rfl ?_|skip
 all_goals first|exact nJ (by omega)|exact nB (by omega)|exact gV (by omega)|rfl
theorem DR{c:Cfg}{s:CSt}{who:Nat}{st:Nat}(m:bG c)(hs:COk c s)(hw:who<3)(u:st<4){o:D}(g:CvD H (fun _=>True) id 0 (.one (.c (.dQ (dX s)))) o)(h:K (dB (decide (NU c s who st))) H nx):ag1 sG [o,dA (bO c),dI who,dI st] H nx K:=by
 refine aC.pure (args0:=[.one (.c (.dQ (dX s))),dA (bO c),dI who,dI st]) (R:=fun v=>v=dB (decide (NU c s who st))) ?_ rfl (aM ⟨g,aE rfl,aE rfl,aE rfl,trivial⟩) (fun r hr=>hr▸h);clear h;refine aR.mk Tryz.func268 (by kernel_rfl) OB rfl fun Q w=> ?_;unfold lU;obtain⟨d,i⟩:=eM m;have q:=i who;have y:=m.1.1;have z:=hs.pl;have a:=hs.port who hw;obtain⟨p,b⟩: ∃p,p=s.bJ.getD who default:=⟨_,rfl⟩
 have e:NU c s who st=(0<p.queue.length/\p.out.length<4/\iZ c.map (bF c who (p.queue.getD 0 default))=st/\ ∀j∈p.out,(bF c who j.n).id=(bF c who (p.queue.getD 0 default)).id->j.left=st):=by subst b;rfl
 rw[show aN s who=p from b.symm] at a;obtain⟨A,B⟩:=a.next;obtain⟨C,E⟩:=a.ql;have F:=a.queue 0;have G:=a.ol;repeat' first| (first|apply vI|refine Y6 (fun h=> ?_) fun h=> ?_|apply yH (by omega)|apply fC d (a.asks hw (by omega) (by omega))| (refine r9 (l:=p.out) (caps:=[.dQ (bO c),.dQ [cI who],.dQ [cI (bF c who (p.queue.getD 0 default)).id],.dQ [cI st]]) (p:=fun j=>decide ((bF c who j.n).id=(bF c who (p.queue.getD 0 default)).id/\ ¬j.left=st)) (by omega) rfl (aE rfl) (O4 ⟨tI rfl trivial rfl rfl rfl,tI rfl trivial rfl rfl rfl,tI rfl trivial rfl rfl rfl,tI rfl trivial rfl rfl rfl,trivial⟩) (fun x t H nx K h=>L1 d (a.asks hw (a.out x t).2.1.1 (by have:=(a.out x t).2.1.2;omega)) h) ?_))<;>(simp only[go_sem,b.symm])|refine iR (fun h=> ?_) fun h=> ?_|refine⟨by omega,?_⟩|fail
 all_goals first|with_reducible refine aQ w _ rfl rfl ?_|skip
 all_goals have hr:iZ c.map (List.getD (c.cH.getD who default) (p.queue.getD 0 default).toNat default)=iZ c.map (bF c who (p.queue.getD 0 default)):=rfl
 ·exact gV (by rw[e];omega)
 ·exact gV (by rw[e];omega)
 ·exact gV (by rw[e];omega)
 ·apply nJ;rw[e,dU];refine⟨fun h=>⟨by omega,by omega,by omega,fun j k hi=>Classical.byContradiction fun I=>h ⟨j,k,decide_eq_true ⟨hi,I⟩⟩⟩,fun h ⟨j,k,f⟩=> ?_⟩;have f:=of_decide_eq_true f;exact f.2 (h.2.2.2 j k f.1)
end
theorem xc{τ:Nat->Nat}{n m:Nat}{l:List gX}:bN.rn τ ⟨n,m,l.map eCJ⟩=⟨n,m,l.map eCJ⟩:=by refine mW fun r hr x a=> ?_;obtain⟨y,_,rfl⟩:=ac9.1 hr;exact adK.1 (DL y).2 x a
section
variable{H:aA}{nx:Nat}{K:ag2}
theorem Jj{l:List gX}{a:Nat}{z:List D1}(b:a<l.length):wr ((l.take a).map eCJ++(l.drop (a+1)).map eCJ) (l.length-1) (List.replicate (l.length-(l.length-1)) z)=(HU l a).map eCJ++[z]:=by
 have c:(l.take a).map eCJ++(l.drop (a+1)).map eCJ=(HU l a).map eCJ:=by simp[HU]
 have d:((HU l a).map eCJ).length=l.length-1:=by have:=fb b;simp;omega
 have e:l.length-(l.length-1)=1:=by omega
 rw[c,e,List.replicate_one];unfold wr;have f:List.drop (l.length-1+[z].length) ((HU l a).map eCJ)=[]:=aeK (by simp at d ⊢;omega);rw[f,ac6 (by omega),adR]
theorem z9(l:List gX)(a cap m:Nat)(hl:l.length<2^21)(c:a<l.length)(hc:l.length<=cap)(f:cap<=m):
 ag1 fZ [dO 3 0 l.length cap,dI a,dI (a+1)] (hp [(0,⟨3,m,l.map eCJ⟩)]) 1
 fun r H' n'=>∃b d,(HU l a).length<=b/\b<=d/\n'=2/\H'=hp [(1,⟨3,d,(HU l a).map eCJ⟩)]/\r=dO 3 1 (HU l a).length b:=by
 refine aR.mk Tryz.func266 (by kernel_rfl) yV rfl fun Q g=> ?_
 unfold fP
 have h:((a:Int)+1).toNat=a+1:=by omega
 have i:a+(l.length-(a+1))=l.length-1:=by omega
 have j:(a+1+(l.length-(a+1))<=l.length)=True:=eq_true (by omega)
 have k:List.take (l.length-(a+1)) (List.drop (a+1) l)=List.drop (a+1) l:=ac6 (by simp)
 have n:(List.drop (a+1) l).length=l.length-(a+1):=adL
 have o:=fb c
 repeat' first|apply vI<;>(simp only[go_sem,h,i,j,k,n])|apply vF (by omega)| (with_reducible first|refine fun(cap:Nat) (e:_<=cap)=> ?_|refine fun(p:_<=cap)=> ?_)|refine⟨by omega,?_⟩| (refine⟨by(rw[adP];omega),?_⟩)|fail
 (refine g _ _ _ _ _ 2 (dO 3 1 (HU l a).length cap) (hp [(1,⟨3,cap,(HU l a).map eCJ⟩)]) _ _ (.inr rfl) rfl (fT [20,0] (by omega) (by repeat' first|exact C1| ((with_reducible apply C0);exact CQ (by omega) rfl rfl (by first|rfl|omega) rfl)| ((with_reducible apply D0);apply CJ)|fail) ⟨⟨by simp,by simp[sgL],_,rfl,Iu (junk:=[[cI 0,cI 0,cI 0]]) (fun r hr=>(aG DL _ r hr).2) (Jj c) rfl (by decide)⟩,trivial⟩ (by simp[sgL])) ?_)
 exact⟨cap,cap,by omega,ac1 _,rfl,rfl,rfl⟩
theorem zQ{l:List gX}{z:Int}{cap m i0:Nat}(hl:l.length<2^21)(q: ¬z<0)(f:z.toNat<l.length)(hc:l.length<=cap)(d:cap<=m)(s:i0<nx)(g:H i0=some ⟨3,m,l.map eCJ⟩)
 (h: ∀b c,(HU l z.toNat).length<=b->b<=c->K (dO 3 nx (HU l z.toNat).length b) ((H.del i0).set nx ⟨3,c,(HU l z.toNat).map eCJ⟩) (nx+1)):
 ag1 fZ [dO 3 i0 l.length cap,dI z,dI (z+1)] H nx K:=by
 obtain⟨a,rfl⟩: ∃a:Nat,z=a:=⟨z.toNat,by omega⟩
 refine(z9 l a cap m hl f hc d).DD [i0] rfl ⟨qL (by simp) rfl rfl rfl rfl,aE rfl,aE rfl,trivial⟩
  ⟨⟨by simp,id,_,g,aY (aG DL _) rfl rfl⟩,trivial⟩ (by simp) (by simp;omega) (by simp) fun r H' n' _ ⟨b,c,i,j,k,n,o⟩=> ?_
 simp only[Int.toNat_natCast] at h
 have h:=h b c i j
 subst k;subst n;subst o
 generalize HU l a=e at*
 have p:back (tau 1 nx (nth [i0])) (hp [(1,⟨3,c,e.map eCJ⟩)]) 2 H=(H.del i0).set nx ⟨3,c,e.map eCJ⟩:=by simp[back,hp,aA.set,aA.nil,tau,nth,nN,xc,aA.fI,aA.wR]
 rw[<-p] at h
 exact h
end
section
variable{H:aA}{nx:Nat}{K:ag2}
theorem NS{X:Nat->Prop}{c:Cfg}{i:CIn}{s:CSt}{es:List Ev}{i0 i1:Nat}{nm:Nat->Nat}(hb:bG c)(hs:COk c s)(ed:i.ready.length=3)(hB:pN X H nx i0 i1 nm s es)(hl:es.length<900)
 (h: ∀H' nx' w,nx<=nx'->pN X H' nx' i0 i1 w (F9 c i s) (es++iE c s (N2 c i s))->(∀id,X id->H' id=H id)->K (.tup []) H' nx'):
 ag1 qK [.one (.c (.ptr 5 i0 0 0)),dA (eIn i),.one (.c (.ptr 5 i1 0 0))] H nx K:=by
 refine bW.mk Tryz.func187 (by kernel_rfl) MB rfl fun Q hQ=> ?_
 unfold lG
 obtain⟨wc,hc,pc,vc,tc,ck,ei,ej,eo,ep,et⟩: ∃wc hc pc vc tc,H i0=some ⟨5,1,[[.osl 1 (nm 0) 0 s.words.length wc,.osl 1 (nm 1) 0 s.holds.length hc,.osl 4 (nm 2) 0 3 pc,.osl 3 (nm 3) 0 4 vc,.osl 5 (nm 4) 0 s.told.length tc]]⟩/\_:=by obtain⟨cells,F,⟨wc,hc,pc,vc,tc,rfl,V⟩,_⟩:=hB.rep.st;exact⟨wc,hc,pc,vc,tc,F,V⟩
 have y:=hB.rep.apart (nx':=nx) [] [] (ac1 _) (by simp) (by simp) (by simp) (by simp)
 simp only[aT,bM,List.map,List.nil_append] at y
 repeat' first|apply vI<;>(simp only[go_sem,ck,y])|fail
 obtain⟨H0,W⟩: ∃H0,H0=H.set nx ⟨3,1,[eIn i]⟩:=⟨_,rfl⟩
 rw[<-W]
 have cl:H0 nx=some ⟨3,1,[eIn i]⟩:=by rw[W];exact aA.aJ
 have cp:pN (fun id=>X id\/id=nx) H0 (nx+7) i0 i1 nm s es:=hB.next (by omega) (fun id F V=>by rw[W,aA.aB (by omega)]) fun id f=>by
  rcases f with f|rfl;·have:=hB.rep.x id (.inl f);exact⟨by omega,.inl f⟩
  ·exact⟨by omega,.inr (ac1 _)⟩
 have cq:=hB.rep.i0.1
 have cr:=hB.hap.i1.1
 refine aK.cW (β:=Nat×CSt×List Ev×(Nat->Nat)) (fun u=>en [(18,dI u.1),(17,dI 3),(4,.one (.c (.ptr 3 nx 0 0))),(2,.one (.c (.ptr 5 i1 0 0))),(0,.one (.c (.ptr 5 i0 0 0)))])
  (fun u H1 ab=>u.1<=3/\COk c u.2.1/\pN (fun id=>X id\/id=nx) H1 ab i0 i1 u.2.2.2 u.2.1 u.2.2.1/\(∀id,X id\/id=nx->H1 id=H0 id)/\DP c (pY i) ([0,1,2].drop u.1) u.2.1 u.2.2.1 (F9 c i s) (es++iE c s (N2 c i s))/\u.2.2.1.length<=es.length+u.1)
  (fun u=>3-u.1) (0,s,es,nm) ⟨noF,_,by repeat' first|exact C1|refine xqI rfl rfl ?_|refine xqP (by omega) rfl rfl ?_|fail,aI,by dsimp only;omega,hs,cp,fun _ _=>rfl,⟨rfl,rfl⟩,by simp⟩ ?_
 rintro⟨k,s1,ad,a⟩ H1 ab eu ⟨hk,g,q,L,ai,ct⟩ KL aj
 dsimp only at hk g q ai ct
 obtain⟨wc,hc,pc,vc,tc,mp,rp,mv,rv,g0,g1,g2,g3,g4,g5,g6,g7,g8,g9,ga,gb⟩:=q.rep.get
 have z:H1 nx=some ⟨3,1,[eIn i]⟩:=by rw[L nx (.inr rfl)];exact cl
 by_cases M:k<3
 ·have Y:=ai;rw[zo M] at Y;obtain⟨p,N⟩: ∃p,p=aN s1 k:=⟨_,rfl⟩
  obtain⟨qo,qc,oc,gr,gq,go⟩:=ga k M;rw[<-N] at gr gq go;repeat' first|apply vI<;>(simp only[go_sem,g0,g1,gr,z])|apply vT (by omega)|refine⟨by omega,?_⟩|fail
  have ao:=g.port k M;rw[<-N] at ao;have ew:=q.rep.names.lt 2 (by omega);obtain⟨ff,fh⟩:=ao.last
  refine aK.cW (β:=Nat) (fun j=>en [(18,dI k),(17,dI 3),(8,dI j),(7,.one (.c (.ptr 4 (a 2) k 0))),(6,dI k),(4,.one (.c (.ptr 3 nx 0 0))),(2,.one (.c (.ptr 5 i1 0 0))),(0,.one (.c (.ptr 5 i0 0 0)))])
   (fun j H2 _=>1<=j/\j<=5/\H2=H1/\ ∀B,1<=B->B<j->ud s1 k (IH s1 k B)=false) (fun j=>5-j) 1 ⟨noF,_,by repeat' first|exact C1|refine xqI rfl rfl ?_|refine xqP (by omega) rfl rfl ?_|fail,aI,by omega,by omega,rfl,fun B F V=>by omega⟩ ?_
  rintro j H2 b cv ⟨cw,fi,cx,hinv⟩ KJ ca;subst cx;by_cases cy:j<=4
  ·cases I:i.ready.getD k default with
   |false=>
    repeat' first| (first|apply vI|apply Y4 (by omega))<;>(simp only[go_sem,z,I];try simp (disch:=omega) only[Iw])|refine⟨by omega,?_⟩|fail
    exact aj _ _ _ (k+1,s1,ad,a) noF _ (by omega) (by dsimp only;omega) (by repeat' first|exact C1|refine xqI rfl rfl ?_|refine xqP (by omega) rfl rfl ?_|fail) aI ⟨by dsimp only;omega,g,q.mono (by omega),L,Y.none (U9 I),by dsimp only;omega⟩
   |true=>
   obtain⟨st,O⟩: ∃st,st=IH s1 k j:=⟨_,rfl⟩
   have da:st=((p.last+(j:Int))%4).toNat:=(by rw[O,N];rfl);have P:st<4:=(by omega);have R:(p.last+(j:Int)).tmod 4=(st:Int):=(by rw[aeJ (by omega)];omega);obtain⟨v,A⟩: ∃v,v=aU s1 st:=⟨_,rfl⟩
   obtain⟨po,bb,do_,dc,gs,gp,gd⟩:=gb st P;rw[<-A] at gs gp gd;obtain⟨md,rd,d1,d2,d3,d4,d5,d6⟩:=gd.ex;by_cases fl:v.done.length=0
   ·have hlen:((v.done.length:Int)=0)=True:=eq_true (by omega);repeat' first| (first|apply vI|apply Y4 (by omega))<;>(simp only[go_sem,g0,g1,g2,gr,gs,z,R,I,hlen];try simp (disch:=omega) only[Iw])|refine⟨by omega,?_⟩|fail
    exact ca _ _ _ (j+1) noF _ (by omega) (by omega) (by repeat' first|exact C1|refine xqI rfl rfl ?_|refine xqP (by omega) rfl rfl ?_|fail) aI ⟨by omega,by omega,rfl,fun B F V=>by
     by_cases Z:B<j
     ·exact hinv B F Z
     ·have:B=j:=(by omega);subst this;rw[<-O];exact decide_eq_false fun hc=>by rw[<-A] at hc;omega⟩
   have hlen:((v.done.length:Int)=0)=False:=eq_false (by omega);obtain⟨d,S⟩: ∃d,d=v.done.getD 0 default:=⟨_,rfl⟩
   have d7:rd[do_]?=some (aL d):=(by have:(rd.drop do_)[0]?=some (aL d):=(by rw[d2,adJ];simp[S,List.getD,show 0<v.done.length by omega]);rwa [adO,Nat.add_zero] at this);by_cases C:d.who=k
   ·have fm:=q.rep.names.lt (8+k) (by omega);have fo:s1.told.length<=36:=(by have:=g.st.lens hb;simp only[dN] at this;omega);have fp:=ao.ol;have hex: ∃j∈p.out,j.n=d.n:=by obtain⟨_,j,q1,q2,_⟩:=(g.slv st P).out (key d) (by rw[<-A];exact jn (by rw[S];exact cC (by omega)));have e:(key d).1.toNat=k:=(by show d.who.toNat=k;omega);rw[e,<-N] at q1;exact⟨j,q1,q2⟩
    obtain⟨df,fs⟩:=YN hex;have dh: ¬bK (isC d.n) p.out<0:=by have:0<=bK (isC d.n) p.out:=dU.2 (by obtain⟨j,q1,q2⟩:=hex;exact⟨j,q1,decide_eq_true q2⟩);omega
    have bk: ∀{G:aA} {n':Nat} {K:ag2},G (a (5+k))=H2 (a (5+k))->G (a (8+k))=H2 (a (8+k))->K (dI (bK (isC d.n) p.out)) G n'->ag1 nV [.one (.agg [cI p.next,.osl 1 (a (5+k)) qo p.queue.length qc,.osl 3 (a (8+k)) 0 p.out.length oc,cI p.last]),dI d.n] G n' K:=fun F V h3=>
     J6 (by omega) (oH (CL (b9 Aj (b9 ((gq.frame F).frz (aG aP _) trivial) (b9 ((go.frame V).frz (aG DL _) trivial) (b9 Aj xU)))))) h3
    have y:=q.rep.apart (nx':=b) [nx] [0,1,2,3,4,5+k,8+k,11+st,15+st] (by omega) (by simp) (fun x hx=>.inl (.inr (by simpa using hx))) (by simp;omega) (by simp;omega);simp only[aT,bM,List.map,List.cons_append,List.nil_append] at y;obtain⟨mt,rt,e1,e2,e3,e4,e5,e6⟩:=g5.ex;obtain⟨mo,ro,o1,o2,o3,o4,o5,o6⟩:=go.ex;rw[ad6] at e2 o2;subst e2;subst o2;refine aK.DN fun dm=> ?_;have cc: ∀r,(rp.set k r)[k]?=some r:=fun r=>by rw[adW (by omega)]
    have ds: ∀k l,msk (b+k) l H2=H2:=fun k l=>BH dm (by omega);repeat' first| (first|apply vI|apply Y4 (by omega)|apply bk (by simp only[aA.set,aA.del,y,if_false]) (by simp only[aA.set,aA.del,y,if_false])| (refine zQ (m:=mo) (by omega) dh df o5 (by omega) (by omega) (by simp only[aA.set,aA.del,y,if_false];exact o1) (fun aa m' q1 q2=> ?_)))<;>(simp only[go_sem,ac2,ac3,ds,umS (G:=H2),umD (G:=H2),umB,cc,ad0,g0,g1,g2,gr,gs,z,R,I,hlen,d1,d7,C,e1,o1,y];try simp (disch:=omega) only[Iw])| (with_reducible first|refine fun(cap:Nat) (bp:_<=cap)=> ?_|refine fun(fx:_<=cap)=> ?_)|refine⟨by omega,?_⟩|fail
    obtain⟨w,E⟩: ∃w,w=put (put a 4 (b+56)) (8+k) (b+88):=⟨_,rfl⟩
    have J: ∀j,j≠4->j≠8+k->w j=a j:=fun j F V=>by rw[E,bV V,bV F]
    have p4:w 4=b+56:=(by rw[E,bV (by omega),fS]);have p8:w (8+k)=b+88:=(by rw[E,fS]);obtain⟨s',t⟩: ∃s',s'=bS c s1 (.tell k st):=⟨_,rfl⟩
    have br:nX s1 st=d:=(by rw[S,A];rfl);have T:aN s' k= {p with out:=SF p.out d.n,last:=st}:=(by rw[t,cJ rfl (by rw[g.pl];omega),if_pos rfl,br,<-N]);have U:aU s' st= {v with done:=v.done.drop 1}:=(by rw[t,dE rfl (by rw[g.sl];omega),if_pos rfl,<-A]);have cd:s'.told=s1.told++[d]:=(by rw[t,<-br];rfl);refine Ey (q.upd k st w s' (by omega) ?_ ?_ ?_ ?_ ?_ ?_ (.inl M) (.inl P) (fun j Z o=>by rw[t,cJ rfl (by rw[g.pl];omega),if_neg o]) (fun j Z o=>by rw[t,dE rfl (by rw[g.sl];omega),if_neg o])) (by omega) fun H' nx' hx dv dx=> ?_
    ·rw[E];have cf: ∀v,b<=v->¬((X v\/v=nx)\/v=i1):=fun v hv hn=>by have:=q.rep.x v hn;omega
     exact((q.rep.names.mono (by omega:ab<=b)).put (nx':=b+57) (by omega) (by omega) (cf _ (by omega))).put (by omega) (by omega) (cf _ (by omega))
    ·intro j Z;by_cases h4:j=4;·subst h4;exact .inr ⟨.inl rfl,by omega⟩
     ·by_cases h8:j=8+k;·subst h8;exact .inr ⟨.inr (.inr (.inl rfl)),by omega⟩
      ·exact .inl (J j h4 h8)
    ·intro id f h0 o;simp only[aA.set,aA.del,h0,o 2 (by omega) (by omega),o 3 (by omega) (by omega),o 4 (by omega) (by omega),o (8+k) (by omega) (by omega),show ¬id=b+47 by omega,show ¬id=b+55 by omega,show ¬id=b+56 by omega,show ¬id=b+88 by omega,if_false]
    ·refine⟨wc,hc,pc,vc,cap,?_,?_,?_,?_,g6,g7⟩;·simp only[aA.set,aA.del,y,if_false,if_true,I6,J 0 (by omega) (by omega),J 1 (by omega) (by omega),J 2 (by omega) (by omega),J 3 (by omega) (by omega),p4,cd,ac7,List.length_singleton];rw[t];rfl
     ·rw[J 0 (by omega) (by omega),t];exact g3.frame (by simp only[aA.set,aA.del,y,if_false])
     ·rw[J 1 (by omega) (by omega),t];exact g4.frame (by simp only[aA.set,aA.del,y,if_false])
     ·rw[p4,cd];exact⟨cap,(s1.told++[d]).map aL,by simp only[aA.set,aA.del,y,if_false,if_true,show ¬b+56=b+88 by omega],rfl,by simp,by simp,by simpa using bp,by simp⟩
    ·refine⟨mp,rp.set k [cI p.next,.osl 1 (a (5+k)) qo p.queue.length qc,.osl 3 (b+88) 0 (SF p.out d.n).length aa,cI st],mp,rp,g1,by simp only[aA.set,aA.del,y,if_false,if_true];rfl,by simp only[adM,g8],fun j Z o=>by rw[adX (Ne.symm o)],fun _=>⟨_,cc _,⟨qo,qc,aa,?_,?_,?_⟩⟩⟩;·rw[T,J (5+k) (by omega) (by omega),p8];rfl
     ·rw[T,J (5+k) (by omega) (by omega)];exact gq.frame (by simp only[aA.set,aA.del,y,if_false])
     ·rw[T,p8];exact⟨m',(SF p.out d.n).map eCJ,by simp only[aA.set,aA.del,y,if_false,if_true];rfl,rfl,by simp,by simp,q1,by omega⟩
    ·refine⟨mv,rv.set st [.osl 3 (a (11+st)) po v.pipe.length bb,.osl 5 (a (15+st)) (do_+1) (v.done.length-1) (dc-1),cI v.last],mv,rv,g2,by simp only[aA.set,aA.del,y,if_false,if_true],by simp only[adM,g9],fun j Z o=>by rw[adX (Ne.symm o)],fun _=>⟨[.osl 3 (a (11+st)) po v.pipe.length bb,.osl 5 (a (15+st)) (do_+1) (v.done.length-1) (dc-1),cI v.last],adW (by omega),⟨po,bb,do_+1,dc-1,?_,?_,?_⟩⟩⟩;·rw[U,J (11+st) (by omega) (by omega),J (15+st) (by omega) (by omega)];simp only[lz,adL]
     ·rw[U,J (11+st) (by omega) (by omega)];exact gp.frame (by simp only[aA.set,aA.del,y,if_false])
     ·rw[U,J (15+st) (by omega) (by omega)];refine⟨md,rd,by simp only[aA.set,aA.del,y,if_false];exact d1,by rw[aeI,<-d2,aeP],?_,by simp,?_,?_⟩;·simp only[adL];omega
      ·simp only[adL];omega
      ·omega
    ·simp only[go_sem];repeat' first|apply vI<;>(simp only[go_sem];try simp (disch:=omega) only[Iw])|fail
     have hO:pY i s1 k=some (.tell k st):=(by rw[O];exact ZS I cw cy hinv (by rw[<-O];exact decide_eq_true ⟨by rw[<-A];omega,by rw[<-A,<-S];exact C⟩));have hL:=Y.some hO;rw[<-t,show CZ s1 (.tell k st)=[⟨3,k,d.n⟩] from by rw[<-br];rfl] at hL;have dy:COk c s':=(by rw[t];exact CW hb g (JU g M hO));exact aj _ _ _ (k+1,s',ad++[⟨3,k,d.n⟩],w) noF _ (by omega) (by dsimp only;omega) (by repeat' first|exact C1|refine xqI rfl rfl ?_|refine xqP (by omega) rfl rfl ?_|fail) aI ⟨by dsimp only;omega,dy,dv.mono (by omega),fun id f=>(dx id f).trans (L id f),hL,by simp;omega⟩
   ·have dz:(d.who=(k:Int))=False:=eq_false C;repeat' first| (first|apply vI|apply Y4 (by omega))<;>(simp only[go_sem,g0,g1,g2,gr,gs,z,R,I,hlen,d1,d7,dz];try simp (disch:=omega) only[Iw])|refine⟨by omega,?_⟩|fail
    exact ca _ _ _ (j+1) noF _ (by omega) (by omega) (by repeat' first|exact C1|refine xqI rfl rfl ?_|refine xqP (by omega) rfl rfl ?_|fail) aI ⟨by omega,by omega,rfl,fun B F V=>by
     by_cases Z:B<j
     ·exact hinv B F Z
     ·have:B=j:=(by omega);subst this;rw[<-O];exact decide_eq_false fun hc=>C (by rw[S,A];exact hc.2)⟩
  ·repeat' first| (first|apply vI|apply Y5 (by omega))<;>(simp only[go_sem];try simp (disch:=omega) only[Iw])|fail
   exact aj _ _ _ (k+1,s1,ad,a) noF _ (by omega) (by dsimp only;omega) (by repeat' first|exact C1|refine xqI rfl rfl ?_|refine xqP (by omega) rfl rfl ?_|fail) aI ⟨by dsimp only;omega,g,q.mono (by omega),L,Y.none (ZI fun B F V=>hinv B F (by omega)),by dsimp only;omega⟩
 ·repeat' first|apply vI<;>(simp only[go_sem])|apply vF (by omega)|fail
  have eb:k=3:=by omega
  subst eb;obtain⟨rfl,rfl⟩:=DP.nil ai;refine hQ _ _ _ _ _ (.inl rfl) rfl (h _ _ a (by omega) (q.next (by omega) (fun _ _ _=>rfl) fun id f=>⟨?_,.inl (.inl f)⟩) fun id f=> ?_);·have:=hB.rep.x id (.inl f);omega
  ·rw[L id (.inl f),W,aA.aB];have:=hB.rep.x id (.inl f);omega
end
section
variable{H:aA}{nx:Nat}{K:ag2}
theorem PL{X:Nat->Prop}{c:Cfg}{s:CSt}{es:List Ev}{i0 i1:Nat}{nm:Nat->Nat}(hb:bG c)(hs:COk c s)(hB:pN X H nx i0 i1 nm s es)
 (h: ∀H' nx' n,nx<=nx'->pN X H' nx' i0 i1 n (l6 c s (Cg c s)) es->(∀id,X id->H' id=H id)->K (.tup []) H' nx'):
 ag1 rY [.one (.c (.ptr 5 i0 0 0)),dA (bO c),.one (.c (.ptr 5 i1 0 0))] H nx K:=by
 refine bW.mk Tryz.func189 (by kernel_rfl) MN rfl fun Q hQ=> ?_
 unfold mC
 obtain⟨fs,fx⟩:=eM hb
 obtain⟨wc,hc,pc,vc,tc,da,gf,gi,ha,hd,hg⟩: ∃wc hc pc vc tc,H i0=some ⟨5,1,[[.osl 1 (nm 0) 0 s.words.length wc,.osl 1 (nm 1) 0 s.holds.length hc,.osl 4 (nm 2) 0 3 pc,.osl 3 (nm 3) 0 4 vc,.osl 5 (nm 4) 0 s.told.length tc]]⟩/\_:=by obtain⟨cells,F,⟨wc,hc,pc,vc,tc,rfl,h2⟩,_⟩:=hB.rep.st;exact⟨wc,hc,pc,vc,tc,F,h2⟩
 have t:=hB.rep.apart (nx':=nx) [] [] (ac1 _) (by simp) (by simp) (by simp) (by simp)
 simp only[aT,bM,List.map,List.nil_append] at t
 repeat' first|apply vI<;>(simp only[go_sem,ac2,ac3,da,t])|fail
 obtain⟨H0,I⟩: ∃H0,H0=(H.set nx ⟨3,1,[bO c]⟩).set (nx+1) ⟨3,1,[[false,false,false].map cB]⟩:=⟨_,rfl⟩
 have w:=I
 simp only[List.map] at w
 unfold cB at w
 rw[<-w]
 clear w
 have df:H0 nx=some ⟨3,1,[bO c]⟩:=by rw[I,aA.aB (by omega)];exact aA.aJ
 have dm:H0 (nx+1)=some ⟨3,1,[[false,false,false].map cB]⟩:=by rw[I];exact aA.aJ
 have ds:=hB.rep.i0.1
 have dv:=hB.hap.i1.1
 have dx:pN (fun id=>X id\/id=nx\/id=nx+1) H0 (nx+8) i0 i1 nm s es:=hB.next (by omega) (fun id F h2=>by rw[I,aA.aB (by omega),aA.aB (by omega)]) fun id b=>by
  rcases b with b|rfl|rfl;·have:=hB.rep.x id (.inl b);exact⟨by omega,.inl b⟩
  ·exact⟨by omega,.inr (ac1 _)⟩
  ·exact⟨by omega,.inr (by omega)⟩
 refine aK.cW (β:=Nat×CSt×List Bool×(Nat->Nat)) (fun u=>en [(18,dI u.1),(17,dI 4),(6,.one (.c (.ptr 3 (nx+1) 0 0))),(4,.one (.c (.ptr 3 nx 0 0))),(2,.one (.c (.ptr 5 i1 0 0))),(0,.one (.c (.ptr 5 i0 0 0)))])
  (fun u H1 ad=>u.1<=4/\COk c u.2.1/\pN (fun id=>X id\/id=nx\/id=nx+1) H1 ad i0 i1 u.2.2.2 u.2.1 es/\(∀id,X id\/id=nx->H1 id=H0 id)/\HE c ([0,1,2,3].drop u.1) u.2.1 u.2.2.1 (l6 c s (Cg c s))/\u.2.2.1.length=3/\H1 (nx+1)=some ⟨3,1,[u.2.2.1.map cB]⟩)
  (fun u=>4-u.1) (0,s,[false,false,false],nm) ⟨noF,_,by repeat' first|exact C1|refine xqI rfl rfl ?_|refine xqP (by omega) rfl rfl ?_|fail,aI,by dsimp only;omega,hs,dx.mono (by omega),fun _ _=>rfl,rfl,rfl,dm⟩ ?_
 rintro⟨k,s1,u,e⟩ H1 ad hh ⟨hk,d,f,J,ao,L,B⟩ KL bb
 dsimp only at hk d f ao L B
 obtain⟨wc,hc,pc,vc,tc,mp,rp,mv,rv,g0,g1,g2,g3,g4,g5,g6,g7,g8,g9,ga,gb⟩:=f.rep.get
 have aa:H1 nx=some ⟨3,1,[bO c]⟩:=by rw[J _ (.inr rfl)];exact df
 by_cases o:k<4
 ·have ai:=ao;rw[ta o] at ai;obtain⟨v,C⟩: ∃v,v=aU s1 k:=⟨_,rfl⟩
  obtain⟨po,ho,do_,dc,gs,gp,gd⟩:=gb k o;rw[<-C] at gs gp gd;obtain⟨me,re,p1,p2,p3,p4,p5,p6⟩:=gp.ex;rw[adE] at p4;have dy:=(d.slv k o).last;have hq:=f.rep.names.lt 3 (by omega);rw[<-C] at dy;repeat' first|apply vI<;>(simp only[go_sem,ac2,ac3,g0,g2,gs])|apply vT (by omega)|refine⟨by omega,?_⟩|fail
  refine aK.cW (β:=Nat) (fun j=>en [(18,dI k),(17,dI 4),(9,dI j),(8,.one (.c (.ptr 3 (e 3) k 0))),(7,dI k),(6,.one (.c (.ptr 3 (nx+1) 0 0))),(4,.one (.c (.ptr 3 nx 0 0))),(2,.one (.c (.ptr 5 i1 0 0))),(0,.one (.c (.ptr 5 i0 0 0)))])
   (fun j H2 _=>1<=j/\j<=4/\H2=H1/\ ∀y,1<=y->y<j->N8 c s1 u k (I5 s1 k y)=false) (fun j=>4-j) 1 ⟨noF,_,by repeat' first|exact C1|refine xqI rfl rfl ?_|refine xqP (by omega) rfl rfl ?_|fail,aI,by omega,by omega,rfl,fun y F h2=>by omega⟩ ?_
  rintro j H2 a dz ⟨eb,ht,ed,hinv⟩ KJ cf;subst ed;by_cases ck:v.pipe.length<2
  ·by_cases ej:j<=3
   ·obtain⟨who,aj⟩: ∃who,who=I5 s1 k j:=⟨_,rfl⟩
    have et:who=((v.last+(j:Int))%3).toNat:=(by rw[aj,C];rfl);have M:who<3:=(by omega);have N:(v.last+(j:Int)).tmod 3=(who:Int):=(by rw[aeJ (by omega)];omega);have bk:((u.map cB).drop who).take 1=[cB (u.getD who default)]:=(by rw[aeC (by simp;omega)];simp[List.getD,show who<u.length by omega]);have O:(u.map cB).length=3:=(by rw[adE,L]);have hle:(who+1<=3)=True:=eq_true (by omega)
    have P:N8 c s1 u k who=false->∀y,1<=y->y<j+1->N8 c s1 u k (I5 s1 k y)=false:=fun hf y F h2=>by
     by_cases hj:y<j;·exact hinv y F hj
     ·have:y=j:=(by omega);subst this;rw[<-aj];exact hf
    cases D:u.getD who default with
    |true=>
     repeat' first| (first|apply vI|apply Y4 (by omega))<;>(simp only[go_sem,ac2,ac3,g0,g2,gs,ae0,N,B,bk,O,hle,D];try simp (disch:=omega) only[Iw])|apply vT (by omega)|refine⟨by omega,?_⟩|fail
     exact cf _ _ _ (j+1) noF _ (by omega) (by omega) (by repeat' first|exact C1|refine xqI rfl rfl ?_|refine xqP (by omega) rfl rfl ?_|fail) aI ⟨by omega,by omega,rfl,P (by unfold N8;rw[D];rfl)⟩
    |false=>
    by_cases z:NU c s1 who k
    ·have R:decide (NU c s1 who k)=true:=decide_eq_true z;obtain⟨p,S⟩: ∃p,p=aN s1 who:=⟨_,rfl⟩
     obtain⟨qo,qc,oc,gr,gq,go⟩:=ga who M;rw[<-S] at gr gq go;have ew:=z.1;have ff:=z.2.1;rw[<-S] at ew ff;have cl:=d.port who M;rw[<-S] at cl;have hy:=cl.ql;obtain⟨mq,rq0,q1,q2,q3,q4,q5,q6⟩:=gq.ex;obtain⟨mo,ro,o1,o2,o3,o4,o5,o6⟩:=go.ex;rw[adE] at q4 o4;rw[ad6] at o2;subst o2;obtain⟨n0,bp⟩: ∃n0,n0=p.queue.getD 0 default:=⟨_,rfl⟩
     have q7:rq0[qo]?=some [cI n0]:=(by have:(rq0.drop qo)[0]?=some [cI n0]:=(by rw[q2,adJ];simp[bp,List.getD,show 0<p.queue.length by omega,aF]);rwa [adO,Nat.add_zero] at this);have fh:=hb.2.1;have cp: ∀r,(rp.set who r)[who]?=some r:=fun r=>by rw[adW (by omega)]
     have cq: ∀r,(rv.set k r)[k]?=some r:=fun r=>by rw[adW (by omega)]
     have t:=f.rep.apart (nx':=a) [nx,nx+1,i1] [0,1,2,3,4,5+who,8+who,11+k,15+k] (by omega) (by simp;omega) (fun x hx=>by simp at hx;rcases hx with rfl|rfl|rfl;exact .inl (.inr (.inl rfl));exact .inl (.inr (.inr rfl));exact .inr rfl) (by simp;omega) (by simp;omega);simp only[aT,bM,List.map,List.cons_append,List.nil_append] at t;obtain⟨dh,T,U,V,W,cr,_⟩:=f.hap.ex;refine aK.DN fun fi=> ?_;have fl: ∀k l,msk (a+k) l H2=H2:=fun k l=>BH fi (by omega);repeat' first| (first|apply vI|apply Y4 (by omega)|apply DR (s:=s1) hb d M o (f.rep.UD d.pl d.sl))<;>(simp only[go_sem,ac2,ac3,ae0,N,B,bk,O,hle,D,aa,R,fl,umS (G:=H2),umD (G:=H2),umB,ad0,g0,g1,g2,gr,gs,cp,cq,q1,q7,o1,p1,cr,t];try simp (disch:=omega) only[Iw])|apply vT (by omega)| (with_reducible first|refine fun(cap:Nat) (br:_<=cap)=> ?_|refine fun(hz:_<=cap)=> ?_)|refine⟨by omega,?_⟩|fail
     rename_i q ab fm;obtain⟨jo,ca⟩: ∃jo:gX,jo=⟨who,n0,k⟩:=⟨_,rfl⟩
     obtain⟨jp,cc⟩: ∃jp:gX,jp=⟨who,n0,c.lat.getD k default⟩:=⟨_,rfl⟩
     have eo:List.map eCJ p.out++[[D1.v (.int .i64 who),cI n0,D1.v (.int .i64 k)]]=(p.out++[jo]).map eCJ:=(by rw[adF,ca];rfl);have ep:List.take v.pipe.length (List.drop po re)++[[D1.v (.int .i64 who),cI n0,D1.v (.int .i64 (c.lat.getD k default))]]=(v.pipe++[jp]).map eCJ:=(by rw[p2,ac6 (by simp),adF,cc];rfl);have eu:List.take who (List.map cB u)++[D1.v (.bool true)]++List.drop (who+1) (List.map cB u)=(u.set who true).map cB:=(by rw[aeH,agN,if_pos (by simp;omega),adH];rfl);have ei:List.take (1+k) [dh,cI T,cI U,cI V,cI W]++[D1.v (.int .i64 1)]++List.drop (1+(k+1)) [dh,cI T,cI U,cI V,cI W]=[dh,cI T,cI U,cI V,cI W].set (1+k) (cI 1):=(by rw[agN,if_pos (by simp;omega),adH];rfl);rw[eo,ep,eu,ei];obtain⟨n,A⟩: ∃n,n=put (put e (8+who) (a+62)) (11+k) (a+80):=⟨_,rfl⟩
     have E: ∀j,j≠8+who->j≠11+k->n j=e j:=fun j F h2=>by rw[A,bV h2,bV F]
     have ct:n (8+who)=a+62:=(by rw[A,bV (by omega),fS]);have cv:n (11+k)=a+80:=(by rw[A,fS]);have hW:SK c s1 u k=some who:=(by rw[aj];exact te (by rw[<-C];exact ck) eb ej hinv (by rw[<-aj];unfold N8;rw[D,R];rfl));obtain⟨s',m⟩: ∃s',s'=bS c s1 (.adm who k):=⟨_,rfl⟩
     have hL:=ai.some hW;rw[<-m] at hL;have fo:COk c s':=(by rw[m];exact CW hb d (yz o hW));have Y:aN s' who= {p with queue:=p.queue.drop 1,out:=p.out++[jo]}:=(by rw[m,cJ rfl (by rw[d.pl];omega),if_pos rfl,<-S,ca,bp]);have Z:aU s' k= {v with pipe:=v.pipe++[jp],last:=who}:=(by rw[m,dE rfl (by rw[d.sl];omega),if_pos rfl,<-S,<-C,cc,bp]);obtain⟨Hm,g⟩: ∃Hm,Hm=(((((((H2.del (e (8+who))).del (e (11+k))).set (e 2) ⟨4,mp,rp.set who [cI p.next,.osl 1 (e (5+who)) (qo+1) (p.queue.length-1) (qc-1),.osl 3 (a+62) 0 (p.out.length+1) q,cI p.last]⟩).set (a+61) ⟨3,1,[eCJ jo]⟩).set (a+62) ⟨3,q,(p.out++[jo]).map eCJ⟩).set (a+79) ⟨3,1,[eCJ jp]⟩).set (a+80) ⟨3,cap,(v.pipe++[jp]).map eCJ⟩).set (e 3) ⟨3,mv,rv.set k [.osl 3 (a+80) 0 (v.pipe.length+1) cap,.osl 5 (e (15+k)) do_ v.done.length dc,cI who]⟩:=⟨_,rfl⟩
     have cw:=f.upd (H':=Hm) (nx':=a+100) who k n s' (by omega) ?_ ?_ ?_ ?_ ?_ ?_ (.inl M) (.inl o) (fun j hj i=>by rw[m,cJ rfl (by rw[d.pl];omega),if_neg i]) (fun j hj i=>by rw[m,dE rfl (by rw[d.sl];omega),if_neg i])
     ·have ia:X nx\/nx=nx\/nx=nx+1:=.inr (.inl rfl);have cd:Hm i1=some ⟨5,1,[[dh,cI T,cI U,cI V,cI W]]⟩:=(by rw[g];simp only[aA.set,aA.del,t,if_false];exact cr);have cx:i1≠nx+1:=(by omega);refine bb _ _ _ (k+1,s',u.set who true,n) noF ((Hm.set (nx+1) ⟨3,1,[(u.set who true).map cB]⟩).set i1 ⟨5,1,[[dh,cI T,cI U,cI V,cI W].set (1+k) (cI 1)]⟩) (by omega) (by dsimp only;omega) (by repeat' first|exact C1|refine xqI rfl rfl ?_|refine xqP (by omega) rfl rfl ?_|fail) ?_ ⟨by dsimp only;omega,fo,(cw.1.acC (.inr (.inr rfl))).cells o ((aA.aB cx).trans cd) rfl,fun id b=> ?_,hL,by simpa using L,?_⟩;·rw[g,ca,cc];exact aI
      ·have F:id≠i1:=by
        rintro rfl
        rcases b with b|rfl
        ·exact f.hap.i1.2 (.inl (.inl b))
        ·omega
       have h2:id≠nx+1:=by
        rcases b with b|rfl;·have:=hB.rep.x id (.inl b);omega
        ·omega
       rw[aA.aB F,aA.aB h2,cw.2 id (b.imp (fun h=>h) .inl)]
       exact J id b
      ·rw[aA.aB cx.symm];exact aA.aJ
     ·rw[A];have cy: ∀v,ad<=v->¬((X v\/v=nx\/v=nx+1)\/v=i1):=fun v hv hn=>by have:=f.rep.x v hn;omega
      exact((f.rep.names.mono (by omega:ad<=a)).put (nx':=a+63) (by omega) (by omega) (cy _ (by omega))).put (by omega) (by omega) (cy _ (by omega))
     ·intro j hj;by_cases h4:j=8+who;·subst h4;exact .inr ⟨.inr (.inr (.inl rfl)),by omega⟩
      ·by_cases h8:j=11+k;·subst h8;exact .inr ⟨.inr (.inr (.inr (.inl rfl))),by omega⟩
       ·exact .inl (E j h4 h8)
     ·intro id b h0 i;rw[g];simp only[aA.set,aA.del,i 2 (by omega) (by omega),i 3 (by omega) (by omega),i (8+who) (by omega) (by omega),i (11+k) (by omega) (by omega),show ¬id=a+61 by omega,show ¬id=a+62 by omega,show ¬id=a+79 by omega,show ¬id=a+80 by omega,if_false]
     ·refine⟨wc,hc,pc,vc,tc,?_,?_,?_,?_,g6,g7⟩;·rw[g];simp only[aA.set,aA.del,t,if_false,I6,E 0 (by omega) (by omega),E 1 (by omega) (by omega),E 2 (by omega) (by omega),E 3 (by omega) (by omega),E 4 (by omega) (by omega)];rw[m];exact g0
      ·rw[E 0 (by omega) (by omega),m];exact g3.frame (by rw[g];simp only[aA.set,aA.del,t,if_false])
      ·rw[E 1 (by omega) (by omega),m];exact g4.frame (by rw[g];simp only[aA.set,aA.del,t,if_false])
      ·rw[E 4 (by omega) (by omega),m];exact g5.frame (by rw[g];simp only[aA.set,aA.del,t,if_false])
     ·refine⟨mp,rp.set who [cI p.next,.osl 1 (e (5+who)) (qo+1) (p.queue.length-1) (qc-1),.osl 3 (a+62) 0 (p.out.length+1) q,cI p.last],mp,rp,g1,by rw[g];simp only[aA.set,aA.del,t,if_false,if_true],by simp only[adM,g8],fun j hj i=>by rw[adX (Ne.symm i)],fun _=>⟨_,cp _,⟨qo+1,qc-1,q,?_,?_,?_⟩⟩⟩;·rw[Y,E (5+who) (by omega) (by omega),ct];simp only[WZ,adL,ac7,List.length_singleton]
      ·rw[Y,E (5+who) (by omega) (by omega)];refine⟨mq,rq0,?_,by rw[aeI,<-q2,aeP],?_,by simp,?_,?_⟩;·rw[g];simp only[aA.set,aA.del,t,if_false];exact q1
       ·simp only[adL];omega
       ·simp only[adL];omega
       ·omega
      ·rw[Y,ct];refine⟨q,(p.out++[jo]).map eCJ,?_,rfl,by simp,by simp,by simpa using ab,by simp⟩;rw[g];simp only[aA.set,aA.del,t,if_false,if_true,ac4,Nat.reduceEqDiff]
     ·refine⟨mv,rv.set k [.osl 3 (a+80) 0 (v.pipe.length+1) cap,.osl 5 (e (15+k)) do_ v.done.length dc,cI who],mv,rv,g2,by rw[g];exact aA.aJ,by simp only[adM,g9],fun j hj i=>by rw[adX (Ne.symm i)],fun _=>⟨_,cq _,⟨0,cap,do_,dc,?_,?_,?_⟩⟩⟩;·rw[Z,cv,E (15+k) (by omega) (by omega)];simp only[lz,ac7,List.length_singleton]
      ·rw[Z,cv];refine⟨cap,(v.pipe++[jp]).map eCJ,?_,rfl,by simp,by simp,by simpa using br,by simp⟩;rw[g];simp only[aA.set,aA.del,t,if_false,if_true]
      ·rw[Z,E (15+k) (by omega) (by omega)];exact gd.frame (by rw[g];simp only[aA.set,aA.del,t,if_false])
    ·have R:decide (NU c s1 who k)=false:=decide_eq_false z;repeat' first| (first|apply vI|apply Y4 (by omega)|apply DR (s:=s1) hb d M o (f.rep.UD d.pl d.sl))<;>(simp only[go_sem,ac2,ac3,g0,g2,gs,ae0,N,B,bk,O,hle,D,aa,R];try simp (disch:=omega) only[Iw])|apply vT (by omega)|refine⟨by omega,?_⟩|fail
     exact cf _ _ _ (j+1) noF _ (by omega) (by omega) (by repeat' first|exact C1|refine xqI rfl rfl ?_|refine xqP (by omega) rfl rfl ?_|fail) aI ⟨by omega,by omega,rfl,P (by unfold N8;rw[D];rw[R];rfl)⟩
   ·repeat' first| (first|apply vI|apply Y5 (by omega))<;>(simp only[go_sem,ac2,ac3,g0,g2,gs];try simp (disch:=omega) only[Iw])|fail
    exact bb _ _ _ (k+1,s1,u,e) noF _ (by omega) (by dsimp only;omega) (by repeat' first|exact C1|refine xqI rfl rfl ?_|refine xqP (by omega) rfl rfl ?_|fail) aI ⟨by dsimp only;omega,d,f.mono (by omega),J,ai.none (ue fun y F h2=>hinv y F (by omega)),L,B⟩
  ·repeat' first| (first|apply vI|refine Y6 (fun h=> ?_) fun h=> ?_)<;>(simp only[go_sem,ac2,ac3,g0,g2,gs];try simp (disch:=omega) only[Iw])|apply vF (by omega)|fail
   all_goals exact bb _ _ _ (k+1,s1,u,e) noF _ (by omega) (by dsimp only;omega) (by repeat' first|exact C1|refine xqI rfl rfl ?_|refine xqP (by omega) rfl rfl ?_|fail) aI ⟨by dsimp only;omega,d,f.mono (by omega),J,ai.none (Ao (by rw[<-C];exact ck)),L,B⟩
 ·repeat' first|apply vI<;>(simp only[go_sem])|apply vF (by omega)|fail
  have fp:k=4:=by omega
  subst fp;obtain rfl:=ao;refine hQ _ _ _ _ _ (.inl rfl) rfl (h _ _ e (by omega) (f.next (by omega) (fun _ _ _=>rfl) fun id b=>⟨?_,.inl (.inl b)⟩) fun id b=> ?_);·have:=hB.rep.x id (.inl b);omega
  ·have:=hB.rep.x id (.inl b);rw[J id (.inl b),I,aA.aB (by omega),aA.aB (by omega)]
end
theorem Vg{c:Cfg}{i:CIn}{s:CSt}{k:Nat}(h: ¬(i.send.getD k default=true/\(aN s k).queue.length<2/\(aN s k).next<(c.cH.getD k default).length)):NH c i s k=none:=if_neg h
section
variable{H:aA}{nx:Nat}{K:ag2}
theorem PU{X:Nat->Prop}{c:Cfg}{i:CIn}{s:CSt}{es:List Ev}{i0 i1:Nat}{nm:Nat->Nat}(hb:bG c)(hs:COk c s)(cv:i.send.length=3)(hB:pN X H nx i0 i1 nm s es)(hl:es.length<900)
 (h: ∀H' nx' e,nx<=nx'->pN X H' nx' i0 i1 e (l6 c s (XG c i s)) (es++iE c s (XG c i s))->(∀id,X id->H' id=H id)->K (.tup []) H' nx'):
 ag1 sB [.one (.c (.ptr 5 i0 0 0)),dA (bO c),dA (eIn i),.one (.c (.ptr 5 i1 0 0))] H nx K:=by
 refine bW.mk Tryz.func190 (by kernel_rfl) MX rfl fun Q hQ=> ?_
 unfold lW
 obtain⟨cw,ad⟩:=eM hb
 obtain⟨wc,hc,P,vc,R,ai,cx,cy,da,dc,df⟩: ∃wc hc P vc R,H i0=some ⟨5,1,[[.osl 1 (nm 0) 0 s.words.length wc,.osl 1 (nm 1) 0 s.holds.length hc,.osl 4 (nm 2) 0 3 P,.osl 3 (nm 3) 0 4 vc,.osl 5 (nm 4) 0 s.told.length R]]⟩/\_:=by obtain⟨cells,h1,⟨wc,hc,P,vc,R,rfl,h2⟩,_⟩:=hB.rep.st;exact⟨wc,hc,P,vc,R,h1,h2⟩
 have z:=hB.rep.apart (nx':=nx) [] [] (ac1 _) (by simp) (by simp) (by simp) (by simp)
 simp only[aT,bM,List.map,List.nil_append] at z
 repeat' first|apply vI<;>(simp only[go_sem,ac2,ac3,ai,z])|fail
 obtain⟨H0,B⟩: ∃H0,H0=(H.set nx ⟨3,1,[bO c]⟩).set (nx+1) ⟨3,1,[eIn i]⟩:=⟨_,rfl⟩
 rw[<-B]
 have aj:H0 nx=some ⟨3,1,[bO c]⟩:=by rw[B,aA.aB (by omega)];exact aA.aJ
 have ao:H0 (nx+1)=some ⟨3,1,[eIn i]⟩:=by rw[B];exact aA.aJ
 have bb:=hB.rep.i0.1
 have bk:=hB.hap.i1.1
 have bp:pN (fun id=>X id\/id=nx\/id=nx+1) H0 (nx+8) i0 i1 nm s es:=hB.next (by omega) (fun id h1 h2=>by rw[B,aA.aB (by omega),aA.aB (by omega)]) fun id a=>by
  rcases a with a|rfl|rfl;·have:=hB.rep.x id (.inl a);exact⟨by omega,.inl a⟩
  ·exact⟨by omega,.inr (ac1 _)⟩
  ·exact⟨by omega,.inr (by omega)⟩
 refine aK.cW (β:=Nat×CSt×List Ev×(Nat->Nat)) (fun u=>en [(15,dI u.1),(14,dI 3),(6,.one (.c (.ptr 3 (nx+1) 0 0))),(5,.one (.c (.ptr 3 nx 0 0))),(3,.one (.c (.ptr 5 i1 0 0))),(0,.one (.c (.ptr 5 i0 0 0)))])
  (fun u H1 g=>u.1<=3/\COk c u.2.1/\pN (fun id=>X id\/id=nx\/id=nx+1) H1 g i0 i1 u.2.2.2 u.2.1 u.2.2.1/\(∀id,X id\/id=nx\/id=nx+1->H1 id=H0 id)/\DP c (NH c i) ([0,1,2].drop u.1) u.2.1 u.2.2.1 (l6 c s (XG c i s)) (es++iE c s (XG c i s))/\u.2.2.1.length<=es.length+u.1)
  (fun u=>3-u.1) (0,s,es,nm) ⟨noF,_,by repeat' first|exact C1|refine xqI rfl rfl ?_|refine xqP (by omega) rfl rfl ?_|fail,aI,by dsimp only;omega,hs,bp.mono (by omega),fun _ _=>rfl,⟨rfl,rfl⟩,by simp⟩ ?_
 rintro⟨k,s1,S,C⟩ H1 g dh ⟨hk,f,m,w,T,br⟩ KL U
 dsimp only at hk f m T br
 obtain⟨wc,hc,P,vc,R,mp,rp,mv,rv,V,W,g2,g3,g4,g5,g6,g7,g8,g9,ga,gb⟩:=m.rep.get
 have D:H1 (nx+1)=some ⟨3,1,[eIn i]⟩:=by rw[w _ (.inr (.inr rfl))];exact ao
 have E:H1 nx=some ⟨3,1,[bO c]⟩:=by rw[w _ (.inr (.inl rfl))];exact aj
 by_cases q:k<3
 ·have N:=T;rw[zo q] at N;obtain⟨p,y⟩: ∃p,p=aN s1 k:=⟨_,rfl⟩
  obtain⟨qo,qc,oc,Y,gq,go⟩:=ga k q;rw[<-y] at Y gq go;have Z:=f.port k q;rw[<-y] at Z;obtain⟨dm,ds⟩:=Z.next;have dv:=Z.ql;have ca:=ad k;obtain⟨mq,rq0,q1,q2,q3,q4,q5,q6⟩:=gq.ex;rw[adE] at q4;by_cases hO:i.send.getD k default=true/\(aN s1 k).queue.length<2/\(aN s1 k).next<(c.cH.getD k default).length
  ·have F:NH c i s1 k=some (.ask k):=if_pos hO;obtain⟨I,cc,cd⟩:=hO;rw[<-y] at cc cd;have z:=m.rep.apart (nx':=g) [nx,nx+1] [0,1,2,3,4,5+k,8+k] (ac1 _) (by simp) (fun x hx=>.inl (.inr (by simpa using hx))) (by simp;omega) (by simp;omega);simp only[aT,bM,List.map,List.cons_append,List.nil_append] at z;have J: ∀r,(rp.set k r)[k]?=some r:=fun r=>by rw[adW (by omega)]
   refine aK.DN fun cf=> ?_;have ck: ∀k l,msk (g+k) l H1=H1:=fun k l=>BH cf (by omega);repeat' first| (first|apply vI|apply Y4 (by omega))<;>(simp only[go_sem,ac2,ac3,ck,umS (G:=H1),umD (G:=H1),umB,V,W,Y,J,ad0,E,D,I,q1,z])|apply vT (by omega)| (with_reducible first|refine fun(cap:Nat) (aa:_<=cap)=> ?_|refine fun(dx:_<=cap)=> ?_)|refine⟨by omega,?_⟩|fail
   have er:List.take p.queue.length (List.drop qo rq0)++[[cI p.next]]=(p.queue++[p.next]).map aF:=(by rw[q2,ac6 (by simp),adF];rfl);rw[er];obtain⟨e,L⟩: ∃e,e=put C (5+k) (g+46):=⟨_,rfl⟩
   have A: ∀j,j≠5+k->e j=C j:=fun j h1=>by rw[L,bV h1]
   have p5:e (5+k)=g+46:=(by rw[L,fS]);have hL:=N.some F;obtain⟨s2,d⟩: ∃s2:CSt,s2= {s1 with bJ:=s1.bJ.set k {p with queue:=p.queue++[p.next]}}:=⟨_,rfl⟩
   obtain⟨s',n⟩: ∃s',s'=bS c s1 (.ask k):=⟨_,rfl⟩
   rw[<-n,show CZ s1 (.ask k)=[⟨1,k,p.next⟩] from by rw[y];rfl] at hL;have cl:COk c s':=(by rw[n];exact CW hb f (vr f q F));have t:aN s2 k= {p with queue:=p.queue++[p.next]}:=(by rw[d,cJ rfl (by rw[f.pl];omega),if_pos rfl]);have M:aN s' k= {p with queue:=p.queue++[p.next],next:=p.next+1}:=(by rw[n,cJ rfl (by rw[f.pl];omega),if_pos rfl,<-y]);refine Ey (m.upd k 8 e s2 (by omega) ?_ ?_ ?_ ?_ ?_ ?_ (.inl q) (.inr rfl) (fun j hj b=>by rw[d,cJ rfl (by rw[f.pl];omega),if_neg b]) (fun j hj b=>by rw[d];rfl)) (by omega) fun H' nx' hx O cp=> ?_
   ·rw[L];have cq: ∀v,g<=v->¬((X v\/v=nx\/v=nx+1)\/v=i1):=fun v hv hn=>by have:=m.rep.x v hn;omega
    exact m.rep.names.put (by omega) (by omega) (cq _ (by omega))
   ·intro j hj;by_cases h4:j=5+k;·subst h4;exact .inr ⟨.inr (.inl rfl),by omega⟩
    ·exact .inl (A j h4)
   ·intro id a h0 b;simp only[aA.set,aA.del,b 2 (by omega) (by omega),b (5+k) (by omega) (by omega),show ¬id=g+45 by omega,show ¬id=g+46 by omega,if_false]
   ·refine⟨wc,hc,P,vc,R,?_,?_,?_,?_,g6,g7⟩;·simp only[aA.set,aA.del,z,if_false,I6,A 0 (by omega),A 1 (by omega),A 2 (by omega),A 3 (by omega),A 4 (by omega)];rw[d];exact V
    ·rw[A 0 (by omega),d];exact g3.frame (by simp only[aA.set,aA.del,z,if_false])
    ·rw[A 1 (by omega),d];exact g4.frame (by simp only[aA.set,aA.del,z,if_false])
    ·rw[A 4 (by omega),d];exact g5.frame (by simp only[aA.set,aA.del,z,if_false])
   ·refine⟨mp,_,mp,rp,W,aA.aJ,by simp only[adM,g8],fun j hj b=>by rw[adX (Ne.symm b)],fun _=>⟨_,J _,⟨0,cap,oc,?_,?_,?_⟩⟩⟩;·rw[t,A (8+k) (by omega),p5];simp only[WZ,ac7,List.length_singleton]
    ·rw[t,p5];exact⟨cap,(p.queue++[p.next]).map aF,by simp only[aA.set,aA.del,z,if_false,if_true],rfl,by simp,by simp,by simpa using aa,by simp⟩
    ·rw[t,A (8+k) (by omega)];exact go.frame (by simp only[aA.set,aA.del,z,if_false])
   ·exact⟨mv,rv,mv,rv,g2,by simp only[aA.set,aA.del,z,if_false];exact g2,g9,fun _ _ _=>rfl,fun hh=>by omega⟩
   ·obtain⟨wc,hc,P,vc,R,mp,rp,mv,rv,V,W,g2,g3,g4,g5,g6,g7,g8,g9,ga,gb⟩:=O.rep.get;obtain⟨qo,qc,oc,Y,gq,go⟩:=ga k q;have J: ∀r,(rp.set k r)[k]?=some r:=fun r=>by rw[adW (by omega)]
    have o:=O.rep.apart (nx':=nx') [nx,nx+1] [0,1,2,3,4,5+k,8+k] (ac1 _) (by simp) (fun x hx=>.inl (.inr (by simpa using hx))) (by simp;omega) (by simp;omega);simp only[aT,bM,List.map,List.cons_append,List.nil_append] at o;have cr:=(A 2 (by omega)).symm;rw[t] at Y gq go;simp only[go_sem];repeat' first|apply vI<;>(simp only[go_sem,ac2,ac3,cr,V,W,Y,J,ad0,o];try simp (disch:=omega) only[Iw])|fail
    have ab:=O.upd (H':=H'.set (e 2) ⟨4,mp,rp.set k [cI (p.next+1),.osl 1 (e (5+k)) qo (p.queue.length+1) qc,.osl 3 (e (8+k)) 0 p.out.length oc,cI p.last]⟩) (nx':=nx'+10) k 8 e s' (by omega) (O.rep.names.mono (by omega)) (fun j _=>.inl rfl) ?_ ?_ ?_ ?_ (.inl q) (.inr rfl) (fun j hj b=>(show aN s' j=aN s1 j from by rw[n,cJ (s:=s1) rfl (by rw[f.pl];omega),if_neg b]).trans (show aN s2 j=aN s1 j from by rw[d,cJ (s:=s1) rfl (by rw[f.pl];omega),if_neg b]).symm) (fun j hj b=>by rw[n,d];rfl);·exact U _ _ _ (k+1,s',S++[⟨1,k,p.next⟩],e) noF _ (by omega) (by dsimp only;omega) (by repeat' first|exact C1|refine xqI rfl rfl ?_|refine xqP (by omega) rfl rfl ?_|fail) aI ⟨by dsimp only;omega,cl,ab.1,fun id a=>(ab.2 id a).trans ((cp id a).trans (w id a)),hL,by simp;omega⟩
    ·intro id a h0 b;exact aA.aB (b 2 (by omega) (by omega))
    ·refine⟨wc,hc,P,vc,R,?_,?_,?_,?_,g6,g7⟩;·simp only[aA.set,o,if_false];rw[V,n,d];rfl
     ·rw[d] at g3;rw[n];exact g3.frame (by simp only[aA.set,o,if_false])
     ·rw[d] at g4;rw[n];exact g4.frame (by simp only[aA.set,o,if_false])
     ·rw[d] at g5;rw[n];exact g5.frame (by simp only[aA.set,o,if_false])
    ·refine⟨mp,_,mp,rp,W,aA.aJ,by simp only[adM,g8],fun j hj b=>by rw[adX (Ne.symm b)],fun _=>⟨_,J _,⟨qo,qc,oc,?_,?_,?_⟩⟩⟩;·rw[M];simp only[WZ,ac7,List.length_singleton]
     ·rw[M];exact gq.frame (by simp only[aA.set,o,if_false])
     ·rw[M];exact go.frame (by simp only[aA.set,o,if_false])
    ·exact⟨mv,rv,mv,rv,g2,by simp only[aA.set,o,if_false];exact g2,g9,fun _ _ _=>rfl,fun hh=>by omega⟩
  ·have F:=Vg hO;rw[<-y] at hO
   cases I:i.send.getD k default with
   |false=>
    repeat' first|apply vI<;>(simp only[go_sem,ac2,ac3,V,W,Y,E,D,I];try simp (disch:=omega) only[Iw])|apply vT (by omega)|refine⟨by omega,?_⟩|fail
    exact U _ _ _ (k+1,s1,S,C) noF _ (by omega) (by dsimp only;omega) (by repeat' first|exact C1|refine xqI rfl rfl ?_|refine xqP (by omega) rfl rfl ?_|fail) aI ⟨by dsimp only;omega,f,m.mono (by omega),w,N.none (F),by dsimp only;omega⟩
   |true=>
   rw[I] at hO;repeat' first| (first|apply vI|refine Y6 (fun h=> ?_) fun h=> ?_)<;>(simp only[go_sem,ac2,ac3,V,W,Y,E,D,I];try simp (disch:=omega) only[Iw])|apply vT (by omega)|refine iR (fun h=> ?_) fun h=> ?_|refine⟨by omega,?_⟩|fail
   all_goals first|exact absurd ⟨rfl,by omega,by omega⟩ hO| (exact U _ _ _ (k+1,s1,S,C) noF _ (by omega) (by dsimp only;omega) (by repeat' first|exact C1|refine xqI rfl rfl ?_|refine xqP (by omega) rfl rfl ?_|fail) aI ⟨by dsimp only;omega,f,m.mono (by omega),w,N.none F,by dsimp only;omega⟩)
 ·repeat' first|apply vI<;>(simp only[go_sem])|apply vF (by omega)|fail
  have ct:k=3:=by omega
  subst ct;obtain⟨rfl,rfl⟩:=DP.nil T;refine hQ _ _ _ _ _ (.inl rfl) rfl (h _ _ C (by omega) (m.next (by omega) (fun _ _ _=>rfl) fun id a=>⟨?_,.inl (.inl a)⟩) fun id a=> ?_);·have:=hB.rep.x id (.inl a);omega
  ·have:=hB.rep.x id (.inl a);rw[w id (.inl a),B,aA.aB (by omega),aA.aB (by omega)]
theorem KT{l:List Rng}(hl:l.length<2^40)(h:K (dB (decide (o9 l))) H nx):ag1 EI [dS (l.map cY)] H nx K:=by
 refine aC.pure (args0:=[dS (l.map cY)]) (R:=fun A=>A=dB (decide (o9 l))) ?_ rfl (aM ⟨aE rfl,trivial⟩) (fun r hr=>hr▸h);clear h;refine aR.mk Tryz.func164 (by kernel_rfl) kl rfl fun Q g=> ?_;unfold BO;by_cases m:(l.length:Int)<=4
 ·repeat' first|apply vI<;>(simp only[go_sem])|apply vF (by omega)|fail
  refine aK.cW (β:=Nat) (fun k=>en [(3,dI k),(0,dS (l.map cY))]) (fun k _ _=>k<=l.length/\ ∀i,i<k->ba l i) (fun k=>l.length-k) 0 ⟨noF,_,by repeat' first|exact C1|refine xqI rfl rfl ?_|fail,aI,by omega,fun i hi=>by omega⟩ ?_;rintro k H1 n w ⟨F,hinv⟩ G p;by_cases o:k<l.length
  ·obtain⟨r,hr⟩: ∃r,r=l.getD k default:=⟨_,rfl⟩
   have e:l.getD k default=r:=hr.symm;have a: ¬F8 r->¬o9 l:=fun h hm=>h (by rw[hr];exact(hm.2 k o).1);repeat' first| (first|apply vI|refine Y6 (fun h=> ?_) fun h=> ?_|apply bH)<;>(simp only[go_sem,e,nL])|apply vT (by omega)|refine iR (fun h=> ?_) fun h=> ?_|refine⟨by omega,?_⟩|fail
   ·exact aQ g (dB false) rfl rfl (gV (a fun hm=>by unfold F8 at hm;omega))
   ·exact aQ g (dB false) rfl rfl (gV (a fun hm=>by unfold F8 at hm;omega))
   ·exact aQ g (dB false) rfl rfl (gV (a fun hm=>by unfold F8 at hm;omega))
   have q:F8 r:=(by unfold F8;omega);refine aK.cW (β:=Nat) (fun j=>en [(5,dI j),(4,.one (.c (.ptr 4 (n+8) 0 0))),(3,dI k),(0,dS (l.map cY))]) (fun j H2 _=>(j<=k/\ ∀i,i<j->tq (l.getD i default) r=false)/\H2 (n+8)=some ⟨4,1,[cY r]⟩) (fun j=>k-j) 0 ⟨noF,_,by repeat' first|exact C1|refine xqI rfl rfl ?_|refine xqP (by omega) rfl rfl ?_|fail,aI,⟨by omega,fun i hi=>by omega⟩,by simp only[aA.set,if_true]⟩ ?_;rintro j H2 B y ⟨⟨I,b⟩,z⟩ J s;by_cases C:j<k
   ·obtain⟨t,u⟩: ∃t,t=l.getD j default:=⟨_,rfl⟩
    have d:l.getD j default=t:=u.symm;repeat' first| (first|apply vI|refine Y6 (fun h=> ?_) fun h=> ?_)<;>(simp only[go_sem,d,z];try simp (disch:=omega) only[Iw])|apply vT (by omega)|refine iR (fun h=> ?_) fun h=> ?_|refine⟨by omega,?_⟩|fail
    ·refine aQ g (dB false) rfl rfl (gV fun hm=> ?_);have D:=(hm.2 k o).2;refine D (dU.2 ⟨l.getD j default,adS.2 ⟨j,by simp;omega,by simp[List.getD,show j<l.length by omega]⟩,decide_eq_true ?_⟩);rw[d,e];omega
    all_goals exact s _ _ _ (j+1) noF _ (by omega) (by omega) (by repeat' first|exact C1|refine xqI rfl rfl ?_|refine xqP (by omega) rfl rfl ?_|fail) aI ⟨⟨by omega,bT b (by rw[d];exact decide_eq_false (by omega))⟩,z⟩
   ·repeat' first|apply vI<;>(simp only[go_sem];try simp (disch:=omega) only[Iw])|apply vF (by omega)|fail
    refine p _ _ _ (k+1) noF _ (by omega) (by omega) (by repeat' first|exact C1|refine xqI rfl rfl ?_|fail) aI ⟨by omega,bT hinv ⟨by rw[e];exact q,fun hc=> ?_⟩⟩;obtain⟨x,E,f⟩:=dU.1 hc;obtain⟨i,hi,rfl⟩:=adS.1 E;have hi':i<k:=(by simp at hi;omega);have:=b i (by omega);simp only[List.getD,show i<l.length by omega,ac8,Option.getD_some] at this;rw[e] at f;simp only[afI] at f;rw[this] at f;cases f
  ·repeat' first|apply vI<;>(simp only[go_sem])|apply vF (by omega)|fail
   have v:k=l.length:=(by omega);subst v;exact aQ g (dB true) rfl rfl (nB ⟨m,hinv⟩)
 ·repeat' first|apply vI<;>(simp only[go_sem])|apply vT (by omega)|fail
  exact aQ g (dB false) rfl rfl (gV fun h=>m h.1)
theorem rG{l:List Int}{lo:Int}{up:Int}(hl:l.length<2^40)(h:K (dB (decide (All l lo up))) H nx):ag1 oA [dS (l.map aF),dI lo,dI up] H nx K:=by
 refine aC.pure (args0:=[dS (l.map aF),dI lo,dI up]) (R:=fun d=>d=dB (decide (All l lo up))) ?_ rfl (aM ⟨aE rfl,aE rfl,aE rfl,trivial⟩) (fun r hr=>hr▸h);clear h;refine aR.mk Tryz.func114 (by kernel_rfl) oq rfl fun Q c=> ?_;unfold AW;repeat' first|apply vI<;>(simp only[go_sem])|fail
 (refine aK.loop (α:={k:Nat//k<=l.length/\(∀i,i<k->lo<=l.getD i default/\l.getD i default<=up)}) (fun u=>en [(7,dI u.1),(2,dI up),(1,dI lo),(0,dS (l.map aF))]) (fun _=>.nil) _ (fun u=>l.length-u.1) ⟨0,by omega,(by intros;first|trivial|omega)⟩ (bI (ac1 _) (by repeat' first|exact C1|refine xqI rfl rfl ?_|fail)) ?_);(rintro⟨k,f,hinv⟩ g a);by_cases b:k<l.length
 ·repeat' first| (first|apply vI|apply bH)<;>(simp only[go_sem];try simp (disch:=omega) only[Iw])|apply vT (by omega)|refine iR (fun h=> ?_) fun h=> ?_|refine⟨by omega,?_⟩|fail
  ·exact aQ c (dB false) rfl rfl (gV fun e=>by have:=ZA e b;omega)
  · (refine a _ _ _ ⟨k+1,by omega,bT hinv (by omega)⟩ (by omega) (by(try dsimp only);omega) (bI (ac1 _) (by repeat' first|exact C1|refine xqI rfl rfl ?_|fail)))
 ·repeat' first|apply vI<;>(simp only[go_sem])|apply vF (by omega)|fail
  exact aQ c (dB true) rfl rfl (nB (WU fun i hi=>hinv i (by omega)))
theorem UR{q:Req}(b:q.data.length<2^40)(hl:q.lanes.length<2^40)(h:K (dB (decide (cR q))) H nx):ag1 EG [dA (dT q)] H nx K:=by
 refine aC.pure (args0:=[dA (dT q)]) (R:=fun c=>c=dB (decide (cR q))) ?_ rfl (aM ⟨aE rfl,trivial⟩) (fun r hr=>hr▸h);clear h;refine aR.mk Tryz.func247 (by kernel_rfl) nv rfl fun Q a=> ?_;unfold A4;repeat' first| (first|apply vI|refine Y6 (fun h=> ?_) fun h=> ?_|apply bH|apply LC|apply UT|apply rG (l:=q.data) b|apply rG (l:=q.lanes) hl)<;>(simp only[go_sem])|refine iR (fun h=> ?_) fun h=> ?_| ((refine CK (fun h=> ?_) (fun h=> ?_))<;>try subst h)|fail
 all_goals first|with_reducible refine aQ a _ rfl rfl ?_|skip
 all_goals
  have d:wrM q=true↔(q.kind=2\/q.kind=4):=by simp[wrM]
  have e:All ([]:List Int) 0 65535:=by simp[All]
  have f:All ([]:List Int) 0 3:=by simp[All]
  have g:q.data.length=0->q.data=[]:=aeG.1
  have i:q.lanes.length=0->q.lanes=[]:=aeG.1
  clear a
  first|exact gV (by unfold cR oE;grind)|exact nB (by unfold cR oE;grind)|exact nJ (by unfold cR oE;grind)
theorem n7{r:Rsp}(hr:r.data.length<2^40)(h:K (dB (decide (jY r))) H nx):ag1 rM [dA (lP r)] H nx K:=by
 refine aC.pure (args0:=[dA (lP r)]) (R:=fun a=>a=dB (decide (jY r))) ?_ rfl (aM ⟨aE rfl,trivial⟩) (fun r hr=>hr▸h);clear h;refine aR.mk Tryz.func213 (by kernel_rfl) ko rfl fun Q b=> ?_;unfold A2;repeat' first| (first|apply vI|refine Y6 (fun h=> ?_) fun h=> ?_|apply bH|apply rG (l:=r.data) hr)<;>(simp only[go_sem])|fail
 all_goals first|with_reducible refine aQ b _ rfl rfl ?_|skip
 all_goals first|exact gV (by unfold jY;grind)|exact nJ (by unfold jY;grind)|exact nB (by unfold jY;grind)
theorem nf{p:Prog}(hp:p.length<2^40)(d: ∀q∈p,q.data.length<2^40/\q.lanes.length<2^40)(h:K (dB (decide (∀q∈p,cR q))) H nx):ag1 IE [dS (p.map dT)] H nx K:=by
 refine aC.pure (args0:=[dS (p.map dT)]) (R:=fun e=>e=dB (decide (∀q∈p,cR q))) ?_ rfl (aM ⟨aE rfl,trivial⟩) (fun r hr=>hr▸h);clear h;refine aR.mk Tryz.func165 (by kernel_rfl) ez rfl fun Q c=> ?_;unfold xY;repeat' first|apply vI<;>(simp only[go_sem])|fail
 (refine aK.loop (α:={k:Nat//k<=p.length/\(∀i,i<k->cR (p.getD i default))}) (fun u=>en [(3,dI u.1),(0,dS (p.map dT))]) (fun _=>.nil) _ (fun u=>p.length-u.1) ⟨0,by omega,(by intros;first|trivial|omega)⟩ (bI (ac1 _) (by repeat' first|exact C1|refine xqI rfl rfl ?_|fail)) ?_);(rintro⟨k,g,hinv⟩ j b);by_cases a:k<p.length
 ·have hm:=d _ (cC a);repeat' first| (first|apply vI|apply UR hm.1 hm.2)<;>(simp only[go_sem];try simp (disch:=omega) only[Iw])|apply vT (by omega)|refine iR (fun h=> ?_) fun h=> ?_|refine⟨by omega,?_⟩|fail
  ·exact aQ c (dB false) rfl rfl (gV fun f=>by have:=f _ (cC a);simp_all)
  · (refine b _ _ _ ⟨k+1,by omega,bT hinv (by simp_all)⟩ (by omega) (by(try dsimp only);omega) (bI (ac1 _) (by repeat' first|exact C1|refine xqI rfl rfl ?_|fail)))
 ·repeat' first|apply vI<;>(simp only[go_sem])|apply vF (by omega)|fail
  exact aQ c (dB true) rfl rfl (nB (iS fun i hi=>hinv i (by omega)))
theorem mA{c:Cfg}(hc:jJ c)(h:K (dB (decide (bG c))) H nx):ag1 EX [dA (bO c)] H nx K:=by
 refine aC.pure (args0:=[dA (bO c)]) (R:=fun o=>o=dB (decide (bG c))) ?_ rfl (aM ⟨aE rfl,trivial⟩) (fun r hr=>hr▸h);clear h;refine aR.mk Tryz.func73 (by kernel_rfl) sb rfl fun Q b=> ?_;unfold AL;have a:bG c↔o9 c.map/\(c.lat.length:Int)=4/\All c.lat 0 3/\(c.cH.length:Int)=3/\ ∀p∈c.cH,(p.length:Int)<=12/\ ∀q∈p,cR q:=by unfold bG qU;simp only[dU,not_exists,not_and,decide_eq_true_eq,Classical.not_imp,Classical.not_not]
 by_cases d:o9 c.map/\(c.lat.length:Int)=4/\All c.lat 0 3/\(c.cH.length:Int)=3
 ·obtain⟨m,s,n,t⟩:=d;repeat' first| (first|apply vI|apply Y5 (by omega)|apply KT hc.map|apply rG (l:=c.lat) hc.lat)<;>(simp only[go_sem,eq_true m,eq_true n])|apply vF (by omega)|fail
  (refine aK.loop (α:={k:Nat//k<=3/\(∀i,i<k->((c.cH.getD i default).length:Int)<=12/\ ∀q∈c.cH.getD i default,cR q)}) (fun u=>en [(3,dI u.1),(1,.one (.c (.dQ (bO c))))]) (fun _=>.nil) _ (fun u=>3-u.1) ⟨0,by omega,(by intros;first|trivial|omega)⟩ (bI (ac1 _) (by repeat' first|exact C1|refine xqI rfl rfl ?_| (with_reducible apply C2)| ((with_reducible apply D0);exact CI rfl (by simp) rfl rfl rfl)|fail)) ?_);(rintro⟨k,w,hinv⟩ x e);by_cases v:k<3
  ·have hm:c.cH.getD k default∈c.cH:=cC (by omega);have f:=hc.prog _ hm;have g:=hc.req _ hm;repeat' first| (first|apply vI|refine Y6 (fun h=> ?_) fun h=> ?_|apply nf f g)<;>(simp only[go_sem];try simp (disch:=omega) only[Iw])|apply vT (by omega)|refine iR (fun h=> ?_) fun h=> ?_|refine⟨by omega,?_⟩|fail
   ·exact aQ b (dB false) rfl rfl (gV fun hB=>by have:=((a.1 hB).2.2.2.2 _ hm).1;omega)
   ·exact aQ b (dB false) rfl rfl (gV fun hB=>by have:=((a.1 hB).2.2.2.2 _ hm).2;simp_all)
   · (refine e _ _ _ ⟨k+1,by omega,bT hinv ⟨by omega,by simp_all⟩⟩ (by omega) (by(try dsimp only);omega) (bI (ac1 _) (by repeat' first|exact C1|refine xqI rfl rfl ?_|fail)))
  ·repeat' first|apply vI<;>(simp only[go_sem])|apply vF (by omega)|fail
   exact aQ b (dB true) rfl rfl (nB (a.2 ⟨m,s,n,t,iS fun i hi=>hinv i (by omega)⟩))
 ·have j: ¬bG c:=fun hB=>d ⟨(a.1 hB).1,(a.1 hB).2.1,(a.1 hB).2.2.1,(a.1 hB).2.2.2.1⟩;repeat' first| (first|apply vI|refine Y6 (fun h=> ?_) fun h=> ?_|apply KT hc.map|apply rG (l:=c.lat) hc.lat)<;>(simp only[go_sem])|refine iR (fun h=> ?_) fun h=> ?_|fail
  all_goals first|exact aQ b (dB false) rfl rfl (gV j)|exact absurd ⟨by simp_all,by omega,by simp_all,by omega⟩ d
theorem xn{l:List Int}(hl:l.length<2^40)(h:K (dB (decide ((l.length:Int)=64/\All l 0 65535))) H nx):ag1 K1 [dA [.isl (l.map aF)]] H nx K:=by
 refine aC.pure (args0:=[dA [.isl (l.map aF)]]) (R:=fun f=>f=dB (decide ((l.length:Int)=64/\All l 0 65535))) ?_ rfl (aM ⟨aE rfl,trivial⟩) (fun r hr=>hr▸h);clear h;refine aR.mk Tryz.func211 (by kernel_rfl) ov rfl fun Q a=> ?_;unfold AJ;repeat' first|apply vI<;>(simp only[go_sem])|refine iR (fun h=> ?_) fun h=> ?_|fail
 ·exact aQ a (dB false) rfl rfl (gV fun e=>by omega)
 (refine aK.loop (α:={k:Nat//k<=l.length/\(∀i,i<k->0<=l.getD i default/\l.getD i default<=65535)}) (fun u=>en [(3,dI u.1),(1,.one (.c (.dQ [.isl (l.map aF)])))]) (fun _=>.nil) _ (fun u=>l.length-u.1) ⟨0,by omega,(by intros;first|trivial|omega)⟩ (bI (ac1 _) (by repeat' first|exact C1|refine xqI rfl rfl ?_| (with_reducible apply C2)| ((with_reducible apply D0);exact CI rfl (by simp) rfl rfl rfl)|fail)) ?_);(rintro⟨k,g,hinv⟩ j b);by_cases d:k<l.length
 ·repeat' first| (first|apply vI|apply bH)<;>(simp only[go_sem];try simp (disch:=omega) only[Iw])|apply vT (by omega)|refine iR (fun h=> ?_) fun h=> ?_|refine⟨by omega,?_⟩|fail
  ·exact aQ a (dB false) rfl rfl (gV fun e=>by have:=ZA e.2 d;omega)
  · (refine b _ _ _ ⟨k+1,by omega,bT hinv (by omega)⟩ (by omega) (by(try dsimp only);omega) (bI (ac1 _) (by repeat' first|exact C1|refine xqI rfl rfl ?_|fail)))
 ·repeat' first|apply vI<;>(simp only[go_sem])|apply vF (by omega)|fail
  exact aQ a (dB true) rfl rfl (nB ⟨by omega,WU fun i hi=>hinv i (by omega)⟩)
theorem rL{w:List Int}{u:List Int}(hw:w.length<2^40)(hu:u.length<2^40)(h:K (dB (decide (pT w u))) H nx):ag1 D7 [dA [.isl (w.map aF),.isl (u.map aF)]] H nx K:=by
 refine aC.pure (args0:=[dA [.isl (w.map aF),.isl (u.map aF)]]) (R:=fun a=>a=dB (decide (pT w u))) ?_ rfl (aM ⟨aE rfl,trivial⟩) (fun r hr=>hr▸h);clear h;refine aR.mk Tryz.func126 (by kernel_rfl) ns rfl fun Q b=> ?_;unfold A1;repeat' first| (first|apply vI|refine Y6 (fun h=> ?_) fun h=> ?_|apply xn hw|apply rG (l:=u) hu)<;>(simp only[go_sem])|fail
 all_goals first|with_reducible refine aQ b _ rfl rfl ?_|skip
 all_goals first|exact gV (by unfold pT;grind)|exact nJ (by unfold pT;grind)
theorem Fh{q:Req}(h:cR q):q.data.length<2^40/\q.lanes.length<2^40:=by
 obtain⟨_,_,c,a,b,_,_,_⟩:=h;have d:=FA (addr:=q.addr) (many:=q.many) (wrap:=q.wrap);have e:=zT c;have hm:q.many<=4:=by omega
 unfold oE at a b;constructor;·split at a<;>omega
 ·split at b<;>omega
theorem nD{m:List Rng}{q:Req}(hm:o9 m)(a:cR q)(hl:m.length<2^21)(h:K (dI (iZ m q)) H nx):ag1 tC [dS (m.map cY),dA (dT q)] H nx K:=by
 refine aC.pure (args0:=[dS (m.map cY),dA (dT q)]) (R:=fun d=>d=dI (iZ m q)) ?_ rfl (aM ⟨aE rfl,aE rfl,trivial⟩) (fun r hr=>hr▸h);clear h;refine aR.mk Tryz.func167 (by kernel_rfl) VX rfl fun Q e=> ?_;unfold rR;have f:eT m (bQ q.addr q.many q.wrap)<m.length:=by have g:=S9 (p:=(inR · ((bQ q.addr q.many q.wrap).getD 0 default))) (l:=m);unfold eT;grind
 have c:=Fh a;have b:(bQ q.addr q.many q.wrap).length<2^40:=by have:=FA (addr:=q.addr) (many:=q.many) (wrap:=q.wrap);omega
 have d1:=decide_eq_true hm;have d2:=decide_eq_true a;repeat' first| (first|apply vI|apply KT (by omega)|apply UR c.1 c.2|apply LK|apply M1 (by omega) b)<;>(simp only[go_sem,d1,d2,eq_true hm,eq_true a])|refine iR (fun h=> ?_) fun h=> ?_|refine⟨by omega,?_⟩|fail
 all_goals first|with_reducible refine aQ e _ rfl rfl ?_|skip
 ·unfold iZ;exact(congrArg dI (if_pos h)).symm
 ·unfold iZ;exact(congrArg dI (if_neg h)).symm
theorem Q4{c:Cfg}{s:CSt}{who:Nat}{st:Nat}(J:bG c)(hs:COk c s)(hw:who<3)(ad:st<4){d1:D}(M:CvD H (fun _=>True) id 0 (dA (dX s)) d1)(h:K (dB (decide (NU c s who st))) H nx):ag1 HZ [dA (bO c),d1,dI who,dI st] H nx K:=by
 refine aC.pure (args0:=[dA (bO c),dA (dX s),dI who,dI st]) (R:=fun rr=>rr=dB (decide (NU c s who st))) ?_ rfl (aM ⟨aE rfl,M,aE rfl,aE rfl,trivial⟩) (fun r hr=>hr▸h);clear h;refine aR.mk Tryz.func210 (by kernel_rfl) gw rfl fun Q w=> ?_;unfold wE;obtain⟨g,N⟩:=eM J;have x:=N who;have y:o9 c.map:=J.1;have ai:=J.1.1;have b:=hs.pl;have a:=hs.port who hw;obtain⟨p,hp⟩: ∃p,s.bJ.getD who default=p:=⟨_,rfl⟩
 have z:aN s who=p:=hp;obtain⟨u,d⟩: ∃u,p.queue.getD 0 default=u:=⟨_,rfl⟩
 have v:NU c s who st↔(0<p.queue.length/\p.out.length<4/\iZ c.map (bF c who u)=st/\ ∀j∈p.out,(bF c who j.n).id=(bF c who u).id->j.left=st):=by unfold NU;rw[z,d]
 rw[z] at a;obtain⟨aj,O⟩:=a.next;obtain⟨ao,l⟩:=a.ql;have m:=a.queue 0;rw[d] at m;have bb:=a.ol;obtain⟨P,A⟩: ∃P,c.cH.getD who default=P:=⟨_,rfl⟩
 rw[A] at x O;have B: ∀n:Int,bF c who n=P.getD n.toNat default:=fun n=>by unfold bF;rw[Int.toNat_natCast,A]
 by_cases h0:p.queue.length=0
 ·have C:((p.queue.length:Int)=0)=True:=eq_true (by omega);repeat' first|apply vI<;>(simp only[go_sem,b,hp,C])|refine⟨by omega,?_⟩|fail
  exact aQ w _ rfl rfl (gV (by rw[v];omega))
 have C:((p.queue.length:Int)=0)=False:=eq_false (by omega);by_cases h4:p.out.length=4
 ·have L:((p.out.length:Int)=4)=True:=eq_true (by omega);repeat' first|apply vI<;>(simp only[go_sem,b,hp,C,L])|refine⟨by omega,?_⟩|fail
  exact aQ w _ rfl rfl (gV (by rw[v];omega))
 have L:((p.out.length:Int)=4)=False:=eq_false (by omega);have m:=m (by omega);obtain⟨q,S⟩: ∃q,P.getD u.toNat default=q:=⟨_,rfl⟩
 have E:bF c who u=q:=by rw[B];exact S
 have F:cR q:=E▸FE J (a.asks hw (by omega) (by omega));rw[E] at v;by_cases t:iZ c.map q=st
 ·have T:(iZ c.map q=(st:Int))=True:=eq_true t;repeat' first| (first|apply vI|apply nD y F (by omega))<;>(simp only[go_sem,b,g,hp,A,d,S,C,L,T])|refine⟨by omega,?_⟩|fail
  refine aK.cW (β:=Nat) (fun k=>en [(11,dI k),(10,.one (.c (.ptr 7 31 0 0))),(9,.one (.c (.ptr 4 8 0 0))),(4,.one (.c (.ptr 3 0 0 0))),(3,dI st),(2,dI who)]) (fun k H1 _=>H1 0=some ⟨3,1,[bO c]⟩/\H1 8=some ⟨4,1,[dK p]⟩/\H1 31=some ⟨7,1,[dT q]⟩/\k<=p.out.length/\ ∀i,i<k->(bF c who (p.out.getD i default).n).id=q.id->(p.out.getD i default).left=st) (fun k=>p.out.length-k) 0 ⟨noF,_,by repeat' first|exact C1|refine xqI rfl rfl ?_|refine xqP (by omega) rfl rfl ?_|fail,aI,rfl,rfl,rfl,by omega,fun i hi=>by omega⟩ ?_;rintro k H1 bk aa ⟨U,V,W,hk,hinv⟩ KL X;by_cases Y:k<p.out.length
  ·obtain⟨o,Z⟩: ∃o,p.out.getD k default=o:=⟨_,rfl⟩
   have G:o∈p.out:=(by rw[<-Z];exact cC Y);obtain⟨_,bp,_⟩:=a.out o G;obtain⟨q2,l⟩: ∃q2,P.getD o.n.toNat default=q2:=⟨_,rfl⟩
   have f:bF c who o.n=q2:=(by rw[B];exact l);repeat' first| (first|apply vI|refine Y6 (fun h=> ?_) fun h=> ?_)<;>(simp only[go_sem,U,V,W,b,g,hp,A,d,Z,l];try simp (disch:=omega) only[Iw])|apply vT (by omega)|refine iR (fun h=> ?_) fun h=> ?_|refine⟨by omega,?_⟩|fail
   all_goals first
    | (refine aQ w _ rfl rfl (gV ?_)
       rw[v]
       rintro⟨_,_,_,I⟩
       have:=I o G (by rw[f];omega)
       omega)
    |exact X _ _ _ (k+1) noF _ (by omega) (by omega) (by repeat' first|exact C1|refine xqI rfl rfl ?_|refine xqP (by omega) rfl rfl ?_|fail) aI ⟨U,V,W,by omega,fun i hi e=>by
     by_cases ab:i<k
     ·exact hinv i ab e
     ·have:i=k:=(by omega);subst this;rw[Z] at e ⊢;rw[f] at e;omega⟩
  ·repeat' first|apply vI<;>(simp only[go_sem,U,V,W])|apply vF (by omega)|fail
   refine aQ w _ rfl rfl (nB ?_);rw[v];refine⟨by omega,by omega,t,fun j hj e=> ?_⟩;obtain⟨i,hi,rfl⟩:=adS.1 hj;have:=hinv i (by omega);rw[ae2,ac8 hi,Option.getD_some] at this;exact this e
 ·have T:(iZ c.map q=(st:Int))=False:=eq_false t;repeat' first| (first|apply vI|apply nD y F (by omega))<;>(simp only[go_sem,b,g,hp,A,d,S,C,L,T])|refine⟨by omega,?_⟩|fail
  exact aQ w _ rfl rfl (gV (by rw[v];omega))
end
end Go.Proofs.YtlncecohbakleaaGreat
