/- Texts laid together by a program: rules, contracts and the walk that leads to the law. -/
import Derived.Test.YtlncecohbakleaaGreatPS8
import Derived.Test.YtlncecohbakleaaGreatPS7
set_option linter.unusedVariables false
set_option linter.unusedSimpArgs false
set_option linter.unusedSectionVars false
set_option maxRecDepth 100000
set_option maxHeartbeats 8000000
namespace Go.AM
theorem l9.cells{X:Nat->Prop}{H:aA}{nx i0 bO6:Nat}{nm:Nat->Nat}{s:CSt}{es:List Ev}(h:l9 X H nx i0 bO6 nm s es){r r':List D1}{k:Nat}(j:k<4)(o:H bO6=some ⟨5,1,[r]⟩)(hr:r'=r.set (1+k) (cI 1)):l9 X (H.set bO6 ⟨5,1,[r']⟩) nx i0 bO6 nm s es:=by
 subst hr;have g:=h.rep.names.av;have i:=h.rep.i0;refine⟨h.rep.frame (m5 _) (aA.aC fun he=>i.2 (.inr he)) (fun k j=>aA.aC fun he=>g k j (.inr he)) fun id f=>⟨h.rep.x id f,fun he=>i.2 (he▸f),fun k j he=>g k j (he▸f)⟩,?_⟩;obtain⟨⟨d,a,b,c,e,n,m⟩,p,bO4⟩:=h.hap;rw[o] at n;obtain rfl:r=[d,cI a,cI b,cI c,cI e]:=by simpa using n
 have l:aqA (fun id=>X id\/id=i0\/ ∃k,k<19/\id=nm k) (H.set bO6 ⟨5,1,[[d,cI a,cI b,cI c,cI e].set (1+k) (cI 1)]⟩) nx bO6 es d:=by
  rcases m with m|⟨ev,cap,q,t,bPC,bPD,bPE⟩
  ·exact .inl m
  ·exact .inr ⟨ev,cap,q,t.frame (aA.aC bPE),bPC,bPD,bPE⟩
 refine⟨?_,p,bO4⟩;obtain rfl|rfl|rfl|rfl:k=0\/k=1\/k=2\/k=3:=by omega
 ·exact⟨d,1,b,c,e,aA.bH,l⟩
 ·exact⟨d,a,1,c,e,aA.bH,l⟩
 ·exact⟨d,a,b,1,e,aA.bH,l⟩
 ·exact⟨d,a,b,c,1,aA.bH,l⟩
theorem l9.atI{X:Nat->Prop}{H:aA}{nx i0 bO6:Nat}{nm:Nat->Nat}{s:CSt}{es:List Ev}{j:Nat}{o:bA}(h:l9 X H nx i0 bO6 nm s es)(b:X j):l9 X (H.set j o) nx i0 bO6 nm s es:=h.next (m5 _) (fun id _ c=>aA.aC fun he=>c (he▸b)) fun id a=>⟨h.rep.x id (.inl a),.inl a⟩
end Go.AM
namespace Go.Proofs.YtlncecohbakleaaGreat
open Go Go.AM
attribute [local irreducible] aM wv aB vd wvH
section
variable{H:aA}{nx:Nat}{K:bNX}
theorem HH{Y:Nat->Prop}{bO6:Nat}{es:List Ev}{kind who n:Int}(u:aiW Y H nx bO6 es)(hl:es.length<1000)
 (h: ∀H' nx',nx<=nx'->aiW Y H' nx' bO6 (es++[⟨kind,who,n⟩])->(∀id,Y id->H' id=H id)->K (.tup []) H' nx'):bNW eC [.one (.c (.ptr 5 bO6 0 0)),boP kind,boP who,boP n] H nx K:=by
 obtain⟨⟨d,a,b,c,e,q,v⟩,⟨y,i⟩,g⟩:=u
 have r: ∀k,(bO6=nx+k)=False:=fun k=>eq_false (by omega)
 have j: ∀k,(nx+k=bO6)=False:=fun k=>eq_false (by omega)
 refine cJ.mk Tryz.func267 (by kernel_rfl) FN rfl fun Q s=> ?_
 unfold mR
 rcases v with⟨rfl,rfl⟩|⟨ev,cap,rfl,⟨m,rows,w,t,z,bO4,bPU,bkU⟩,bkV,bp4,bp5⟩
 ·repeat' first|apply bn1<;>(simp only[go_sem,q,r,j])| (with_reducible first|refine fun(cap:Nat) (f:_<=cap)=> ?_|refine fun(l:_<=cap)=> ?_)|fail
  refine s _ _ _ _ _ (.inl rfl) rfl (h _ _ (by omega) ⟨⟨_,a,b,c,e,by simp only[aA.set,if_true];rfl,.inr ⟨nx+10,cap,rfl,⟨_,_,by simp only[aA.set,j,if_false,if_true];rfl,rfl,by simp,by simp,by simpa using f,by simp⟩,by omega,fun o=>by have:=g _ o;omega,by omega⟩⟩,⟨by omega,i⟩,fun id hi=>by have:=g id hi;omega⟩ fun id hi=> ?_);have boU:=g id hi;have p:id≠bO6:=fun he=>i (he▸hi);simp only[aA.set,p,show ¬id=nx+9 by omega,show ¬id=nx+10 by omega,if_false]
 ·have bPC: ∀k,(ev=nx+k)=False:=fun k=>eq_false (by omega);have bPD: ∀k,(nx+k=ev)=False:=fun k=>eq_false (by omega);have bPE:=eq_false bp5;have bPF:=eq_false (Ne.symm bp5);rw[bq5] at t;subst t;repeat' first|apply bn1<;>(simp only[go_sem,q,r,j,bPC,bPD,bPE,bPF,w])| (with_reducible first|refine fun(cap:Nat) (f:_<=cap)=> ?_|refine fun(l:_<=cap)=> ?_)|refine⟨by omega,?_⟩|fail
  refine s _ _ _ _ _ (.inl rfl) rfl (h _ _ (by omega) ⟨⟨_,a,b,c,e,by simp only[aA.set,if_true];rfl,.inr ⟨nx+10,cap,by simp,⟨_,_,by simp only[aA.set,j,if_false,if_true];rfl,by simp[eEv],by simp,by simp,by simpa using f,by simp⟩,by omega,fun o=>by have:=g _ o;omega,by omega⟩⟩,⟨by omega,i⟩,fun id hi=>by have:=g id hi;omega⟩ fun id hi=> ?_);have boU:=g id hi;have p:id≠bO6:=fun he=>i (he▸hi);have x:id≠ev:=fun he=>bp4 (he▸hi);simp only[aA.set,aA.del,p,x,show ¬id=nx+9 by omega,show ¬id=nx+10 by omega,if_false]
theorem arG{X:Nat->Prop}{i0 bO6:Nat}{nm:Nat->Nat}{s:CSt}{es:List Ev}{kind who n:Int}(hB:l9 X H nx i0 bO6 nm s es)(hl:es.length<1000)
 (h: ∀H' nx',nx<=nx'->l9 X H' nx' i0 bO6 nm s (es++[⟨kind,who,n⟩])->(∀id,X id->H' id=H id)->K (.tup []) H' nx'):bNW eC [.one (.c (.ptr 5 bO6 0 0)),boP kind,boP who,boP n] H nx K:=by
 refine HH hB.hap hl fun H' nx' e hc b=>h H' nx' e ⟨hB.rep.frame e (b _ (.inr (.inl rfl))) (fun k d=>b _ (.inr (.inr ⟨k,d,rfl⟩))) fun id a=>⟨?_,fun he=>hB.rep.i0.2 (he▸a),fun k d he=>hB.rep.names.av k d (he▸a)⟩,hc⟩ fun id a=>b id (.inl a)
 have:=hB.rep.x id a;omega
theorem acI{X:Nat->Prop}{H0:aA}{i0 bO6:Nat}{nm:Nat->Nat}{s:CSt}{es:List Ev}{kind who n:Int}(hB:l9 X H nx i0 bO6 nm s es/\ ∀id,X id->H id=H0 id)(hl:es.length<1000)
 (h: ∀H' nx',nx<=nx'->l9 X H' nx' i0 bO6 nm s (es++[⟨kind,who,n⟩])->(∀id,X id->H' id=H0 id)->K (.tup []) H' nx'):bNW eC [.one (.c (.ptr 5 bO6 0 0)),boP kind,boP who,boP n] H nx K:=
 arG hB.1 hl fun H' nx' b d e=>h H' nx' b d fun id a=>(e id a).trans (hB.2 id a)
theorem p9(l:List fC)(f:FuncId)(caps:List D1)(p:fC->Bool)(hl:l.length<2^40)(hc:caps.all D1.dQ=true)(j: ∀x∈l,∀(H:aA) (nx:Nat) (K:bNX),K (dB (p x)) H nx->bNW f (boR (eCJ x)::caps.map fun d=>.one (.c d)) H nx K):
 bNW bZ [dS (l.map eCJ),.one (.c (.clo f caps))] .nil 0 fun r _ _=>r.plain=true/\r=boP (bK p l):=by
 refine aN.mk Tryz.func319 (by kernel_rfl) pK rfl fun Q g=> ?_
 unfold eU
 repeat' first|apply bn1<;>(simp only[go_sem])|fail
 (refine aM.loop (α:={k:Nat//k<=l.length/\(∀i,i<k->p (l.getD i default)=false)}) (fun u=>en [(8,boP u.1),(7,boP l.length),(1,.one (.c (.clo f caps))),(0,dS (l.map eCJ))]) (fun _=>.nil) _ (fun u=>l.length-u.1) ⟨0,by omega,(by intros;first|trivial|omega)⟩ (bU (m5 _) (by repeat' first|exact bo2|refine xqI rfl rfl ?_| (with_reducible apply bo3)| ((with_reducible apply bo0);exact bpG (by assumption))| ((with_reducible apply bo1);apply bo7)|fail)) ?_);(rintro⟨k,m,hinv⟩ bpQ b)
 by_cases e:k<l.length
 ·have a:l.getD k default∈l:=by simp[List.getD,e]
  repeat' first| (first|apply bn1|apply j _ a _ _ _)<;>(simp only[go_sem];try simp (disch:=omega) only[Iw])|apply bn2 (by omega)| ((refine bnF (fun h=> ?_) (fun h=> ?_))<;>try subst h)|refine⟨by omega,?_⟩|fail
  ·refine aZ g _ rfl rfl (qA (bq3 (CU (by omega) (by assumption) hinv)))
  · (refine b _ _ _ ⟨k+1,by omega,iS hinv (by assumption)⟩ (by omega) (by(try dsimp only);omega) (bU (m5 _) (by repeat' first|exact bo2|refine xqI rfl rfl ?_| (with_reducible apply bo3)| ((with_reducible apply bo0);exact bpG (by assumption))| ((with_reducible apply bo1);apply bo7)|fail)))
 ·repeat' first|apply bn1<;>(simp only[go_sem])|apply bn3 (by omega)|fail
  ·refine aZ g _ rfl rfl (qA (bq3 (tI fun i hi=>hinv i (by omega))))
theorem iY{l:List fC}{f:FuncId}{caps a:List D1}{p:fC->Bool}{d:D}(hl:l.length<2^40)(hc:caps.all D1.dQ=true)(b:CvD H (fun _=>True) id 0 (dS (l.map eCJ)) d)(e:CvD H (fun _=>True) id 0 (.one (.c (.clo f caps))) (.one (.c (.clo f a))))(g: ∀x∈l,∀(H:aA) (nx:Nat) (K:bNX),K (dB (p x)) H nx->bNW f (boR (eCJ x)::caps.map fun d=>.one (.c d)) H nx K)
 (h:K (boP (bK p l)) H nx):bNW bZ [d,.one (.c (.clo f a))] H nx K:=
 (p9 l f caps p hl hc g).pure rfl (aI ⟨b,e,trivial⟩) fun r hr=>hr▸h
theorem n4(l:List fC)(f:FuncId)(caps:List D1)(p:fC->Bool)(hl:l.length<2^40)(hc:caps.all D1.dQ=true)(a: ∀x∈l,∀(H:aA) (nx:Nat) (K:bNX),K (dB (p x)) H nx->bNW f (boR (eCJ x)::caps.map fun d=>.one (.c d)) H nx K):
 bNW cM [dS (l.map eCJ),.one (.c (.clo f caps))] .nil 0 fun r _ _=>r.plain=true/\r=dB (decide (0<=bK p l)):=by
 refine aN.mk Tryz.func321 (by kernel_rfl) nB rfl fun Q b=> ?_
 unfold dY
 repeat' first| (first|apply bn1|refine iY hl hc (aE rfl) (kC hc) a ?_)<;>(simp only[go_sem])|fail
 all_goals exact aZ b _ rfl rfl rfl
theorem nR{l:List fC}{f:FuncId}{caps a:List D1}{p:fC->Bool}{d:D}(hl:l.length<2^40)(hc:caps.all D1.dQ=true)(b:CvD H (fun _=>True) id 0 (dS (l.map eCJ)) d)(e:CvD H (fun _=>True) id 0 (.one (.c (.clo f caps))) (.one (.c (.clo f a))))(g: ∀x∈l,∀(H:aA) (nx:Nat) (K:bNX),K (dB (p x)) H nx->bNW f (boR (eCJ x)::caps.map fun d=>.one (.c d)) H nx K)
 (h:K (dB (decide (0<=bK p l))) H nx):bNW cM [d,.one (.c (.clo f a))] H nx K:=
 (n4 l f caps p hl hc g).pure rfl (aI ⟨b,e,trivial⟩) fun r hr=>hr▸h
theorem QZ{j:fC}{n:Int}(h:K (dB (isC n j)) H nx):bNW rQ [boR (eCJ j),.one (.c (.fQ [cI n]))] H nx K:=by
 refine aB.pure (args0:=[boR (eCJ j),.one (.c (.fQ [cI n]))]) (R:=fun a=>a=dB (isC n j)) ?_ rfl (aI ⟨aE rfl,aE rfl,trivial⟩) (fun r hr=>hr▸h);clear h;refine aN.mk Tryz.func320 (by kernel_rfl) N9 rfl fun Q b=> ?_;unfold vD;repeat' first|apply bn1<;>(simp only[go_sem])|fail
 all_goals first|with_reducible refine aZ b _ rfl rfl ?_|skip
 all_goals first|exact pD (by omega)|exact q9 (by omega)|exact j7 (by omega)|rfl
theorem KT{p:fR}{n:Int}(hl:p.out.length<2^40){b:D}(a:CvD H (fun _=>True) id 0 (boR (cD p)) b)(h:K (boP (bK (isC n) p.out)) H nx):bNW kV [b,boP n] H nx K:=by
 refine aB.pure (args0:=[boR (cD p),boP n]) (R:=fun c=>c=boP (bK (isC n) p.out)) ?_ rfl (aI ⟨a,aE rfl,trivial⟩) (fun r hr=>hr▸h);clear h;refine aN.mk Tryz.func265 (by kernel_rfl) TP rfl fun Q d=> ?_;unfold AR;repeat' first| (first|apply bn1|refine iY (l:=p.out) (caps:=[.fQ [cI n]]) (p:=isC n) hl rfl (aE rfl) (PR ⟨zE rfl trivial rfl rfl rfl,trivial⟩) (fun x _ H nx K h=>QZ h) ?_)<;>(simp only[go_sem])|fail
 all_goals first|with_reducible refine aZ d _ rfl rfl ?_|skip
 all_goals first|rfl|exact qA (by omega)
theorem DE{m:List Rng}{q:Req}(hl:m.length<2^40)(h:K (boP (gZ m q)) H nx):bNW rN [dS (m.map eN),boR (eB q)] H nx K:=by
 refine aB.pure (args0:=[dS (m.map eN),boR (eB q)]) (R:=fun a=>a=boP (gZ m q)) ?_ rfl (aI ⟨aE rfl,aE rfl,trivial⟩) (fun r hr=>hr▸h);clear h;refine aN.mk Tryz.func173 (by kernel_rfl) US rfl fun Q b=> ?_;unfold z2;have c:bV m (bE q.addr q.many q.wrap)<m.length:=by have d:=PQ (p:=(inR · ((bE q.addr q.many q.wrap).getD 0 default))) (l:=m);unfold bV;grind
 repeat' first| (first|apply bn1|apply KD hl)<;>(simp only[go_sem])|refine bnE (fun h=> ?_) fun h=> ?_|refine⟨by omega,?_⟩|fail
 all_goals first|with_reducible refine aZ b _ rfl rfl ?_|skip
 all_goals first|exact qA (by unfold gZ;rw[if_pos (by omega)])|exact qA (by unfold gZ;rw[if_neg (by omega)])
theorem EP{c:Cfg}{who:Nat}{st:Nat}{i:Int}{j:fC}(hp:c.cP.length=3)(a:oA c who j.n)(h:K (dB (decide ((bT c who j.n).id=i/\ ¬j.left=st))) H nx):bNW iW [boR (eCJ j),.one (.c (.fQ (cU c))),.one (.c (.fQ [cI who])),.one (.c (.fQ [cI i])),.one (.c (.fQ [cI st]))] H nx K:=by
 refine aB.pure (args0:=[boR (eCJ j),.one (.c (.fQ (cU c))),.one (.c (.fQ [cI who])),.one (.c (.fQ [cI i])),.one (.c (.fQ [cI st]))]) (R:=fun b=>b=dB (decide ((bT c who j.n).id=i/\ ¬j.left=st))) ?_ rfl (aI ⟨aE rfl,aE rfl,aE rfl,aE rfl,aE rfl,trivial⟩) (fun r hr=>hr▸h);clear h;refine aN.mk Tryz.func322 (by kernel_rfl) CK rfl fun Q d=> ?_;unfold kX;repeat' first| (first|apply bn1|refine bpL (fun h=> ?_) fun h=> ?_|apply iJ hp a)<;>(simp only[go_sem])|fail
 all_goals first|with_reducible refine aZ d _ rfl rfl ?_|skip
 all_goals first|exact pD (by omega)|exact q9 (by omega)|exact j7 (by omega)|rfl
theorem vW{c:Cfg}{s:CSt}{who:Nat}{st:Nat}(k:aQ c)(hs:COk c s)(hw:who<3)(t:st<4){m:D}(f:CvD H (fun _=>True) id 0 (.one (.c (.fQ (eI s)))) m)(h:K (dB (decide (HV c s who st))) H nx):bNW j8 [m,boR (cU c),boP who,boP st] H nx K:=by
 refine aB.pure (args0:=[.one (.c (.fQ (eI s))),boR (cU c),boP who,boP st]) (R:=fun u=>u=dB (decide (HV c s who st))) ?_ rfl (aI ⟨f,aE rfl,aE rfl,aE rfl,trivial⟩) (fun r hr=>hr▸h);clear h;refine aN.mk Tryz.func268 (by kernel_rfl) FP rfl fun Q v=> ?_;unfold mN;obtain⟨d,g⟩:=hC k;have o:=g who;have w:=k.1.1;have y:=hs.pl;have a:=hs.port who hw;obtain⟨p,b⟩: ∃p,p=s.bM.getD who default:=⟨_,rfl⟩
 have bPA:HV c s who st=(0<p.queue.length/\p.out.length<4/\gZ c.map (bT c who (p.queue.getD 0 default))=st/\ ∀j∈p.out,(bT c who j.n).id=(bT c who (p.queue.getD 0 default)).id->j.left=st):=by subst b;rfl
 rw[show aF s who=p from b.symm] at a;obtain⟨z,A⟩:=a.next;obtain⟨B,C⟩:=a.ql;have E:=a.queue 0;have F:=a.ol;repeat' first| (first|apply bn1|refine bpL (fun h=> ?_) fun h=> ?_|apply DE (by omega)|apply iJ d (a.asks hw (by omega) (by omega))| (refine nR (l:=p.out) (caps:=[.fQ (cU c),.fQ [cI who],.fQ [cI (bT c who (p.queue.getD 0 default)).id],.fQ [cI st]]) (p:=fun j=>decide ((bT c who j.n).id=(bT c who (p.queue.getD 0 default)).id/\ ¬j.left=st)) (by omega) rfl (aE rfl) (PR ⟨zE rfl trivial rfl rfl rfl,zE rfl trivial rfl rfl rfl,zE rfl trivial rfl rfl rfl,zE rfl trivial rfl rfl rfl,trivial⟩) (fun x q H nx K h=>EP d (a.asks hw (a.out x q).2.1.1 (by have:=(a.out x q).2.1.2;omega)) h) ?_))<;>(simp only[go_sem,b.symm])|refine bnE (fun h=> ?_) fun h=> ?_|refine⟨by omega,?_⟩|fail
 all_goals first|with_reducible refine aZ v _ rfl rfl ?_|skip
 all_goals have hr:gZ c.map (List.getD (c.cP.getD who default) (p.queue.getD 0 default).toNat default)=gZ c.map (bT c who (p.queue.getD 0 default)):=rfl
 ·exact j7 (by rw[bPA];omega)
 ·exact j7 (by rw[bPA];omega)
 ·exact j7 (by rw[bPA];omega)
 ·apply pD;rw[bPA,cH];refine⟨fun h=>⟨by omega,by omega,by omega,fun j i hi=>Classical.byContradiction fun G=>h ⟨j,i,decide_eq_true ⟨hi,G⟩⟩⟩,fun h ⟨j,i,e⟩=> ?_⟩;have e:=of_decide_eq_true e;exact e.2 (h.2.2.2 j i e.1)
end
theorem XO{τ:Nat->Nat}{n m:Nat}{l:List fC}:bA.rn τ ⟨n,m,l.map eCJ⟩=⟨n,m,l.map eCJ⟩:=by refine rF fun r hr x a=> ?_;obtain⟨y,_,rfl⟩:=CF.1 hr;exact w2.1 (yK y).2 x a
section
variable{H:aA}{nx:Nat}{K:bNX}
theorem ag9{l:List fC}{a:Nat}{z:List D1}(b:a<l.length):wr ((l.take a).map eCJ++(l.drop (a+1)).map eCJ) (l.length-1) (List.replicate (l.length-(l.length-1)) z)=(B3 l a).map eCJ++[z]:=by
 have c:(l.take a).map eCJ++(l.drop (a+1)).map eCJ=(B3 l a).map eCJ:=by simp[B3]
 have d:((B3 l a).map eCJ).length=l.length-1:=by have:=RP b;simp;omega
 have e:l.length-(l.length-1)=1:=by omega
 rw[c,e,List.replicate_one];unfold wr;have k9:List.drop (l.length-1+[z].length) ((B3 l a).map eCJ)=[]:=brZ (by simp at d ⊢;omega);rw[k9,boL (by omega),bq6]
theorem sP(l:List fC)(a cap m:Nat)(hl:l.length<2^21)(c:a<l.length)(hc:l.length<=cap)(f:cap<=m):
 bNW eA [boQ 3 0 l.length cap,boP a,boP (a+1)] (hp [(0,⟨3,m,l.map eCJ⟩)]) 1
 fun r H' g=>∃b d,(B3 l a).length<=b/\b<=d/\g=2/\H'=hp [(1,⟨3,d,(B3 l a).map eCJ⟩)]/\r=boQ 3 1 (B3 l a).length b:=by
 refine aN.mk Tryz.func266 (by kernel_rfl) sA rfl fun Q h=> ?_
 unfold fW
 have i:((a:Int)+1).toNat=a+1:=by omega
 have j:a+(l.length-(a+1))=l.length-1:=by omega
 have bO0:(a+1+(l.length-(a+1))<=l.length)=True:=eq_true (by omega)
 have bO1:List.take (l.length-(a+1)) (List.drop (a+1) l)=List.drop (a+1) l:=boL (by simp)
 have bm9:(List.drop (a+1) l).length=l.length-(a+1):=CI
 have k:=RP c
 repeat' first|apply bn1<;>(simp only[go_sem,i,j,bO0,bO1,bm9])|apply bn3 (by omega)| (with_reducible first|refine fun(cap:Nat) (e:_<=cap)=> ?_|refine fun(n:_<=cap)=> ?_)|refine⟨by omega,?_⟩| (refine⟨by(rw[CG];omega),?_⟩)|fail
 (refine h _ _ _ _ _ 2 (boQ 3 1 (B3 l a).length cap) (hp [(1,⟨3,cap,(B3 l a).map eCJ⟩)]) _ _ (.inr rfl) rfl (fU [20,0] (by omega) (by repeat' first|exact bo2| ((with_reducible apply bo0);exact bpB (by omega) rfl rfl (by first|rfl|omega) rfl)| ((with_reducible apply bo1);apply bo7)|fail) ⟨⟨by simp,by simp[sgL],_,rfl,anJ (junk:=[[cI 0,cI 0,cI 0]]) (fun r hr=>(aG yK _ r hr).2) (ag9 c) rfl (by decide)⟩,trivial⟩ (by simp[sgL])) ?_)
 exact⟨cap,cap,by omega,m5 _,rfl,rfl,rfl⟩
theorem tK{l:List fC}{z:Int}{cap m i0:Nat}(hl:l.length<2^21)(p: ¬z<0)(f:z.toNat<l.length)(hc:l.length<=cap)(d:cap<=m)(q:i0<nx)(g:H i0=some ⟨3,m,l.map eCJ⟩)
 (h: ∀b c,(B3 l z.toNat).length<=b->b<=c->K (boQ 3 nx (B3 l z.toNat).length b) ((H.del i0).set nx ⟨3,c,(B3 l z.toNat).map eCJ⟩) (nx+1)):
 bNW eA [boQ 3 i0 l.length cap,boP z,boP (z+1)] H nx K:=by
 obtain⟨a,rfl⟩: ∃a:Nat,z=a:=⟨z.toNat,by omega⟩
 refine(sP l a cap m hl f hc d).AF [i0] rfl ⟨qS (by simp) rfl rfl rfl rfl,aE rfl,aE rfl,trivial⟩
  ⟨⟨by simp,id,_,g,bP (aG yK _) rfl rfl⟩,trivial⟩ (by simp) (by simp;omega) (by simp) fun r H' s _ ⟨b,c,bqB,i,j,k,n⟩=> ?_
 simp only[Int.toNat_natCast] at h
 have h:=h b c bqB i
 subst j;subst k;subst n
 generalize B3 l a=e at*
 have o:back (tau 1 nx (nth [i0])) (hp [(1,⟨3,c,e.map eCJ⟩)]) 2 H=(H.del i0).set nx ⟨3,c,e.map eCJ⟩:=by simp[back,hp,aA.set,aA.nil,tau,nth,uB,XO,aA.eL,aA.yI]
 rw[<-o] at h
 exact h
end
theorem fZ{H:aA}{e:Env}{t n id m:Nat}{cs:List D1}(he:e t= .one (.c (.ptr n id 0 0)))(a:H id=some ⟨n,m,[cs]⟩)(hl:cs.length=n):yT H e [.cell t n true]=some (boR cs):=by subst hl;simp[yT,VP,he,tT,a,mkV]
theorem PU{nx i:Nat}{H:aA}:CvX (fun j=>j=i) nx H (H.del i):=fun j o' a=>by
 simp only[aA.del] at a;split at a;·cases a
 ·exact⟨by assumption,o',a,.inl rfl⟩
section
variable{H:aA}{nx:Nat}{K:bNX}
theorem HZ{m:List Rng}{w e:List Int}{who:Int}{q:Req}{c0 bPB m0 m1 i0 bO6 bO7:Nat}{x y z:D1}(bf:m.length<2^21)(hf:WK w e)(bg:w.length<=c0)(bh:e.length<=bPB)(hw:0<=who/\who<=2)(hq:dH q)
 (ah:i0<nx/\bO6<nx/\bO7<nx) (hd:[i0,bO6,bO7].Nodup) (L:H i0=some ⟨5,1,[[.osl 1 bO6 0 w.length c0,.osl 1 bO7 0 e.length bPB,x,y,z]]⟩) (C:H bO6=some ⟨1,m0,w.map aJ⟩) (E:H bO7=some ⟨1,m1,e.map aJ⟩)
 (v: ∀H' nx',nx<=nx'->H' bO6=some ⟨1,m0,(doM m w e who q).1.1.map aJ⟩->H' bO7=some ⟨1,m1,(doM m w e who q).1.2.map aJ⟩->(∀id,id<nx->id≠bO6->id≠bO7->H' id=H id)->K (boR (tG (doM m w e who q).2)) H' nx'):
 bNW pL [.one (.c (.ptr 5 i0 0 0)),dS (m.map eN),boP who,boR (eB q)] H nx K:=by
 obtain⟨bj,ai,bk,bm⟩:=hf
 obtain⟨bn,bo,W,X,Y,Z,aj,bp⟩:=hq
 have bq:=DF W
 have br:=ai5 W
 have bs:=MK (addr:=q.addr) (many:=q.many) (wrap:=q.wrap)
 have aa:All (bE q.addr q.many q.wrap) 0 63:=V1
 have ak:=PQ (p:=(inR · ((bE q.addr q.many q.wrap).getD 0 default))) (l:=m)
 have bt:bV m (bE q.addr q.many q.wrap)<m.length:=by unfold bV;grind
 have al:wrM q=true->q.data.length=(bE q.addr q.many q.wrap).length/\q.g6.length=(bE q.addr q.many q.wrap).length:=by intro h;unfold wrM at h;unfold n5 at X Y;simp at h;simp only[h,if_true] at X Y;omega
 have M:=W4 (q:=q)
 apply aB.tW
 refine cJ.mk Tryz.func224 (by kernel_rfl) HL rfl fun Q U=> ?_
 unfold nS
 generalize b:bE q.addr q.many q.wrap=all at*
 have A: ∀{H:aA} {nx:Nat} {K:bNX},K (boP (bV m all)) H nx->bNW mZ [dS (m.map eN),boR (eB q)] H nx K:=fun h=>KD (by omega) (by rw[b];exact h)
 have ab: ∀{H:aA} {nx:Nat} {K:bNX},K (dS (all.map aJ)) H nx->bNW fP [boR (eB q)] H nx K:=fun h=>vY (by rw[b];exact h)
 have t:bQ nx [i0,bO6,bO7]:=AM.apart hd (by simp;omega)
 simp only[bQ,eZ] at t
 simp only[bq8,t3,bq7,or_false,not_or] at hd
 by_cases ad:bV m all<0
 ·rw[alZ (by rw[b];exact ad)] at v;repeat' first| (first|apply bn1|apply A)<;>(simp only[go_sem,t1,bqT,L,C,E,t];try simp (disch:=omega) only[Iw])|apply bn2 (by omega)|refine⟨by omega,?_⟩|fail
  refine U _ _ _ _ _ (.inr rfl) (fZ rfl (by simp only[aA.set,if_true];rfl) rfl) ⟨boR (tG ⟨q.id,4,[]⟩),_,noF,by repeat' first|exact bo2| (with_reducible first|exact bo4|apply bo5)| ((with_reducible apply bo0);first|exact bo9 rfl|exact bpE)| ((with_reducible apply bo1);apply bo6)|apply bo5|fail,aK,v _ _ (by omega) ?_ ?_ fun id boU i V=> ?_⟩;·simp only[aA.set,t,if_false];exact C
  ·simp only[aA.set,t,if_false];exact E
  ·simp only[aA.set,show ¬id=nx by omega,show ¬id=nx+1 by omega,show ¬id=nx+9 by omega,if_false]
 have u: ¬bV m (bE q.addr q.many q.wrap)<0:=by rw[b];exact ad
 by_cases g:wrM q=true
 ·obtain⟨bu,bw⟩:=al g;by_cases h3:(m.getD (bV m all).toNat default).only=true
  ·rw[anB u g (by rw[b];exact h3)] at v;repeat' first| (first|apply bn1|apply A|apply gH)<;>(simp only[go_sem,t1,bqT,L,C,E,t,g,h3];try simp (disch:=omega) only[Iw])|apply bn3 (by omega)|refine⟨by omega,?_⟩|fail
   refine U _ _ _ _ _ (.inr rfl) (fZ rfl (by simp only[aA.set,if_true];rfl) rfl) ⟨boR (tG ⟨q.id,3,[]⟩),_,noF,by repeat' first|exact bo2| (with_reducible first|exact bo4|apply bo5)| ((with_reducible apply bo0);first|exact bo9 rfl|exact bpE)| ((with_reducible apply bo1);apply bo6)|apply bo5|fail,aK,v _ _ (by omega) ?_ ?_ fun id boU i V=> ?_⟩;·simp only[aA.set,t,if_false];exact C
   ·simp only[aA.set,t,if_false];exact E
   ·simp only[aA.set,show ¬id=nx by omega,show ¬id=nx+1 by omega,show ¬id=nx+9 by omega,if_false]
  have N: ¬(m.getD (bV m (bE q.addr q.many q.wrap)).toNat default).only=true:=by rw[b];exact h3
  have ae:(m.getD (bV m all).toNat default).only=false:=by simpa using h3
  by_cases k9:q.kind=4/\ ¬e.getD (who*2+q.id).toNat default=q.addr
  ·rw[aqU u N k9.1 k9.2] at v;have bx:=k9.1;have bz:=k9.2;repeat' first| (first|apply bn1|apply bpJ (by omega)|apply A|apply gH)<;>(simp only[go_sem,t1,bqT,L,C,E,t,g,ae];try simp (disch:=omega) only[Iw])|apply bn2 (by omega)|apply bn3 (by omega)|refine⟨by omega,?_⟩|fail
   refine U _ _ _ _ _ (.inr rfl) (fZ rfl (by simp only[aA.set,if_true];rfl) rfl) ⟨boR (tG ⟨q.id,1,[]⟩),_,noF,by repeat' first|exact bo2| (with_reducible first|exact bo4|apply bo5)| ((with_reducible apply bo0);first|exact bo9 rfl|exact bpE)| ((with_reducible apply bo1);apply bo6)|apply bo5|fail,aK,v _ _ (by omega) ?_ ?_ fun id boU i V=> ?_⟩;·simp only[aA.set,t,if_false];exact C
   ·simp only[aA.set,t,if_false];exact E
   ·simp only[aA.set,show ¬id=nx by omega,show ¬id=nx+1 by omega,show ¬id=nx+9 by omega,if_false]
  obtain⟨code,n⟩: ∃code:Int,code=if q.kind=4 then 2 else 1:=⟨_,rfl⟩
  have bqA:doM m w e who q=((FV w all q.data q.g6 all.length,iU e all),⟨q.id,code,[]⟩):=by
   rcases M.1 g with I|I;·rw[ao1 u N I,b,n,if_neg (by omega)]
   ·rw[aoE u N I (Classical.byContradiction fun hc=>k9 ⟨I,hc⟩),b,n,if_pos I]
  rw[bqA] at v;have an:=M.1 g;repeat' first| (first|apply bn1|refine bpL (fun h=> ?_) fun h=> ?_|apply A|apply ab|apply gH)<;>(simp only[go_sem,t1,bqT,L,C,E,t,g,ae];try simp (disch:=omega) only[Iw])|apply bn2 (by omega)|apply bn3 (by omega)|refine⟨by omega,?_⟩|fail
  all_goals
   have ao:(code=2/\q.kind=4)\/(code=1/\ ¬q.kind=4):=by rw[n];split<;>simp[*]
   refine aM.gP (β:=Nat) (fun k=>en [(109,boP k),(108,boP all.length),(107,dS (all.map aJ)),(12,dS (all.map aJ)),(10,.one (.c (.ptr 3 (nx+9) 0 0))),(8,.one (.c (.ptr 3 (nx+1) 0 0))),(7,.one (.c (.ptr 7 nx 0 0))),(0,.one (.c (.ptr 5 i0 0 0)))])
    (fun k H1 _=>k<=all.length/\H1 bO6=some ⟨1,m0,(FV w all q.data q.g6 k).map aJ⟩/\H1 nx=some ⟨7,1,[eB q]⟩/\H1 (nx+9)=some ⟨3,1,[[cI q.id,cI code,.osl 0 0 0 0 0]]⟩/\H1 (nx+1)=some ⟨3,1,[[cI 0,cI 0,.osl 0 0 0 0 0]]⟩/\ ∀id,id<nx->id≠bO6->H1 id=H id) (fun k=>all.length-k) 0 ⟨noF,_,by repeat' first|exact bo2|refine xqI rfl rfl ?_|refine xqP (by omega) rfl rfl ?_|fail,aK,?_⟩ ?_
   ·refine⟨by omega,by simp only[aA.set,t,if_false];exact C,?_,?_,?_,fun id boU i=> ?_⟩;·simp only[aA.set,bqT,Nat.reduceEqDiff,brN,if_false,if_true,reduceIte]
    ·simp only[aA.set,if_true];rcases ao with⟨rfl,_⟩|⟨rfl,_⟩<;>first|rfl|contradiction
    ·simp only[aA.set,bqU,Nat.reduceEqDiff,if_false,if_true]
    ·simp only[aA.set,show ¬id=nx by omega,show ¬id=nx+1 by omega,show ¬id=nx+9 by omega,if_false]
   rintro k H1 G aq ⟨I,J,O,bp5,bp4,d⟩ bpQ P
   have bqC:H1 i0=some ⟨5,1,[[.osl 1 bO6 0 w.length c0,.osl 1 bO7 0 e.length bPB,x,y,z]]⟩:=by rw[d i0 (by omega) (by omega)];exact L
   have R:H1 bO7=some ⟨1,m1,e.map aJ⟩:=by rw[d bO7 (by omega) (by omega)];exact E
   have ca:=AX (w:=w) (all:=all) (data:=q.data) (g6:=q.g6) k
   have ar:=afR (all:=all) (g6:=q.g6) ai Z k
   have o:bQ G [i0,bO6,bO7,nx,nx+1,nx+9]:=AM.apart (by simp;omega) (by simp;omega)
   simp only[bQ,eZ] at o
   by_cases s:k<all.length
   ·have hb:=HB aa s;have au:(all.getD k default).toNat<(FV w all q.data q.g6 k).length:=(by omega);repeat' first| (first|apply bn1|apply ae5 (HB ar au) (HB Z (by omega)) (HB aj (by omega)))<;>(simp only[go_sem,t1,bqT,bqC,J,R,O,bp5,bp4,o];try simp (disch:=omega) only[Iw])|apply bn2 (by omega)|refine⟨by omega,?_⟩|fail
    exact P _ _ _ (k+1) noF _ (by omega) (by omega) (by repeat' first|exact bo2|refine xqI rfl rfl ?_|refine xqP (by omega) rfl rfl ?_|fail) aK ⟨by omega,aA.bH,by rw[aA.aC (by omega)];exact O,by rw[aA.aC (by omega)];exact bp5,by rw[aA.aC (by omega)];exact bp4,fun id boU i=>by rw[aA.aC i];exact d id boU i⟩
   ·repeat' first|apply bn1<;>(simp only[go_sem,t1,bqT,bqC,J,R,O,bp5,bp4,o])|apply bn3 (by omega)|fail
    have B:k=all.length:=(by omega);subst B
    refine aM.gP (β:=Nat) (fun k=>en [(146,boP k),(145,boP 6),(144,boQ 1 bO7 6 bPB),(12,dS (all.map aJ)),(10,.one (.c (.ptr 3 (nx+9) 0 0))),(8,.one (.c (.ptr 3 (nx+1) 0 0))),(0,.one (.c (.ptr 5 i0 0 0)))])
     (fun k H2 _=>k<=6/\H2 bO7=some ⟨1,m1,(xI e all k).map aJ⟩/\ ∀id,id<G->id≠bO7->H2 id=H1 id) (fun k=>6-k) 0 ⟨noF,_,by repeat' first|exact bo2|refine xqI rfl rfl ?_|refine xqP (by omega) rfl rfl ?_|refine xqO (by omega) rfl rfl (by first|rfl|omega) ?_|refine xqV rfl (by omega) ?_|fail,aK,by omega,by rw[ac9];exact R,fun _ _ _=>rfl⟩ ?_
    rintro k H2 aw ax ⟨I,f2,r⟩ bqG af;have bfZ:H2 i0=some ⟨5,1,[[.osl 1 bO6 0 w.length c0,.osl 1 bO7 0 e.length bPB,x,y,z]]⟩:=(by rw[r i0 (by omega) (by omega)];exact bqC);have bkR:H2 (nx+9)=some ⟨3,1,[[cI q.id,cI code,.osl 0 0 0 0 0]]⟩:=(by rw[r _ (by omega) (by omega)];exact bp5);have bpX:H2 (nx+1)=some ⟨3,1,[[cI 0,cI 0,.osl 0 0 0 0 0]]⟩:=(by rw[r _ (by omega) (by omega)];exact bp4);have cb:=aiJ (all:=all) (show k<=e.length by omega);have S:bQ aw [i0,bO6,bO7,nx,nx+1,nx+9]:=AM.apart (by simp;omega) (by simp;omega);simp only[bQ,eZ] at S;by_cases ah:k<6
    ·have ay:=akN (all:=all) (show k<e.length by omega);have ag:=fun x=>agQ (all:=all) (x:=x) (show k<e.length by omega);have az:=acP (all:=all) (show k<e.length by omega);repeat' first| (first|apply bn1|refine x8 (by omega) (aE rfl) ?_)<;>(simp only[go_sem,t1,bqT,bfZ,f2,bkR,bpX,S,ay];try simp (disch:=omega) only[Iw])|apply bn2 (by omega)|refine bnE (fun h=> ?_) fun h=> ?_|refine⟨by omega,?_⟩|fail
     ·exact af _ _ _ (k+1) noF _ (by omega) (by omega) (by repeat' first|exact bo2|refine xqI rfl rfl ?_|refine xqP (by omega) rfl rfl ?_|refine xqO (by omega) rfl rfl (by rfl) ?_|fail) aK ⟨by omega,by rw[<-ag (-1) (by rw[if_pos (by assumption)])];exact aA.bH,fun id boU i=>by rw[aA.aC i];exact r id boU i⟩
     ·exact af _ _ _ (k+1) noF _ (by omega) (by omega) (by repeat' first|exact bo2|refine xqI rfl rfl ?_|refine xqP (by omega) rfl rfl ?_|refine xqO (by omega) rfl rfl (by rfl) ?_|fail) aK ⟨by omega,by rw[<-ag _ (by rw[if_neg (by assumption)]),az];exact f2,fun id boU i=>r id boU i⟩
    ·repeat' first|apply bn1<;>(simp only[go_sem,t1,bqT,bfZ,f2,bkR,bpX,S])|apply bn3 (by omega)|fail
     have B:k=e.length:=(by omega);subst B;rw[ahC] at f2;refine U _ _ _ _ _ (.inr rfl) (fZ rfl (by simp only[aA.set,if_true];rfl) rfl) ⟨boR (tG ⟨q.id,code,[]⟩),_,noF,by repeat' first|exact bo2| (with_reducible first|exact bo4|apply bo5)| ((with_reducible apply bo0);first|exact bo9 rfl|exact bpE)| ((with_reducible apply bo1);apply bo6)|apply bo5|fail,aK,v _ _ (by omega) ?_ ?_ fun id boU i V=> ?_⟩;·rw[aA.aC (by omega),r _ (by omega) (by omega)];exact J
     ·rw[aA.aC (by omega)];exact f2
     ·rw[aA.aC (by omega),r _ (by omega) V];exact d id boU i
 have ba:wrM q=false:=by simpa using g
 have bb:q.kind=1\/q.kind=3:=by have h3: ¬(q.kind=2\/q.kind=4):=fun h=>g (M.2 h);omega
 repeat' first| (first|apply bn1|apply bpK (by omega)|apply A|apply ab|apply gH)<;>(simp only[go_sem,t1,bqT,L,C,E,t,ba];try simp (disch:=omega) only[Iw])|apply bn3 (by omega)|refine⟨by omega,?_⟩|fail
 refine aM.gP (β:=Nat) (fun k=>en [(76,boP k),(75,boP all.length),(74,dS (all.map aJ)),(11,.one (.c (.ptr 1 bO7 (who*2+q.id).toNat 0))),(10,.one (.c (.ptr 3 (nx+9) 0 0))),(8,.one (.c (.ptr 3 (nx+1) 0 0))),(7,.one (.c (.ptr 7 nx 0 0))),(0,.one (.c (.ptr 5 i0 0 0)))])
  (fun k H1 _=>k<=all.length/\H1 nx=some ⟨7,1,[eB q]⟩/\H1 (nx+9)=some ⟨3,1,[[cI q.id,cI 1,.osl 1 (nx+55) 0 all.length all.length]]⟩/\H1 (nx+1)=some ⟨3,1,[[cI 0,cI 0,.osl 0 0 0 0 0]]⟩/\H1 (nx+55)=some ⟨1,all.length,((List.range k).map (fun k=>w.getD (all.getD k default).toNat default)++List.replicate (all.length-k) (0:Int)).map aJ⟩/\ ∀id,id<nx->H1 id=H id)
  (fun k=>all.length-k) 0 ⟨noF,_,by repeat' first|exact bo2|refine xqI rfl rfl ?_|refine xqP (by omega) rfl rfl ?_|fail,aK,?_⟩ ?_
 ·refine⟨by omega,?_,?_,?_,?_,fun id boU=> ?_⟩;·simp only[aA.set,bqT,Nat.reduceEqDiff,brN,if_false,if_true,reduceIte]
  ·simp only[aA.set,if_true]
  ·simp only[aA.set,bqU,Nat.reduceEqDiff,if_false,if_true]
  ·simp only[aA.set,bqU,Nat.reduceEqDiff,if_false,if_true];simp[aJ]
  ·simp only[aA.set,show ¬id=nx by omega,show ¬id=nx+1 by omega,show ¬id=nx+9 by omega,show ¬id=nx+55 by omega,if_false]
 rintro k H1 G aq ⟨I,O,bp5,bp4,gd,d⟩ bpQ P
 have bqC:H1 i0=some ⟨5,1,[[.osl 1 bO6 0 w.length c0,.osl 1 bO7 0 e.length bPB,x,y,z]]⟩:=by rw[d i0 (by omega)];exact L
 have J:H1 bO6=some ⟨1,m0,w.map aJ⟩:=by rw[d bO6 (by omega)];exact C
 have R:H1 bO7=some ⟨1,m1,e.map aJ⟩:=by rw[d bO7 (by omega)];exact E
 have T:((List.range k).map (fun k=>w.getD (all.getD k default).toNat default)++List.replicate (all.length-k) (0:Int)).length=all.length:=by simp;omega
 have o:bQ G [i0,bO6,bO7,nx,nx+1,nx+9,nx+55]:=AM.apart (by simp;omega) (by simp;omega)
 simp only[bQ,eZ] at o
 by_cases s:k<all.length
 ·have hb:=HB aa s;have bc:=fun x=>XT (f:=fun k=>w.getD (all.getD k default).toNat default) (x:=x) s;repeat' first|apply bn1<;>(simp only[go_sem,t1,bqT,bqC,J,R,O,bp5,bp4,gd,o,T];try simp (disch:=omega) only[Iw])|apply bn2 (by omega)|refine⟨by omega,?_⟩|fail
  exact P _ _ _ (k+1) noF _ (by omega) (by omega) (by repeat' first|exact bo2|refine xqI rfl rfl ?_|refine xqP (by omega) rfl rfl ?_|fail) aK ⟨by omega,by rw[aA.aC (by omega)];exact O,by rw[aA.aC (by omega)];exact bp5,by rw[aA.aC (by omega)];exact bp4,by rw[<-bc _ rfl];exact aA.bH,fun id boU=>by rw[aA.aC (by omega)];exact d id boU⟩
 ·have B:k=all.length:=by omega
  subst B;have bd:(List.range all.length).map (fun k=>w.getD (all.getD k default).toNat default)++List.replicate (all.length-all.length) (0:Int)=all.map fun a=>w.getD a.toNat default:=by rw[aqI];simp
  rw[bd] at gd;repeat' first|apply bn1<;>(simp only[go_sem,t1,bqT,bqC,J,R,O,bp5,bp4,gd,o])|apply bn3 (by omega)|refine bnE (fun h=> ?_) fun h=> ?_|refine⟨by omega,?_⟩|fail
  ·rw[amK u (by assumption),b] at v;refine U _ _ _ _ _ (.inr rfl) (fZ rfl (by simp only[aA.set,if_true];rfl) rfl) ⟨boR (tG ⟨q.id,2,all.map fun a=>w.getD a.toNat default⟩),_,fun j=>j=nx+55,lY (aH (bB rfl) (aH (bB rfl) (aH (bW (l:=all.map fun a=>w.getD a.toNat default) (F:=fun j=>j=nx+55) (m:=all.length) (len:=all.length) (cap:=all.length) bF ?_ (by simp) (by simp) rfl) eP))),PU,v _ _ (by omega) ?_ ?_ fun id boU i V=> ?_⟩;·rw[aA.aC (by omega),aA.aC (by omega),aA.aC (by omega)];exact gd
   ·rw[aA.jG (by omega),aA.aC (by omega),aA.aC (by omega),aA.aC (by omega)];exact J
   ·rw[aA.jG (by omega),aA.aC (by omega),aA.bH]
   ·rw[aA.jG (by omega),aA.aC (by omega),aA.aC (by omega),aA.aC (by omega)];exact d id boU
  ·rw[akI u (by omega),b] at v;refine U _ _ _ _ _ (.inr rfl) (fZ rfl (by simp only[aA.set,if_true];rfl) rfl) ⟨boR (tG ⟨q.id,1,all.map fun a=>w.getD a.toNat default⟩),_,fun j=>j=nx+55,lY (aH (bB rfl) (aH (bB rfl) (aH (bW (l:=all.map fun a=>w.getD a.toNat default) (F:=fun j=>j=nx+55) (m:=all.length) (len:=all.length) (cap:=all.length) bF ?_ (by simp) (by simp) rfl) eP))),PU,v _ _ (by omega) ?_ ?_ fun id boU i V=> ?_⟩;·rw[aA.aC (by omega)];exact gd
   ·rw[aA.jG (by omega),aA.aC (by omega)];exact J
   ·rw[aA.jG (by omega),aA.aC (by omega)];exact R
   ·rw[aA.jG (by omega),aA.aC (by omega)];exact d id boU
end
section
variable{H:aA}{nx:Nat}{K:bNX}
theorem F8{X:Nat->Prop}{c:Cfg}{i:CIn}{s:CSt}{es:List Ev}{i0 bO6:Nat}{nm:Nat->Nat}(hb:aQ c)(hs:COk c s)(br:i.ready.length=3)(hB:l9 X H nx i0 bO6 nm s es)(hl:es.length<900)
 (h: ∀H' nx' w,nx<=nx'->l9 X H' nx' i0 bO6 w (CW c i s) (es++iP c s (KQ c i s))->(∀id,X id->H' id=H id)->K (.tup []) H' nx'):
 bNW mG [.one (.c (.ptr 5 i0 0 0)),boR (eIn i),.one (.c (.ptr 5 bO6 0 0))] H nx K:=by
 refine cJ.mk Tryz.func187 (by kernel_rfl) D6 rfl fun Q hQ=> ?_
 unfold lR
 obtain⟨wc,hc,pc,vc,tc,ar,bs,bt,bu,bw,bx⟩: ∃wc hc pc vc tc,H i0=some ⟨5,1,[[.osl 1 (nm 0) 0 s.words.length wc,.osl 1 (nm 1) 0 s.holds.length hc,.osl 4 (nm 2) 0 3 pc,.osl 3 (nm 3) 0 4 vc,.osl 5 (nm 4) 0 s.told.length tc]]⟩/\_:=by obtain⟨cells,F,⟨wc,hc,pc,vc,tc,rfl,V⟩,_⟩:=hB.rep.st;exact⟨wc,hc,pc,vc,tc,F,V⟩
 have y:=hB.rep.apart (nx':=nx) [] [] (m5 _) (by simp) (by simp) (by simp) (by simp)
 simp only[bQ,eZ,List.map,List.nil_append] at y
 repeat' first|apply bn1<;>(simp only[go_sem,ar,y])|fail
 obtain⟨H0,W⟩: ∃H0,H0=H.set nx ⟨3,1,[eIn i]⟩:=⟨_,rfl⟩
 rw[<-W]
 have au:H0 nx=some ⟨3,1,[eIn i]⟩:=by rw[W];exact aA.bH
 have aw:l9 (fun id=>X id\/id=nx) H0 (nx+7) i0 bO6 nm s es:=hB.next (by omega) (fun id F V=>by rw[W,aA.aC (by omega)]) fun id f=>by
  rcases f with f|rfl;·have:=hB.rep.x id (.inl f);exact⟨by omega,.inl f⟩
  ·exact⟨by omega,.inr (m5 _)⟩
 have ax:=hB.rep.i0.1
 have ay:=hB.hap.bO6.1
 refine aM.gP (β:=Nat×CSt×List Ev×(Nat->Nat)) (fun u=>en [(18,boP u.1),(17,boP 3),(4,.one (.c (.ptr 3 nx 0 0))),(2,.one (.c (.ptr 5 bO6 0 0))),(0,.one (.c (.ptr 5 i0 0 0)))])
  (fun u H1 ab=>u.1<=3/\COk c u.2.1/\l9 (fun id=>X id\/id=nx) H1 ab i0 bO6 u.2.2.2 u.2.1 u.2.2.1/\(∀id,X id\/id=nx->H1 id=H0 id)/\vU c (vT i) ([0,1,2].drop u.1) u.2.1 u.2.2.1 (CW c i s) (es++iP c s (KQ c i s))/\u.2.2.1.length<=es.length+u.1)
  (fun u=>3-u.1) (0,s,es,nm) ⟨noF,_,by repeat' first|exact bo2|refine xqI rfl rfl ?_|refine xqP (by omega) rfl rfl ?_|fail,aK,by dsimp only;omega,hs,aw,fun _ _=>rfl,⟨rfl,rfl⟩,by simp⟩ ?_
 rintro⟨k,s1,ad,a⟩ H1 ab bz ⟨hk,g,q,L,ae,az⟩ bpQ af
 dsimp only at hk g q ae az
 obtain⟨wc,hc,pc,vc,tc,mp,rp,mv,rv,bqC,g1,g2,g3,bO4,bPU,bkU,bkV,bp4,bp5,ga,gb⟩:=q.rep.get
 have z:H1 nx=some ⟨3,1,[eIn i]⟩:=by rw[L nx (.inr rfl)];exact au
 by_cases M:k<3
 ·have Y:=ae;rw[ap4 M] at Y;obtain⟨p,N⟩: ∃p,p=aF s1 k:=⟨_,rfl⟩
  obtain⟨qo,qc,oc,gr,gq,go⟩:=ga k M;rw[<-N] at gr gq go;repeat' first|apply bn1<;>(simp only[go_sem,bqC,g1,gr,z])|apply bn2 (by omega)|refine⟨by omega,?_⟩|fail
  have ag:=g.port k M;rw[<-N] at ag;have ca:=q.rep.names.lt 2 (by omega);obtain⟨cb,cc⟩:=ag.last
  refine aM.gP (β:=Nat) (fun j=>en [(18,boP k),(17,boP 3),(8,boP j),(7,.one (.c (.ptr 4 (a 2) k 0))),(6,boP k),(4,.one (.c (.ptr 3 nx 0 0))),(2,.one (.c (.ptr 5 bO6 0 0))),(0,.one (.c (.ptr 5 i0 0 0)))])
   (fun j H2 _=>1<=j/\j<=5/\H2=H1/\ ∀B,1<=B->B<j->NN s1 k (pQ s1 k B)=false) (fun j=>5-j) 1 ⟨noF,_,by repeat' first|exact bo2|refine xqI rfl rfl ?_|refine xqP (by omega) rfl rfl ?_|fail,aK,by omega,by omega,rfl,fun B F V=>by omega⟩ ?_
  rintro j H2 b ba ⟨bb,cd,bc,hinv⟩ bkT al;subst bc;by_cases bd:j<=4
  ·cases I:i.ready.getD k default with
   |false=>
    repeat' first| (first|apply bn1|apply bpJ (by omega))<;>(simp only[go_sem,z,I];try simp (disch:=omega) only[Iw])|refine⟨by omega,?_⟩|fail
    exact af _ _ _ (k+1,s1,ad,a) noF _ (by omega) (by dsimp only;omega) (by repeat' first|exact bo2|refine xqI rfl rfl ?_|refine xqP (by omega) rfl rfl ?_|fail) aK ⟨by dsimp only;omega,g,q.mono (by omega),L,Y.none (agJ I),by dsimp only;omega⟩
   |true=>
   obtain⟨st,O⟩: ∃st,st=pQ s1 k j:=⟨_,rfl⟩
   have bf:st=((p.last+(j:Int))%4).toNat:=(by rw[O,N];rfl);have P:st<4:=(by omega);have R:(p.last+(j:Int)).tmod 4=(st:Int):=(by rw[brF (by omega)];omega);obtain⟨v,A⟩: ∃v,v=aL s1 st:=⟨_,rfl⟩
   obtain⟨po,ah,do_,dc,gs,gp,gd⟩:=gb st P;rw[<-A] at gs gp gd;obtain⟨md,rd,d1,d2,d3,bkS,bk2,bk3⟩:=gd.ex;by_cases cf:v.done.length=0
   ·have hlen:((v.done.length:Int)=0)=True:=eq_true (by omega);repeat' first| (first|apply bn1|apply bpJ (by omega))<;>(simp only[go_sem,bqC,g1,g2,gr,gs,z,R,I,hlen];try simp (disch:=omega) only[Iw])|refine⟨by omega,?_⟩|fail
    exact al _ _ _ (j+1) noF _ (by omega) (by omega) (by repeat' first|exact bo2|refine xqI rfl rfl ?_|refine xqP (by omega) rfl rfl ?_|fail) aK ⟨by omega,by omega,rfl,fun B F V=>by
     by_cases Z:B<j
     ·exact hinv B F Z
     ·have:B=j:=(by omega);subst this;rw[<-O];exact decide_eq_false fun hc=>by rw[<-A] at hc;omega⟩
   have hlen:((v.done.length:Int)=0)=False:=eq_false (by omega);obtain⟨d,S⟩: ∃d,d=v.done.getD 0 default:=⟨_,rfl⟩
   have bk4:rd[do_]?=some (aS d):=(by have:(rd.drop do_)[0]?=some (aS d):=(by rw[d2,p0];simp[S,List.getD,show 0<v.done.length by omega]);rwa [s5,Nat.add_zero] at this);by_cases C:d.who=k
   ·have cg:=q.rep.names.lt (8+k) (by omega);have ch:s1.told.length<=36:=(by have:=g.st.lens hb;simp only[cX] at this;omega);have cj:=ag.ol;have hex: ∃j∈p.out,j.n=d.n:=by obtain⟨_,j,q1,q2,_⟩:=(g.slv st P).out (key d) (by rw[<-A];exact M9 (by rw[S];exact cC (by omega)));have e:(key d).1.toNat=k:=(by show d.who.toNat=k;omega);rw[e,<-N] at q1;exact⟨j,q1,q2⟩
    obtain⟨bg,ck⟩:=PJ hex;have bh: ¬bK (isC d.n) p.out<0:=by have:0<=bK (isC d.n) p.out:=cH.2 (by obtain⟨j,q1,q2⟩:=hex;exact⟨j,q1,decide_eq_true q2⟩);omega
    have ai: ∀{G:aA} {n':Nat} {K:bNX},G (a (5+k))=H2 (a (5+k))->G (a (8+k))=H2 (a (8+k))->K (boP (bK (isC d.n) p.out)) G n'->bNW kV [.one (.agg [cI p.next,.osl 1 (a (5+k)) qo p.queue.length qc,.osl 3 (a (8+k)) 0 p.out.length oc,cI p.last]),boP d.n] G n' K:=fun F V h3=>
     KT (by omega) (lY (A8 (fO ZX (fO ((gq.frame F).frz (aG bF _) trivial) (fO ((go.frame V).frz (aG yK _) trivial) (fO ZX LH)))))) h3
    have y:=q.rep.apart (nx':=b) [nx] [0,1,2,3,4,5+k,8+k,11+st,15+st] (by omega) (by simp) (fun x hx=>.inl (.inr (by simpa using hx))) (by simp;omega) (by simp;omega);simp only[bQ,eZ,List.map,List.cons_append,List.nil_append] at y;obtain⟨mt,rt,e1,e2,e3,e4,e5,bOZ⟩:=bPU.ex;obtain⟨mo,ro,o1,o2,bqD,bqE,bqF,blC⟩:=go.ex;rw[bq5] at e2 o2;subst e2;subst o2;refine aM.BW fun bj=> ?_;have an: ∀r,(rp.set k r)[k]?=some r:=fun r=>by rw[bqZ (by omega)]
    have bk: ∀k l,msk (b+k) l H2=H2:=fun k l=>BV bj (by omega);repeat' first| (first|apply bn1|apply bpJ (by omega)|apply ai (by simp only[aA.set,aA.del,y,if_false]) (by simp only[aA.set,aA.del,y,if_false])| (refine tK (m:=mo) (by omega) bh bg bqF (by omega) (by omega) (by simp only[aA.set,aA.del,y,if_false];exact o1) (fun aa m' q1 q2=> ?_)))<;>(simp only[go_sem,t1,bqT,bk,umS (G:=H2),umD (G:=H2),umB,an,bq1,bqC,g1,g2,gr,gs,z,R,I,hlen,d1,bk4,C,e1,o1,y];try simp (disch:=omega) only[Iw])| (with_reducible first|refine fun(cap:Nat) (aj:_<=cap)=> ?_|refine fun(cl:_<=cap)=> ?_)|refine⟨by omega,?_⟩|fail
    obtain⟨w,E⟩: ∃w,w=put (put a 4 (b+56)) (8+k) (b+88):=⟨_,rfl⟩
    have J: ∀j,j≠4->j≠8+k->w j=a j:=fun j F V=>by rw[E,jE V,jE F]
    have p4:w 4=b+56:=(by rw[E,jE (by omega),t8]);have bk9:w (8+k)=b+88:=(by rw[E,t8]);obtain⟨s',t⟩: ∃s',s'=aR c s1 (.tell k st):=⟨_,rfl⟩
    have ak:iF s1 st=d:=(by rw[S,A];rfl);have T:aF s' k= {p with out:=PE p.out d.n,last:=st}:=(by rw[t,bL rfl (by rw[g.pl];omega),if_pos rfl,ak,<-N]);have U:aL s' st= {v with done:=v.done.drop 1}:=(by rw[t,bO rfl (by rw[g.sl];omega),if_pos rfl,<-A]);have ao:s'.told=s1.told++[d]:=(by rw[t,<-ak];rfl);refine acI (q.upd k st w s' (by omega) ?_ ?_ ?_ ?_ ?_ ?_ (.inl M) (.inl P) (fun j Z o=>by rw[t,bL rfl (by rw[g.pl];omega),if_neg o]) (fun j Z o=>by rw[t,bO rfl (by rw[g.sl];omega),if_neg o])) (by omega) fun H' nx' hx bm bn=> ?_
    ·rw[E];have aq: ∀v,b<=v->¬((X v\/v=nx)\/v=bO6):=fun v hv hn=>by have:=q.rep.x v hn;omega
     exact((q.rep.names.mono (by omega:ab<=b)).put (nx':=b+57) (by omega) (by omega) (aq _ (by omega))).put (by omega) (by omega) (aq _ (by omega))
    ·intro j Z;by_cases k9:j=4;·subst k9;exact .inr ⟨.inl rfl,by omega⟩
     ·by_cases bPH:j=8+k;·subst bPH;exact .inr ⟨.inr (.inr (.inl rfl)),by omega⟩
      ·exact .inl (J j k9 bPH)
    ·intro id f h0 o;simp only[aA.set,aA.del,h0,o 2 (by omega) (by omega),o 3 (by omega) (by omega),o 4 (by omega) (by omega),o (8+k) (by omega) (by omega),show ¬id=b+47 by omega,show ¬id=b+55 by omega,show ¬id=b+56 by omega,show ¬id=b+88 by omega,if_false]
    ·refine⟨wc,hc,pc,vc,cap,?_,?_,?_,?_,bkU,bkV⟩;·simp only[aA.set,aA.del,y,if_false,if_true,U2,J 0 (by omega) (by omega),J 1 (by omega) (by omega),J 2 (by omega) (by omega),J 3 (by omega) (by omega),p4,ao,t2,List.length_singleton];rw[t];rfl
     ·rw[J 0 (by omega) (by omega),t];exact g3.frame (by simp only[aA.set,aA.del,y,if_false])
     ·rw[J 1 (by omega) (by omega),t];exact bO4.frame (by simp only[aA.set,aA.del,y,if_false])
     ·rw[p4,ao];exact⟨cap,(s1.told++[d]).map aS,by simp only[aA.set,aA.del,y,if_false,if_true,show ¬b+56=b+88 by omega],rfl,by simp,by simp,by simpa using aj,by simp⟩
    ·refine⟨mp,rp.set k [cI p.next,.osl 1 (a (5+k)) qo p.queue.length qc,.osl 3 (b+88) 0 (PE p.out d.n).length aa,cI st],mp,rp,g1,by simp only[aA.set,aA.del,y,if_false,if_true];rfl,by simp only[Y5,bp4],fun j Z o=>by rw[bq0 (Ne.symm o)],fun _=>⟨_,an _,⟨qo,qc,aa,?_,?_,?_⟩⟩⟩;·rw[T,J (5+k) (by omega) (by omega),bk9];rfl
     ·rw[T,J (5+k) (by omega) (by omega)];exact gq.frame (by simp only[aA.set,aA.del,y,if_false])
     ·rw[T,bk9];exact⟨m',(PE p.out d.n).map eCJ,by simp only[aA.set,aA.del,y,if_false,if_true];rfl,rfl,by simp,by simp,q1,by omega⟩
    ·refine⟨mv,rv.set st [.osl 3 (a (11+st)) po v.pipe.length ah,.osl 5 (a (15+st)) (do_+1) (v.done.length-1) (dc-1),cI v.last],mv,rv,g2,by simp only[aA.set,aA.del,y,if_false,if_true],by simp only[Y5,bp5],fun j Z o=>by rw[bq0 (Ne.symm o)],fun _=>⟨[.osl 3 (a (11+st)) po v.pipe.length ah,.osl 5 (a (15+st)) (do_+1) (v.done.length-1) (dc-1),cI v.last],bqZ (by omega),⟨po,ah,do_+1,dc-1,?_,?_,?_⟩⟩⟩;·rw[U,J (11+st) (by omega) (by omega),J (15+st) (by omega) (by omega)];simp only[aj9,CI]
     ·rw[U,J (11+st) (by omega) (by omega)];exact gp.frame (by simp only[aA.set,aA.del,y,if_false])
     ·rw[U,J (15+st) (by omega) (by omega)];refine⟨md,rd,by simp only[aA.set,aA.del,y,if_false];exact d1,by rw[brE,<-d2,Y2],?_,by simp,?_,?_⟩;·simp only[CI];omega
      ·simp only[CI];omega
      ·omega
    ·simp only[go_sem];repeat' first|apply bn1<;>(simp only[go_sem];try simp (disch:=omega) only[Iw])|fail
     have boT:vT i s1 k=some (.tell k st):=(by rw[O];exact acB I bb bd hinv (by rw[<-O];exact decide_eq_true ⟨by rw[<-A];omega,by rw[<-A,<-S];exact C⟩));have bPG:=Y.some boT;rw[<-t,show y0 s1 (.tell k st)=[⟨3,k,d.n⟩] from by rw[<-ak];rfl] at bPG;have bo:COk c s':=(by rw[t];exact o9 hb g (TB g M boT));exact af _ _ _ (k+1,s',ad++[⟨3,k,d.n⟩],w) noF _ (by omega) (by dsimp only;omega) (by repeat' first|exact bo2|refine xqI rfl rfl ?_|refine xqP (by omega) rfl rfl ?_|fail) aK ⟨by dsimp only;omega,bo,bm.mono (by omega),fun id f=>(bn id f).trans (L id f),bPG,by simp;omega⟩
   ·have bp:(d.who=(k:Int))=False:=eq_false C;repeat' first| (first|apply bn1|apply bpJ (by omega))<;>(simp only[go_sem,bqC,g1,g2,gr,gs,z,R,I,hlen,d1,bk4,bp];try simp (disch:=omega) only[Iw])|refine⟨by omega,?_⟩|fail
    exact al _ _ _ (j+1) noF _ (by omega) (by omega) (by repeat' first|exact bo2|refine xqI rfl rfl ?_|refine xqP (by omega) rfl rfl ?_|fail) aK ⟨by omega,by omega,rfl,fun B F V=>by
     by_cases Z:B<j
     ·exact hinv B F Z
     ·have:B=j:=(by omega);subst this;rw[<-O];exact decide_eq_false fun hc=>C (by rw[S,A];exact hc.2)⟩
  ·repeat' first| (first|apply bn1|apply bpK (by omega))<;>(simp only[go_sem];try simp (disch:=omega) only[Iw])|fail
   exact af _ _ _ (k+1,s1,ad,a) noF _ (by omega) (by dsimp only;omega) (by repeat' first|exact bo2|refine xqI rfl rfl ?_|refine xqP (by omega) rfl rfl ?_|fail) aK ⟨by dsimp only;omega,g,q.mono (by omega),L,Y.none (acZ fun B F V=>hinv B F (by omega)),by dsimp only;omega⟩
 ·repeat' first|apply bn1<;>(simp only[go_sem])|apply bn3 (by omega)|fail
  have bq:k=3:=by omega
  subst bq;obtain⟨rfl,rfl⟩:=vU.nil ae;refine hQ _ _ _ _ _ (.inl rfl) rfl (h _ _ a (by omega) (q.next (by omega) (fun _ _ _=>rfl) fun id f=>⟨?_,.inl (.inl f)⟩) fun id f=> ?_);·have:=hB.rep.x id (.inl f);omega
  ·rw[L id (.inl f),W,aA.aC];have:=hB.rep.x id (.inl f);omega
end
section
variable{H:aA}{nx:Nat}{K:bNX}
theorem HT{X:Nat->Prop}{c:Cfg}{s:CSt}{es:List Ev}{i0 bO6:Nat}{nm:Nat->Nat}(hb:aQ c)(hs:COk c s)(hB:l9 X H nx i0 bO6 nm s es)
 (h: ∀H' nx' n,nx<=nx'->l9 X H' nx' i0 bO6 n (dR c s (ad4 c s)) es->(∀id,X id->H' id=H id)->K (.tup []) H' nx'):
 bNW n6 [.one (.c (.ptr 5 i0 0 0)),boR (cU c),.one (.c (.ptr 5 bO6 0 0))] H nx K:=by
 refine cJ.mk Tryz.func189 (by kernel_rfl) FB rfl fun Q hQ=> ?_
 unfold mL
 obtain⟨cd,cf⟩:=hC hb
 obtain⟨wc,hc,pc,vc,tc,bf,cg,ch,cj,ck,cl⟩: ∃wc hc pc vc tc,H i0=some ⟨5,1,[[.osl 1 (nm 0) 0 s.words.length wc,.osl 1 (nm 1) 0 s.holds.length hc,.osl 4 (nm 2) 0 3 pc,.osl 3 (nm 3) 0 4 vc,.osl 5 (nm 4) 0 s.told.length tc]]⟩/\_:=by obtain⟨cells,F,⟨wc,hc,pc,vc,tc,rfl,h2⟩,_⟩:=hB.rep.st;exact⟨wc,hc,pc,vc,tc,F,h2⟩
 have t:=hB.rep.apart (nx':=nx) [] [] (m5 _) (by simp) (by simp) (by simp) (by simp)
 simp only[bQ,eZ,List.map,List.nil_append] at t
 repeat' first|apply bn1<;>(simp only[go_sem,t1,bqT,bf,t])|fail
 obtain⟨H0,I⟩: ∃H0,H0=(H.set nx ⟨3,1,[cU c]⟩).set (nx+1) ⟨3,1,[[false,false,false].map cB]⟩:=⟨_,rfl⟩
 have w:=I
 simp only[List.map] at w
 unfold cB at w
 rw[<-w]
 clear w
 have bg:H0 nx=some ⟨3,1,[cU c]⟩:=by rw[I,aA.aC (by omega)];exact aA.bH
 have bh:H0 (nx+1)=some ⟨3,1,[[false,false,false].map cB]⟩:=by rw[I];exact aA.bH
 have bj:=hB.rep.i0.1
 have bk:=hB.hap.bO6.1
 have bm:l9 (fun id=>X id\/id=nx\/id=nx+1) H0 (nx+8) i0 bO6 nm s es:=hB.next (by omega) (fun id F h2=>by rw[I,aA.aC (by omega),aA.aC (by omega)]) fun id b=>by
  rcases b with b|rfl|rfl;·have:=hB.rep.x id (.inl b);exact⟨by omega,.inl b⟩
  ·exact⟨by omega,.inr (m5 _)⟩
  ·exact⟨by omega,.inr (by omega)⟩
 refine aM.gP (β:=Nat×CSt×List Bool×(Nat->Nat)) (fun u=>en [(18,boP u.1),(17,boP 4),(6,.one (.c (.ptr 3 (nx+1) 0 0))),(4,.one (.c (.ptr 3 nx 0 0))),(2,.one (.c (.ptr 5 bO6 0 0))),(0,.one (.c (.ptr 5 i0 0 0)))])
  (fun u H1 ad=>u.1<=4/\COk c u.2.1/\l9 (fun id=>X id\/id=nx\/id=nx+1) H1 ad i0 bO6 u.2.2.2 u.2.1 es/\(∀id,X id\/id=nx->H1 id=H0 id)/\LV c ([0,1,2,3].drop u.1) u.2.1 u.2.2.1 (dR c s (ad4 c s))/\u.2.2.1.length=3/\H1 (nx+1)=some ⟨3,1,[u.2.2.1.map cB]⟩)
  (fun u=>4-u.1) (0,s,[false,false,false],nm) ⟨noF,_,by repeat' first|exact bo2|refine xqI rfl rfl ?_|refine xqP (by omega) rfl rfl ?_|fail,aK,by dsimp only;omega,hs,bm.mono (by omega),fun _ _=>rfl,rfl,rfl,bh⟩ ?_
 rintro⟨k,s1,u,e⟩ H1 ad cm ⟨hk,d,f,J,ag,L,B⟩ bpQ ah
 dsimp only at hk d f ag L B
 obtain⟨wc,hc,pc,vc,tc,mp,rp,mv,rv,bqC,g1,g2,g3,bO4,bPU,bkU,bkV,bp4,bp5,ga,gb⟩:=f.rep.get
 have aa:H1 nx=some ⟨3,1,[cU c]⟩:=by rw[J _ (.inr rfl)];exact bg
 by_cases o:k<4
 ·have ae:=ag;rw[apX o] at ae;obtain⟨v,C⟩: ∃v,v=aL s1 k:=⟨_,rfl⟩
  obtain⟨po,cn,do_,dc,gs,gp,gd⟩:=gb k o;rw[<-C] at gs gp gd;obtain⟨me,re,p1,p2,p3,p4,p5,p6⟩:=gp.ex;rw[bqW] at p4;have bn:=(d.slv k o).last;have cp:=f.rep.names.lt 3 (by omega);rw[<-C] at bn;repeat' first|apply bn1<;>(simp only[go_sem,t1,bqT,bqC,g2,gs])|apply bn2 (by omega)|refine⟨by omega,?_⟩|fail
  refine aM.gP (β:=Nat) (fun j=>en [(18,boP k),(17,boP 4),(9,boP j),(8,.one (.c (.ptr 3 (e 3) k 0))),(7,boP k),(6,.one (.c (.ptr 3 (nx+1) 0 0))),(4,.one (.c (.ptr 3 nx 0 0))),(2,.one (.c (.ptr 5 bO6 0 0))),(0,.one (.c (.ptr 5 i0 0 0)))])
   (fun j H2 _=>1<=j/\j<=4/\H2=H1/\ ∀y,1<=y->y<j->KE c s1 u k (sM s1 k y)=false) (fun j=>4-j) 1 ⟨noF,_,by repeat' first|exact bo2|refine xqI rfl rfl ?_|refine xqP (by omega) rfl rfl ?_|fail,aK,by omega,by omega,rfl,fun y F h2=>by omega⟩ ?_
  rintro j H2 a bo ⟨bp,cq,bq,hinv⟩ bkT aq;subst bq;by_cases ar:v.pipe.length<2
  ·by_cases br:j<=3
   ·obtain⟨who,af⟩: ∃who,who=sM s1 k j:=⟨_,rfl⟩
    have bs:who=((v.last+(j:Int))%3).toNat:=(by rw[af,C];rfl);have M:who<3:=(by omega);have N:(v.last+(j:Int)).tmod 3=(who:Int):=(by rw[brF (by omega)];omega);have ai:((u.map cB).drop who).take 1=[cB (u.getD who default)]:=(by rw[brB (by simp;omega)];simp[List.getD,show who<u.length by omega]);have O:(u.map cB).length=3:=(by rw[bqW,L]);have hle:(who+1<=3)=True:=eq_true (by omega)
    have P:KE c s1 u k who=false->∀y,1<=y->y<j+1->KE c s1 u k (sM s1 k y)=false:=fun hf y F h2=>by
     by_cases hj:y<j;·exact hinv y F hj
     ·have:y=j:=(by omega);subst this;rw[<-af];exact hf
    cases D:u.getD who default with
    |true=>
     repeat' first| (first|apply bn1|apply bpJ (by omega))<;>(simp only[go_sem,t1,bqT,bqC,g2,gs,brK,N,B,ai,O,hle,D];try simp (disch:=omega) only[Iw])|apply bn2 (by omega)|refine⟨by omega,?_⟩|fail
     exact aq _ _ _ (j+1) noF _ (by omega) (by omega) (by repeat' first|exact bo2|refine xqI rfl rfl ?_|refine xqP (by omega) rfl rfl ?_|fail) aK ⟨by omega,by omega,rfl,P (by unfold KE;rw[D];rfl)⟩
    |false=>
    by_cases z:HV c s1 who k
    ·have R:decide (HV c s1 who k)=true:=decide_eq_true z;obtain⟨p,S⟩: ∃p,p=aF s1 who:=⟨_,rfl⟩
     obtain⟨qo,qc,oc,gr,gq,go⟩:=ga who M;rw[<-S] at gr gq go;have bt:=z.1;have bu:=z.2.1;rw[<-S] at bt bu;have au:=d.port who M;rw[<-S] at au;have cr:=au.ql;obtain⟨mq,rq0,q1,q2,q3,q4,q5,q6⟩:=gq.ex;obtain⟨mo,ro,o1,o2,bqD,bqE,bqF,blC⟩:=go.ex;rw[bqW] at q4 bqE;rw[bq5] at o2;subst o2;obtain⟨n0,aj⟩: ∃n0,n0=p.queue.getD 0 default:=⟨_,rfl⟩
     have bqJ:rq0[qo]?=some [cI n0]:=(by have:(rq0.drop qo)[0]?=some [cI n0]:=(by rw[q2,p0];simp[aj,List.getD,show 0<p.queue.length by omega,aJ]);rwa [s5,Nat.add_zero] at this);have bw:=hb.2.1;have aw: ∀r,(rp.set who r)[who]?=some r:=fun r=>by rw[bqZ (by omega)]
     have ax: ∀r,(rv.set k r)[k]?=some r:=fun r=>by rw[bqZ (by omega)]
     have t:=f.rep.apart (nx':=a) [nx,nx+1,bO6] [0,1,2,3,4,5+who,8+who,11+k,15+k] (by omega) (by simp;omega) (fun x hx=>by simp at hx;rcases hx with rfl|rfl|rfl;exact .inl (.inr (.inl rfl));exact .inl (.inr (.inr rfl));exact .inr rfl) (by simp;omega) (by simp;omega);simp only[bQ,eZ,List.map,List.cons_append,List.nil_append] at t;obtain⟨dh,T,U,V,W,ay,_⟩:=f.hap.ex;refine aM.BW fun bx=> ?_;have bz: ∀k l,msk (a+k) l H2=H2:=fun k l=>BV bx (by omega);repeat' first| (first|apply bn1|apply bpJ (by omega)|apply vW (s:=s1) hb d M o (f.rep.ar5 d.pl d.sl))<;>(simp only[go_sem,t1,bqT,brK,N,B,ai,O,hle,D,aa,R,bz,umS (G:=H2),umD (G:=H2),umB,bq1,bqC,g1,g2,gr,gs,aw,ax,q1,bqJ,o1,p1,ay,t];try simp (disch:=omega) only[Iw])|apply bn2 (by omega)| (with_reducible first|refine fun(cap:Nat) (ak:_<=cap)=> ?_|refine fun(ct:_<=cap)=> ?_)|refine⟨by omega,?_⟩|fail
     rename_i q ab ca;obtain⟨jo,al⟩: ∃jo:fC,jo=⟨who,n0,k⟩:=⟨_,rfl⟩
     obtain⟨jp,an⟩: ∃jp:fC,jp=⟨who,n0,c.lat.getD k default⟩:=⟨_,rfl⟩
     have eo:List.map eCJ p.out++[[D1.v (.int .i64 who),cI n0,D1.v (.int .i64 k)]]=(p.out++[jo]).map eCJ:=(by rw[bqX,al];rfl);have ep:List.take v.pipe.length (List.drop po re)++[[D1.v (.int .i64 who),cI n0,D1.v (.int .i64 (c.lat.getD k default))]]=(v.pipe++[jp]).map eCJ:=(by rw[p2,boL (by simp),bqX,an];rfl);have eu:List.take who (List.map cB u)++[D1.v (.bool true)]++List.drop (who+1) (List.map cB u)=(u.set who true).map cB:=(by rw[brD,bsF,if_pos (by simp;omega),C0];rfl);have ei:List.take (1+k) [dh,cI T,cI U,cI V,cI W]++[D1.v (.int .i64 1)]++List.drop (1+(k+1)) [dh,cI T,cI U,cI V,cI W]=[dh,cI T,cI U,cI V,cI W].set (1+k) (cI 1):=(by rw[bsF,if_pos (by simp;omega),C0];rfl);rw[eo,ep,eu,ei];obtain⟨n,A⟩: ∃n,n=put (put e (8+who) (a+62)) (11+k) (a+80):=⟨_,rfl⟩
     have E: ∀j,j≠8+who->j≠11+k->n j=e j:=fun j F h2=>by rw[A,jE h2,jE F]
     have az:n (8+who)=a+62:=(by rw[A,jE (by omega),t8]);have ba:n (11+k)=a+80:=(by rw[A,t8]);have aYL:AO c s1 u k=some who:=(by rw[af];exact ahR (by rw[<-C];exact ar) bp br hinv (by rw[<-af];unfold KE;rw[D,R];rfl));obtain⟨s',m⟩: ∃s',s'=aR c s1 (.adm who k):=⟨_,rfl⟩
     have bPG:=ae.some aYL;rw[<-m] at bPG;have cb:COk c s':=(by rw[m];exact o9 hb d (XH o aYL));have Y:aF s' who= {p with queue:=p.queue.drop 1,out:=p.out++[jo]}:=(by rw[m,bL rfl (by rw[d.pl];omega),if_pos rfl,<-S,al,aj]);have Z:aL s' k= {v with pipe:=v.pipe++[jp],last:=who}:=(by rw[m,bO rfl (by rw[d.sl];omega),if_pos rfl,<-S,<-C,an,aj]);obtain⟨Hm,g⟩: ∃Hm,Hm=(((((((H2.del (e (8+who))).del (e (11+k))).set (e 2) ⟨4,mp,rp.set who [cI p.next,.osl 1 (e (5+who)) (qo+1) (p.queue.length-1) (qc-1),.osl 3 (a+62) 0 (p.out.length+1) q,cI p.last]⟩).set (a+61) ⟨3,1,[eCJ jo]⟩).set (a+62) ⟨3,q,(p.out++[jo]).map eCJ⟩).set (a+79) ⟨3,1,[eCJ jp]⟩).set (a+80) ⟨3,cap,(v.pipe++[jp]).map eCJ⟩).set (e 3) ⟨3,mv,rv.set k [.osl 3 (a+80) 0 (v.pipe.length+1) cap,.osl 5 (e (15+k)) do_ v.done.length dc,cI who]⟩:=⟨_,rfl⟩
     have bb:=f.upd (H':=Hm) (nx':=a+100) who k n s' (by omega) ?_ ?_ ?_ ?_ ?_ ?_ (.inl M) (.inl o) (fun j hj i=>by rw[m,bL rfl (by rw[d.pl];omega),if_neg i]) (fun j hj i=>by rw[m,bO rfl (by rw[d.sl];omega),if_neg i])
     ·have cu:X nx\/nx=nx\/nx=nx+1:=.inr (.inl rfl);have ao:Hm bO6=some ⟨5,1,[[dh,cI T,cI U,cI V,cI W]]⟩:=(by rw[g];simp only[aA.set,aA.del,t,if_false];exact ay);have bc:bO6≠nx+1:=(by omega);refine ah _ _ _ (k+1,s',u.set who true,n) noF ((Hm.set (nx+1) ⟨3,1,[(u.set who true).map cB]⟩).set bO6 ⟨5,1,[[dh,cI T,cI U,cI V,cI W].set (1+k) (cI 1)]⟩) (by omega) (by dsimp only;omega) (by repeat' first|exact bo2|refine xqI rfl rfl ?_|refine xqP (by omega) rfl rfl ?_|fail) ?_ ⟨by dsimp only;omega,cb,(bb.1.atI (.inr (.inr rfl))).cells o ((aA.aC bc).trans ao) rfl,fun id b=> ?_,bPG,by simpa using L,?_⟩;·rw[g,al,an];exact aK
      ·have F:id≠bO6:=by
        rintro rfl
        rcases b with b|rfl
        ·exact f.hap.bO6.2 (.inl (.inl b))
        ·omega
       have h2:id≠nx+1:=by
        rcases b with b|rfl;·have:=hB.rep.x id (.inl b);omega
        ·omega
       rw[aA.aC F,aA.aC h2,bb.2 id (b.imp (fun h=>h) .inl)]
       exact J id b
      ·rw[aA.aC bc.symm];exact aA.bH
     ·rw[A];have bd: ∀v,ad<=v->¬((X v\/v=nx\/v=nx+1)\/v=bO6):=fun v hv hn=>by have:=f.rep.x v hn;omega
      exact((f.rep.names.mono (by omega:ad<=a)).put (nx':=a+63) (by omega) (by omega) (bd _ (by omega))).put (by omega) (by omega) (bd _ (by omega))
     ·intro j hj;by_cases k9:j=8+who;·subst k9;exact .inr ⟨.inr (.inr (.inl rfl)),by omega⟩
      ·by_cases bPH:j=11+k;·subst bPH;exact .inr ⟨.inr (.inr (.inr (.inl rfl))),by omega⟩
       ·exact .inl (E j k9 bPH)
     ·intro id b h0 i;rw[g];simp only[aA.set,aA.del,i 2 (by omega) (by omega),i 3 (by omega) (by omega),i (8+who) (by omega) (by omega),i (11+k) (by omega) (by omega),show ¬id=a+61 by omega,show ¬id=a+62 by omega,show ¬id=a+79 by omega,show ¬id=a+80 by omega,if_false]
     ·refine⟨wc,hc,pc,vc,tc,?_,?_,?_,?_,bkU,bkV⟩;·rw[g];simp only[aA.set,aA.del,t,if_false,U2,E 0 (by omega) (by omega),E 1 (by omega) (by omega),E 2 (by omega) (by omega),E 3 (by omega) (by omega),E 4 (by omega) (by omega)];rw[m];exact bqC
      ·rw[E 0 (by omega) (by omega),m];exact g3.frame (by rw[g];simp only[aA.set,aA.del,t,if_false])
      ·rw[E 1 (by omega) (by omega),m];exact bO4.frame (by rw[g];simp only[aA.set,aA.del,t,if_false])
      ·rw[E 4 (by omega) (by omega),m];exact bPU.frame (by rw[g];simp only[aA.set,aA.del,t,if_false])
     ·refine⟨mp,rp.set who [cI p.next,.osl 1 (e (5+who)) (qo+1) (p.queue.length-1) (qc-1),.osl 3 (a+62) 0 (p.out.length+1) q,cI p.last],mp,rp,g1,by rw[g];simp only[aA.set,aA.del,t,if_false,if_true],by simp only[Y5,bp4],fun j hj i=>by rw[bq0 (Ne.symm i)],fun _=>⟨_,aw _,⟨qo+1,qc-1,q,?_,?_,?_⟩⟩⟩;·rw[Y,E (5+who) (by omega) (by omega),az];simp only[af5,CI,t2,List.length_singleton]
      ·rw[Y,E (5+who) (by omega) (by omega)];refine⟨mq,rq0,?_,by rw[brE,<-q2,Y2],?_,by simp,?_,?_⟩;·rw[g];simp only[aA.set,aA.del,t,if_false];exact q1
       ·simp only[CI];omega
       ·simp only[CI];omega
       ·omega
      ·rw[Y,az];refine⟨q,(p.out++[jo]).map eCJ,?_,rfl,by simp,by simp,by simpa using ab,by simp⟩;rw[g];simp only[aA.set,aA.del,t,if_false,if_true,bqU,Nat.reduceEqDiff]
     ·refine⟨mv,rv.set k [.osl 3 (a+80) 0 (v.pipe.length+1) cap,.osl 5 (e (15+k)) do_ v.done.length dc,cI who],mv,rv,g2,by rw[g];exact aA.bH,by simp only[Y5,bp5],fun j hj i=>by rw[bq0 (Ne.symm i)],fun _=>⟨_,ax _,⟨0,cap,do_,dc,?_,?_,?_⟩⟩⟩;·rw[Z,ba,E (15+k) (by omega) (by omega)];simp only[aj9,t2,List.length_singleton]
      ·rw[Z,ba];refine⟨cap,(v.pipe++[jp]).map eCJ,?_,rfl,by simp,by simp,by simpa using ak,by simp⟩;rw[g];simp only[aA.set,aA.del,t,if_false,if_true]
      ·rw[Z,E (15+k) (by omega) (by omega)];exact gd.frame (by rw[g];simp only[aA.set,aA.del,t,if_false])
    ·have R:decide (HV c s1 who k)=false:=decide_eq_false z;repeat' first| (first|apply bn1|apply bpJ (by omega)|apply vW (s:=s1) hb d M o (f.rep.ar5 d.pl d.sl))<;>(simp only[go_sem,t1,bqT,bqC,g2,gs,brK,N,B,ai,O,hle,D,aa,R];try simp (disch:=omega) only[Iw])|apply bn2 (by omega)|refine⟨by omega,?_⟩|fail
     exact aq _ _ _ (j+1) noF _ (by omega) (by omega) (by repeat' first|exact bo2|refine xqI rfl rfl ?_|refine xqP (by omega) rfl rfl ?_|fail) aK ⟨by omega,by omega,rfl,P (by unfold KE;rw[D];rw[R];rfl)⟩
   ·repeat' first| (first|apply bn1|apply bpK (by omega))<;>(simp only[go_sem,t1,bqT,bqC,g2,gs];try simp (disch:=omega) only[Iw])|fail
    exact ah _ _ _ (k+1,s1,u,e) noF _ (by omega) (by dsimp only;omega) (by repeat' first|exact bo2|refine xqI rfl rfl ?_|refine xqP (by omega) rfl rfl ?_|fail) aK ⟨by dsimp only;omega,d,f.mono (by omega),J,ae.none (ah0 fun y F h2=>hinv y F (by omega)),L,B⟩
  ·repeat' first| (first|apply bn1|refine bpL (fun h=> ?_) fun h=> ?_)<;>(simp only[go_sem,t1,bqT,bqC,g2,gs];try simp (disch:=omega) only[Iw])|apply bn3 (by omega)|fail
   all_goals exact ah _ _ _ (k+1,s1,u,e) noF _ (by omega) (by dsimp only;omega) (by repeat' first|exact bo2|refine xqI rfl rfl ?_|refine xqP (by omega) rfl rfl ?_|fail) aK ⟨by dsimp only;omega,d,f.mono (by omega),J,ae.none (anA (by rw[<-C];exact ar)),L,B⟩
 ·repeat' first|apply bn1<;>(simp only[go_sem])|apply bn3 (by omega)|fail
  have cc:k=4:=by omega
  subst cc;obtain rfl:=ag;refine hQ _ _ _ _ _ (.inl rfl) rfl (h _ _ e (by omega) (f.next (by omega) (fun _ _ _=>rfl) fun id b=>⟨?_,.inl (.inl b)⟩) fun id b=> ?_);·have:=hB.rep.x id (.inl b);omega
  ·have:=hB.rep.x id (.inl b);rw[J id (.inl b),I,aA.aC (by omega),aA.aC (by omega)]
end
theorem aa0{i:CIn}{s:CSt}{st:Nat}(h:i.n9.getD st default=true\/(aL s st).pipe.length=0):qW i s st=none:=if_pos h
theorem acO{i:CIn}{s:CSt}{st:Nat}(h: ¬(i.n9.getD st default=true\/(aL s st).pipe.length=0))(a:0<(bI s st).left):qW i s st=some (.tick st):=by unfold qW;rw[if_neg h,if_pos a]
theorem adE{i:CIn}{s:CSt}{st:Nat}(h: ¬(i.n9.getD st default=true\/(aL s st).pipe.length=0))(a: ¬0<(bI s st).left)(b:(aL s st).done.length<2):qW i s st=some (.work st):=by unfold qW;rw[if_neg h,if_neg a,if_pos b]
theorem ae2{i:CIn}{s:CSt}{st:Nat}(h: ¬(i.n9.getD st default=true\/(aL s st).pipe.length=0))(a: ¬0<(bI s st).left)(b: ¬(aL s st).done.length<2):qW i s st=none:=by unfold qW;rw[if_neg h,if_neg a,if_neg b]
section
variable{H:aA}{nx:Nat}{K:bNX}
theorem GF{X:Nat->Prop}{c:Cfg}{i:CIn}{s:CSt}{es:List Ev}{i0 bO6:Nat}{nm:Nat->Nat}(hb:aQ c)(hs:COk c s)(cg:i.n9.length=4)(hB:l9 X H nx i0 bO6 nm s es)(hl:es.length<900)
 (h: ∀H' nx' E,nx<=nx'->l9 X H' nx' i0 bO6 E (dR c s (xX c i s)) (es++iP c s (xX c i s))->(∀id,X id->H' id=H id)->K (.tup []) H' nx'):
 bNW mM [.one (.c (.ptr 5 i0 0 0)),boR (cU c),boR (eIn i),.one (.c (.ptr 5 bO6 0 0))] H nx K:=by
 refine cJ.mk Tryz.func188 (by kernel_rfl) EC rfl fun Q hQ=> ?_
 unfold lQ
 obtain⟨ch,cj⟩:=hC hb
 obtain⟨wc,hc,pc,vc,tc,ba,ck,cl,cm,cn,cp⟩: ∃wc hc pc vc tc,H i0=some ⟨5,1,[[.osl 1 (nm 0) 0 s.words.length wc,.osl 1 (nm 1) 0 s.holds.length hc,.osl 4 (nm 2) 0 3 pc,.osl 3 (nm 3) 0 4 vc,.osl 5 (nm 4) 0 s.told.length tc]]⟩/\_:=by obtain⟨cells,h1,⟨wc,hc,pc,vc,tc,rfl,h2⟩,_⟩:=hB.rep.st;exact⟨wc,hc,pc,vc,tc,h1,h2⟩
 have f:=hB.rep.apart (nx':=nx) [] [] (m5 _) (by simp) (by simp) (by simp) (by simp)
 simp only[bQ,eZ,List.map,List.nil_append] at f
 repeat' first|apply bn1<;>(simp only[go_sem,t1,bqT,ba,f])|fail
 obtain⟨H0,M⟩: ∃H0,H0=(H.set nx ⟨3,1,[cU c]⟩).set (nx+1) ⟨3,1,[eIn i]⟩:=⟨_,rfl⟩
 rw[<-M]
 have bb:H0 nx=some ⟨3,1,[cU c]⟩:=by rw[M,aA.aC (by omega)];exact aA.bH
 have bc:H0 (nx+1)=some ⟨3,1,[eIn i]⟩:=by rw[M];exact aA.bH
 have bd:=hB.rep.i0.1
 have bf:=hB.hap.bO6.1
 have bg:l9 (fun id=>X id\/id=nx\/id=nx+1) H0 (nx+8) i0 bO6 nm s es:=hB.next (by omega) (fun id h1 h2=>by rw[M,aA.aC (by omega),aA.aC (by omega)]) fun id b=>by
  rcases b with b|rfl|rfl;·have:=hB.rep.x id (.inl b);exact⟨by omega,.inl b⟩
  ·exact⟨by omega,.inr (m5 _)⟩
  ·exact⟨by omega,.inr (by omega)⟩
 refine aM.gP (β:=Nat×CSt×List Ev×(Nat->Nat)) (fun u=>en [(16,boP u.1),(15,boP 4),(6,.one (.c (.ptr 3 (nx+1) 0 0))),(5,.one (.c (.ptr 3 nx 0 0))),(3,.one (.c (.ptr 5 bO6 0 0))),(0,.one (.c (.ptr 5 i0 0 0)))])
  (fun u H1 t=>u.1<=4/\COk c u.2.1/\l9 (fun id=>X id\/id=nx\/id=nx+1) H1 t i0 bO6 u.2.2.2 u.2.1 u.2.2.1/\(∀id,X id\/id=nx\/id=nx+1->H1 id=H0 id)/\vU c (qW i) ([0,1,2,3].drop u.1) u.2.1 u.2.2.1 (dR c s (xX c i s)) (es++iP c s (xX c i s))/\u.2.2.1.length<=es.length+u.1)
  (fun u=>4-u.1) (0,s,es,nm) ⟨noF,_,by repeat' first|exact bo2|refine xqI rfl rfl ?_|refine xqP (by omega) rfl rfl ?_|fail,aK,by dsimp only;omega,hs,bg.mono (by omega),fun _ _=>rfl,⟨rfl,rfl⟩,by simp⟩ ?_
 rintro⟨k,s1,N,p⟩ H1 t cq ⟨hk,m,g,F,aa,bh⟩ bpQ O
 dsimp only at hk m g aa bh
 obtain⟨wc,hc,pc,vc,tc,mp,rp,mv,rv,bqC,g1,W,g3,bO4,bPU,bkU,bkV,bp4,bp5,ga,gb⟩:=g.rep.get
 have I:H1 (nx+1)=some ⟨3,1,[eIn i]⟩:=by rw[F _ (.inr (.inr rfl))];exact bc
 have ab:H1 nx=some ⟨3,1,[cU c]⟩:=by rw[F _ (.inr (.inl rfl))];exact bb
 by_cases B:k<4
 ·have L:=aa;rw[apX B] at L;obtain⟨v,y⟩: ∃v,v=aL s1 k:=⟨_,rfl⟩
  obtain⟨po,ad,do_,dc,gs,gp,gd⟩:=gb k B;rw[<-y] at gs gp gd;obtain⟨md,rd,d1,d2,d3,bkS,bk2,bk3⟩:=gd.ex;obtain⟨me,re,p1,p2,p3,p4,p5,p6⟩:=gp.ex;rw[bqW] at bkS p4
  cases J:i.n9.getD k default with
  |true=>
   repeat' first|apply bn1<;>(simp only[go_sem,t1,bqT,bqC,W,gs,I,J];try simp (disch:=omega) only[Iw])|apply bn2 (by omega)|refine⟨by omega,?_⟩|fail
   exact O _ _ _ (k+1,s1,N,p) noF _ (by omega) (by dsimp only;omega) (by repeat' first|exact bo2|refine xqI rfl rfl ?_|refine xqP (by omega) rfl rfl ?_|fail) aK ⟨by dsimp only;omega,m,g.mono (by omega),F,L.none (aa0 (.inl J)),by dsimp only;omega⟩
  |false=>
  have bj: ∀{A:Prop},¬(i.n9.getD k default=true\/A)↔¬A:=fun {A}=>by rw[J];simp
  by_cases ak:v.pipe.length=0
  ·have hlen:((v.pipe.length:Int)=0)=True:=eq_true (by omega);repeat' first|apply bn1<;>(simp only[go_sem,t1,bqT,bqC,W,gs,I,J,hlen];try simp (disch:=omega) only[Iw])|apply bn2 (by omega)|refine⟨by omega,?_⟩|fail
   exact O _ _ _ (k+1,s1,N,p) noF _ (by omega) (by dsimp only;omega) (by repeat' first|exact bo2|refine xqI rfl rfl ?_|refine xqP (by omega) rfl rfl ?_|fail) aK ⟨by dsimp only;omega,m,g.mono (by omega),F,L.none (aa0 (.inr (by rw[<-y];exact ak))),by dsimp only;omega⟩
  have ae: ¬(i.n9.getD k default=true\/(aL s1 k).pipe.length=0):=by rw[<-y];exact bj.2 ak
  have hlen:((v.pipe.length:Int)=0)=False:=eq_false (by omega);obtain⟨j,T⟩: ∃j,j=v.pipe.getD 0 default:=⟨_,rfl⟩
  have C:bI s1 k=j:=by rw[T,y];rfl
  have p7:re[po]?=some (eCJ j):=by have:(re.drop po)[0]?=some (eCJ j):=(by rw[p2,p0];simp[T,List.getD,show 0<v.pipe.length by omega]);rwa [s5,Nat.add_zero] at this
  have f:=g.rep.apart (nx':=t) [nx,nx+1] [0,1,2,3,4,11+k,15+k] (m5 _) (by simp) (fun x hx=>.inl (.inr (by simpa using hx))) (by simp;omega) (by simp;omega);simp only[bQ,eZ,List.map,List.cons_append,List.nil_append] at f;have bk:=m.slv k B;have bm:j∈(aL s1 k).pipe:=by rw[T,y];exact cC (by rw[<-y];omega)
  obtain⟨al,Y,af⟩:=m.vIn B (JB bm);dsimp only at al Y af;have Z:oA c j.who j.n:=by have:=(m.port j.who.toNat (by omega)).asks (n:=j.n) (by omega) Y (by omega);rwa [show ((j.who.toNat:Nat):Int)=j.who by omega] at this
  have bn:=(bk.left 0 (by rw[<-y];omega)).1;rw[<-y,<-T] at bn;have bo:=S0 hb B;have bp:=GK hb Z;have cr:=hb.1.1;have an: ∀r,(rv.set k r)[k]?=some r:=fun r=>by rw[bqZ (by omega)]
  obtain⟨ao,aq,ar⟩:=Z;have ct:s1.told.length<=36:=by have:=m.st.lens hb;simp only[cX] at this;omega
  obtain⟨mw,cu,bqH,bqI,bk6,bk5,bk7,bk8⟩:=g3.ex;obtain⟨mh,cw,bq,au,cx,cy,br,bs⟩:=bO4.ex;rw[bq5] at bqI au;subst bqI;subst au;refine aM.BW fun bt=> ?_;have ag: ∀k l,msk (t+k) l H1=H1:=fun k l=>BV bt (by omega);by_cases ah:0<j.left
  ·repeat' first|apply bn1<;>(simp only[go_sem,t1,bqT,ag,umS (G:=H1),umD (G:=H1),umB,bqC,W,gs,I,J,hlen,p1,p7,f];try simp (disch:=omega) only[Iw])|apply bn2 (by omega)|refine⟨by omega,?_⟩|fail
   have boT:qW i s1 k=some (.tick k):=acO ae (by rw[C];exact ah);have bPG:=L.some boT;obtain⟨s',o⟩: ∃s',s'=aR c s1 (.tick k):=⟨_,rfl⟩
   rw[<-o,show y0 s1 (.tick k)=[] from rfl,bq6] at bPG;have P:COk c s':=(by rw[o];exact o9 hb m (LM m B boT));have z:aL s' k= {v with pipe:=v.pipe.set 0 {j with left:=j.left-1}}:=(by rw[o,bO rfl (by rw[m.sl];omega),if_pos rfl,C,<-y]);have aw:=g.upd (H':=(H1.set (t+29) ⟨3,1,[eCJ j]⟩).set (p (11+k)) ⟨3,me,re.set po [cI j.who,cI j.n,cI (j.left-1)]⟩) (nx':=t+48) 14 k p s' (by omega) (g.rep.names.mono (by omega)) (fun j _=>.inl rfl) ?_ ?_ ?_ ?_ (.inr rfl) (.inl B) (fun j hj w=>by rw[o];rfl) (fun j hj w=>by rw[o,bO rfl (by rw[m.sl];omega),if_neg w]);·exact O _ _ _ (k+1,s',N,p) noF _ (by omega) (by dsimp only;omega) (by repeat' first|exact bo2|refine xqI rfl rfl ?_|refine xqP (by omega) rfl rfl ?_|fail) aK ⟨by dsimp only;omega,P,aw.1,fun id b=>(aw.2 id b).trans (F id b),bPG,by dsimp only;omega⟩
   ·intro id b h0 w;rw[aA.aC (w (11+k) (by omega) (by omega)),aA.aC (by omega)]
   ·refine⟨wc,hc,pc,vc,tc,?_,?_,?_,?_,bkU,bkV⟩;·simp only[aA.set,f,if_false];rw[bqC,o];rfl
    ·rw[o];exact g3.frame (by simp only[aA.set,f,if_false])
    ·rw[o];exact bO4.frame (by simp only[aA.set,f,if_false])
    ·rw[o];exact bPU.frame (by simp only[aA.set,f,if_false])
   ·exact⟨mp,rp,mp,rp,g1,by simp only[aA.set,f,if_false];exact g1,bp4,fun _ _ _=>rfl,fun hh=>by omega⟩
   ·refine⟨mv,rv,mv,rv,W,by simp only[aA.set,f,if_false];exact W,bp5,fun _ _ _=>rfl,fun _=>⟨_,gs,⟨po,ad,do_,dc,?_,?_,?_⟩⟩⟩;·rw[z];simp only[aj9,Y5]
    ·rw[z];refine⟨me,_,aA.bH,?_,by simpa using p3,by simp,by simpa using p5,p6⟩;rw[List.drop_set,if_neg (by omega),brJ,p2,brD];rfl
    ·rw[z];exact gd.frame (by simp only[aA.set,f,if_false])
  by_cases ax:v.done.length<2
  ·repeat' first|apply bn1<;>(simp only[go_sem,t1,bqT,ag,umS (G:=H1),umD (G:=H1),umB,bqC,W,gs,an,bq1,ab,I,J,hlen,p1,p7,f])|apply bn2 (by omega)|apply bn3 (by omega)|refine⟨by omega,?_⟩|fail
   refine HZ (q:=bT c j.who j.n) (m0:=mw) (m1:=mh) (i0:=i0) (by omega) m.atm bk7 br al bp ?_ ?_ (by simp only[aA.set,f,if_false];exact bqC) (by simp only[aA.set,f,if_false];exact bqH) (by simp only[aA.set,f,if_false];exact bq) (fun H' nx' cz bpR f2 U=> ?_);·have:=g.rep.i0.1;have:=g.rep.names.lt 0 (by omega);have:=g.rep.names.lt 1 (by omega);omega
   ·simp only[bq8,t3,bq7,or_false,not_or,f,not_false_eq_true,and_self,List.nodup_nil]
   have V: ∀a,a<19->p a<t:=g.rep.names.lt;have e3:H' (p 3)=some ⟨3,mv,rv.set k [.osl 3 (p (11+k)) (po+1) (v.pipe.length-1) (ad-1),.osl 5 (p (15+k)) do_ v.done.length dc,cI v.last]⟩:=(by rw[U _ (by have:=V 3 (by omega);omega) (by simp only[ne_eq,f,not_false_eq_true]) (by simp only[ne_eq,f,not_false_eq_true])];exact aA.bH);have ej:H' (t+29)=some ⟨3,1,[eCJ j]⟩:=(by rw[U _ (by omega) (by have:=V 0 (by omega);omega) (by have:=V 1 (by omega);omega)];simp only[aA.set,f,if_false,if_true]);have ed:H' (p (15+k))=some ⟨5,md,rd⟩:=(by rw[U _ (by have:=V (15+k) (by omega);omega) (by simp only[ne_eq,f,not_false_eq_true]) (by simp only[ne_eq,f,not_false_eq_true])];simp only[aA.set,f,if_false];exact d1);have D:=g.rep.apart (nx':=nx') [nx,nx+1] [0,1,2,3,4,11+k,15+k] (by omega) (by simp) (fun x hx=>.inl (.inr (by simpa using hx))) (by simp;omega) (by simp;omega);simp only[bQ,eZ,List.map,List.cons_append,List.nil_append] at D;simp only[go_sem,t1,bqT,msk,List.map,t3,bq7,or_false,bqU,Nat.reduceEqDiff,Nat.reduceAdd,e3,ej,ed,an,f,D,if_false,if_true,bq1];refine⟨⟨by omega,by omega⟩,by omega,fun cap ai da=> ?_⟩;obtain⟨d,aj⟩: ∃d:Job,d=⟨j.who,j.n,(doM c.map s1.words s1.holds j.who (bT c j.who j.n)).2⟩:=⟨_,rfl⟩
   have er:List.take v.done.length (List.drop do_ rd)++[cI j.who::cI j.n::tG (doM c.map s1.words s1.holds j.who (bT c j.who j.n)).snd]=(v.done++[d]).map aS:=(by rw[d2,boL (by simp),bqX,aj];rfl);have bu:[cI j.who::cI j.n::tG (doM c.map s1.words s1.holds j.who (bT c j.who j.n)).snd]=[aS d]:=(by rw[aj];rfl);rw[er,bu];repeat' first|apply bn1<;>(simp only[go_sem,t1,bqT,ej,f,D])|fail
   obtain⟨E,R⟩: ∃E,E=put p (15+k) (t+80):=⟨_,rfl⟩
   have S: ∀j,j≠15+k->E j=p j:=fun j h1=>by rw[R,jE h1]
   have ay:E (15+k)=t+80:=(by rw[R,t8]);have boT:qW i s1 k=some (.work k):=adE ae (by rw[C];exact ah) (by rw[<-y];exact ax);have bPG:=L.some boT;obtain⟨s',o⟩: ∃s',s'=aR c s1 (.work k):=⟨_,rfl⟩
   rw[<-o,show y0 s1 (.work k)=[⟨2,j.who,j.n⟩] from by rw[<-C];rfl] at bPG;have P:COk c s':=(by rw[o];exact o9 hb m (LM m B boT));have z:aL s' k= {v with pipe:=v.pipe.drop 1,done:=v.done++[d]}:=(by rw[o,bO rfl (by rw[m.sl];omega),if_pos rfl,C,<-y,aj];unfold jD;rw[C]);have bw:s'.words=(doM c.map s1.words s1.holds j.who (bT c j.who j.n)).1.1:=(by rw[o,<-C];rfl);have bx:s'.holds=(doM c.map s1.words s1.holds j.who (bT c j.who j.n)).1.2:=(by rw[o,<-C];rfl);have bz:s'.words.length=s1.words.length:=(by obtain⟨h1,_⟩:=P.atm;obtain⟨h2,_⟩:=m.atm;omega);have ca:s'.holds.length=s1.holds.length:=(by obtain⟨_,_,h1,_⟩:=P.atm;obtain⟨_,_,h2,_⟩:=m.atm;omega);rw[<-bw] at bpR;rw[<-bx] at f2;have az:s'.told=s1.told:=(by rw[o];rfl);have bO5: ∀id,id<t->id≠p 0->id≠p 1->id≠p 3->H' id=H1 id:=fun id e boU e1 e3=>by rw[U id (by omega) boU e1,aA.aC e3,aA.aC (by omega)]
   refine acI (g.upd 14 k E s' (by omega) ?_ ?_ ?_ ?_ ?_ ?_ (.inr rfl) (.inl B) (fun j hj w=>by rw[o];rfl) (fun j hj w=>by rw[o,bO rfl (by rw[m.sl];omega),if_neg w])) (by omega) fun H2 db hx cb cc=> ?_
   ·rw[R];have cd: ∀v,t<=v->¬((X v\/v=nx\/v=nx+1)\/v=bO6):=fun v hv V=>by have:=g.rep.x v V;omega
    exact g.rep.names.put (by omega) (by omega) (cd _ (by omega))
   ·intro j hj;by_cases k9:j=15+k;·subst k9;exact .inr ⟨.inr (.inr (.inr (.inr rfl))),by omega⟩
    ·exact .inl (S j k9)
   ·intro id b h0 w;have e3:=w 3 (by omega) (by omega);simp only[aA.set,aA.del,e3,w (15+k) (by omega) (by omega),show ¬id=t+79 by omega,show ¬id=t+80 by omega,if_false];exact bO5 id b (w 0 (by omega) (by omega)) (w 1 (by omega) (by omega)) e3
   ·refine⟨wc,hc,pc,vc,tc,?_,?_,?_,?_,bkU,bkV⟩;·simp only[aA.set,aA.del,f,D,if_false,U2,S 0 (by omega),S 1 (by omega),S 2 (by omega),S 3 (by omega),S 4 (by omega),bz,ca,az];rw[bO5 i0 (by have:=g.rep.i0.1;omega) (by simp only[ne_eq,f,not_false_eq_true]) (by simp only[ne_eq,f,not_false_eq_true]) (by simp only[ne_eq,f,not_false_eq_true])];exact bqC
    ·rw[S 0 (by omega)];exact⟨mw,s'.words.map aJ,by simp only[aA.set,aA.del,f,D,if_false];exact bpR,rfl,by simp,by simp,by omega,bk8⟩
    ·rw[S 1 (by omega)];exact⟨mh,s'.holds.map aJ,by simp only[aA.set,aA.del,f,D,if_false];exact f2,rfl,by simp,by simp,by omega,bs⟩
    ·rw[S 4 (by omega),az];apply bPU.frame;simp only[aA.set,aA.del,f,D,if_false];exact bO5 _ (V 4 (by omega)) (by simp only[ne_eq,f,not_false_eq_true]) (by simp only[ne_eq,f,not_false_eq_true]) (by simp only[ne_eq,f,not_false_eq_true])
   ·refine⟨mp,rp,mp,rp,g1,?_,bp4,fun _ _ _=>rfl,fun hh=>by omega⟩;simp only[aA.set,aA.del,f,D,if_false];rw[bO5 _ (V 2 (by omega)) (by simp only[ne_eq,f,not_false_eq_true]) (by simp only[ne_eq,f,not_false_eq_true]) (by simp only[ne_eq,f,not_false_eq_true])];exact g1
   ·refine⟨mv,_,mv,rv,W,aA.bH,by simp only[Y5,bp5],fun j hj w=>by rw[bq0 (Ne.symm w)],fun _=>⟨_,bqZ (by omega),⟨po+1,ad-1,0,cap,?_,?_,?_⟩⟩⟩;·rw[z,S (11+k) (by omega),ay];simp only[aj9,CI,t2,List.length_singleton]
    ·rw[z,S (11+k) (by omega)];refine⟨me,re,?_,by rw[brE,<-p2,Y2],?_,by simp,?_,?_⟩;·simp only[aA.set,aA.del,f,D,if_false];rw[bO5 _ (V (11+k) (by omega)) (by simp only[ne_eq,f,not_false_eq_true]) (by simp only[ne_eq,f,not_false_eq_true]) (by simp only[ne_eq,f,not_false_eq_true])];exact p1
     ·simp only[CI];omega
     ·simp only[CI];omega
     ·omega
    ·rw[z,ay];refine⟨cap,(v.done++[d]).map aS,by simp only[aA.set,aA.del,f,if_false,if_true],rfl,by simp,by simp,by simpa using ai,by simp⟩
   ·simp only[go_sem];repeat' first|apply bn1<;>(simp only[go_sem];try simp (disch:=omega) only[Iw])|fail
    exact O _ _ _ (k+1,s',N++[⟨2,j.who,j.n⟩],E) noF _ (by omega) (by dsimp only;omega) (by repeat' first|exact bo2|refine xqI rfl rfl ?_|refine xqP (by omega) rfl rfl ?_|fail) aK ⟨by dsimp only;omega,P,cb.mono (by omega),fun id b=>(cc id b).trans (F id b),bPG,by simp;omega⟩
  ·repeat' first|apply bn1<;>(simp only[go_sem,t1,bqT,ag,umS (G:=H1),umD (G:=H1),umB,bqC,W,gs,I,J,hlen,p1,p7,f];try simp (disch:=omega) only[Iw])|apply bn2 (by omega)|apply bn3 (by omega)|refine⟨by omega,?_⟩|fail
   have boT:=ae2 ae (by rw[C];exact ah) (by rw[<-y];exact ax);refine O _ _ _ (k+1,s1,N,p) noF _ (by omega) (by dsimp only;omega) (by repeat' first|exact bo2|refine xqI rfl rfl ?_|refine xqP (by omega) rfl rfl ?_|fail) aK ⟨by dsimp only;omega,m,g.next (by omega) (fun id h1 h2=>by rw[aA.aC (by omega)]) fun id b=>⟨?_,.inl b⟩,fun id b=> ?_,L.none boT,by dsimp only;omega⟩;·have:=g.rep.x id (.inl b);omega
   ·have:=g.rep.x id (.inl b);rw[aA.aC (by omega)];exact F id b
 ·repeat' first|apply bn1<;>(simp only[go_sem])|apply bn3 (by omega)|fail
  have cf:k=4:=by omega
  subst cf;obtain⟨rfl,rfl⟩:=vU.nil aa;refine hQ _ _ _ _ _ (.inl rfl) rfl (h _ _ p (by omega) (g.next (by omega) (fun _ _ _=>rfl) fun id b=>⟨?_,.inl (.inl b)⟩) fun id b=> ?_);·have:=hB.rep.x id (.inl b);omega
  ·have:=hB.rep.x id (.inl b);rw[F id (.inl b),M,aA.aC (by omega),aA.aC (by omega)]
end
end Go.Proofs.YtlncecohbakleaaGreat
