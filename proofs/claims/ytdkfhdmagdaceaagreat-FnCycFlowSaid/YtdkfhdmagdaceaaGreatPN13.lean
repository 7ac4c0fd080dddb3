/- Texts laid together by a program: rules, contracts and the walk that leads to the law. -/
import Derived.Test.YtdkfhdmagdaceaaGreatPN5
import Derived.Test.YtdkfhdmagdaceaaGreatPN11
import Derived.Test.YtdkfhdmagdaceaaGreatPN10
import Derived.Test.YtdkfhdmagdaceaaGreatPN7
import Derived.Test.YtdkfhdmagdaceaaGreatPN8
import Derived.Test.YtdkfhdmagdaceaaGreatPN9
set_option linter.unusedVariables false
set_option linter.unusedSimpArgs false
set_option linter.unusedSectionVars false
set_option maxRecDepth 100000
set_option maxHeartbeats 8000000
namespace Go.Proofs.YtdkfhdmagdaceaaGreat
open Go Go.AM
attribute [local irreducible] aM wv aB vd wvH
theorem FD:cJ Tryz.prog eC Tryz.f273 mR uC:=cJ.mk Tryz.func273 (by kernel_rfl) FN
section
variable {H : aA} {nx : Nat} {K : D → aA → Nat → Prop}
theorem HH {Y:Nat→Prop} {i1:Nat} {es:List Ev} {kind who n:Int} (u:aiW Y H nx i1 es) (hl:es.length<1000)
 (h: ∀H' nx',nx≤nx'→aiW Y H' nx' i1 (es++[⟨kind,who,n⟩])→(∀id,Y id→H' id=H id)→K (.tup []) H' nx'):aB Tryz.prog eC [.one (.c (.ptr 5 i1 0 0)),boP kind,boP who,boP n] H nx K:=by
 obtain⟨⟨d,a,b,c,e,q,v⟩,⟨C,i⟩,g⟩:=u
 have r: ∀k,(i1=nx+k)=False:=fun k=>eq_false (by omega)
 have j: ∀k,(nx+k=i1)=False:=fun k=>eq_false (by omega)
 refine FD rfl fun Q s=> ?_
 unfold mR
 rcases v with⟨rfl,rfl⟩|⟨ev,cap,rfl,⟨m,rows,w,t,D,E,F,bkU⟩,bkV,bp4,bp5⟩
 ·repeat' first|apply bn1<;>(simp only[go_sem,q,r,j])| (with_reducible first|refine fun(cap:Nat) (f:_≤cap)=> ?_|refine fun(l:_≤cap)=> ?_)|fail
  refine s _ _ _ _ _ (.inl rfl) rfl (h _ _ (by omega) ⟨⟨_,a,b,c,e,by simp only[aA.set,if_true];rfl,.inr ⟨nx+10,cap,rfl,⟨_,_,by simp only[aA.set,j,if_false,if_true];rfl,rfl,by simp,by simp,by simpa using f,by simp⟩,by omega,fun o=>by have:=g _ o;omega,by omega⟩⟩,⟨by omega,i⟩,fun id hi=>by have:=g id hi;omega⟩ fun id hi=> ?_);have boU:=g id hi;have p:id≠i1:=fun he=>i (he▸hi);simp only[aA.set,p,show ¬id=nx+9 by omega,show ¬id=nx+10 by omega,if_false]
 ·have x: ∀k,(ev=nx+k)=False:=fun k=>eq_false (by omega);have y: ∀k,(nx+k=ev)=False:=fun k=>eq_false (by omega);have z:=eq_false bp5;have A:=eq_false (Ne.symm bp5);rw[bq5] at t;subst t;repeat' first|apply bn1<;>(simp only[go_sem,q,r,j,x,y,z,A,w])| (with_reducible first|refine fun(cap:Nat) (f:_≤cap)=> ?_|refine fun(l:_≤cap)=> ?_)|refine⟨by omega,?_⟩|fail
  refine s _ _ _ _ _ (.inl rfl) rfl (h _ _ (by omega) ⟨⟨_,a,b,c,e,by simp only[aA.set,if_true];rfl,.inr ⟨nx+10,cap,by simp,⟨_,_,by simp only[aA.set,j,if_false,if_true];rfl,by simp[eEv],by simp,by simp,by simpa using f,by simp⟩,by omega,fun o=>by have:=g _ o;omega,by omega⟩⟩,⟨by omega,i⟩,fun id hi=>by have:=g id hi;omega⟩ fun id hi=> ?_);have boU:=g id hi;have p:id≠i1:=fun he=>i (he▸hi);have B:id≠ev:=fun he=>bp4 (he▸hi);simp only[aA.set,aA.del,p,B,show ¬id=nx+9 by omega,show ¬id=nx+10 by omega,if_false]
theorem arG {X:Nat→Prop} {i0 i1:Nat} {nm:Nat→Nat} {s:CSt} {es:List Ev} {kind who n:Int} (hB:l9 X H nx i0 i1 nm s es) (hl:es.length<1000)
 (h: ∀H' nx',nx≤nx'→l9 X H' nx' i0 i1 nm s (es++[⟨kind,who,n⟩])→(∀id,X id→H' id=H id)→K (.tup []) H' nx'):aB Tryz.prog eC [.one (.c (.ptr 5 i1 0 0)),boP kind,boP who,boP n] H nx K:=by
 refine HH hB.hap hl fun H' nx' e hc b=>h H' nx' e ⟨hB.rep.frame e (b _ (.inr (.inl rfl))) (fun k d=>b _ (.inr (.inr ⟨k,d,rfl⟩))) fun id a=>⟨?_,fun he=>hB.rep.i0.2 (he▸a),fun k d he=>hB.rep.names.av k d (he▸a)⟩,hc⟩ fun id a=>b id (.inl a)
 have:=hB.rep.x id a;omega
theorem acI {X:Nat→Prop} {H0:aA} {i0 i1:Nat} {nm:Nat→Nat} {s:CSt} {es:List Ev} {kind who n:Int} (hB:l9 X H nx i0 i1 nm s es∧ ∀id,X id→H id=H0 id) (hl:es.length<1000)
 (h: ∀H' nx',nx≤nx'→l9 X H' nx' i0 i1 nm s (es++[⟨kind,who,n⟩])→(∀id,X id→H' id=H0 id)→K (.tup []) H' nx'):aB Tryz.prog eC [.one (.c (.ptr 5 i1 0 0)),boP kind,boP who,boP n] H nx K:=
 arG hB.1 hl fun H' nx' b d e=>h H' nx' b d fun id a=>(e id a).trans (hB.2 id a)
theorem p9 (l:List fC) (f:FuncId) (caps:List D1) (p:fC→Bool) (hl:l.length<2^40) (hc:caps.all D1.dQ=true) (j: ∀x∈l,∀(H:aA) (nx:Nat) (K:D→aA→Nat→Prop),K (dB (p x)) H nx→aB Tryz.prog f (boR (eCJ x)::caps.map fun d=>.one (.c d)) H nx K):
 aB Tryz.prog bZ [dS (l.map eCJ),.one (.c (.clo f caps))] .nil 0 fun r _ _=>r.plain=true∧r=boP (bK p l):=by
 refine pH rfl fun Q g=> ?_
 unfold eU
 repeat' first|apply bn1<;>(simp only[go_sem])|fail
 (refine aM.loop (α:={k:Nat//k≤l.length∧(∀i,i<k→p (l.getD i default)=false)}) (fun u=>en [(8,boP u.1),(7,boP l.length),(1,.one (.c (.clo f caps))),(0,dS (l.map eCJ))]) (fun _=>.nil) _ (fun u=>l.length-u.1) ⟨0,by omega,(by intros;first|trivial|omega)⟩ (bU (m5 _) (by repeat' first|exact bo2|refine xqI rfl rfl ?_| (with_reducible apply bo3)| ((with_reducible apply bo0);exact bpG (by assumption))| ((with_reducible apply bo1);apply bo7)|fail)) ?_);(rintro⟨k,m,hinv⟩ bpQ b)
 by_cases e:k<l.length
 ·have a:l.getD k default∈l:=by simp[List.getD,e]
  repeat' first| (first|apply bn1|apply j _ a _ _ _)<;>(simp only[go_sem];try simp (disch:=omega) only[Iw])|apply bn2 (by omega)| ((refine bnF (fun h=> ?_) (fun h=> ?_))<;>try subst h)|refine⟨by omega,?_⟩|fail
  ·refine aZ g _ rfl rfl (qA (bq3 (CU (by omega) (by assumption) hinv)))
  · (refine b _ _ _ ⟨k+1,by omega,iS hinv (by assumption)⟩ (by omega) (by(try dsimp only);omega) (bU (m5 _) (by repeat' first|exact bo2|refine xqI rfl rfl ?_| (with_reducible apply bo3)| ((with_reducible apply bo0);exact bpG (by assumption))| ((with_reducible apply bo1);apply bo7)|fail)))
 ·repeat' first|apply bn1<;>(simp only[go_sem])|apply bn3 (by omega)|fail
  ·refine aZ g _ rfl rfl (qA (bq3 (tI fun i hi=>hinv i (by omega))))
theorem iY {l:List fC} {f:FuncId} {caps a:List D1} {p:fC→Bool} {d:D} (hl:l.length<2^40) (hc:caps.all D1.dQ=true) (b:CvD H (fun _=>True) id 0 (dS (l.map eCJ)) d) (e:CvD H (fun _=>True) id 0 (.one (.c (.clo f caps))) (.one (.c (.clo f a)))) (g: ∀x∈l,∀(H:aA) (nx:Nat) (K:D→aA→Nat→Prop),K (dB (p x)) H nx→aB Tryz.prog f (boR (eCJ x)::caps.map fun d=>.one (.c d)) H nx K)
 (h:K (boP (bK p l)) H nx):aB Tryz.prog bZ [d,.one (.c (.clo f a))] H nx K:=
 (p9 l f caps p hl hc g).pure rfl (aI ⟨b,e,trivial⟩) fun r hr=>hr▸h
theorem n4 (l:List fC) (f:FuncId) (caps:List D1) (p:fC→Bool) (hl:l.length<2^40) (hc:caps.all D1.dQ=true) (a: ∀x∈l,∀(H:aA) (nx:Nat) (K:D→aA→Nat→Prop),K (dB (p x)) H nx→aB Tryz.prog f (boR (eCJ x)::caps.map fun d=>.one (.c d)) H nx K):
 aB Tryz.prog cM [dS (l.map eCJ),.one (.c (.clo f caps))] .nil 0 fun r _ _=>r.plain=true∧r=dB (decide (0≤bK p l)):=by
 refine nD rfl fun Q b=> ?_
 unfold dY
 repeat' first| (first|apply bn1|refine iY hl hc (aE rfl) (kC hc) a ?_)<;>(simp only[go_sem])|fail
 all_goals exact aZ b _ rfl rfl rfl
theorem nR {l:List fC} {f:FuncId} {caps a:List D1} {p:fC→Bool} {d:D} (hl:l.length<2^40) (hc:caps.all D1.dQ=true) (b:CvD H (fun _=>True) id 0 (dS (l.map eCJ)) d) (e:CvD H (fun _=>True) id 0 (.one (.c (.clo f caps))) (.one (.c (.clo f a)))) (g: ∀x∈l,∀(H:aA) (nx:Nat) (K:D→aA→Nat→Prop),K (dB (p x)) H nx→aB Tryz.prog f (boR (eCJ x)::caps.map fun d=>.one (.c d)) H nx K)
 (h:K (dB (decide (0≤bK p l))) H nx):aB Tryz.prog cM [d,.one (.c (.clo f a))] H nx K:=
 (n4 l f caps p hl hc g).pure rfl (aI ⟨b,e,trivial⟩) fun r hr=>hr▸h
theorem QZ {j:fC} {n:Int} (h:K (dB (isC n j)) H nx):aB Tryz.prog rQ [boR (eCJ j),.one (.c (.fQ [cI n]))] H nx K:=by
 refine aB.pure (args0:=[boR (eCJ j),.one (.c (.fQ [cI n]))]) (R:=fun a=>a=dB (isC n j)) ?_ rfl (aI ⟨aE rfl,aE rfl,trivial⟩) (fun r hr=>hr▸h);clear h;refine OM rfl fun Q b=> ?_;unfold vD;repeat' first|apply bn1<;>(simp only[go_sem])|fail
 all_goals first|with_reducible refine aZ b _ rfl rfl ?_|skip
 all_goals first|exact pD (by omega)|exact q9 (by omega)|exact j7 (by omega)|rfl
theorem KT {p:fR} {n:Int} (hl:p.out.length<2^40) {b:D} (a:CvD H (fun _=>True) id 0 (boR (cD p)) b) (h:K (boP (bK (isC n) p.out)) H nx):aB Tryz.prog kV [b,boP n] H nx K:=by
 refine aB.pure (args0:=[boR (cD p),boP n]) (R:=fun c=>c=boP (bK (isC n) p.out)) ?_ rfl (aI ⟨a,aE rfl,trivial⟩) (fun r hr=>hr▸h);clear h;refine UN rfl fun Q d=> ?_;unfold AR;repeat' first| (first|apply bn1|refine iY (l:=p.out) (caps:=[.fQ [cI n]]) (p:=isC n) hl rfl (aE rfl) (PR ⟨zE rfl trivial rfl rfl rfl,trivial⟩) (fun x _ H nx K h=>QZ h) ?_)<;>(simp only[go_sem])|fail
 all_goals first|with_reducible refine aZ d _ rfl rfl ?_|skip
 all_goals first|rfl|exact qA (by omega)
theorem DE {m:List Rng} {q:Req} (hl:m.length<2^40) (h:K (boP (gZ m q)) H nx):aB Tryz.prog rN [dS (m.map eN),boR (eB q)] H nx K:=by
 refine aB.pure (args0:=[dS (m.map eN),boR (eB q)]) (R:=fun a=>a=boP (gZ m q)) ?_ rfl (aI ⟨aE rfl,aE rfl,trivial⟩) (fun r hr=>hr▸h);clear h;refine UU rfl fun Q b=> ?_;unfold z2;have c:bV m (bE q.addr q.many q.wrap)<m.length:=by have d:=PQ (p:=(inR · ((bE q.addr q.many q.wrap).getD 0 default))) (l:=m);unfold bV;grind
 repeat' first| (first|apply bn1|apply KD hl)<;>(simp only[go_sem])|refine bnE (fun h=> ?_) fun h=> ?_|refine⟨by omega,?_⟩|fail
 all_goals first|with_reducible refine aZ b _ rfl rfl ?_|skip
 all_goals first|exact qA (by unfold gZ;rw[if_pos (by omega)])|exact qA (by unfold gZ;rw[if_neg (by omega)])
theorem EP {c:Cfg} {who:Nat} {st:Nat} {i:Int} {j:fC} (hp:c.cP.length=3) (a:oA c who j.n) (h:K (dB (decide ((bT c who j.n).id=i∧ ¬j.left=st))) H nx):aB Tryz.prog iW [boR (eCJ j),.one (.c (.fQ (cU c))),.one (.c (.fQ [cI who])),.one (.c (.fQ [cI i])),.one (.c (.fQ [cI st]))] H nx K:=by
 refine aB.pure (args0:=[boR (eCJ j),.one (.c (.fQ (cU c))),.one (.c (.fQ [cI who])),.one (.c (.fQ [cI i])),.one (.c (.fQ [cI st]))]) (R:=fun b=>b=dB (decide ((bT c who j.n).id=i∧ ¬j.left=st))) ?_ rfl (aI ⟨aE rfl,aE rfl,aE rfl,aE rfl,aE rfl,trivial⟩) (fun r hr=>hr▸h);clear h;refine CY rfl fun Q d=> ?_;unfold kX;repeat' first| (first|apply bn1|refine bpL (fun h=> ?_) fun h=> ?_|apply iJ hp a)<;>(simp only[go_sem])|fail
 all_goals first|with_reducible refine aZ d _ rfl rfl ?_|skip
 all_goals first|exact pD (by omega)|exact q9 (by omega)|exact j7 (by omega)|rfl
theorem vW {c:Cfg} {s:CSt} {who:Nat} {st:Nat} (m:aQ c) (hs:COk c s) (hw:who<3) (u:st<4) {o:D} (g:CvD H (fun _=>True) id 0 (.one (.c (.fQ (eI s)))) o) (h:K (dB (decide (HV c s who st))) H nx):aB Tryz.prog j8 [o,boR (cU c),boP who,boP st] H nx K:=by
 refine aB.pure (args0:=[.one (.c (.fQ (eI s))),boR (cU c),boP who,boP st]) (R:=fun v=>v=dB (decide (HV c s who st))) ?_ rfl (aI ⟨g,aE rfl,aE rfl,aE rfl,trivial⟩) (fun r hr=>hr▸h);clear h;refine FT rfl fun Q w=> ?_;unfold mN;obtain⟨d,i⟩:=hC m;have q:=i who;have y:=m.1.1;have z:=hs.pl;have a:=hs.port who hw;obtain⟨p,b⟩: ∃p,p=s.bM.getD who default:=⟨_,rfl⟩
 have e:HV c s who st=(0<p.queue.length∧p.out.length<4∧gZ c.map (bT c who (p.queue.getD 0 default))=st∧ ∀j∈p.out,(bT c who j.n).id=(bT c who (p.queue.getD 0 default)).id→j.left=st):=by subst b;rfl
 rw[show aF s who=p from b.symm] at a;obtain⟨A,B⟩:=a.next;obtain⟨C,E⟩:=a.ql;have F:=a.queue 0;have G:=a.ol;repeat' first| (first|apply bn1|refine bpL (fun h=> ?_) fun h=> ?_|apply DE (by omega)|apply iJ d (a.asks hw (by omega) (by omega))| (refine nR (l:=p.out) (caps:=[.fQ (cU c),.fQ [cI who],.fQ [cI (bT c who (p.queue.getD 0 default)).id],.fQ [cI st]]) (p:=fun j=>decide ((bT c who j.n).id=(bT c who (p.queue.getD 0 default)).id∧ ¬j.left=st)) (by omega) rfl (aE rfl) (PR ⟨zE rfl trivial rfl rfl rfl,zE rfl trivial rfl rfl rfl,zE rfl trivial rfl rfl rfl,zE rfl trivial rfl rfl rfl,trivial⟩) (fun x t H nx K h=>EP d (a.asks hw (a.out x t).2.1.1 (by have:=(a.out x t).2.1.2;omega)) h) ?_))<;>(simp only[go_sem,b.symm])|refine bnE (fun h=> ?_) fun h=> ?_|refine⟨by omega,?_⟩|fail
 all_goals first|with_reducible refine aZ w _ rfl rfl ?_|skip
 all_goals have hr:gZ c.map (List.getD (c.cP.getD who default) (p.queue.getD 0 default).toNat default)=gZ c.map (bT c who (p.queue.getD 0 default)):=rfl
 ·exact j7 (by rw[e];omega)
 ·exact j7 (by rw[e];omega)
 ·exact j7 (by rw[e];omega)
 ·apply pD;rw[e,cH];refine⟨fun h=>⟨by omega,by omega,by omega,fun j k hi=>Classical.byContradiction fun I=>h ⟨j,k,decide_eq_true ⟨hi,I⟩⟩⟩,fun h ⟨j,k,f⟩=> ?_⟩;have f:=of_decide_eq_true f;exact f.2 (h.2.2.2 j k f.1)
end
theorem XO {τ:Nat→Nat} {n m:Nat} {l:List fC}:bA.rn τ ⟨n,m,l.map eCJ⟩=⟨n,m,l.map eCJ⟩:=by refine rF fun r hr x a=> ?_;obtain⟨y,_,rfl⟩:=CF.1 hr;exact w2.1 (yK y).2 x a
section
variable {H : aA} {nx : Nat} {K : D → aA → Nat → Prop}
theorem ag9 {l:List fC} {a:Nat} {z:List D1} (b:a<l.length):wr ((l.take a).map eCJ++(l.drop (a+1)).map eCJ) (l.length-1) (List.replicate (l.length-(l.length-1)) z)=(B3 l a).map eCJ++[z]:=by
 have c:(l.take a).map eCJ++(l.drop (a+1)).map eCJ=(B3 l a).map eCJ:=by simp[B3]
 have d:((B3 l a).map eCJ).length=l.length-1:=by have:=RP b;simp;omega
 have e:l.length-(l.length-1)=1:=by omega
 rw[c,e,List.replicate_one];unfold wr;have f:List.drop (l.length-1+[z].length) ((B3 l a).map eCJ)=[]:=brZ (by simp at d ⊢;omega);rw[f,boL (by omega),bq6]
theorem sP (l:List fC) (a cap m:Nat) (hl:l.length<2^21) (c:a<l.length) (hc:l.length≤cap) (f:cap≤m):
 aB Tryz.prog eA [boQ 3 0 l.length cap,boP a,boP (a+1)] (hp [(0,⟨3,m,l.map eCJ⟩)]) 1
 fun r H' g=>∃b d,(B3 l a).length≤b∧b≤d∧g=2∧H'=hp [(1,⟨3,d,(B3 l a).map eCJ⟩)]∧r=boQ 3 1 (B3 l a).length b:=by
 refine rZ rfl fun Q h=> ?_
 unfold fW
 have i:((a:Int)+1).toNat=a+1:=by omega
 have j:a+(l.length-(a+1))=l.length-1:=by omega
 have k:(a+1+(l.length-(a+1))≤l.length)=True:=eq_true (by omega)
 have n:List.take (l.length-(a+1)) (List.drop (a+1) l)=List.drop (a+1) l:=boL (by simp)
 have bm9:(List.drop (a+1) l).length=l.length-(a+1):=CI
 have o:=RP c
 repeat' first|apply bn1<;>(simp only[go_sem,i,j,k,n,bm9])|apply bn3 (by omega)| (with_reducible first|refine fun(cap:Nat) (e:_≤cap)=> ?_|refine fun(p:_≤cap)=> ?_)|refine⟨by omega,?_⟩| (refine⟨by(rw[CG];omega),?_⟩)|fail
 (refine h _ _ _ _ _ 2 (boQ 3 1 (B3 l a).length cap) (hp [(1,⟨3,cap,(B3 l a).map eCJ⟩)]) _ _ (.inr rfl) rfl (fU [20,0] (by omega) (by repeat' first|exact bo2| ((with_reducible apply bo0);exact bpB (by omega) rfl rfl (by first|rfl|omega) rfl)| ((with_reducible apply bo1);apply bo7)|fail) ⟨⟨by simp,by simp[sgL],_,rfl,anJ (junk:=[[cI 0,cI 0,cI 0]]) (fun r hr=>(aG yK _ r hr).2) (ag9 c) rfl (by decide)⟩,trivial⟩ (by simp[sgL])) ?_)
 exact⟨cap,cap,by omega,m5 _,rfl,rfl,rfl⟩
theorem tK {l:List fC} {z:Int} {cap m i0:Nat} (hl:l.length<2^21) (p: ¬z<0) (f:z.toNat<l.length) (hc:l.length≤cap) (d:cap≤m) (q:i0<nx) (g:H i0=some ⟨3,m,l.map eCJ⟩)
 (h: ∀b c,(B3 l z.toNat).length≤b→b≤c→K (boQ 3 nx (B3 l z.toNat).length b) ((H.del i0).set nx ⟨3,c,(B3 l z.toNat).map eCJ⟩) (nx+1)):
 aB Tryz.prog eA [boQ 3 i0 l.length cap,boP z,boP (z+1)] H nx K:=by
 obtain⟨a,rfl⟩: ∃a:Nat,z=a:=⟨z.toNat,by omega⟩
 refine(sP l a cap m hl f hc d).AF [i0] rfl ⟨qS (by simp) rfl rfl rfl rfl,aE rfl,aE rfl,trivial⟩
  ⟨⟨by simp,id,_,g,bP (aG yK _) rfl rfl⟩,trivial⟩ (by simp) (by simp;omega) (by simp) fun r H' s _ ⟨b,c,bqB,i,j,k,n⟩=> ?_
 simp only[Int.toNat_natCast] at h
 have h:=h b c bqB i
 subst j;subst k;subst n
 generalize B3 l a=e at*
 have o:back (tau 1 nx (nth [i0])) (hp [(1,⟨3,c,e.map eCJ⟩)]) 2 H=(H.del i0).set nx ⟨3,c,e.map eCJ⟩:=by simp[back,hp,aA.set,aA.nil,tau,nth,uB,XO,aA.eL,aA.yI]
 rw[←o] at h
 exact h
end
theorem HR:cJ Tryz.prog pL Tryz.f173 nS vR:=cJ.mk Tryz.func173 (by kernel_rfl) HL
theorem fZ {H:aA} {e:Env} {t n id m:Nat} {cs:List D1} (he:e t= .one (.c (.ptr n id 0 0))) (a:H id=some ⟨n,m,[cs]⟩) (hl:cs.length=n):yT H e [.cell t n true]=some (boR cs):=by subst hl;simp[yT,VP,he,tT,a,mkV]
theorem PU {nx i:Nat} {H:aA}:CvX (fun j=>j=i) nx H (H.del i):=fun j o' a=>by
 simp only[aA.del] at a;split at a;·cases a
 ·exact⟨by assumption,o',a,.inl rfl⟩
section
variable {H : aA} {nx : Nat} {K : D → aA → Nat → Prop}
theorem HZ {m:List Rng} {w e:List Int} {who:Int} {q:Req} {c0 c1 m0 m1 i0 i1 g:Nat} {x y z:D1} (bg:m.length<2^21) (hf:WK w e) (bh:w.length≤c0) (bj:e.length≤c1) (hw:0≤who∧who≤2) (hq:dH q)
 (ai:i0<nx∧i1<nx∧g<nx) (hd:[i0,i1,g].Nodup) (M:H i0=some ⟨5,1,[[.osl 1 i1 0 w.length c0,.osl 1 g 0 e.length c1,x,y,z]]⟩) (E:H i1=some ⟨1,m0,w.map aJ⟩) (G:H g=some ⟨1,m1,e.map aJ⟩)
 (A: ∀H' nx',nx≤nx'→H' i1=some ⟨1,m0,(doM m w e who q).1.1.map aJ⟩→H' g=some ⟨1,m1,(doM m w e who q).1.2.map aJ⟩→(∀id,id<nx→id≠i1→id≠g→H' id=H id)→K (boR (tG (doM m w e who q).2)) H' nx'):
 aB Tryz.prog pL [.one (.c (.ptr 5 i0 0 0)),dS (m.map eN),boP who,boR (eB q)] H nx K:=by
 obtain⟨bk,aj,bm,bn⟩:=hf
 obtain⟨bo,bp,X,Y,Z,aa,ak,bq⟩:=hq
 have br:=DF X
 have bs:=ai5 X
 have bt:=MK (addr:=q.addr) (many:=q.many) (wrap:=q.wrap)
 have ab:All (bE q.addr q.many q.wrap) 0 63:=V1
 have al:=PQ (p:=(inR · ((bE q.addr q.many q.wrap).getD 0 default))) (l:=m)
 have bu:bV m (bE q.addr q.many q.wrap)<m.length:=by unfold bV;grind
 have an:wrM q=true→q.data.length=(bE q.addr q.many q.wrap).length∧q.g6.length=(bE q.addr q.many q.wrap).length:=by intro h;unfold wrM at h;unfold n5 at Y Z;simp at h;simp only[h,if_true] at Y Z;omega
 have N:=W4 (q:=q)
 apply aB.tW
 refine HR rfl fun Q V=> ?_
 unfold nS
 generalize b:bE q.addr q.many q.wrap=all at*
 have B: ∀{H:aA} {nx:Nat} {K:D→aA→Nat→Prop},K (boP (bV m all)) H nx→aB Tryz.prog mZ [dS (m.map eN),boR (eB q)] H nx K:=fun h=>KD (by omega) (by rw[b];exact h)
 have ad: ∀{H:aA} {nx:Nat} {K:D→aA→Nat→Prop},K (dS (all.map aJ)) H nx→aB Tryz.prog fP [boR (eB q)] H nx K:=fun h=>vY (by rw[b];exact h)
 have u:bQ nx [i0,i1,g]:=AM.apart hd (by simp;omega)
 simp only[bQ,eZ] at u
 simp only[bq8,t3,bq7,or_false,not_or] at hd
 by_cases ae:bV m all<0
 ·rw[alZ (by rw[b];exact ae)] at A;repeat' first| (first|apply bn1|apply B)<;>(simp only[go_sem,t1,bqT,M,E,G,u];try simp (disch:=omega) only[Iw])|apply bn2 (by omega)|refine⟨by omega,?_⟩|fail
  refine V _ _ _ _ _ (.inr rfl) (fZ rfl (by simp only[aA.set,if_true];rfl) rfl) ⟨boR (tG ⟨q.id,4,[]⟩),_,noF,by repeat' first|exact bo2| (with_reducible first|exact bo4|apply bo5)| ((with_reducible apply bo0);first|exact bo9 rfl|exact bpE)| ((with_reducible apply bo1);apply bo6)|apply bo5|fail,aK,A _ _ (by omega) ?_ ?_ fun id boU n W=> ?_⟩;·simp only[aA.set,u,if_false];exact E
  ·simp only[aA.set,u,if_false];exact G
  ·simp only[aA.set,show ¬id=nx by omega,show ¬id=nx+1 by omega,show ¬id=nx+9 by omega,if_false]
 have v: ¬bV m (bE q.addr q.many q.wrap)<0:=by rw[b];exact ae
 by_cases i:wrM q=true
 ·obtain⟨bw,bx⟩:=an i;by_cases h3:(m.getD (bV m all).toNat default).only=true
  ·rw[anB v i (by rw[b];exact h3)] at A;repeat' first| (first|apply bn1|apply B|apply gH)<;>(simp only[go_sem,t1,bqT,M,E,G,u,i,h3];try simp (disch:=omega) only[Iw])|apply bn3 (by omega)|refine⟨by omega,?_⟩|fail
   refine V _ _ _ _ _ (.inr rfl) (fZ rfl (by simp only[aA.set,if_true];rfl) rfl) ⟨boR (tG ⟨q.id,3,[]⟩),_,noF,by repeat' first|exact bo2| (with_reducible first|exact bo4|apply bo5)| ((with_reducible apply bo0);first|exact bo9 rfl|exact bpE)| ((with_reducible apply bo1);apply bo6)|apply bo5|fail,aK,A _ _ (by omega) ?_ ?_ fun id boU n W=> ?_⟩;·simp only[aA.set,u,if_false];exact E
   ·simp only[aA.set,u,if_false];exact G
   ·simp only[aA.set,show ¬id=nx by omega,show ¬id=nx+1 by omega,show ¬id=nx+9 by omega,if_false]
  have O: ¬(m.getD (bV m (bE q.addr q.many q.wrap)).toNat default).only=true:=by rw[b];exact h3
  have af:(m.getD (bV m all).toNat default).only=false:=by simpa using h3
  by_cases h4:q.kind=4∧ ¬e.getD (who*2+q.id).toNat default=q.addr
  ·rw[aqU v O h4.1 h4.2] at A;have bz:=h4.1;have ca:=h4.2;repeat' first| (first|apply bn1|apply bpJ (by omega)|apply B|apply gH)<;>(simp only[go_sem,t1,bqT,M,E,G,u,i,af];try simp (disch:=omega) only[Iw])|apply bn2 (by omega)|apply bn3 (by omega)|refine⟨by omega,?_⟩|fail
   refine V _ _ _ _ _ (.inr rfl) (fZ rfl (by simp only[aA.set,if_true];rfl) rfl) ⟨boR (tG ⟨q.id,1,[]⟩),_,noF,by repeat' first|exact bo2| (with_reducible first|exact bo4|apply bo5)| ((with_reducible apply bo0);first|exact bo9 rfl|exact bpE)| ((with_reducible apply bo1);apply bo6)|apply bo5|fail,aK,A _ _ (by omega) ?_ ?_ fun id boU n W=> ?_⟩;·simp only[aA.set,u,if_false];exact E
   ·simp only[aA.set,u,if_false];exact G
   ·simp only[aA.set,show ¬id=nx by omega,show ¬id=nx+1 by omega,show ¬id=nx+9 by omega,if_false]
  obtain⟨code,o⟩: ∃code:Int,code=if q.kind=4 then 2 else 1:=⟨_,rfl⟩
  have bqA:doM m w e who q=((FV w all q.data q.g6 all.length,iU e all),⟨q.id,code,[]⟩):=by
   rcases N.1 i with J|J;·rw[ao1 v O J,b,o,if_neg (by omega)]
   ·rw[aoE v O J (Classical.byContradiction fun hc=>h4 ⟨J,hc⟩),b,o,if_pos J]
  rw[bqA] at A;have ao:=N.1 i;repeat' first| (first|apply bn1|refine bpL (fun h=> ?_) fun h=> ?_|apply B|apply ad|apply gH)<;>(simp only[go_sem,t1,bqT,M,E,G,u,i,af];try simp (disch:=omega) only[Iw])|apply bn2 (by omega)|apply bn3 (by omega)|refine⟨by omega,?_⟩|fail
  all_goals
   have aq:(code=2∧q.kind=4)∨(code=1∧ ¬q.kind=4):=by rw[o];split<;>simp[*]
   refine aM.gP (β:=Nat) (fun k=>en [(109,boP k),(108,boP all.length),(107,dS (all.map aJ)),(12,dS (all.map aJ)),(10,.one (.c (.ptr 3 (nx+9) 0 0))),(8,.one (.c (.ptr 3 (nx+1) 0 0))),(7,.one (.c (.ptr 7 nx 0 0))),(0,.one (.c (.ptr 5 i0 0 0)))])
    (fun k H1 _=>k≤all.length∧H1 i1=some ⟨1,m0,(FV w all q.data q.g6 k).map aJ⟩∧H1 nx=some ⟨7,1,[eB q]⟩∧H1 (nx+9)=some ⟨3,1,[[cI q.id,cI code,.osl 0 0 0 0 0]]⟩∧H1 (nx+1)=some ⟨3,1,[[cI 0,cI 0,.osl 0 0 0 0 0]]⟩∧ ∀id,id<nx→id≠i1→H1 id=H id) (fun k=>all.length-k) 0 ⟨noF,_,by repeat' first|exact bo2|refine xqI rfl rfl ?_|refine xqP (by omega) rfl rfl ?_|fail,aK,?_⟩ ?_
   ·refine⟨by omega,by simp only[aA.set,u,if_false];exact E,?_,?_,?_,fun id boU n=> ?_⟩;·simp only[aA.set,bqT,Nat.reduceEqDiff,brN,if_false,if_true,reduceIte]
    ·simp only[aA.set,if_true];rcases aq with⟨rfl,_⟩|⟨rfl,_⟩<;>first|rfl|contradiction
    ·simp only[aA.set,bqU,Nat.reduceEqDiff,if_false,if_true]
    ·simp only[aA.set,show ¬id=nx by omega,show ¬id=nx+1 by omega,show ¬id=nx+9 by omega,if_false]
   rintro k H1 I ar ⟨J,L,P,bp5,bp4,d⟩ bpQ R
   have bqC:H1 i0=some ⟨5,1,[[.osl 1 i1 0 w.length c0,.osl 1 g 0 e.length c1,x,y,z]]⟩:=by rw[d i0 (by omega) (by omega)];exact M
   have S:H1 g=some ⟨1,m1,e.map aJ⟩:=by rw[d g (by omega) (by omega)];exact G
   have cb:=AX (w:=w) (all:=all) (data:=q.data) (g6:=q.g6) k
   have au:=afR (all:=all) (g6:=q.g6) aj aa k
   have r:bQ I [i0,i1,g,nx,nx+1,nx+9]:=AM.apart (by simp;omega) (by simp;omega)
   simp only[bQ,eZ] at r
   by_cases t:k<all.length
   ·have hb:=HB ab t;have aw:(all.getD k default).toNat<(FV w all q.data q.g6 k).length:=(by omega);repeat' first| (first|apply bn1|apply ae5 (HB au aw) (HB aa (by omega)) (HB ak (by omega)))<;>(simp only[go_sem,t1,bqT,bqC,L,S,P,bp5,bp4,r];try simp (disch:=omega) only[Iw])|apply bn2 (by omega)|refine⟨by omega,?_⟩|fail
    exact R _ _ _ (k+1) noF _ (by omega) (by omega) (by repeat' first|exact bo2|refine xqI rfl rfl ?_|refine xqP (by omega) rfl rfl ?_|fail) aK ⟨by omega,aA.bH,by rw[aA.aC (by omega)];exact P,by rw[aA.aC (by omega)];exact bp5,by rw[aA.aC (by omega)];exact bp4,fun id boU n=>by rw[aA.aC n];exact d id boU n⟩
   ·repeat' first|apply bn1<;>(simp only[go_sem,t1,bqT,bqC,L,S,P,bp5,bp4,r])|apply bn3 (by omega)|fail
    have C:k=all.length:=(by omega);subst C
    refine aM.gP (β:=Nat) (fun k=>en [(146,boP k),(145,boP 6),(144,boQ 1 g 6 c1),(12,dS (all.map aJ)),(10,.one (.c (.ptr 3 (nx+9) 0 0))),(8,.one (.c (.ptr 3 (nx+1) 0 0))),(0,.one (.c (.ptr 5 i0 0 0)))])
     (fun k H2 _=>k≤6∧H2 g=some ⟨1,m1,(xI e all k).map aJ⟩∧ ∀id,id<I→id≠g→H2 id=H1 id) (fun k=>6-k) 0 ⟨noF,_,by repeat' first|exact bo2|refine xqI rfl rfl ?_|refine xqP (by omega) rfl rfl ?_|refine xqO (by omega) rfl rfl (by first|rfl|omega) ?_|refine xqV rfl (by omega) ?_|fail,aK,by omega,by rw[ac9];exact S,fun _ _ _=>rfl⟩ ?_
    rintro k H2 ax ay ⟨J,f2,s⟩ bqG ag;have bfZ:H2 i0=some ⟨5,1,[[.osl 1 i1 0 w.length c0,.osl 1 g 0 e.length c1,x,y,z]]⟩:=(by rw[s i0 (by omega) (by omega)];exact bqC);have bkR:H2 (nx+9)=some ⟨3,1,[[cI q.id,cI code,.osl 0 0 0 0 0]]⟩:=(by rw[s _ (by omega) (by omega)];exact bp5);have bpX:H2 (nx+1)=some ⟨3,1,[[cI 0,cI 0,.osl 0 0 0 0 0]]⟩:=(by rw[s _ (by omega) (by omega)];exact bp4);have cc:=aiJ (all:=all) (show k≤e.length by omega);have T:bQ ax [i0,i1,g,nx,nx+1,nx+9]:=AM.apart (by simp;omega) (by simp;omega);simp only[bQ,eZ] at T;by_cases ai:k<6
    ·have az:=akN (all:=all) (show k<e.length by omega);have ah:=fun x=>agQ (all:=all) (x:=x) (show k<e.length by omega);have ba:=acP (all:=all) (show k<e.length by omega);repeat' first| (first|apply bn1|refine x8 (by omega) (aE rfl) ?_)<;>(simp only[go_sem,t1,bqT,bfZ,f2,bkR,bpX,T,az];try simp (disch:=omega) only[Iw])|apply bn2 (by omega)|refine bnE (fun h=> ?_) fun h=> ?_|refine⟨by omega,?_⟩|fail
     ·exact ag _ _ _ (k+1) noF _ (by omega) (by omega) (by repeat' first|exact bo2|refine xqI rfl rfl ?_|refine xqP (by omega) rfl rfl ?_|refine xqO (by omega) rfl rfl (by rfl) ?_|fail) aK ⟨by omega,by rw[←ah (-1) (by rw[if_pos (by assumption)])];exact aA.bH,fun id boU n=>by rw[aA.aC n];exact s id boU n⟩
     ·exact ag _ _ _ (k+1) noF _ (by omega) (by omega) (by repeat' first|exact bo2|refine xqI rfl rfl ?_|refine xqP (by omega) rfl rfl ?_|refine xqO (by omega) rfl rfl (by rfl) ?_|fail) aK ⟨by omega,by rw[←ah _ (by rw[if_neg (by assumption)]),ba];exact f2,fun id boU n=>s id boU n⟩
    ·repeat' first|apply bn1<;>(simp only[go_sem,t1,bqT,bfZ,f2,bkR,bpX,T])|apply bn3 (by omega)|fail
     have C:k=e.length:=(by omega);subst C;rw[ahC] at f2;refine V _ _ _ _ _ (.inr rfl) (fZ rfl (by simp only[aA.set,if_true];rfl) rfl) ⟨boR (tG ⟨q.id,code,[]⟩),_,noF,by repeat' first|exact bo2| (with_reducible first|exact bo4|apply bo5)| ((with_reducible apply bo0);first|exact bo9 rfl|exact bpE)| ((with_reducible apply bo1);apply bo6)|apply bo5|fail,aK,A _ _ (by omega) ?_ ?_ fun id boU n W=> ?_⟩;·rw[aA.aC (by omega),s _ (by omega) (by omega)];exact L
     ·rw[aA.aC (by omega)];exact f2
     ·rw[aA.aC (by omega),s _ (by omega) W];exact d id boU n
 have bb:wrM q=false:=by simpa using i
 have bc:q.kind=1∨q.kind=3:=by have h3: ¬(q.kind=2∨q.kind=4):=fun h=>i (N.2 h);omega
 repeat' first| (first|apply bn1|apply bpK (by omega)|apply B|apply ad|apply gH)<;>(simp only[go_sem,t1,bqT,M,E,G,u,bb];try simp (disch:=omega) only[Iw])|apply bn3 (by omega)|refine⟨by omega,?_⟩|fail
 refine aM.gP (β:=Nat) (fun k=>en [(76,boP k),(75,boP all.length),(74,dS (all.map aJ)),(11,.one (.c (.ptr 1 g (who*2+q.id).toNat 0))),(10,.one (.c (.ptr 3 (nx+9) 0 0))),(8,.one (.c (.ptr 3 (nx+1) 0 0))),(7,.one (.c (.ptr 7 nx 0 0))),(0,.one (.c (.ptr 5 i0 0 0)))])
  (fun k H1 _=>k≤all.length∧H1 nx=some ⟨7,1,[eB q]⟩∧H1 (nx+9)=some ⟨3,1,[[cI q.id,cI 1,.osl 1 (nx+55) 0 all.length all.length]]⟩∧H1 (nx+1)=some ⟨3,1,[[cI 0,cI 0,.osl 0 0 0 0 0]]⟩∧H1 (nx+55)=some ⟨1,all.length,((List.range k).map (fun k=>w.getD (all.getD k default).toNat default)++List.replicate (all.length-k) (0:Int)).map aJ⟩∧ ∀id,id<nx→H1 id=H id)
  (fun k=>all.length-k) 0 ⟨noF,_,by repeat' first|exact bo2|refine xqI rfl rfl ?_|refine xqP (by omega) rfl rfl ?_|fail,aK,?_⟩ ?_
 ·refine⟨by omega,?_,?_,?_,?_,fun id boU=> ?_⟩;·simp only[aA.set,bqT,Nat.reduceEqDiff,brN,if_false,if_true,reduceIte]
  ·simp only[aA.set,if_true]
  ·simp only[aA.set,bqU,Nat.reduceEqDiff,if_false,if_true]
  ·simp only[aA.set,bqU,Nat.reduceEqDiff,if_false,if_true];simp[aJ]
  ·simp only[aA.set,show ¬id=nx by omega,show ¬id=nx+1 by omega,show ¬id=nx+9 by omega,show ¬id=nx+55 by omega,if_false]
 rintro k H1 I ar ⟨J,P,bp5,bp4,gd,d⟩ bpQ R
 have bqC:H1 i0=some ⟨5,1,[[.osl 1 i1 0 w.length c0,.osl 1 g 0 e.length c1,x,y,z]]⟩:=by rw[d i0 (by omega)];exact M
 have L:H1 i1=some ⟨1,m0,w.map aJ⟩:=by rw[d i1 (by omega)];exact E
 have S:H1 g=some ⟨1,m1,e.map aJ⟩:=by rw[d g (by omega)];exact G
 have U:((List.range k).map (fun k=>w.getD (all.getD k default).toNat default)++List.replicate (all.length-k) (0:Int)).length=all.length:=by simp;omega
 have r:bQ I [i0,i1,g,nx,nx+1,nx+9,nx+55]:=AM.apart (by simp;omega) (by simp;omega)
 simp only[bQ,eZ] at r
 by_cases t:k<all.length
 ·have hb:=HB ab t;have bd:=fun x=>XT (f:=fun k=>w.getD (all.getD k default).toNat default) (x:=x) t;repeat' first|apply bn1<;>(simp only[go_sem,t1,bqT,bqC,L,S,P,bp5,bp4,gd,r,U];try simp (disch:=omega) only[Iw])|apply bn2 (by omega)|refine⟨by omega,?_⟩|fail
  exact R _ _ _ (k+1) noF _ (by omega) (by omega) (by repeat' first|exact bo2|refine xqI rfl rfl ?_|refine xqP (by omega) rfl rfl ?_|fail) aK ⟨by omega,by rw[aA.aC (by omega)];exact P,by rw[aA.aC (by omega)];exact bp5,by rw[aA.aC (by omega)];exact bp4,by rw[←bd _ rfl];exact aA.bH,fun id boU=>by rw[aA.aC (by omega)];exact d id boU⟩
 ·have C:k=all.length:=by omega
  subst C;have bf:(List.range all.length).map (fun k=>w.getD (all.getD k default).toNat default)++List.replicate (all.length-all.length) (0:Int)=all.map fun a=>w.getD a.toNat default:=by rw[aqI];simp
  rw[bf] at gd;repeat' first|apply bn1<;>(simp only[go_sem,t1,bqT,bqC,L,S,P,bp5,bp4,gd,r])|apply bn3 (by omega)|refine bnE (fun h=> ?_) fun h=> ?_|refine⟨by omega,?_⟩|fail
  ·rw[amK v (by assumption),b] at A;refine V _ _ _ _ _ (.inr rfl) (fZ rfl (by simp only[aA.set,if_true];rfl) rfl) ⟨boR (tG ⟨q.id,2,all.map fun a=>w.getD a.toNat default⟩),_,fun j=>j=nx+55,lY (aH (bB rfl) (aH (bB rfl) (aH (bW (l:=all.map fun a=>w.getD a.toNat default) (F:=fun j=>j=nx+55) (m:=all.length) (len:=all.length) (cap:=all.length) bF ?_ (by simp) (by simp) rfl) eP))),PU,A _ _ (by omega) ?_ ?_ fun id boU n W=> ?_⟩;·rw[aA.aC (by omega),aA.aC (by omega),aA.aC (by omega)];exact gd
   ·rw[aA.jG (by omega),aA.aC (by omega),aA.aC (by omega),aA.aC (by omega)];exact L
   ·rw[aA.jG (by omega),aA.aC (by omega),aA.bH]
   ·rw[aA.jG (by omega),aA.aC (by omega),aA.aC (by omega),aA.aC (by omega)];exact d id boU
  ·rw[akI v (by omega),b] at A;refine V _ _ _ _ _ (.inr rfl) (fZ rfl (by simp only[aA.set,if_true];rfl) rfl) ⟨boR (tG ⟨q.id,1,all.map fun a=>w.getD a.toNat default⟩),_,fun j=>j=nx+55,lY (aH (bB rfl) (aH (bB rfl) (aH (bW (l:=all.map fun a=>w.getD a.toNat default) (F:=fun j=>j=nx+55) (m:=all.length) (len:=all.length) (cap:=all.length) bF ?_ (by simp) (by simp) rfl) eP))),PU,A _ _ (by omega) ?_ ?_ fun id boU n W=> ?_⟩;·rw[aA.aC (by omega)];exact gd
   ·rw[aA.jG (by omega),aA.aC (by omega)];exact L
   ·rw[aA.jG (by omega),aA.aC (by omega)];exact S
   ·rw[aA.jG (by omega),aA.aC (by omega)];exact d id boU
end
theorem AP:cJ Tryz.prog cO Tryz.f264 jP oE:=cJ.mk Tryz.func264 (by kernel_rfl) AH
theorem BX:cJ Tryz.prog iX Tryz.f183 lB qR:=cJ.mk Tryz.func183 (by kernel_rfl) B8
end Go.Proofs.YtdkfhdmagdaceaaGreat
namespace Go.AM
theorem aM.abC {P:Program} {T:Nat} {e:Env} {H:aA} {nx:Nat} {Q:AQ} {zs:List AC} (h: ∀G,G=H→aM P T zs e G nx Q):aM P T zs e H nx Q:=h H rfl
theorem akM {H:aA} {F:Nat→Prop} {nh:Nat} {f:FuncId} {caps:List D1} (h: ∀x∈caps,∃n id row a,id<nh∧x= .ptr n id row a):Cv1 H F id nh (.clo f caps) (.clo f caps):=
 .clo f caps caps rfl fun i x y b c=>by
  rw[b] at c;obtain rfl:x=y:=by simpa using c
  obtain⟨n,id,row,a,d,rfl⟩:=h x (s3 b);exact .inr ⟨n,id,row,a,d,rfl,rfl⟩
def aaK (V:List (Int×Int)) (k:Nat) (u:List Int):Prop:=u.length=3∧ ∀w,w<3→u.getD w default= -1∨ ∃i,i<k∧V[i]?=some ((w:Int),u.getD w default)
theorem aaK.next {c:Cfg} {s:CSt} {st k:Nat} {u:List Int} {x:Int×Int} (hs:COk c s) (b:st<4) (h:aaK (cS (aL s st)) k u) (l:(cS (aL s st))[k]?=some x):
 (x.1=(x.1.toNat:Int)∧x.1.toNat<3)∧u.getD x.1.toNat default<x.2∧aaK (cS (aL s st)) (k+1) (u.set x.1.toNat x.2):=by
 obtain⟨m,d⟩:=m3.1 l
 have hm:x∈cS (aL s st):=d▸Z5 m
 obtain⟨hw,p,q⟩:=hs.vIn b hm
 have e:x.1.toNat<3:=by omega
 have a:x.1=(x.1.toNat:Int):=by omega
 refine⟨⟨a,e⟩,?_,by simp[h.1],fun w f=> ?_⟩
 ·rcases h.2 _ e with g|⟨i,hi,g⟩
  ·omega
  ·obtain⟨j,o⟩:=m3.1 g;have n:=Z6.1 (hs.slv st b).inc i k j m hi;rw[o,d] at n;exact n a.symm
 ·by_cases he:w=x.1.toNat;·right;refine⟨k,by omega,?_⟩;rw[he,pY (by rw[h.1];omega),if_pos rfl,l,←a]
  ·rw[pY (by rw[h.1];omega),if_neg he];exact(h.2 w f).imp (fun h=>h) fun⟨i,hi,g⟩=>⟨i,by omega,g⟩
end Go.AM
namespace Go.Proofs.YtdkfhdmagdaceaaGreat
open Go Go.AM
attribute [local irreducible] aM wv aB vd wvH
section
variable {H : aA} {nx : Nat} {K : D → aA → Nat → Prop}
theorem kA {s:CSt} {st who:Nat} {w n:Int} {u:List Int} {i0 i1 d:Nat} (k:w=who) (hu:u.length=3) (hw:who<3) (G:u.getD who default<n) (t:s.bM.length=3) (e:(aF s who).out.length<2^40)
 (o:0≤bK (isC n) (aF s who).out) (f:(bK (isC n) (aF s who).out).toNat<(aF s who).out.length) (b:((aF s who).out.getD (bK (isC n) (aF s who).out).toNat default).left=st)
 (x:i0<nx∧i1<nx∧d<nx) (y:[i0,i1,d].Nodup) (z:H i0=some ⟨3,1,[u.map cI]⟩) (A:H i1=some ⟨5,1,[eI s]⟩) (B:H d=some ⟨1,1,[[cI st]]⟩)
 (h: ∀H' nx',nx≤nx'→H' i0=some ⟨3,1,[(u.set who n).map cI]⟩→(∀id,id<nx→id≠i0→H' id=H id)→K (dB true) H' nx'):
 aB Tryz.prog cO [boP w,boP n,.one (.c (.ptr 3 i0 0 0)),.one (.c (.ptr 5 i1 0 0)),.one (.c (.ptr 1 d 0 0))] H nx K:=by
 subst k
 refine AP rfl fun Q C=> ?_
 unfold jP
 have q:bQ nx [i0,i1,d]:=AM.apart y (by simp;omega)
 simp only[bQ,eZ] at q
 obtain⟨p,g⟩: ∃p,p=aF s who:=⟨_,rfl⟩
 have i:s.bM.getD who default=p:=g.symm
 rw[←g] at e o f b
 obtain⟨a,r⟩: ∃a,a=bK (isC n) p.out:=⟨_,rfl⟩
 have l:((u.map cI).drop who).take 1=[cI (u.getD who default)]:=by rw[brB (by simp;omega)];simp[List.getD,show who<u.length by omega]
 have j:(u.map cI).length=3:=by rw[bqW,hu]
 have hle:(who+1≤3)=True:=eq_true (by omega)
 have m: ∀{H:aA} {nx:Nat} {K:D→aA→Nat→Prop},K (boP a) H nx→aB Tryz.prog kV [boR (cD p),boP n] H nx K:=fun h=>KT (p:=p) e (aE rfl) (by rw[←r];exact h)
 rw[←r] at o f b
 repeat' first| (first|apply bn1|apply bpJ (by omega)|apply bpK (by omega)|apply oR|apply m)<;>(simp only[go_sem,t1,bqT,brK,z,A,B,l,j,hle,i,b,q])|apply bn3 (by omega)|refine⟨by omega,?_⟩|fail
 have E:List.take who (List.map cI u)++[D1.v (.int .i64 n)]++List.drop (who+1) (List.map cI u)=(u.set who n).map cI:=by rw[brD,bsF,if_pos (by simp;omega),C0];rfl
 rw[E]
 exact C _ _ _ _ _ (.inr rfl) rfl (h _ _ (by omega) aA.bH fun id boU F=>aA.aC F)
end
end Go.Proofs.YtdkfhdmagdaceaaGreat
