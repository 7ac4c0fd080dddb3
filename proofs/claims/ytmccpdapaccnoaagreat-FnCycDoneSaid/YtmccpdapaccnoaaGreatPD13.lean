/- Texts laid together by a program: rules, contracts and the walk that leads to the law. -/
import Derived.Test.YtmccpdapaccnoaaGreatPD5
import Derived.Test.YtmccpdapaccnoaaGreatPD10
import Derived.Test.YtmccpdapaccnoaaGreatPD11
import Derived.Test.YtmccpdapaccnoaaGreatPD8
import Derived.Test.YtmccpdapaccnoaaGreatPD7
set_option linter.unusedVariables false
set_option linter.unusedSimpArgs false
set_option linter.unusedSectionVars false
set_option maxRecDepth 100000
set_option maxHeartbeats 8000000
namespace Go.Proofs.YtmccpdapaccnoaaGreat
open Go Go.AM
attribute [local irreducible] aM wv aB vd wvH
theorem FD:cJ Tryz.prog eC Tryz.f283 mR uC:=cJ.mk Tryz.func283 (by kernel_rfl) FN
section
variable {H : aA} {nx : Nat} {K : D → aA → Nat → Prop}
theorem HH {Y:Nat→Prop} {i1:Nat} {es:List Ev} {kind who n:Int} (hh:aiW Y H nx i1 es) (hl:es.length<1000)
 (h: ∀H' nx',nx≤nx'→aiW Y H' nx' i1 (es++[⟨kind,who,n⟩])→(∀id,Y id→H' id=H id)→K (.tup []) H' nx'):aB Tryz.prog eC [.one (.c (.ptr 5 i1 0 0)),boP kind,boP who,boP n] H nx K:=by
 obtain⟨⟨d,a,b,c,e,h1,hd⟩,⟨h2,h3⟩,hy⟩:=hh
 have k1: ∀k,(i1=nx+k)=False:=fun k=>eq_false (by omega)
 have k2: ∀k,(nx+k=i1)=False:=fun k=>eq_false (by omega)
 refine FD rfl fun Q hQ=> ?_
 unfold mR
 rcases hd with⟨rfl,rfl⟩|⟨ev,cap,rfl,⟨m,rows,g1,g2,g3,g4,g5,bkU⟩,bkV,bp4,bp5⟩
 ·repeat' first|apply bn1<;>(simp only[go_sem,h1,k1,k2])| (with_reducible first|refine fun(cap:Nat) (hcap:_≤cap)=> ?_|refine fun(hcp:_≤cap)=> ?_)|fail
  refine hQ _ _ _ _ _ (.inl rfl) rfl (h _ _ (by omega) ⟨⟨_,a,b,c,e,by simp only[aA.set,if_true];rfl,.inr ⟨nx+10,cap,rfl,⟨_,_,by simp only[aA.set,k2,if_false,if_true];rfl,rfl,by simp,by simp,by simpa using hcap,by simp⟩,by omega,fun hn=>by have:=hy _ hn;omega,by omega⟩⟩,⟨by omega,h3⟩,fun id hi=>by have:=hy id hi;omega⟩ fun id hi=> ?_);have boU:=hy id hi;have e1:id≠i1:=fun he=>h3 (he▸hi);simp only[aA.set,e1,show ¬id=nx+9 by omega,show ¬id=nx+10 by omega,if_false]
 ·have k3: ∀k,(ev=nx+k)=False:=fun k=>eq_false (by omega);have k4: ∀k,(nx+k=ev)=False:=fun k=>eq_false (by omega);have k5:=eq_false bp5;have k6:=eq_false (Ne.symm bp5);rw[bq5] at g2;subst g2;repeat' first|apply bn1<;>(simp only[go_sem,h1,k1,k2,k3,k4,k5,k6,g1])| (with_reducible first|refine fun(cap:Nat) (hcap:_≤cap)=> ?_|refine fun(hcp:_≤cap)=> ?_)|refine⟨by omega,?_⟩|fail
  refine hQ _ _ _ _ _ (.inl rfl) rfl (h _ _ (by omega) ⟨⟨_,a,b,c,e,by simp only[aA.set,if_true];rfl,.inr ⟨nx+10,cap,by simp,⟨_,_,by simp only[aA.set,k2,if_false,if_true];rfl,by simp[eEv],by simp,by simp,by simpa using hcap,by simp⟩,by omega,fun hn=>by have:=hy _ hn;omega,by omega⟩⟩,⟨by omega,h3⟩,fun id hi=>by have:=hy id hi;omega⟩ fun id hi=> ?_);have boU:=hy id hi;have e1:id≠i1:=fun he=>h3 (he▸hi);have e2:id≠ev:=fun he=>bp4 (he▸hi);simp only[aA.set,aA.del,e1,e2,show ¬id=nx+9 by omega,show ¬id=nx+10 by omega,if_false]
theorem arG {X:Nat→Prop} {i0 i1:Nat} {nm:Nat→Nat} {s:CSt} {es:List Ev} {kind who n:Int} (hB:l9 X H nx i0 i1 nm s es) (hl:es.length<1000)
 (h: ∀H' nx',nx≤nx'→l9 X H' nx' i0 i1 nm s (es++[⟨kind,who,n⟩])→(∀id,X id→H' id=H id)→K (.tup []) H' nx'):aB Tryz.prog eC [.one (.c (.ptr 5 i1 0 0)),boP kind,boP who,boP n] H nx K:=by
 refine HH hB.hap hl fun H' nx' hx hc hfr=>h H' nx' hx ⟨hB.rep.frame hx (hfr _ (.inr (.inl rfl))) (fun k hk=>hfr _ (.inr (.inr ⟨k,hk,rfl⟩))) fun id hid=>⟨?_,fun he=>hB.rep.i0.2 (he▸hid),fun k hk he=>hB.rep.names.av k hk (he▸hid)⟩,hc⟩ fun id hid=>hfr id (.inl hid)
 have:=hB.rep.x id hid;omega
theorem acI {X:Nat→Prop} {H0:aA} {i0 i1:Nat} {nm:Nat→Nat} {s:CSt} {es:List Ev} {kind who n:Int} (hB:l9 X H nx i0 i1 nm s es∧ ∀id,X id→H id=H0 id) (hl:es.length<1000)
 (h: ∀H' nx',nx≤nx'→l9 X H' nx' i0 i1 nm s (es++[⟨kind,who,n⟩])→(∀id,X id→H' id=H0 id)→K (.tup []) H' nx'):aB Tryz.prog eC [.one (.c (.ptr 5 i1 0 0)),boP kind,boP who,boP n] H nx K:=
 arG hB.1 hl fun H' nx' hx h1 h2=>h H' nx' hx h1 fun id hid=>(h2 id hid).trans (hB.2 id hid)
theorem p9 (l:List fC) (f:FuncId) (caps:List D1) (p:fC→Bool) (hl:l.length<2^40) (hc:caps.all D1.dQ=true) (hf: ∀x∈l,∀(H:aA) (nx:Nat) (K:D→aA→Nat→Prop),K (dB (p x)) H nx→aB Tryz.prog f (boR (eCJ x)::caps.map fun d=>.one (.c d)) H nx K):
 aB Tryz.prog bZ [dS (l.map eCJ),.one (.c (.clo f caps))] .nil 0 fun r _ _=>r.plain=true∧r=boP (bK p l):=by
 refine pH rfl fun Q hQ=> ?_
 unfold eU
 repeat' first|apply bn1<;>(simp only[go_sem])|fail
 (refine aM.loop (α:={k:Nat//k≤l.length∧(∀i,i<k→p (l.getD i default)=false)}) (fun u=>en [(8,boP u.1),(7,boP l.length),(1,.one (.c (.clo f caps))),(0,dS (l.map eCJ))]) (fun _=>.nil) _ (fun u=>l.length-u.1) ⟨0,by omega,(by intros;first|trivial|omega)⟩ (bU (m5 _) (by repeat' first|exact bo2|refine xqI rfl rfl ?_| (with_reducible apply bo3)| ((with_reducible apply bo0);exact bpG (by assumption))| ((with_reducible apply bo1);apply bo7)|fail)) ?_);(rintro⟨k,hk,hinv⟩ bpQ hKL)
 by_cases hlt:k<l.length
 ·have hmem:l.getD k default∈l:=by simp[List.getD,hlt]
  repeat' first| (first|apply bn1|apply hf _ hmem _ _ _)<;>(simp only[go_sem];try simp (disch:=omega) only[Iw])|apply bn2 (by omega)| ((refine bnF (fun h=> ?_) (fun h=> ?_))<;>try subst h)|refine⟨by omega,?_⟩|fail
  ·refine aZ hQ _ rfl rfl (qA (bq3 (CU (by omega) (by assumption) hinv)))
  · (refine hKL _ _ _ ⟨k+1,by omega,iS hinv (by assumption)⟩ (by omega) (by(try dsimp only);omega) (bU (m5 _) (by repeat' first|exact bo2|refine xqI rfl rfl ?_| (with_reducible apply bo3)| ((with_reducible apply bo0);exact bpG (by assumption))| ((with_reducible apply bo1);apply bo7)|fail)))
 ·repeat' first|apply bn1<;>(simp only[go_sem])|apply bn3 (by omega)|fail
  ·refine aZ hQ _ rfl rfl (qA (bq3 (tI fun i hi=>hinv i (by omega))))
theorem iY {l:List fC} {f:FuncId} {caps caps0:List D1} {p:fC→Bool} {d:D} (hl:l.length<2^40) (hc:caps.all D1.dQ=true) (hd:CvD H (fun _=>True) id 0 (dS (l.map eCJ)) d) (hk:CvD H (fun _=>True) id 0 (.one (.c (.clo f caps))) (.one (.c (.clo f caps0)))) (hf: ∀x∈l,∀(H:aA) (nx:Nat) (K:D→aA→Nat→Prop),K (dB (p x)) H nx→aB Tryz.prog f (boR (eCJ x)::caps.map fun d=>.one (.c d)) H nx K)
 (h:K (boP (bK p l)) H nx):aB Tryz.prog bZ [d,.one (.c (.clo f caps0))] H nx K:=
 (p9 l f caps p hl hc hf).pure rfl (aI ⟨hd,hk,trivial⟩) fun r hr=>hr▸h
theorem n4 (l:List fC) (f:FuncId) (caps:List D1) (p:fC→Bool) (hl:l.length<2^40) (hc:caps.all D1.dQ=true) (hf: ∀x∈l,∀(H:aA) (nx:Nat) (K:D→aA→Nat→Prop),K (dB (p x)) H nx→aB Tryz.prog f (boR (eCJ x)::caps.map fun d=>.one (.c d)) H nx K):
 aB Tryz.prog cM [dS (l.map eCJ),.one (.c (.clo f caps))] .nil 0 fun r _ _=>r.plain=true∧r=dB (decide (0≤bK p l)):=by
 refine nD rfl fun Q hQ=> ?_
 unfold dY
 repeat' first| (first|apply bn1|refine iY hl hc (aE rfl) (kC hc) hf ?_)<;>(simp only[go_sem])|fail
 all_goals exact aZ hQ _ rfl rfl rfl
theorem nR {l:List fC} {f:FuncId} {caps caps0:List D1} {p:fC→Bool} {d:D} (hl:l.length<2^40) (hc:caps.all D1.dQ=true) (hd:CvD H (fun _=>True) id 0 (dS (l.map eCJ)) d) (hk:CvD H (fun _=>True) id 0 (.one (.c (.clo f caps))) (.one (.c (.clo f caps0)))) (hf: ∀x∈l,∀(H:aA) (nx:Nat) (K:D→aA→Nat→Prop),K (dB (p x)) H nx→aB Tryz.prog f (boR (eCJ x)::caps.map fun d=>.one (.c d)) H nx K)
 (h:K (dB (decide (0≤bK p l))) H nx):aB Tryz.prog cM [d,.one (.c (.clo f caps0))] H nx K:=
 (n4 l f caps p hl hc hf).pure rfl (aI ⟨hd,hk,trivial⟩) fun r hr=>hr▸h
theorem QZ {j:fC} {n:Int} (h:K (dB (isC n j)) H nx):aB Tryz.prog rQ [boR (eCJ j),.one (.c (.fQ [cI n]))] H nx K:=by
 refine aB.pure (args0:=[boR (eCJ j),.one (.c (.fQ [cI n]))]) (R:=fun rr=>rr=dB (isC n j)) ?_ rfl (aI ⟨aE rfl,aE rfl,trivial⟩) (fun r hr=>hr▸h);clear h;refine OM rfl fun Q hQ=> ?_;unfold vD;repeat' first|apply bn1<;>(simp only[go_sem])|fail
 all_goals first|with_reducible refine aZ hQ _ rfl rfl ?_|skip
 all_goals first|exact pD (by omega)|exact q9 (by omega)|exact j7 (by omega)|rfl
theorem KT {p:fR} {n:Int} (hl:p.out.length<2^40) {d0:D} (hd0:CvD H (fun _=>True) id 0 (boR (cD p)) d0) (h:K (boP (bK (isC n) p.out)) H nx):aB Tryz.prog kV [d0,boP n] H nx K:=by
 refine aB.pure (args0:=[boR (cD p),boP n]) (R:=fun rr=>rr=boP (bK (isC n) p.out)) ?_ rfl (aI ⟨hd0,aE rfl,trivial⟩) (fun r hr=>hr▸h);clear h;refine UN rfl fun Q hQ=> ?_;unfold AR;repeat' first| (first|apply bn1|refine iY (l:=p.out) (caps:=[.fQ [cI n]]) (p:=isC n) hl rfl (aE rfl) (PR ⟨zE rfl trivial rfl rfl rfl,trivial⟩) (fun x _ H nx K h=>QZ h) ?_)<;>(simp only[go_sem])|fail
 all_goals first|with_reducible refine aZ hQ _ rfl rfl ?_|skip
 all_goals first|rfl|exact qA (by omega)
theorem DE {m:List Rng} {q:Req} (hl:m.length<2^40) (h:K (boP (gZ m q)) H nx):aB Tryz.prog rN [dS (m.map eN),boR (eB q)] H nx K:=by
 refine aB.pure (args0:=[dS (m.map eN),boR (eB q)]) (R:=fun rr=>rr=boP (gZ m q)) ?_ rfl (aI ⟨aE rfl,aE rfl,trivial⟩) (fun r hr=>hr▸h);clear h;refine UU rfl fun Q hQ=> ?_;unfold z2;have hwh:bV m (bE q.addr q.many q.wrap)<m.length:=by have hlt:=PQ (p:=(inR · ((bE q.addr q.many q.wrap).getD 0 default))) (l:=m);unfold bV;grind
 repeat' first| (first|apply bn1|apply KD hl)<;>(simp only[go_sem])|refine bnE (fun h=> ?_) fun h=> ?_|refine⟨by omega,?_⟩|fail
 all_goals first|with_reducible refine aZ hQ _ rfl rfl ?_|skip
 all_goals first|exact qA (by unfold gZ;rw[if_pos (by omega)])|exact qA (by unfold gZ;rw[if_neg (by omega)])
theorem EP {c:Cfg} {who:Nat} {st:Nat} {i:Int} {j:fC} (hp:c.cP.length=3) (ha:oA c who j.n) (h:K (dB (decide ((bT c who j.n).id=i∧ ¬j.left=st))) H nx):aB Tryz.prog iW [boR (eCJ j),.one (.c (.fQ (cU c))),.one (.c (.fQ [cI who])),.one (.c (.fQ [cI i])),.one (.c (.fQ [cI st]))] H nx K:=by
 refine aB.pure (args0:=[boR (eCJ j),.one (.c (.fQ (cU c))),.one (.c (.fQ [cI who])),.one (.c (.fQ [cI i])),.one (.c (.fQ [cI st]))]) (R:=fun rr=>rr=dB (decide ((bT c who j.n).id=i∧ ¬j.left=st))) ?_ rfl (aI ⟨aE rfl,aE rfl,aE rfl,aE rfl,aE rfl,trivial⟩) (fun r hr=>hr▸h);clear h;refine CY rfl fun Q hQ=> ?_;unfold kX;repeat' first| (first|apply bn1|refine bpL (fun h=> ?_) fun h=> ?_|apply iJ hp ha)<;>(simp only[go_sem])|fail
 all_goals first|with_reducible refine aZ hQ _ rfl rfl ?_|skip
 all_goals first|exact pD (by omega)|exact q9 (by omega)|exact j7 (by omega)|rfl
theorem vW {c:Cfg} {s:CSt} {who:Nat} {st:Nat} (hb:aQ c) (hs:COk c s) (hw:who<3) (hst:st<4) {d0:D} (hd0:CvD H (fun _=>True) id 0 (.one (.c (.fQ (eI s)))) d0) (h:K (dB (decide (HV c s who st))) H nx):aB Tryz.prog j8 [d0,boR (cU c),boP who,boP st] H nx K:=by
 refine aB.pure (args0:=[.one (.c (.fQ (eI s))),boR (cU c),boP who,boP st]) (R:=fun rr=>rr=dB (decide (HV c s who st))) ?_ rfl (aI ⟨hd0,aE rfl,aE rfl,aE rfl,trivial⟩) (fun r hr=>hr▸h);clear h;refine FT rfl fun Q hQ=> ?_;unfold mN;obtain⟨hp3,hpr⟩:=hC hb;have hprw:=hpr who;have hml:=hb.1.1;have hpl:=hs.pl;have hpo:=hs.port who hw;obtain⟨p,hpd⟩: ∃p,p=s.bM.getD who default:=⟨_,rfl⟩
 have hM:HV c s who st=(0<p.queue.length∧p.out.length<4∧gZ c.map (bT c who (p.queue.getD 0 default))=st∧ ∀j∈p.out,(bT c who j.n).id=(bT c who (p.queue.getD 0 default)).id→j.left=st):=by subst hpd;rfl
 rw[show aF s who=p from hpd.symm] at hpo;obtain⟨hn1,hn2⟩:=hpo.next;obtain⟨hq1,hq2⟩:=hpo.ql;have hq0:=hpo.queue 0;have hol:=hpo.ol;repeat' first| (first|apply bn1|refine bpL (fun h=> ?_) fun h=> ?_|apply DE (by omega)|apply iJ hp3 (hpo.asks hw (by omega) (by omega))| (refine nR (l:=p.out) (caps:=[.fQ (cU c),.fQ [cI who],.fQ [cI (bT c who (p.queue.getD 0 default)).id],.fQ [cI st]]) (p:=fun j=>decide ((bT c who j.n).id=(bT c who (p.queue.getD 0 default)).id∧ ¬j.left=st)) (by omega) rfl (aE rfl) (PR ⟨zE rfl trivial rfl rfl rfl,zE rfl trivial rfl rfl rfl,zE rfl trivial rfl rfl rfl,zE rfl trivial rfl rfl rfl,trivial⟩) (fun x hx H nx K h=>EP hp3 (hpo.asks hw (hpo.out x hx).2.1.1 (by have:=(hpo.out x hx).2.1.2;omega)) h) ?_))<;>(simp only[go_sem,hpd.symm])|refine bnE (fun h=> ?_) fun h=> ?_|refine⟨by omega,?_⟩|fail
 all_goals first|with_reducible refine aZ hQ _ rfl rfl ?_|skip
 all_goals have hr:gZ c.map (List.getD (c.cP.getD who default) (p.queue.getD 0 default).toNat default)=gZ c.map (bT c who (p.queue.getD 0 default)):=rfl
 ·exact j7 (by rw[hM];omega)
 ·exact j7 (by rw[hM];omega)
 ·exact j7 (by rw[hM];omega)
 ·apply pD;rw[hM,cH];refine⟨fun h=>⟨by omega,by omega,by omega,fun j hj hi=>Classical.byContradiction fun hn=>h ⟨j,hj,decide_eq_true ⟨hi,hn⟩⟩⟩,fun h ⟨j,hj,hd⟩=> ?_⟩;have hd:=of_decide_eq_true hd;exact hd.2 (h.2.2.2 j hj hd.1)
end
theorem XO {τ:Nat→Nat} {n m:Nat} {l:List fC}:bA.rn τ ⟨n,m,l.map eCJ⟩=⟨n,m,l.map eCJ⟩:=by refine rF fun r hr x hx=> ?_;obtain⟨y,_,rfl⟩:=CF.1 hr;exact w2.1 (yK y).2 x hx
section
variable {H : aA} {nx : Nat} {K : D → aA → Nat → Prop}
theorem ag9 {l:List fC} {a:Nat} {z:List D1} (ha:a<l.length):wr ((l.take a).map eCJ++(l.drop (a+1)).map eCJ) (l.length-1) (List.replicate (l.length-(l.length-1)) z)=(B3 l a).map eCJ++[z]:=by
 have h1:(l.take a).map eCJ++(l.drop (a+1)).map eCJ=(B3 l a).map eCJ:=by simp[B3]
 have h2:((B3 l a).map eCJ).length=l.length-1:=by have:=RP ha;simp;omega
 have h3:l.length-(l.length-1)=1:=by omega
 rw[h1,h3,List.replicate_one];unfold wr;have h4:List.drop (l.length-1+[z].length) ((B3 l a).map eCJ)=[]:=brZ (by simp at h2 ⊢;omega);rw[h4,boL (by omega),bq6]
theorem sP (l:List fC) (a cap m:Nat) (hl:l.length<2^21) (ha:a<l.length) (hc:l.length≤cap) (hcm:cap≤m):
 aB Tryz.prog eA [boQ 3 0 l.length cap,boP a,boP (a+1)] (hp [(0,⟨3,m,l.map eCJ⟩)]) 1
 fun r H' n'=>∃cap' m',(B3 l a).length≤cap'∧cap'≤m'∧n'=2∧H'=hp [(1,⟨3,m',(B3 l a).map eCJ⟩)]∧r=boQ 3 1 (B3 l a).length cap':=by
 refine rZ rfl fun Q hQ=> ?_
 unfold fW
 have e2:((a:Int)+1).toNat=a+1:=by omega
 have e3:a+(l.length-(a+1))=l.length-1:=by omega
 have e7:(a+1+(l.length-(a+1))≤l.length)=True:=eq_true (by omega)
 have e8:List.take (l.length-(a+1)) (List.drop (a+1) l)=List.drop (a+1) l:=boL (by simp)
 have bm9:(List.drop (a+1) l).length=l.length-(a+1):=CI
 have hol:=RP ha
 repeat' first|apply bn1<;>(simp only[go_sem,e2,e3,e7,e8,bm9])|apply bn3 (by omega)| (with_reducible first|refine fun(cap:Nat) (hcap:_≤cap)=> ?_|refine fun(hcp:_≤cap)=> ?_)|refine⟨by omega,?_⟩| (refine⟨by(rw[CG];omega),?_⟩)|fail
 (refine hQ _ _ _ _ _ 2 (boQ 3 1 (B3 l a).length cap) (hp [(1,⟨3,cap,(B3 l a).map eCJ⟩)]) _ _ (.inr rfl) rfl (fU [20,0] (by omega) (by repeat' first|exact bo2| ((with_reducible apply bo0);exact bpB (by omega) rfl rfl (by first|rfl|omega) rfl)| ((with_reducible apply bo1);apply bo7)|fail) ⟨⟨by simp,by simp[sgL],_,rfl,anJ (junk:=[[cI 0,cI 0,cI 0]]) (fun r hr=>(aG yK _ r hr).2) (ag9 ha) rfl (by decide)⟩,trivial⟩ (by simp[sgL])) ?_)
 exact⟨cap,cap,by omega,m5 _,rfl,rfl,rfl⟩
theorem tK {l:List fC} {z:Int} {cap m i0:Nat} (hl:l.length<2^21) (hz: ¬z<0) (ha:z.toNat<l.length) (hc:l.length≤cap) (hcm:cap≤m) (h0:i0<nx) (o0:H i0=some ⟨3,m,l.map eCJ⟩)
 (h: ∀cap' m',(B3 l z.toNat).length≤cap'→cap'≤m'→K (boQ 3 nx (B3 l z.toNat).length cap') ((H.del i0).set nx ⟨3,m',(B3 l z.toNat).map eCJ⟩) (nx+1)):
 aB Tryz.prog eA [boQ 3 i0 l.length cap,boP z,boP (z+1)] H nx K:=by
 obtain⟨a,rfl⟩: ∃a:Nat,z=a:=⟨z.toNat,by omega⟩
 refine(sP l a cap m hl ha hc hcm).AF [i0] rfl ⟨qS (by simp) rfl rfl rfl rfl,aE rfl,aE rfl,trivial⟩
  ⟨⟨by simp,id,_,o0,bP (aG yK _) rfl rfl⟩,trivial⟩ (by simp) (by simp;omega) (by simp) fun r H' n' _ ⟨cap',m',bqB,q1,q2,q3,q4⟩=> ?_
 simp only[Int.toNat_natCast] at h
 have h:=h cap' m' bqB q1
 subst q2;subst q3;subst q4
 generalize B3 l a=l' at*
 have e1:back (tau 1 nx (nth [i0])) (hp [(1,⟨3,m',l'.map eCJ⟩)]) 2 H=(H.del i0).set nx ⟨3,m',l'.map eCJ⟩:=by simp[back,hp,aA.set,aA.nil,tau,nth,uB,XO,aA.eL,aA.yI]
 rw[←e1] at h
 exact h
end
theorem HR:cJ Tryz.prog pL Tryz.f171 nS vR:=cJ.mk Tryz.func171 (by kernel_rfl) HL
theorem fZ {H:aA} {e:Env} {t n id m:Nat} {cs:List D1} (he:e t= .one (.c (.ptr n id 0 0))) (ho:H id=some ⟨n,m,[cs]⟩) (hl:cs.length=n):yT H e [.cell t n true]=some (boR cs):=by subst hl;simp[yT,VP,he,tT,ho,mkV]
theorem PU {nx i:Nat} {H:aA}:CvX (fun j=>j=i) nx H (H.del i):=fun j o' hj=>by
 simp only[aA.del] at hj;split at hj;·cases hj
 ·exact⟨by assumption,o',hj,.inl rfl⟩
section
variable {H : aA} {nx : Nat} {K : D → aA → Nat → Prop}
theorem HZ {m:List Rng} {w hh:List Int} {who:Int} {q:Req} {c0 c1 m0 m1 i0 i1 i2:Nat} {x y z:D1} (hm4:m.length<2^21) (hf:WK w hh) (hc0:w.length≤c0) (hc1:hh.length≤c1) (hw:0≤who∧who≤2) (hq:dH q)
 (hlt:i0<nx∧i1<nx∧i2<nx) (hd:[i0,i1,i2].Nodup) (h0:H i0=some ⟨5,1,[[.osl 1 i1 0 w.length c0,.osl 1 i2 0 hh.length c1,x,y,z]]⟩) (h1:H i1=some ⟨1,m0,w.map aJ⟩) (h2:H i2=some ⟨1,m1,hh.map aJ⟩)
 (hR: ∀H' nx',nx≤nx'→H' i1=some ⟨1,m0,(doM m w hh who q).1.1.map aJ⟩→H' i2=some ⟨1,m1,(doM m w hh who q).1.2.map aJ⟩→(∀id,id<nx→id≠i1→id≠i2→H' id=H id)→K (boR (tG (doM m w hh who q).2)) H' nx'):
 aB Tryz.prog pL [.one (.c (.ptr 5 i0 0 0)),dS (m.map eN),boP who,boR (eB q)] H nx K:=by
 obtain⟨hwl,hwr,hsl,hsr⟩:=hf
 obtain⟨hq1,hq2,hq3,hq4,hq5,hq6,hq7,hq8⟩:=hq
 have hbl:=DF hq3
 have hbp:=ai5 hq3
 have hb4:=MK (addr:=q.addr) (many:=q.many) (wrap:=q.wrap)
 have hbi:All (bE q.addr q.many q.wrap) 0 63:=V1
 have hltm:=PQ (p:=(inR · ((bE q.addr q.many q.wrap).getD 0 default))) (l:=m)
 have hwh:bV m (bE q.addr q.many q.wrap)<m.length:=by unfold bV;grind
 have hdl:wrM q=true→q.data.length=(bE q.addr q.many q.wrap).length∧q.g6.length=(bE q.addr q.many q.wrap).length:=by intro h;unfold wrM at h;unfold n5 at hq4 hq5;simp at h;simp only[h,if_true] at hq4 hq5;omega
 have hwi:=W4 (q:=q)
 apply aB.tW
 refine HR rfl fun Q hQ=> ?_
 unfold nS
 generalize hall:bE q.addr q.many q.wrap=all at*
 have hwo: ∀{H:aA} {nx:Nat} {K:D→aA→Nat→Prop},K (boP (bV m all)) H nx→aB Tryz.prog mZ [dS (m.map eN),boR (eB q)] H nx K:=fun h=>KD (by omega) (by rw[hall];exact h)
 have hbu: ∀{H:aA} {nx:Nat} {K:D→aA→Nat→Prop},K (dS (all.map aJ)) H nx→aB Tryz.prog fP [boR (eB q)] H nx K:=fun h=>vY (by rw[hall];exact h)
 have hA:bQ nx [i0,i1,i2]:=AM.apart hd (by simp;omega)
 simp only[bQ,eZ] at hA
 simp only[bq8,t3,bq7,or_false,not_or] at hd
 by_cases h1n:bV m all<0
 ·rw[alZ (by rw[hall];exact h1n)] at hR;repeat' first| (first|apply bn1|apply hwo)<;>(simp only[go_sem,t1,bqT,h0,h1,h2,hA];try simp (disch:=omega) only[Iw])|apply bn2 (by omega)|refine⟨by omega,?_⟩|fail
  refine hQ _ _ _ _ _ (.inr rfl) (fZ rfl (by simp only[aA.set,if_true];rfl) rfl) ⟨boR (tG ⟨q.id,4,[]⟩),_,noF,by repeat' first|exact bo2| (with_reducible first|exact bo4|apply bo5)| ((with_reducible apply bo0);first|exact bo9 rfl|exact bpE)| ((with_reducible apply bo1);apply bo6)|apply bo5|fail,aK,hR _ _ (by omega) ?_ ?_ fun id boU e1 e2=> ?_⟩;·simp only[aA.set,hA,if_false];exact h1
  ·simp only[aA.set,hA,if_false];exact h2
  ·simp only[aA.set,show ¬id=nx by omega,show ¬id=nx+1 by omega,show ¬id=nx+9 by omega,if_false]
 have h1': ¬bV m (bE q.addr q.many q.wrap)<0:=by rw[hall];exact h1n
 by_cases h2w:wrM q=true
 ·obtain⟨hd1,hd2⟩:=hdl h2w;by_cases h3:(m.getD (bV m all).toNat default).only=true
  ·rw[anB h1' h2w (by rw[hall];exact h3)] at hR;repeat' first| (first|apply bn1|apply hwo|apply gH)<;>(simp only[go_sem,t1,bqT,h0,h1,h2,hA,h2w,h3];try simp (disch:=omega) only[Iw])|apply bn3 (by omega)|refine⟨by omega,?_⟩|fail
   refine hQ _ _ _ _ _ (.inr rfl) (fZ rfl (by simp only[aA.set,if_true];rfl) rfl) ⟨boR (tG ⟨q.id,3,[]⟩),_,noF,by repeat' first|exact bo2| (with_reducible first|exact bo4|apply bo5)| ((with_reducible apply bo0);first|exact bo9 rfl|exact bpE)| ((with_reducible apply bo1);apply bo6)|apply bo5|fail,aK,hR _ _ (by omega) ?_ ?_ fun id boU e1 e2=> ?_⟩;·simp only[aA.set,hA,if_false];exact h1
   ·simp only[aA.set,hA,if_false];exact h2
   ·simp only[aA.set,show ¬id=nx by omega,show ¬id=nx+1 by omega,show ¬id=nx+9 by omega,if_false]
  have h3': ¬(m.getD (bV m (bE q.addr q.many q.wrap)).toNat default).only=true:=by rw[hall];exact h3
  have h3f:(m.getD (bV m all).toNat default).only=false:=by simpa using h3
  by_cases h4:q.kind=4∧ ¬hh.getD (who*2+q.id).toNat default=q.addr
  ·rw[aqU h1' h3' h4.1 h4.2] at hR;have h41:=h4.1;have h42:=h4.2;repeat' first| (first|apply bn1|apply bpJ (by omega)|apply hwo|apply gH)<;>(simp only[go_sem,t1,bqT,h0,h1,h2,hA,h2w,h3f];try simp (disch:=omega) only[Iw])|apply bn2 (by omega)|apply bn3 (by omega)|refine⟨by omega,?_⟩|fail
   refine hQ _ _ _ _ _ (.inr rfl) (fZ rfl (by simp only[aA.set,if_true];rfl) rfl) ⟨boR (tG ⟨q.id,1,[]⟩),_,noF,by repeat' first|exact bo2| (with_reducible first|exact bo4|apply bo5)| ((with_reducible apply bo0);first|exact bo9 rfl|exact bpE)| ((with_reducible apply bo1);apply bo6)|apply bo5|fail,aK,hR _ _ (by omega) ?_ ?_ fun id boU e1 e2=> ?_⟩;·simp only[aA.set,hA,if_false];exact h1
   ·simp only[aA.set,hA,if_false];exact h2
   ·simp only[aA.set,show ¬id=nx by omega,show ¬id=nx+1 by omega,show ¬id=nx+9 by omega,if_false]
  obtain⟨code,hcode⟩: ∃code:Int,code=if q.kind=4 then 2 else 1:=⟨_,rfl⟩
  have bqA:doM m w hh who q=((FV w all q.data q.g6 all.length,iU hh all),⟨q.id,code,[]⟩):=by
   rcases hwi.1 h2w with hk|hk;·rw[ao1 h1' h3' hk,hall,hcode,if_neg (by omega)]
   ·rw[aoE h1' h3' hk (Classical.byContradiction fun hc=>h4 ⟨hk,hc⟩),hall,hcode,if_pos hk]
  rw[bqA] at hR;have hk24:=hwi.1 h2w;repeat' first| (first|apply bn1|refine bpL (fun h=> ?_) fun h=> ?_|apply hwo|apply hbu|apply gH)<;>(simp only[go_sem,t1,bqT,h0,h1,h2,hA,h2w,h3f];try simp (disch:=omega) only[Iw])|apply bn2 (by omega)|apply bn3 (by omega)|refine⟨by omega,?_⟩|fail
  all_goals
   have hcd:(code=2∧q.kind=4)∨(code=1∧ ¬q.kind=4):=by rw[hcode];split<;>simp[*]
   refine aM.gP (β:=Nat) (fun k=>en [(109,boP k),(108,boP all.length),(107,dS (all.map aJ)),(12,dS (all.map aJ)),(10,.one (.c (.ptr 3 (nx+9) 0 0))),(8,.one (.c (.ptr 3 (nx+1) 0 0))),(7,.one (.c (.ptr 7 nx 0 0))),(0,.one (.c (.ptr 5 i0 0 0)))])
    (fun k H1 _=>k≤all.length∧H1 i1=some ⟨1,m0,(FV w all q.data q.g6 k).map aJ⟩∧H1 nx=some ⟨7,1,[eB q]⟩∧H1 (nx+9)=some ⟨3,1,[[cI q.id,cI code,.osl 0 0 0 0 0]]⟩∧H1 (nx+1)=some ⟨3,1,[[cI 0,cI 0,.osl 0 0 0 0 0]]⟩∧ ∀id,id<nx→id≠i1→H1 id=H id) (fun k=>all.length-k) 0 ⟨noF,_,by repeat' first|exact bo2|refine xqI rfl rfl ?_|refine xqP (by omega) rfl rfl ?_|fail,aK,?_⟩ ?_
   ·refine⟨by omega,by simp only[aA.set,hA,if_false];exact h1,?_,?_,?_,fun id boU e1=> ?_⟩;·simp only[aA.set,bqT,Nat.reduceEqDiff,brN,if_false,if_true,reduceIte]
    ·simp only[aA.set,if_true];rcases hcd with⟨rfl,_⟩|⟨rfl,_⟩<;>first|rfl|contradiction
    ·simp only[aA.set,bqU,Nat.reduceEqDiff,if_false,if_true]
    ·simp only[aA.set,show ¬id=nx by omega,show ¬id=nx+1 by omega,show ¬id=nx+9 by omega,if_false]
   rintro k H1 nx1 hnx ⟨hk,g1,gq,bp5,bp4,hfr⟩ bpQ hKL
   have bqC:H1 i0=some ⟨5,1,[[.osl 1 i1 0 w.length c0,.osl 1 i2 0 hh.length c1,x,y,z]]⟩:=by rw[hfr i0 (by omega) (by omega)];exact h0
   have g2:H1 i2=some ⟨1,m1,hh.map aJ⟩:=by rw[hfr i2 (by omega) (by omega)];exact h2
   have hpl:=AX (w:=w) (all:=all) (data:=q.data) (g6:=q.g6) k
   have hpw:=afR (all:=all) (g6:=q.g6) hwr hq6 k
   have hA1:bQ nx1 [i0,i1,i2,nx,nx+1,nx+9]:=AM.apart (by simp;omega) (by simp;omega)
   simp only[bQ,eZ] at hA1
   by_cases hlt2:k<all.length
   ·have hb:=HB hbi hlt2;have hb2:(all.getD k default).toNat<(FV w all q.data q.g6 k).length:=(by omega);repeat' first| (first|apply bn1|apply ae5 (HB hpw hb2) (HB hq6 (by omega)) (HB hq7 (by omega)))<;>(simp only[go_sem,t1,bqT,bqC,g1,g2,gq,bp5,bp4,hA1];try simp (disch:=omega) only[Iw])|apply bn2 (by omega)|refine⟨by omega,?_⟩|fail
    exact hKL _ _ _ (k+1) noF _ (by omega) (by omega) (by repeat' first|exact bo2|refine xqI rfl rfl ?_|refine xqP (by omega) rfl rfl ?_|fail) aK ⟨by omega,aA.bH,by rw[aA.aC (by omega)];exact gq,by rw[aA.aC (by omega)];exact bp5,by rw[aA.aC (by omega)];exact bp4,fun id boU e1=>by rw[aA.aC e1];exact hfr id boU e1⟩
   ·repeat' first|apply bn1<;>(simp only[go_sem,t1,bqT,bqC,g1,g2,gq,bp5,bp4,hA1])|apply bn3 (by omega)|fail
    have hk2:k=all.length:=(by omega);subst hk2
    refine aM.gP (β:=Nat) (fun k=>en [(146,boP k),(145,boP 6),(144,boQ 1 i2 6 c1),(12,dS (all.map aJ)),(10,.one (.c (.ptr 3 (nx+9) 0 0))),(8,.one (.c (.ptr 3 (nx+1) 0 0))),(0,.one (.c (.ptr 5 i0 0 0)))])
     (fun k H2 _=>k≤6∧H2 i2=some ⟨1,m1,(xI hh all k).map aJ⟩∧ ∀id,id<nx1→id≠i2→H2 id=H1 id) (fun k=>6-k) 0 ⟨noF,_,by repeat' first|exact bo2|refine xqI rfl rfl ?_|refine xqP (by omega) rfl rfl ?_|refine xqO (by omega) rfl rfl (by first|rfl|omega) ?_|refine xqV rfl (by omega) ?_|fail,aK,by omega,by rw[ac9];exact g2,fun _ _ _=>rfl⟩ ?_
    rintro k H2 nx2 hnx2 ⟨hk,f2,ffr⟩ bqG hKM;have bfZ:H2 i0=some ⟨5,1,[[.osl 1 i1 0 w.length c0,.osl 1 i2 0 hh.length c1,x,y,z]]⟩:=(by rw[ffr i0 (by omega) (by omega)];exact bqC);have bkR:H2 (nx+9)=some ⟨3,1,[[cI q.id,cI code,.osl 0 0 0 0 0]]⟩:=(by rw[ffr _ (by omega) (by omega)];exact bp5);have bpX:H2 (nx+1)=some ⟨3,1,[[cI 0,cI 0,.osl 0 0 0 0 0]]⟩:=(by rw[ffr _ (by omega) (by omega)];exact bp4);have hfl:=aiJ (all:=all) (show k≤hh.length by omega);have hA2:bQ nx2 [i0,i1,i2,nx,nx+1,nx+9]:=AM.apart (by simp;omega) (by simp;omega);simp only[bQ,eZ] at hA2;by_cases hlt:k<6
    ·have hfa:=akN (all:=all) (show k<hh.length by omega);have hfs:=fun x=>agQ (all:=all) (x:=x) (show k<hh.length by omega);have hsm:=acP (all:=all) (show k<hh.length by omega);repeat' first| (first|apply bn1|refine x8 (by omega) (aE rfl) ?_)<;>(simp only[go_sem,t1,bqT,bfZ,f2,bkR,bpX,hA2,hfa];try simp (disch:=omega) only[Iw])|apply bn2 (by omega)|refine bnE (fun h=> ?_) fun h=> ?_|refine⟨by omega,?_⟩|fail
     ·exact hKM _ _ _ (k+1) noF _ (by omega) (by omega) (by repeat' first|exact bo2|refine xqI rfl rfl ?_|refine xqP (by omega) rfl rfl ?_|refine xqO (by omega) rfl rfl (by rfl) ?_|fail) aK ⟨by omega,by rw[←hfs (-1) (by rw[if_pos (by assumption)])];exact aA.bH,fun id boU e1=>by rw[aA.aC e1];exact ffr id boU e1⟩
     ·exact hKM _ _ _ (k+1) noF _ (by omega) (by omega) (by repeat' first|exact bo2|refine xqI rfl rfl ?_|refine xqP (by omega) rfl rfl ?_|refine xqO (by omega) rfl rfl (by rfl) ?_|fail) aK ⟨by omega,by rw[←hfs _ (by rw[if_neg (by assumption)]),hsm];exact f2,fun id boU e1=>ffr id boU e1⟩
    ·repeat' first|apply bn1<;>(simp only[go_sem,t1,bqT,bfZ,f2,bkR,bpX,hA2])|apply bn3 (by omega)|fail
     have hk2:k=hh.length:=(by omega);subst hk2;rw[ahC] at f2;refine hQ _ _ _ _ _ (.inr rfl) (fZ rfl (by simp only[aA.set,if_true];rfl) rfl) ⟨boR (tG ⟨q.id,code,[]⟩),_,noF,by repeat' first|exact bo2| (with_reducible first|exact bo4|apply bo5)| ((with_reducible apply bo0);first|exact bo9 rfl|exact bpE)| ((with_reducible apply bo1);apply bo6)|apply bo5|fail,aK,hR _ _ (by omega) ?_ ?_ fun id boU e1 e2=> ?_⟩;·rw[aA.aC (by omega),ffr _ (by omega) (by omega)];exact g1
     ·rw[aA.aC (by omega)];exact f2
     ·rw[aA.aC (by omega),ffr _ (by omega) e2];exact hfr id boU e1
 have h2f:wrM q=false:=by simpa using h2w
 have hk13:q.kind=1∨q.kind=3:=by have h3: ¬(q.kind=2∨q.kind=4):=fun h=>h2w (hwi.2 h);omega
 repeat' first| (first|apply bn1|apply bpK (by omega)|apply hwo|apply hbu|apply gH)<;>(simp only[go_sem,t1,bqT,h0,h1,h2,hA,h2f];try simp (disch:=omega) only[Iw])|apply bn3 (by omega)|refine⟨by omega,?_⟩|fail
 refine aM.gP (β:=Nat) (fun k=>en [(76,boP k),(75,boP all.length),(74,dS (all.map aJ)),(11,.one (.c (.ptr 1 i2 (who*2+q.id).toNat 0))),(10,.one (.c (.ptr 3 (nx+9) 0 0))),(8,.one (.c (.ptr 3 (nx+1) 0 0))),(7,.one (.c (.ptr 7 nx 0 0))),(0,.one (.c (.ptr 5 i0 0 0)))])
  (fun k H1 _=>k≤all.length∧H1 nx=some ⟨7,1,[eB q]⟩∧H1 (nx+9)=some ⟨3,1,[[cI q.id,cI 1,.osl 1 (nx+55) 0 all.length all.length]]⟩∧H1 (nx+1)=some ⟨3,1,[[cI 0,cI 0,.osl 0 0 0 0 0]]⟩∧H1 (nx+55)=some ⟨1,all.length,((List.range k).map (fun k=>w.getD (all.getD k default).toNat default)++List.replicate (all.length-k) (0:Int)).map aJ⟩∧ ∀id,id<nx→H1 id=H id)
  (fun k=>all.length-k) 0 ⟨noF,_,by repeat' first|exact bo2|refine xqI rfl rfl ?_|refine xqP (by omega) rfl rfl ?_|fail,aK,?_⟩ ?_
 ·refine⟨by omega,?_,?_,?_,?_,fun id boU=> ?_⟩;·simp only[aA.set,bqT,Nat.reduceEqDiff,brN,if_false,if_true,reduceIte]
  ·simp only[aA.set,if_true]
  ·simp only[aA.set,bqU,Nat.reduceEqDiff,if_false,if_true]
  ·simp only[aA.set,bqU,Nat.reduceEqDiff,if_false,if_true];simp[aJ]
  ·simp only[aA.set,show ¬id=nx by omega,show ¬id=nx+1 by omega,show ¬id=nx+9 by omega,show ¬id=nx+55 by omega,if_false]
 rintro k H1 nx1 hnx ⟨hk,gq,bp5,bp4,gd,hfr⟩ bpQ hKL
 have bqC:H1 i0=some ⟨5,1,[[.osl 1 i1 0 w.length c0,.osl 1 i2 0 hh.length c1,x,y,z]]⟩:=by rw[hfr i0 (by omega)];exact h0
 have g1:H1 i1=some ⟨1,m0,w.map aJ⟩:=by rw[hfr i1 (by omega)];exact h1
 have g2:H1 i2=some ⟨1,m1,hh.map aJ⟩:=by rw[hfr i2 (by omega)];exact h2
 have hdlen:((List.range k).map (fun k=>w.getD (all.getD k default).toNat default)++List.replicate (all.length-k) (0:Int)).length=all.length:=by simp;omega
 have hA1:bQ nx1 [i0,i1,i2,nx,nx+1,nx+9,nx+55]:=AM.apart (by simp;omega) (by simp;omega)
 simp only[bQ,eZ] at hA1
 by_cases hlt2:k<all.length
 ·have hb:=HB hbi hlt2;have hbs:=fun x=>XT (f:=fun k=>w.getD (all.getD k default).toNat default) (x:=x) hlt2;repeat' first|apply bn1<;>(simp only[go_sem,t1,bqT,bqC,g1,g2,gq,bp5,bp4,gd,hA1,hdlen];try simp (disch:=omega) only[Iw])|apply bn2 (by omega)|refine⟨by omega,?_⟩|fail
  exact hKL _ _ _ (k+1) noF _ (by omega) (by omega) (by repeat' first|exact bo2|refine xqI rfl rfl ?_|refine xqP (by omega) rfl rfl ?_|fail) aK ⟨by omega,by rw[aA.aC (by omega)];exact gq,by rw[aA.aC (by omega)];exact bp5,by rw[aA.aC (by omega)];exact bp4,by rw[←hbs _ rfl];exact aA.bH,fun id boU=>by rw[aA.aC (by omega)];exact hfr id boU⟩
 ·have hk2:k=all.length:=by omega
  subst hk2;have hrd:(List.range all.length).map (fun k=>w.getD (all.getD k default).toNat default)++List.replicate (all.length-all.length) (0:Int)=all.map fun a=>w.getD a.toNat default:=by rw[aqI];simp
  rw[hrd] at gd;repeat' first|apply bn1<;>(simp only[go_sem,t1,bqT,bqC,g1,g2,gq,bp5,bp4,gd,hA1])|apply bn3 (by omega)|refine bnE (fun h=> ?_) fun h=> ?_|refine⟨by omega,?_⟩|fail
  ·rw[amK h1' (by assumption),hall] at hR;refine hQ _ _ _ _ _ (.inr rfl) (fZ rfl (by simp only[aA.set,if_true];rfl) rfl) ⟨boR (tG ⟨q.id,2,all.map fun a=>w.getD a.toNat default⟩),_,fun j=>j=nx+55,lY (aH (bB rfl) (aH (bB rfl) (aH (bW (l:=all.map fun a=>w.getD a.toNat default) (F:=fun j=>j=nx+55) (m:=all.length) (len:=all.length) (cap:=all.length) bF ?_ (by simp) (by simp) rfl) eP))),PU,hR _ _ (by omega) ?_ ?_ fun id boU e1 e2=> ?_⟩;·rw[aA.aC (by omega),aA.aC (by omega),aA.aC (by omega)];exact gd
   ·rw[aA.jG (by omega),aA.aC (by omega),aA.aC (by omega),aA.aC (by omega)];exact g1
   ·rw[aA.jG (by omega),aA.aC (by omega),aA.bH]
   ·rw[aA.jG (by omega),aA.aC (by omega),aA.aC (by omega),aA.aC (by omega)];exact hfr id boU
  ·rw[akI h1' (by omega),hall] at hR;refine hQ _ _ _ _ _ (.inr rfl) (fZ rfl (by simp only[aA.set,if_true];rfl) rfl) ⟨boR (tG ⟨q.id,1,all.map fun a=>w.getD a.toNat default⟩),_,fun j=>j=nx+55,lY (aH (bB rfl) (aH (bB rfl) (aH (bW (l:=all.map fun a=>w.getD a.toNat default) (F:=fun j=>j=nx+55) (m:=all.length) (len:=all.length) (cap:=all.length) bF ?_ (by simp) (by simp) rfl) eP))),PU,hR _ _ (by omega) ?_ ?_ fun id boU e1 e2=> ?_⟩;·rw[aA.aC (by omega)];exact gd
   ·rw[aA.jG (by omega),aA.aC (by omega)];exact g1
   ·rw[aA.jG (by omega),aA.aC (by omega)];exact g2
   ·rw[aA.jG (by omega),aA.aC (by omega)];exact hfr id boU
end
theorem EB:cJ Tryz.prog mG Tryz.f214 lR sK:=cJ.mk Tryz.func214 (by kernel_rfl) D6
section
variable {H : aA} {nx : Nat} {K : D → aA → Nat → Prop}
theorem F8 {X:Nat→Prop} {c:Cfg} {i:CIn} {s:CSt} {es:List Ev} {i0 i1:Nat} {nm:Nat→Nat} (hb:aQ c) (hs:COk c s) (hin:i.ready.length=3) (hB:l9 X H nx i0 i1 nm s es) (hl:es.length<900)
 (h: ∀H' nx' nm',nx≤nx'→l9 X H' nx' i0 i1 nm' (CW c i s) (es++iP c s (KQ c i s))→(∀id,X id→H' id=H id)→K (.tup []) H' nx'):
 aB Tryz.prog mG [.one (.c (.ptr 5 i0 0 0)),boR (eIn i),.one (.c (.ptr 5 i1 0 0))] H nx K:=by
 refine EB rfl fun Q hQ=> ?_
 unfold lR
 obtain⟨wc,hc,pc,vc,tc,hi0,hw0,hh0,ht0,hpc,hvc⟩: ∃wc hc pc vc tc,H i0=some ⟨5,1,[[.osl 1 (nm 0) 0 s.words.length wc,.osl 1 (nm 1) 0 s.holds.length hc,.osl 4 (nm 2) 0 3 pc,.osl 3 (nm 3) 0 4 vc,.osl 5 (nm 4) 0 s.told.length tc]]⟩∧_:=by obtain⟨cells,h1,⟨wc,hc,pc,vc,tc,rfl,h2⟩,_⟩:=hB.rep.st;exact⟨wc,hc,pc,vc,tc,h1,h2⟩
 have hA:=hB.rep.apart (nx':=nx) [] [] (m5 _) (by simp) (by simp) (by simp) (by simp)
 simp only[bQ,eZ,List.map,List.nil_append] at hA
 repeat' first|apply bn1<;>(simp only[go_sem,hi0,hA])|fail
 obtain⟨H0,hH0⟩: ∃H0,H0=H.set nx ⟨3,1,[eIn i]⟩:=⟨_,rfl⟩
 rw[←hH0]
 have h0i:H0 nx=some ⟨3,1,[eIn i]⟩:=by rw[hH0];exact aA.bH
 have hB0:l9 (fun id=>X id∨id=nx) H0 (nx+7) i0 i1 nm s es:=hB.next (by omega) (fun id h1 h2=>by rw[hH0,aA.aC (by omega)]) fun id hid=>by
  rcases hid with hid|rfl;·have:=hB.rep.x id (.inl hid);exact⟨by omega,.inl hid⟩
  ·exact⟨by omega,.inr (m5 _)⟩
 have hxi0:=hB.rep.i0.1
 have hxi1:=hB.hap.i1.1
 refine aM.gP (β:=Nat×CSt×List Ev×(Nat→Nat)) (fun u=>en [(18,boP u.1),(17,boP 3),(4,.one (.c (.ptr 3 nx 0 0))),(2,.one (.c (.ptr 5 i1 0 0))),(0,.one (.c (.ptr 5 i0 0 0)))])
  (fun u H1 nx1=>u.1≤3∧COk c u.2.1∧l9 (fun id=>X id∨id=nx) H1 nx1 i0 i1 u.2.2.2 u.2.1 u.2.2.1∧(∀id,X id∨id=nx→H1 id=H0 id)∧vU c (vT i) ([0,1,2].drop u.1) u.2.1 u.2.2.1 (CW c i s) (es++iP c s (KQ c i s))∧u.2.2.1.length≤es.length+u.1)
  (fun u=>3-u.1) (0,s,es,nm) ⟨noF,_,by repeat' first|exact bo2|refine xqI rfl rfl ?_|refine xqP (by omega) rfl rfl ?_|fail,aK,by dsimp only;omega,hs,hB0,fun _ _=>rfl,⟨rfl,rfl⟩,by simp⟩ ?_
 rintro⟨k,s1,es1,nm1⟩ H1 nx1 hnx ⟨hk,hs1,hB1,hX1,hS1,hL1⟩ bpQ hKL
 dsimp only at hk hs1 hB1 hS1 hL1
 obtain⟨wc,hc,pc,vc,tc,mp,rp,mv,rv,bqC,g1,g2,g3,g4,g5,bkU,bkV,bp4,bp5,ga,gb⟩:=hB1.rep.get
 have hin1:H1 nx=some ⟨3,1,[eIn i]⟩:=by rw[hX1 nx (.inr rfl)];exact h0i
 by_cases hlt:k<3
 ·have hS2:=hS1;rw[ap4 hlt] at hS2;obtain⟨p,hpd⟩: ∃p,p=aF s1 k:=⟨_,rfl⟩
  obtain⟨qo,qc,oc,gr,gq,go⟩:=ga k hlt;rw[←hpd] at gr gq go;repeat' first|apply bn1<;>(simp only[go_sem,bqC,g1,gr,hin1])|apply bn2 (by omega)|refine⟨by omega,?_⟩|fail
  have hpo:=hs1.port k hlt;rw[←hpd] at hpo;have hn2:=hB1.rep.names.lt 2 (by omega);obtain⟨hla,hlb⟩:=hpo.last
  refine aM.gP (β:=Nat) (fun j=>en [(18,boP k),(17,boP 3),(8,boP j),(7,.one (.c (.ptr 4 (nm1 2) k 0))),(6,boP k),(4,.one (.c (.ptr 3 nx 0 0))),(2,.one (.c (.ptr 5 i1 0 0))),(0,.one (.c (.ptr 5 i0 0 0)))])
   (fun j H2 _=>1≤j∧j≤5∧H2=H1∧ ∀j',1≤j'→j'<j→NN s1 k (pQ s1 k j')=false) (fun j=>5-j) 1 ⟨noF,_,by repeat' first|exact bo2|refine xqI rfl rfl ?_|refine xqP (by omega) rfl rfl ?_|fail,aK,by omega,by omega,rfl,fun j' h1 h2=>by omega⟩ ?_
  rintro j H2 nx2 hnx2 ⟨hj1,hj5,hH2,hinv⟩ bkT hKJ;subst hH2;by_cases hj4:j≤4
  ·cases hrd:i.ready.getD k default with
   |false=>
    repeat' first| (first|apply bn1|apply bpJ (by omega))<;>(simp only[go_sem,hin1,hrd];try simp (disch:=omega) only[Iw])|refine⟨by omega,?_⟩|fail
    exact hKL _ _ _ (k+1,s1,es1,nm1) noF _ (by omega) (by dsimp only;omega) (by repeat' first|exact bo2|refine xqI rfl rfl ?_|refine xqP (by omega) rfl rfl ?_|fail) aK ⟨by dsimp only;omega,hs1,hB1.mono (by omega),hX1,hS2.none (agJ hrd),by dsimp only;omega⟩
   |true=>
   obtain⟨st,hst⟩: ∃st,st=pQ s1 k j:=⟨_,rfl⟩
   have hst':st=((p.last+(j:Int))%4).toNat:=(by rw[hst,hpd];rfl);have hst4:st<4:=(by omega);have hmod:(p.last+(j:Int)).tmod 4=(st:Int):=(by rw[brF (by omega)];omega);obtain⟨v,hvd⟩: ∃v,v=aL s1 st:=⟨_,rfl⟩
   obtain⟨po,ppc,do_,dc,gs,gp,gd⟩:=gb st hst4;rw[←hvd] at gs gp gd;obtain⟨md,rd,d1,d2,d3,bkS,bk2,bk3⟩:=gd.ex;by_cases hd0:v.done.length=0
   ·have hlen:((v.done.length:Int)=0)=True:=eq_true (by omega);repeat' first| (first|apply bn1|apply bpJ (by omega))<;>(simp only[go_sem,bqC,g1,g2,gr,gs,hin1,hmod,hrd,hlen];try simp (disch:=omega) only[Iw])|refine⟨by omega,?_⟩|fail
    exact hKJ _ _ _ (j+1) noF _ (by omega) (by omega) (by repeat' first|exact bo2|refine xqI rfl rfl ?_|refine xqP (by omega) rfl rfl ?_|fail) aK ⟨by omega,by omega,rfl,fun j' h1 h2=>by
     by_cases hj:j'<j
     ·exact hinv j' h1 hj
     ·have:j'=j:=(by omega);subst this;rw[←hst];exact decide_eq_false fun hc=>by rw[←hvd] at hc;omega⟩
   have hlen:((v.done.length:Int)=0)=False:=eq_false (by omega);obtain⟨d,hdd⟩: ∃d,d=v.done.getD 0 default:=⟨_,rfl⟩
   have bk4:rd[do_]?=some (aS d):=(by have:(rd.drop do_)[0]?=some (aS d):=(by rw[d2,p0];simp[hdd,List.getD,show 0<v.done.length by omega]);rwa [s5,Nat.add_zero] at this);by_cases hwho:d.who=k
   ·have hn8:=hB1.rep.names.lt (8+k) (by omega);have htl:s1.told.length≤36:=(by have:=hs1.st.lens hb;simp only[cX] at this;omega);have hol:=hpo.ol;have hex: ∃j∈p.out,j.n=d.n:=by obtain⟨_,j,q1,q2,_⟩:=(hs1.slv st hst4).out (key d) (by rw[←hvd];exact M9 (by rw[hdd];exact cC (by omega)));have e:(key d).1.toNat=k:=(by show d.who.toNat=k;omega);rw[e,←hpd] at q1;exact⟨j,q1,q2⟩
    obtain⟨hx1,hx2⟩:=PJ hex;have hx3: ¬bK (isC d.n) p.out<0:=by have:0≤bK (isC d.n) p.out:=cH.2 (by obtain⟨j,q1,q2⟩:=hex;exact⟨j,q1,decide_eq_true q2⟩);omega
    have hout: ∀{G:aA} {n':Nat} {K:D→aA→Nat→Prop},G (nm1 (5+k))=H2 (nm1 (5+k))→G (nm1 (8+k))=H2 (nm1 (8+k))→K (boP (bK (isC d.n) p.out)) G n'→aB Tryz.prog kV [.one (.agg [cI p.next,.osl 1 (nm1 (5+k)) qo p.queue.length qc,.osl 3 (nm1 (8+k)) 0 p.out.length oc,cI p.last]),boP d.n] G n' K:=fun h1 h2 h3=>
     KT (by omega) (lY (A8 (fO ZX (fO ((gq.frame h1).frz (aG bF _) trivial) (fO ((go.frame h2).frz (aG yK _) trivial) (fO ZX LH)))))) h3
    have hA:=hB1.rep.apart (nx':=nx2) [nx] [0,1,2,3,4,5+k,8+k,11+st,15+st] (by omega) (by simp) (fun x hx=>.inl (.inr (by simpa using hx))) (by simp;omega) (by simp;omega);simp only[bQ,eZ,List.map,List.cons_append,List.nil_append] at hA;obtain⟨mt,rt,e1,e2,e3,e4,e5,e6⟩:=g5.ex;obtain⟨mo,ro,o1,o2,bqD,bqE,bqF,blC⟩:=go.ex;rw[bq5] at e2 o2;subst e2;subst o2;refine aM.BW fun hnm=> ?_;have hgk: ∀r,(rp.set k r)[k]?=some r:=fun r=>by rw[bqZ (by omega)]
    have hmk: ∀k l,msk (nx2+k) l H2=H2:=fun k l=>BV hnm (by omega);repeat' first| (first|apply bn1|apply bpJ (by omega)|apply hout (by simp only[aA.set,aA.del,hA,if_false]) (by simp only[aA.set,aA.del,hA,if_false])| (refine tK (m:=mo) (by omega) hx3 hx1 bqF (by omega) (by omega) (by simp only[aA.set,aA.del,hA,if_false];exact o1) (fun cap' m' q1 q2=> ?_)))<;>(simp only[go_sem,t1,bqT,hmk,umS (G:=H2),umD (G:=H2),umB,hgk,bq1,bqC,g1,g2,gr,gs,hin1,hmod,hrd,hlen,d1,bk4,hwho,e1,o1,hA];try simp (disch:=omega) only[Iw])| (with_reducible first|refine fun(cap:Nat) (hcap:_≤cap)=> ?_|refine fun(hcp:_≤cap)=> ?_)|refine⟨by omega,?_⟩|fail
    obtain⟨nm',hnm'⟩: ∃nm',nm'=put (put nm1 4 (nx2+56)) (8+k) (nx2+88):=⟨_,rfl⟩
    have pn: ∀j,j≠4→j≠8+k→nm' j=nm1 j:=fun j h1 h2=>by rw[hnm',jE h2,jE h1]
    have p4:nm' 4=nx2+56:=(by rw[hnm',jE (by omega),t8]);have bk9:nm' (8+k)=nx2+88:=(by rw[hnm',t8]);obtain⟨s',hs'⟩: ∃s',s'=aR c s1 (.tell k st):=⟨_,rfl⟩
    have hdj:iF s1 st=d:=(by rw[hdd,hvd];rfl);have hpd':aF s' k= {p with out:=PE p.out d.n,last:=st}:=(by rw[hs',bL rfl (by rw[hs1.pl];omega),if_pos rfl,hdj,←hpd]);have hvd':aL s' st= {v with done:=v.done.drop 1}:=(by rw[hs',bO rfl (by rw[hs1.sl];omega),if_pos rfl,←hvd]);have htd:s'.told=s1.told++[d]:=(by rw[hs',←hdj];rfl);refine acI (hB1.upd k st nm' s' (by omega) ?_ ?_ ?_ ?_ ?_ ?_ (.inl hlt) (.inl hst4) (fun j hj hne=>by rw[hs',bL rfl (by rw[hs1.pl];omega),if_neg hne]) (fun j hj hne=>by rw[hs',bO rfl (by rw[hs1.sl];omega),if_neg hne])) (by omega) fun H' nx' hx hB' hX'=> ?_
    ·rw[hnm'];have hXl: ∀v,nx2≤v→¬((X v∨v=nx)∨v=i1):=fun v hv hn=>by have:=hB1.rep.x v hn;omega
     exact((hB1.rep.names.mono (by omega:nx1≤nx2)).put (nx':=nx2+57) (by omega) (by omega) (hXl _ (by omega))).put (by omega) (by omega) (hXl _ (by omega))
    ·intro j hj;by_cases h4:j=4;·subst h4;exact .inr ⟨.inl rfl,by omega⟩
     ·by_cases h8:j=8+k;·subst h8;exact .inr ⟨.inr (.inr (.inl rfl)),by omega⟩
      ·exact .inl (pn j h4 h8)
    ·intro id hid h0 hne;simp only[aA.set,aA.del,h0,hne 2 (by omega) (by omega),hne 3 (by omega) (by omega),hne 4 (by omega) (by omega),hne (8+k) (by omega) (by omega),show ¬id=nx2+47 by omega,show ¬id=nx2+55 by omega,show ¬id=nx2+56 by omega,show ¬id=nx2+88 by omega,if_false]
    ·refine⟨wc,hc,pc,vc,cap,?_,?_,?_,?_,bkU,bkV⟩;·simp only[aA.set,aA.del,hA,if_false,if_true,U2,pn 0 (by omega) (by omega),pn 1 (by omega) (by omega),pn 2 (by omega) (by omega),pn 3 (by omega) (by omega),p4,htd,t2,List.length_singleton];rw[hs'];rfl
     ·rw[pn 0 (by omega) (by omega),hs'];exact g3.frame (by simp only[aA.set,aA.del,hA,if_false])
     ·rw[pn 1 (by omega) (by omega),hs'];exact g4.frame (by simp only[aA.set,aA.del,hA,if_false])
     ·rw[p4,htd];exact⟨cap,(s1.told++[d]).map aS,by simp only[aA.set,aA.del,hA,if_false,if_true,show ¬nx2+56=nx2+88 by omega],rfl,by simp,by simp,by simpa using hcap,by simp⟩
    ·refine⟨mp,rp.set k [cI p.next,.osl 1 (nm1 (5+k)) qo p.queue.length qc,.osl 3 (nx2+88) 0 (PE p.out d.n).length cap',cI st],mp,rp,g1,by simp only[aA.set,aA.del,hA,if_false,if_true];rfl,by simp only[Y5,bp4],fun j hj hne=>by rw[bq0 (Ne.symm hne)],fun _=>⟨_,hgk _,⟨qo,qc,cap',?_,?_,?_⟩⟩⟩;·rw[hpd',pn (5+k) (by omega) (by omega),bk9];rfl
     ·rw[hpd',pn (5+k) (by omega) (by omega)];exact gq.frame (by simp only[aA.set,aA.del,hA,if_false])
     ·rw[hpd',bk9];exact⟨m',(PE p.out d.n).map eCJ,by simp only[aA.set,aA.del,hA,if_false,if_true];rfl,rfl,by simp,by simp,q1,by omega⟩
    ·refine⟨mv,rv.set st [.osl 3 (nm1 (11+st)) po v.pipe.length ppc,.osl 5 (nm1 (15+st)) (do_+1) (v.done.length-1) (dc-1),cI v.last],mv,rv,g2,by simp only[aA.set,aA.del,hA,if_false,if_true],by simp only[Y5,bp5],fun j hj hne=>by rw[bq0 (Ne.symm hne)],fun _=>⟨[.osl 3 (nm1 (11+st)) po v.pipe.length ppc,.osl 5 (nm1 (15+st)) (do_+1) (v.done.length-1) (dc-1),cI v.last],bqZ (by omega),⟨po,ppc,do_+1,dc-1,?_,?_,?_⟩⟩⟩;·rw[hvd',pn (11+st) (by omega) (by omega),pn (15+st) (by omega) (by omega)];simp only[aj9,CI]
     ·rw[hvd',pn (11+st) (by omega) (by omega)];exact gp.frame (by simp only[aA.set,aA.del,hA,if_false])
     ·rw[hvd',pn (15+st) (by omega) (by omega)];refine⟨md,rd,by simp only[aA.set,aA.del,hA,if_false];exact d1,by rw[brE,←d2,Y2],?_,by simp,?_,?_⟩;·simp only[CI];omega
      ·simp only[CI];omega
      ·omega
    ·simp only[go_sem];repeat' first|apply bn1<;>(simp only[go_sem];try simp (disch:=omega) only[Iw])|fail
     have boT:vT i s1 k=some (.tell k st):=(by rw[hst];exact acB hrd hj1 hj4 hinv (by rw[←hst];exact decide_eq_true ⟨by rw[←hvd];omega,by rw[←hvd,←hdd];exact hwho⟩));have hL:=hS2.some boT;rw[←hs',show y0 s1 (.tell k st)=[⟨3,k,d.n⟩] from by rw[←hdj];rfl] at hL;have hs2:COk c s':=(by rw[hs'];exact o9 hb hs1 (TB hs1 hlt boT));exact hKL _ _ _ (k+1,s',es1++[⟨3,k,d.n⟩],nm') noF _ (by omega) (by dsimp only;omega) (by repeat' first|exact bo2|refine xqI rfl rfl ?_|refine xqP (by omega) rfl rfl ?_|fail) aK ⟨by dsimp only;omega,hs2,hB'.mono (by omega),fun id hid=>(hX' id hid).trans (hX1 id hid),hL,by simp;omega⟩
   ·have hwf:(d.who=(k:Int))=False:=eq_false hwho;repeat' first| (first|apply bn1|apply bpJ (by omega))<;>(simp only[go_sem,bqC,g1,g2,gr,gs,hin1,hmod,hrd,hlen,d1,bk4,hwf];try simp (disch:=omega) only[Iw])|refine⟨by omega,?_⟩|fail
    exact hKJ _ _ _ (j+1) noF _ (by omega) (by omega) (by repeat' first|exact bo2|refine xqI rfl rfl ?_|refine xqP (by omega) rfl rfl ?_|fail) aK ⟨by omega,by omega,rfl,fun j' h1 h2=>by
     by_cases hj:j'<j
     ·exact hinv j' h1 hj
     ·have:j'=j:=(by omega);subst this;rw[←hst];exact decide_eq_false fun hc=>hwho (by rw[hdd,hvd];exact hc.2)⟩
  ·repeat' first| (first|apply bn1|apply bpK (by omega))<;>(simp only[go_sem];try simp (disch:=omega) only[Iw])|fail
   exact hKL _ _ _ (k+1,s1,es1,nm1) noF _ (by omega) (by dsimp only;omega) (by repeat' first|exact bo2|refine xqI rfl rfl ?_|refine xqP (by omega) rfl rfl ?_|fail) aK ⟨by dsimp only;omega,hs1,hB1.mono (by omega),hX1,hS2.none (acZ fun j' h1 h2=>hinv j' h1 (by omega)),by dsimp only;omega⟩
 ·repeat' first|apply bn1<;>(simp only[go_sem])|apply bn3 (by omega)|fail
  have hk3:k=3:=by omega
  subst hk3;obtain⟨rfl,rfl⟩:=vU.nil hS1;refine hQ _ _ _ _ _ (.inl rfl) rfl (h _ _ nm1 (by omega) (hB1.next (by omega) (fun _ _ _=>rfl) fun id hid=>⟨?_,.inl (.inl hid)⟩) fun id hid=> ?_);·have:=hB.rep.x id (.inl hid);omega
  ·rw[hX1 id (.inl hid),hH0,aA.aC];have:=hB.rep.x id (.inl hid);omega
end
theorem EY:cJ Tryz.prog nX Tryz.f217 mI uE:=cJ.mk Tryz.func217 (by kernel_rfl) FG
theorem aoP {c:Cfg} {i:CIn} {s:CSt} {k:Nat} (h: ¬(i.send.getD k default=true∧(aF s k).queue.length<2∧(aF s k).next<(c.cP.getD k default).length)):PA c i s k=none:=if_neg h
section
variable {H : aA} {nx : Nat} {K : D → aA → Nat → Prop}
theorem HN {X:Nat→Prop} {c:Cfg} {i:CIn} {s:CSt} {es:List Ev} {i0 i1:Nat} {nm:Nat→Nat} (hb:aQ c) (hs:COk c s) (hin:i.send.length=3) (hB:l9 X H nx i0 i1 nm s es) (hl:es.length<900)
 (h: ∀H' nx' nm',nx≤nx'→l9 X H' nx' i0 i1 nm' (dR c s (MV c i s)) (es++iP c s (MV c i s))→(∀id,X id→H' id=H id)→K (.tup []) H' nx'):
 aB Tryz.prog nX [.one (.c (.ptr 5 i0 0 0)),boR (cU c),boR (eIn i),.one (.c (.ptr 5 i1 0 0))] H nx K:=by
 refine EY rfl fun Q hQ=> ?_
 unfold mI
 obtain⟨hp3,hpr⟩:=hC hb
 obtain⟨wc,hc,pc,vc,tc,hi0,hw0,hh0,ht0,hpc,hvc⟩: ∃wc hc pc vc tc,H i0=some ⟨5,1,[[.osl 1 (nm 0) 0 s.words.length wc,.osl 1 (nm 1) 0 s.holds.length hc,.osl 4 (nm 2) 0 3 pc,.osl 3 (nm 3) 0 4 vc,.osl 5 (nm 4) 0 s.told.length tc]]⟩∧_:=by obtain⟨cells,h1,⟨wc,hc,pc,vc,tc,rfl,h2⟩,_⟩:=hB.rep.st;exact⟨wc,hc,pc,vc,tc,h1,h2⟩
 have hA:=hB.rep.apart (nx':=nx) [] [] (m5 _) (by simp) (by simp) (by simp) (by simp)
 simp only[bQ,eZ,List.map,List.nil_append] at hA
 repeat' first|apply bn1<;>(simp only[go_sem,t1,bqT,hi0,hA])|fail
 obtain⟨H0,hH0⟩: ∃H0,H0=(H.set nx ⟨3,1,[cU c]⟩).set (nx+1) ⟨3,1,[eIn i]⟩:=⟨_,rfl⟩
 rw[←hH0]
 have h0c:H0 nx=some ⟨3,1,[cU c]⟩:=by rw[hH0,aA.aC (by omega)];exact aA.bH
 have h0i:H0 (nx+1)=some ⟨3,1,[eIn i]⟩:=by rw[hH0];exact aA.bH
 have hxi0:=hB.rep.i0.1
 have hxi1:=hB.hap.i1.1
 have hB0:l9 (fun id=>X id∨id=nx∨id=nx+1) H0 (nx+8) i0 i1 nm s es:=hB.next (by omega) (fun id h1 h2=>by rw[hH0,aA.aC (by omega),aA.aC (by omega)]) fun id hid=>by
  rcases hid with hid|rfl|rfl;·have:=hB.rep.x id (.inl hid);exact⟨by omega,.inl hid⟩
  ·exact⟨by omega,.inr (m5 _)⟩
  ·exact⟨by omega,.inr (by omega)⟩
 refine aM.gP (β:=Nat×CSt×List Ev×(Nat→Nat)) (fun u=>en [(15,boP u.1),(14,boP 3),(6,.one (.c (.ptr 3 (nx+1) 0 0))),(5,.one (.c (.ptr 3 nx 0 0))),(3,.one (.c (.ptr 5 i1 0 0))),(0,.one (.c (.ptr 5 i0 0 0)))])
  (fun u H1 nx1=>u.1≤3∧COk c u.2.1∧l9 (fun id=>X id∨id=nx∨id=nx+1) H1 nx1 i0 i1 u.2.2.2 u.2.1 u.2.2.1∧(∀id,X id∨id=nx∨id=nx+1→H1 id=H0 id)∧vU c (PA c i) ([0,1,2].drop u.1) u.2.1 u.2.2.1 (dR c s (MV c i s)) (es++iP c s (MV c i s))∧u.2.2.1.length≤es.length+u.1)
  (fun u=>3-u.1) (0,s,es,nm) ⟨noF,_,by repeat' first|exact bo2|refine xqI rfl rfl ?_|refine xqP (by omega) rfl rfl ?_|fail,aK,by dsimp only;omega,hs,hB0.mono (by omega),fun _ _=>rfl,⟨rfl,rfl⟩,by simp⟩ ?_
 rintro⟨k,s1,es1,nm1⟩ H1 nx1 hnx ⟨hk,hs1,hB1,hX1,hS1,hL1⟩ bpQ hKL
 dsimp only at hk hs1 hB1 hS1 hL1
 obtain⟨wc,hc,pc,vc,tc,mp,rp,mv,rv,bqC,g1,g2,g3,g4,g5,bkU,bkV,bp4,bp5,ga,gb⟩:=hB1.rep.get
 have hin1:H1 (nx+1)=some ⟨3,1,[eIn i]⟩:=by rw[hX1 _ (.inr (.inr rfl))];exact h0i
 have hcf1:H1 nx=some ⟨3,1,[cU c]⟩:=by rw[hX1 _ (.inr (.inl rfl))];exact h0c
 by_cases hlt:k<3
 ·have hS2:=hS1;rw[ap4 hlt] at hS2;obtain⟨p,hpd⟩: ∃p,p=aF s1 k:=⟨_,rfl⟩
  obtain⟨qo,qc,oc,gr,gq,go⟩:=ga k hlt;rw[←hpd] at gr gq go;have hpo:=hs1.port k hlt;rw[←hpd] at hpo;obtain⟨hn1,hn2⟩:=hpo.next;have hql:=hpo.ql;have hprk:=hpr k;obtain⟨mq,rq0,q1,q2,q3,q4,q5,q6⟩:=gq.ex;rw[bqW] at q4;by_cases boT:i.send.getD k default=true∧(aF s1 k).queue.length<2∧(aF s1 k).next<(c.cP.getD k default).length
  ·have hO2:PA c i s1 k=some (.ask k):=if_pos boT;obtain⟨hsd,hq2,hnl⟩:=boT;rw[←hpd] at hq2 hnl;have hA:=hB1.rep.apart (nx':=nx1) [nx,nx+1] [0,1,2,3,4,5+k,8+k] (m5 _) (by simp) (fun x hx=>.inl (.inr (by simpa using hx))) (by simp;omega) (by simp;omega);simp only[bQ,eZ,List.map,List.cons_append,List.nil_append] at hA;have hgk: ∀r,(rp.set k r)[k]?=some r:=fun r=>by rw[bqZ (by omega)]
   refine aM.BW fun hnm=> ?_;have hmk: ∀k l,msk (nx1+k) l H1=H1:=fun k l=>BV hnm (by omega);repeat' first| (first|apply bn1|apply bpJ (by omega))<;>(simp only[go_sem,t1,bqT,hmk,umS (G:=H1),umD (G:=H1),umB,bqC,g1,gr,hgk,bq1,hcf1,hin1,hsd,q1,hA])|apply bn2 (by omega)| (with_reducible first|refine fun(cap:Nat) (hcap:_≤cap)=> ?_|refine fun(hcp:_≤cap)=> ?_)|refine⟨by omega,?_⟩|fail
   have er:List.take p.queue.length (List.drop qo rq0)++[[cI p.next]]=(p.queue++[p.next]).map aJ:=(by rw[q2,boL (by simp),bqX];rfl);rw[er];obtain⟨nm',hnm'⟩: ∃nm',nm'=put nm1 (5+k) (nx1+46):=⟨_,rfl⟩
   have pn: ∀j,j≠5+k→nm' j=nm1 j:=fun j h1=>by rw[hnm',jE h1]
   have p5:nm' (5+k)=nx1+46:=(by rw[hnm',t8]);have hL:=hS2.some hO2;obtain⟨s2,hs2⟩: ∃s2:CSt,s2= {s1 with bM:=s1.bM.set k {p with queue:=p.queue++[p.next]}}:=⟨_,rfl⟩
   obtain⟨s',hs'⟩: ∃s',s'=aR c s1 (.ask k):=⟨_,rfl⟩
   rw[←hs',show y0 s1 (.ask k)=[⟨1,k,p.next⟩] from by rw[hpd];rfl] at hL;have hsk:COk c s':=(by rw[hs'];exact o9 hb hs1 (YH hs1 hlt hO2));have hpd2:aF s2 k= {p with queue:=p.queue++[p.next]}:=(by rw[hs2,bL rfl (by rw[hs1.pl];omega),if_pos rfl]);have hpd':aF s' k= {p with queue:=p.queue++[p.next],next:=p.next+1}:=(by rw[hs',bL rfl (by rw[hs1.pl];omega),if_pos rfl,←hpd]);refine acI (hB1.upd k 8 nm' s2 (by omega) ?_ ?_ ?_ ?_ ?_ ?_ (.inl hlt) (.inr rfl) (fun j hj hne=>by rw[hs2,bL rfl (by rw[hs1.pl];omega),if_neg hne]) (fun j hj hne=>by rw[hs2];rfl)) (by omega) fun H' nx' hx hB' hX'=> ?_
   ·rw[hnm'];have hXl: ∀v,nx1≤v→¬((X v∨v=nx∨v=nx+1)∨v=i1):=fun v hv hn=>by have:=hB1.rep.x v hn;omega
    exact hB1.rep.names.put (by omega) (by omega) (hXl _ (by omega))
   ·intro j hj;by_cases h4:j=5+k;·subst h4;exact .inr ⟨.inr (.inl rfl),by omega⟩
    ·exact .inl (pn j h4)
   ·intro id hid h0 hne;simp only[aA.set,aA.del,hne 2 (by omega) (by omega),hne (5+k) (by omega) (by omega),show ¬id=nx1+45 by omega,show ¬id=nx1+46 by omega,if_false]
   ·refine⟨wc,hc,pc,vc,tc,?_,?_,?_,?_,bkU,bkV⟩;·simp only[aA.set,aA.del,hA,if_false,U2,pn 0 (by omega),pn 1 (by omega),pn 2 (by omega),pn 3 (by omega),pn 4 (by omega)];rw[hs2];exact bqC
    ·rw[pn 0 (by omega),hs2];exact g3.frame (by simp only[aA.set,aA.del,hA,if_false])
    ·rw[pn 1 (by omega),hs2];exact g4.frame (by simp only[aA.set,aA.del,hA,if_false])
    ·rw[pn 4 (by omega),hs2];exact g5.frame (by simp only[aA.set,aA.del,hA,if_false])
   ·refine⟨mp,_,mp,rp,g1,aA.bH,by simp only[Y5,bp4],fun j hj hne=>by rw[bq0 (Ne.symm hne)],fun _=>⟨_,hgk _,⟨0,cap,oc,?_,?_,?_⟩⟩⟩;·rw[hpd2,pn (8+k) (by omega),p5];simp only[af5,t2,List.length_singleton]
    ·rw[hpd2,p5];exact⟨cap,(p.queue++[p.next]).map aJ,by simp only[aA.set,aA.del,hA,if_false,if_true],rfl,by simp,by simp,by simpa using hcap,by simp⟩
    ·rw[hpd2,pn (8+k) (by omega)];exact go.frame (by simp only[aA.set,aA.del,hA,if_false])
   ·exact⟨mv,rv,mv,rv,g2,by simp only[aA.set,aA.del,hA,if_false];exact g2,bp5,fun _ _ _=>rfl,fun hh=>by omega⟩
   ·obtain⟨wc,hc,pc,vc,tc,mp,rp,mv,rv,bqC,g1,g2,g3,g4,g5,bkU,bkV,bp4,bp5,ga,gb⟩:=hB'.rep.get;obtain⟨qo,qc,oc,gr,gq,go⟩:=ga k hlt;have hgk: ∀r,(rp.set k r)[k]?=some r:=fun r=>by rw[bqZ (by omega)]
    have hA2:=hB'.rep.apart (nx':=nx') [nx,nx+1] [0,1,2,3,4,5+k,8+k] (m5 _) (by simp) (fun x hx=>.inl (.inr (by simpa using hx))) (by simp;omega) (by simp;omega);simp only[bQ,eZ,List.map,List.cons_append,List.nil_append] at hA2;have pn2:=(pn 2 (by omega)).symm;rw[hpd2] at gr gq go;simp only[go_sem];repeat' first|apply bn1<;>(simp only[go_sem,t1,bqT,pn2,bqC,g1,gr,hgk,bq1,hA2];try simp (disch:=omega) only[Iw])|fail
    have hBu:=hB'.upd (H':=H'.set (nm' 2) ⟨4,mp,rp.set k [cI (p.next+1),.osl 1 (nm' (5+k)) qo (p.queue.length+1) qc,.osl 3 (nm' (8+k)) 0 p.out.length oc,cI p.last]⟩) (nx':=nx'+10) k 8 nm' s' (by omega) (hB'.rep.names.mono (by omega)) (fun j _=>.inl rfl) ?_ ?_ ?_ ?_ (.inl hlt) (.inr rfl) (fun j hj hne=>(show aF s' j=aF s1 j from by rw[hs',bL (s:=s1) rfl (by rw[hs1.pl];omega),if_neg hne]).trans (show aF s2 j=aF s1 j from by rw[hs2,bL (s:=s1) rfl (by rw[hs1.pl];omega),if_neg hne]).symm) (fun j hj hne=>by rw[hs',hs2];rfl);·exact hKL _ _ _ (k+1,s',es1++[⟨1,k,p.next⟩],nm') noF _ (by omega) (by dsimp only;omega) (by repeat' first|exact bo2|refine xqI rfl rfl ?_|refine xqP (by omega) rfl rfl ?_|fail) aK ⟨by dsimp only;omega,hsk,hBu.1,fun id hid=>(hBu.2 id hid).trans ((hX' id hid).trans (hX1 id hid)),hL,by simp;omega⟩
    ·intro id hid h0 hne;exact aA.aC (hne 2 (by omega) (by omega))
    ·refine⟨wc,hc,pc,vc,tc,?_,?_,?_,?_,bkU,bkV⟩;·simp only[aA.set,hA2,if_false];rw[bqC,hs',hs2];rfl
     ·rw[hs2] at g3;rw[hs'];exact g3.frame (by simp only[aA.set,hA2,if_false])
     ·rw[hs2] at g4;rw[hs'];exact g4.frame (by simp only[aA.set,hA2,if_false])
     ·rw[hs2] at g5;rw[hs'];exact g5.frame (by simp only[aA.set,hA2,if_false])
    ·refine⟨mp,_,mp,rp,g1,aA.bH,by simp only[Y5,bp4],fun j hj hne=>by rw[bq0 (Ne.symm hne)],fun _=>⟨_,hgk _,⟨qo,qc,oc,?_,?_,?_⟩⟩⟩;·rw[hpd'];simp only[af5,t2,List.length_singleton]
     ·rw[hpd'];exact gq.frame (by simp only[aA.set,hA2,if_false])
     ·rw[hpd'];exact go.frame (by simp only[aA.set,hA2,if_false])
    ·exact⟨mv,rv,mv,rv,g2,by simp only[aA.set,hA2,if_false];exact g2,bp5,fun _ _ _=>rfl,fun hh=>by omega⟩
  ·have hO2:=aoP boT;rw[←hpd] at boT
   cases hsd:i.send.getD k default with
   |false=>
    repeat' first|apply bn1<;>(simp only[go_sem,t1,bqT,bqC,g1,gr,hcf1,hin1,hsd];try simp (disch:=omega) only[Iw])|apply bn2 (by omega)|refine⟨by omega,?_⟩|fail
    exact hKL _ _ _ (k+1,s1,es1,nm1) noF _ (by omega) (by dsimp only;omega) (by repeat' first|exact bo2|refine xqI rfl rfl ?_|refine xqP (by omega) rfl rfl ?_|fail) aK ⟨by dsimp only;omega,hs1,hB1.mono (by omega),hX1,hS2.none (hO2),by dsimp only;omega⟩
   |true=>
   rw[hsd] at boT;repeat' first| (first|apply bn1|refine bpL (fun h=> ?_) fun h=> ?_)<;>(simp only[go_sem,t1,bqT,bqC,g1,gr,hcf1,hin1,hsd];try simp (disch:=omega) only[Iw])|apply bn2 (by omega)|refine bnE (fun h=> ?_) fun h=> ?_|refine⟨by omega,?_⟩|fail
   all_goals first|exact absurd ⟨rfl,by omega,by omega⟩ boT| (exact hKL _ _ _ (k+1,s1,es1,nm1) noF _ (by omega) (by dsimp only;omega) (by repeat' first|exact bo2|refine xqI rfl rfl ?_|refine xqP (by omega) rfl rfl ?_|fail) aK ⟨by dsimp only;omega,hs1,hB1.mono (by omega),hX1,hS2.none hO2,by dsimp only;omega⟩)
 ·repeat' first|apply bn1<;>(simp only[go_sem])|apply bn3 (by omega)|fail
  have hk4:k=3:=by omega
  subst hk4;obtain⟨rfl,rfl⟩:=vU.nil hS1;refine hQ _ _ _ _ _ (.inl rfl) rfl (h _ _ nm1 (by omega) (hB1.next (by omega) (fun _ _ _=>rfl) fun id hid=>⟨?_,.inl (.inl hid)⟩) fun id hid=> ?_);·have:=hB.rep.x id (.inl hid);omega
  ·have:=hB.rep.x id (.inl hid);rw[hX1 id (.inl hid),hH0,aA.aC (by omega),aA.aC (by omega)]
end
end Go.Proofs.YtmccpdapaccnoaaGreat
