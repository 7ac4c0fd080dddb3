/- Texts laid together by a program: rules, contracts and the walk that leads to the law. -/
import Derived.Test.YtmccpdapaccnoaaGreatPK5
import Derived.Test.YtmccpdapaccnoaaGreatPK11
import Derived.Test.YtmccpdapaccnoaaGreatPK10
import Derived.Test.YtmccpdapaccnoaaGreatPK7
import Derived.Test.YtmccpdapaccnoaaGreatPK8
set_option linter.unusedVariables false
set_option linter.unusedSimpArgs false
set_option linter.unusedSectionVars false
set_option maxRecDepth 100000
set_option maxHeartbeats 8000000
namespace Go.Proofs.YtmccpdapaccnoaaGreat
open Go Go.AM
attribute [local irreducible] aM wv aB vd wvH
theorem FD:cJ Tryz.prog eC Tryz.f283 mR uC:=cJ.mk Tryz.func283 (by kernel_rfl) FN
section
variable {H : aA} {nx : Nat} {K : D → aA → Nat → Prop}
theorem HH {Y:Nat→Prop} {i1:Nat} {es:List Ev} {kind who n:Int} (hh:aiW Y H nx i1 es) (hl:es.length<1000)
 (h: ∀H' nx',nx≤nx'→aiW Y H' nx' i1 (es++[⟨kind,who,n⟩])→(∀id,Y id→H' id=H id)→K (.tup []) H' nx'):aB Tryz.prog eC [.one (.c (.ptr 5 i1 0 0)),boP kind,boP who,boP n] H nx K:=by
 obtain⟨⟨d,a,b,c,e,h1,hd⟩,⟨h2,h3⟩,hy⟩:=hh
 have k1: ∀k,(i1=nx+k)=False:=fun k=>eq_false (by omega)
 have k2: ∀k,(nx+k=i1)=False:=fun k=>eq_false (by omega)
 refine FD rfl fun Q hQ=> ?_
 unfold mR
 rcases hd with⟨rfl,rfl⟩|⟨ev,cap,rfl,⟨m,rows,g1,g2,g3,g4,g5,bkU⟩,bkV,bp4,bp5⟩
 ·repeat' first|apply bn1<;>(simp only[go_sem,h1,k1,k2])| (with_reducible first|refine fun(cap:Nat) (hcap:_≤cap)=> ?_|refine fun(hcp:_≤cap)=> ?_)|fail
  refine hQ _ _ _ _ _ (.inl rfl) rfl (h _ _ (by omega) ⟨⟨_,a,b,c,e,by simp only[aA.set,if_true];rfl,.inr ⟨nx+10,cap,rfl,⟨_,_,by simp only[aA.set,k2,if_false,if_true];rfl,rfl,by simp,by simp,by simpa using hcap,by simp⟩,by omega,fun hn=>by have:=hy _ hn;omega,by omega⟩⟩,⟨by omega,h3⟩,fun id hi=>by have:=hy id hi;omega⟩ fun id hi=> ?_);have boU:=hy id hi;have e1:id≠i1:=fun he=>h3 (he▸hi);simp only[aA.set,e1,show ¬id=nx+9 by omega,show ¬id=nx+10 by omega,if_false]
 ·have k3: ∀k,(ev=nx+k)=False:=fun k=>eq_false (by omega);have k4: ∀k,(nx+k=ev)=False:=fun k=>eq_false (by omega);have k5:=eq_false bp5;have k6:=eq_false (Ne.symm bp5);rw[bq5] at g2;subst g2;repeat' first|apply bn1<;>(simp only[go_sem,h1,k1,k2,k3,k4,k5,k6,g1])| (with_reducible first|refine fun(cap:Nat) (hcap:_≤cap)=> ?_|refine fun(hcp:_≤cap)=> ?_)|refine⟨by omega,?_⟩|fail
  refine hQ _ _ _ _ _ (.inl rfl) rfl (h _ _ (by omega) ⟨⟨_,a,b,c,e,by simp only[aA.set,if_true];rfl,.inr ⟨nx+10,cap,by simp,⟨_,_,by simp only[aA.set,k2,if_false,if_true];rfl,by simp[eEv],by simp,by simp,by simpa using hcap,by simp⟩,by omega,fun hn=>by have:=hy _ hn;omega,by omega⟩⟩,⟨by omega,h3⟩,fun id hi=>by have:=hy id hi;omega⟩ fun id hi=> ?_);have boU:=hy id hi;have e1:id≠i1:=fun he=>h3 (he▸hi);have e2:id≠ev:=fun he=>bp4 (he▸hi);simp only[aA.set,aA.del,e1,e2,show ¬id=nx+9 by omega,show ¬id=nx+10 by omega,if_false]
theorem arG {X:Nat→Prop} {i0 i1:Nat} {nm:Nat→Nat} {s:CSt} {es:List Ev} {kind who n:Int} (hB:l9 X H nx i0 i1 nm s es) (hl:es.length<1000)
 (h: ∀H' nx',nx≤nx'→l9 X H' nx' i0 i1 nm s (es++[⟨kind,who,n⟩])→(∀id,X id→H' id=H id)→K (.tup []) H' nx'):aB Tryz.prog eC [.one (.c (.ptr 5 i1 0 0)),boP kind,boP who,boP n] H nx K:=by
 refine HH hB.hap hl fun H' nx' hx hc hfr=>h H' nx' hx ⟨hB.rep.frame hx (hfr _ (.inr (.inl rfl))) (fun k hk=>hfr _ (.inr (.inr ⟨k,hk,rfl⟩))) fun id hid=>⟨?_,fun he=>hB.rep.i0.2 (he▸hid),fun k hk he=>hB.rep.names.av k hk (he▸hid)⟩,hc⟩ fun id hid=>hfr id (.inl hid)
 have:=hB.rep.x id hid;omega
theorem acI {X:Nat→Prop} {H0:aA} {i0 i1:Nat} {nm:Nat→Nat} {s:CSt} {es:List Ev} {kind who n:Int} (hB:l9 X H nx i0 i1 nm s es∧ ∀id,X id→H id=H0 id) (hl:es.length<1000)
 (h: ∀H' nx',nx≤nx'→l9 X H' nx' i0 i1 nm s (es++[⟨kind,who,n⟩])→(∀id,X id→H' id=H0 id)→K (.tup []) H' nx'):aB Tryz.prog eC [.one (.c (.ptr 5 i1 0 0)),boP kind,boP who,boP n] H nx K:=
 arG hB.1 hl fun H' nx' hx h1 h2=>h H' nx' hx h1 fun id hid=>(h2 id hid).trans (hB.2 id hid)
theorem p9 (l:List fC) (f:FuncId) (caps:List D1) (p:fC→Bool) (hl:l.length<2^40) (hc:caps.all D1.dQ=true) (hf: ∀x∈l,∀(H:aA) (nx:Nat) (K:D→aA→Nat→Prop),K (dB (p x)) H nx→aB Tryz.prog f (boR (eCJ x)::caps.map fun d=>.one (.c d)) H nx K):
 aB Tryz.prog bZ [dS (l.map eCJ),.one (.c (.clo f caps))] .nil 0 fun r _ _=>r.plain=true∧r=boP (bK p l):=by
 refine pH rfl fun Q hQ=> ?_
 unfold eU
 repeat' first|apply bn1<;>(simp only[go_sem])|fail
 (refine aM.loop (α:={k:Nat//k≤l.length∧(∀i,i<k→p (l.getD i default)=false)}) (fun u=>en [(8,boP u.1),(7,boP l.length),(1,.one (.c (.clo f caps))),(0,dS (l.map eCJ))]) (fun _=>.nil) _ (fun u=>l.length-u.1) ⟨0,by omega,(by intros;first|trivial|omega)⟩ (bU (m5 _) (by repeat' first|exact bo2|refine xqI rfl rfl ?_| (with_reducible apply bo3)| ((with_reducible apply bo0);exact bpG (by assumption))| ((with_reducible apply bo1);apply bo7)|fail)) ?_);(rintro⟨k,hk,hinv⟩ bpQ hKL)
 by_cases hlt:k<l.length
 ·have hmem:l.getD k default∈l:=by simp[List.getD,hlt]
  repeat' first| (first|apply bn1|apply hf _ hmem _ _ _)<;>(simp only[go_sem];try simp (disch:=omega) only[Iw])|apply bn2 (by omega)| ((refine bnF (fun h=> ?_) (fun h=> ?_))<;>try subst h)|refine⟨by omega,?_⟩|fail
  ·refine aZ hQ _ rfl rfl (qA (bq3 (CU (by omega) (by assumption) hinv)))
  · (refine hKL _ _ _ ⟨k+1,by omega,iS hinv (by assumption)⟩ (by omega) (by(try dsimp only);omega) (bU (m5 _) (by repeat' first|exact bo2|refine xqI rfl rfl ?_| (with_reducible apply bo3)| ((with_reducible apply bo0);exact bpG (by assumption))| ((with_reducible apply bo1);apply bo7)|fail)))
 ·repeat' first|apply bn1<;>(simp only[go_sem])|apply bn3 (by omega)|fail
  ·refine aZ hQ _ rfl rfl (qA (bq3 (tI fun i hi=>hinv i (by omega))))
theorem iY {l:List fC} {f:FuncId} {caps caps0:List D1} {p:fC→Bool} {d:D} (hl:l.length<2^40) (hc:caps.all D1.dQ=true) (hd:CvD H (fun _=>True) id 0 (dS (l.map eCJ)) d) (hk:CvD H (fun _=>True) id 0 (.one (.c (.clo f caps))) (.one (.c (.clo f caps0)))) (hf: ∀x∈l,∀(H:aA) (nx:Nat) (K:D→aA→Nat→Prop),K (dB (p x)) H nx→aB Tryz.prog f (boR (eCJ x)::caps.map fun d=>.one (.c d)) H nx K)
 (h:K (boP (bK p l)) H nx):aB Tryz.prog bZ [d,.one (.c (.clo f caps0))] H nx K:=
 (p9 l f caps p hl hc hf).pure rfl (aI ⟨hd,hk,trivial⟩) fun r hr=>hr▸h
theorem n4 (l:List fC) (f:FuncId) (caps:List D1) (p:fC→Bool) (hl:l.length<2^40) (hc:caps.all D1.dQ=true) (hf: ∀x∈l,∀(H:aA) (nx:Nat) (K:D→aA→Nat→Prop),K (dB (p x)) H nx→aB Tryz.prog f (boR (eCJ x)::caps.map fun d=>.one (.c d)) H nx K):
 aB Tryz.prog cM [dS (l.map eCJ),.one (.c (.clo f caps))] .nil 0 fun r _ _=>r.plain=true∧r=dB (decide (0≤bK p l)):=by
 refine nD rfl fun Q hQ=> ?_
 unfold dY
 repeat' first| (first|apply bn1|refine iY hl hc (aE rfl) (kC hc) hf ?_)<;>(simp only[go_sem])|fail
 all_goals exact aZ hQ _ rfl rfl rfl
theorem nR {l:List fC} {f:FuncId} {caps caps0:List D1} {p:fC→Bool} {d:D} (hl:l.length<2^40) (hc:caps.all D1.dQ=true) (hd:CvD H (fun _=>True) id 0 (dS (l.map eCJ)) d) (hk:CvD H (fun _=>True) id 0 (.one (.c (.clo f caps))) (.one (.c (.clo f caps0)))) (hf: ∀x∈l,∀(H:aA) (nx:Nat) (K:D→aA→Nat→Prop),K (dB (p x)) H nx→aB Tryz.prog f (boR (eCJ x)::caps.map fun d=>.one (.c d)) H nx K)
 (h:K (dB (decide (0≤bK p l))) H nx):aB Tryz.prog cM [d,.one (.c (.clo f caps0))] H nx K:=
 (n4 l f caps p hl hc hf).pure rfl (aI ⟨hd,hk,trivial⟩) fun r hr=>hr▸h
theorem QZ {j:fC} {n:Int} (h:K (dB (isC n j)) H nx):aB Tryz.prog rQ [boR (eCJ j),.one (.c (.fQ [cI n]))] H nx K:=by
 refine aB.pure (args0:=[boR (eCJ j),.one (.c (.fQ [cI n]))]) (R:=fun rr=>rr=dB (isC n j)) ?_ rfl (aI ⟨aE rfl,aE rfl,trivial⟩) (fun r hr=>hr▸h);clear h;refine OM rfl fun Q hQ=> ?_;unfold vD;repeat' first|apply bn1<;>(simp only[go_sem])|fail
 all_goals first|with_reducible refine aZ hQ _ rfl rfl ?_|skip
 all_goals first|exact pD (by omega)|exact q9 (by omega)|exact j7 (by omega)|rfl
theorem KT {p:fR} {n:Int} (hl:p.out.length<2^40) {d0:D} (hd0:CvD H (fun _=>True) id 0 (boR (cD p)) d0) (h:K (boP (bK (isC n) p.out)) H nx):aB Tryz.prog kV [d0,boP n] H nx K:=by
 refine aB.pure (args0:=[boR (cD p),boP n]) (R:=fun rr=>rr=boP (bK (isC n) p.out)) ?_ rfl (aI ⟨hd0,aE rfl,trivial⟩) (fun r hr=>hr▸h);clear h;refine UN rfl fun Q hQ=> ?_;unfold AR;repeat' first| (first|apply bn1|refine iY (l:=p.out) (caps:=[.fQ [cI n]]) (p:=isC n) hl rfl (aE rfl) (PR ⟨zE rfl trivial rfl rfl rfl,trivial⟩) (fun x _ H nx K h=>QZ h) ?_)<;>(simp only[go_sem])|fail
 all_goals first|with_reducible refine aZ hQ _ rfl rfl ?_|skip
 all_goals first|rfl|exact qA (by omega)
theorem DE {m:List Rng} {q:Req} (hl:m.length<2^40) (h:K (boP (gZ m q)) H nx):aB Tryz.prog rN [dS (m.map eN),boR (eB q)] H nx K:=by
 refine aB.pure (args0:=[dS (m.map eN),boR (eB q)]) (R:=fun rr=>rr=boP (gZ m q)) ?_ rfl (aI ⟨aE rfl,aE rfl,trivial⟩) (fun r hr=>hr▸h);clear h;refine UU rfl fun Q hQ=> ?_;unfold z2;have hwh:bV m (bE q.addr q.many q.wrap)<m.length:=by have hlt:=PQ (p:=(inR · ((bE q.addr q.many q.wrap).getD 0 default))) (l:=m);unfold bV;grind
 repeat' first| (first|apply bn1|apply KD hl)<;>(simp only[go_sem])|refine bnE (fun h=> ?_) fun h=> ?_|refine⟨by omega,?_⟩|fail
 all_goals first|with_reducible refine aZ hQ _ rfl rfl ?_|skip
 all_goals first|exact qA (by unfold gZ;rw[if_pos (by omega)])|exact qA (by unfold gZ;rw[if_neg (by omega)])
theorem EP {c:Cfg} {who:Nat} {st:Nat} {i:Int} {j:fC} (hp:c.cP.length=3) (ha:oA c who j.n) (h:K (dB (decide ((bT c who j.n).id=i∧ ¬j.left=st))) H nx):aB Tryz.prog iW [boR (eCJ j),.one (.c (.fQ (cU c))),.one (.c (.fQ [cI who])),.one (.c (.fQ [cI i])),.one (.c (.fQ [cI st]))] H nx K:=by
 refine aB.pure (args0:=[boR (eCJ j),.one (.c (.fQ (cU c))),.one (.c (.fQ [cI who])),.one (.c (.fQ [cI i])),.one (.c (.fQ [cI st]))]) (R:=fun rr=>rr=dB (decide ((bT c who j.n).id=i∧ ¬j.left=st))) ?_ rfl (aI ⟨aE rfl,aE rfl,aE rfl,aE rfl,aE rfl,trivial⟩) (fun r hr=>hr▸h);clear h;refine CY rfl fun Q hQ=> ?_;unfold kX;repeat' first| (first|apply bn1|refine bpL (fun h=> ?_) fun h=> ?_|apply iJ hp ha)<;>(simp only[go_sem])|fail
 all_goals first|with_reducible refine aZ hQ _ rfl rfl ?_|skip
 all_goals first|exact pD (by omega)|exact q9 (by omega)|exact j7 (by omega)|rfl
theorem vW {c:Cfg} {s:CSt} {who:Nat} {st:Nat} (hb:aQ c) (hs:COk c s) (hw:who<3) (hst:st<4) {d0:D} (hd0:CvD H (fun _=>True) id 0 (.one (.c (.fQ (eI s)))) d0) (h:K (dB (decide (HV c s who st))) H nx):aB Tryz.prog j8 [d0,boR (cU c),boP who,boP st] H nx K:=by
 refine aB.pure (args0:=[.one (.c (.fQ (eI s))),boR (cU c),boP who,boP st]) (R:=fun rr=>rr=dB (decide (HV c s who st))) ?_ rfl (aI ⟨hd0,aE rfl,aE rfl,aE rfl,trivial⟩) (fun r hr=>hr▸h);clear h;refine FT rfl fun Q hQ=> ?_;unfold mN;obtain⟨hp3,hpr⟩:=hC hb;have hprw:=hpr who;have hml:=hb.1.1;have hpl:=hs.pl;have hpo:=hs.port who hw;obtain⟨p,hpd⟩: ∃p,p=s.bM.getD who default:=⟨_,rfl⟩
 have hM:HV c s who st=(0<p.queue.length∧p.out.length<4∧gZ c.map (bT c who (p.queue.getD 0 default))=st∧ ∀j∈p.out,(bT c who j.n).id=(bT c who (p.queue.getD 0 default)).id→j.left=st):=by subst hpd;rfl
 rw[show aF s who=p from hpd.symm] at hpo;obtain⟨hn1,hn2⟩:=hpo.next;obtain⟨hq1,hq2⟩:=hpo.ql;have hq0:=hpo.queue 0;have hol:=hpo.ol;repeat' first| (first|apply bn1|refine bpL (fun h=> ?_) fun h=> ?_|apply DE (by omega)|apply iJ hp3 (hpo.asks hw (by omega) (by omega))| (refine nR (l:=p.out) (caps:=[.fQ (cU c),.fQ [cI who],.fQ [cI (bT c who (p.queue.getD 0 default)).id],.fQ [cI st]]) (p:=fun j=>decide ((bT c who j.n).id=(bT c who (p.queue.getD 0 default)).id∧ ¬j.left=st)) (by omega) rfl (aE rfl) (PR ⟨zE rfl trivial rfl rfl rfl,zE rfl trivial rfl rfl rfl,zE rfl trivial rfl rfl rfl,zE rfl trivial rfl rfl rfl,trivial⟩) (fun x hx H nx K h=>EP hp3 (hpo.asks hw (hpo.out x hx).2.1.1 (by have:=(hpo.out x hx).2.1.2;omega)) h) ?_))<;>(simp only[go_sem,hpd.symm])|refine bnE (fun h=> ?_) fun h=> ?_|refine⟨by omega,?_⟩|fail
 all_goals first|with_reducible refine aZ hQ _ rfl rfl ?_|skip
 all_goals have hr:gZ c.map (List.getD (c.cP.getD who default) (p.queue.getD 0 default).toNat default)=gZ c.map (bT c who (p.queue.getD 0 default)):=rfl
 ·exact j7 (by rw[hM];omega)
 ·exact j7 (by rw[hM];omega)
 ·exact j7 (by rw[hM];omega)
 ·apply pD;rw[hM,cH];refine⟨fun h=>⟨by omega,by omega,by omega,fun j hj hi=>Classical.byContradiction fun hn=>h ⟨j,hj,decide_eq_true ⟨hi,hn⟩⟩⟩,fun h ⟨j,hj,hd⟩=> ?_⟩;have hd:=of_decide_eq_true hd;exact hd.2 (h.2.2.2 j hj hd.1)
end
theorem XO {τ:Nat→Nat} {n m:Nat} {l:List fC}:bA.rn τ ⟨n,m,l.map eCJ⟩=⟨n,m,l.map eCJ⟩:=by refine rF fun r hr x hx=> ?_;obtain⟨y,_,rfl⟩:=CF.1 hr;exact w2.1 (yK y).2 x hx
section
variable {H : aA} {nx : Nat} {K : D → aA → Nat → Prop}
theorem ag9 {l:List fC} {a:Nat} {z:List D1} (ha:a<l.length):wr ((l.take a).map eCJ++(l.drop (a+1)).map eCJ) (l.length-1) (List.replicate (l.length-(l.length-1)) z)=(B3 l a).map eCJ++[z]:=by
 have h1:(l.take a).map eCJ++(l.drop (a+1)).map eCJ=(B3 l a).map eCJ:=by simp[B3]
 have h2:((B3 l a).map eCJ).length=l.length-1:=by have:=RP ha;simp;omega
 have h3:l.length-(l.length-1)=1:=by omega
 rw[h1,h3,List.replicate_one];unfold wr;have h4:List.drop (l.length-1+[z].length) ((B3 l a).map eCJ)=[]:=brZ (by simp at h2 ⊢;omega);rw[h4,boL (by omega),bq6]
theorem sP (l:List fC) (a cap m:Nat) (hl:l.length<2^21) (ha:a<l.length) (hc:l.length≤cap) (hcm:cap≤m):
 aB Tryz.prog eA [boQ 3 0 l.length cap,boP a,boP (a+1)] (hp [(0,⟨3,m,l.map eCJ⟩)]) 1
 fun r H' n'=>∃cap' m',(B3 l a).length≤cap'∧cap'≤m'∧n'=2∧H'=hp [(1,⟨3,m',(B3 l a).map eCJ⟩)]∧r=boQ 3 1 (B3 l a).length cap':=by
 refine rZ rfl fun Q hQ=> ?_
 unfold fW
 have e2:((a:Int)+1).toNat=a+1:=by omega
 have e3:a+(l.length-(a+1))=l.length-1:=by omega
 have e7:(a+1+(l.length-(a+1))≤l.length)=True:=eq_true (by omega)
 have e8:List.take (l.length-(a+1)) (List.drop (a+1) l)=List.drop (a+1) l:=boL (by simp)
 have bm9:(List.drop (a+1) l).length=l.length-(a+1):=CI
 have hol:=RP ha
 repeat' first|apply bn1<;>(simp only[go_sem,e2,e3,e7,e8,bm9])|apply bn3 (by omega)| (with_reducible first|refine fun(cap:Nat) (hcap:_≤cap)=> ?_|refine fun(hcp:_≤cap)=> ?_)|refine⟨by omega,?_⟩| (refine⟨by(rw[CG];omega),?_⟩)|fail
 (refine hQ _ _ _ _ _ 2 (boQ 3 1 (B3 l a).length cap) (hp [(1,⟨3,cap,(B3 l a).map eCJ⟩)]) _ _ (.inr rfl) rfl (fU [20,0] (by omega) (by repeat' first|exact bo2| ((with_reducible apply bo0);exact bpB (by omega) rfl rfl (by first|rfl|omega) rfl)| ((with_reducible apply bo1);apply bo7)|fail) ⟨⟨by simp,by simp[sgL],_,rfl,anJ (junk:=[[cI 0,cI 0,cI 0]]) (fun r hr=>(aG yK _ r hr).2) (ag9 ha) rfl (by decide)⟩,trivial⟩ (by simp[sgL])) ?_)
 exact⟨cap,cap,by omega,m5 _,rfl,rfl,rfl⟩
theorem tK {l:List fC} {z:Int} {cap m i0:Nat} (hl:l.length<2^21) (hz: ¬z<0) (ha:z.toNat<l.length) (hc:l.length≤cap) (hcm:cap≤m) (h0:i0<nx) (o0:H i0=some ⟨3,m,l.map eCJ⟩)
 (h: ∀cap' m',(B3 l z.toNat).length≤cap'→cap'≤m'→K (boQ 3 nx (B3 l z.toNat).length cap') ((H.del i0).set nx ⟨3,m',(B3 l z.toNat).map eCJ⟩) (nx+1)):
 aB Tryz.prog eA [boQ 3 i0 l.length cap,boP z,boP (z+1)] H nx K:=by
 obtain⟨a,rfl⟩: ∃a:Nat,z=a:=⟨z.toNat,by omega⟩
 refine(sP l a cap m hl ha hc hcm).AF [i0] rfl ⟨qS (by simp) rfl rfl rfl rfl,aE rfl,aE rfl,trivial⟩
  ⟨⟨by simp,id,_,o0,bP (aG yK _) rfl rfl⟩,trivial⟩ (by simp) (by simp;omega) (by simp) fun r H' n' _ ⟨cap',m',bqB,q1,q2,q3,q4⟩=> ?_
 simp only[Int.toNat_natCast] at h
 have h:=h cap' m' bqB q1
 subst q2;subst q3;subst q4
 generalize B3 l a=l' at*
 have e1:back (tau 1 nx (nth [i0])) (hp [(1,⟨3,m',l'.map eCJ⟩)]) 2 H=(H.del i0).set nx ⟨3,m',l'.map eCJ⟩:=by simp[back,hp,aA.set,aA.nil,tau,nth,uB,XO,aA.eL,aA.yI]
 rw[←e1] at h
 exact h
end
theorem HR:cJ Tryz.prog pL Tryz.f171 nS vR:=cJ.mk Tryz.func171 (by kernel_rfl) HL
theorem fZ {H:aA} {e:Env} {t n id m:Nat} {cs:List D1} (he:e t= .one (.c (.ptr n id 0 0))) (ho:H id=some ⟨n,m,[cs]⟩) (hl:cs.length=n):yT H e [.cell t n true]=some (boR cs):=by subst hl;simp[yT,VP,he,tT,ho,mkV]
theorem PU {nx i:Nat} {H:aA}:CvX (fun j=>j=i) nx H (H.del i):=fun j o' hj=>by
 simp only[aA.del] at hj;split at hj;·cases hj
 ·exact⟨by assumption,o',hj,.inl rfl⟩
section
variable {H : aA} {nx : Nat} {K : D → aA → Nat → Prop}
theorem HZ {m:List Rng} {w hh:List Int} {who:Int} {q:Req} {c0 c1 m0 m1 i0 i1 i2:Nat} {x y z:D1} (hm4:m.length<2^21) (hf:WK w hh) (hc0:w.length≤c0) (hc1:hh.length≤c1) (hw:0≤who∧who≤2) (hq:dH q)
 (hlt:i0<nx∧i1<nx∧i2<nx) (hd:[i0,i1,i2].Nodup) (h0:H i0=some ⟨5,1,[[.osl 1 i1 0 w.length c0,.osl 1 i2 0 hh.length c1,x,y,z]]⟩) (h1:H i1=some ⟨1,m0,w.map aJ⟩) (h2:H i2=some ⟨1,m1,hh.map aJ⟩)
 (hR: ∀H' nx',nx≤nx'→H' i1=some ⟨1,m0,(doM m w hh who q).1.1.map aJ⟩→H' i2=some ⟨1,m1,(doM m w hh who q).1.2.map aJ⟩→(∀id,id<nx→id≠i1→id≠i2→H' id=H id)→K (boR (tG (doM m w hh who q).2)) H' nx'):
 aB Tryz.prog pL [.one (.c (.ptr 5 i0 0 0)),dS (m.map eN),boP who,boR (eB q)] H nx K:=by
 obtain⟨hwl,hwr,hsl,hsr⟩:=hf
 obtain⟨hq1,hq2,hq3,hq4,hq5,hq6,hq7,hq8⟩:=hq
 have hbl:=DF hq3
 have hbp:=ai5 hq3
 have hb4:=MK (addr:=q.addr) (many:=q.many) (wrap:=q.wrap)
 have hbi:All (bE q.addr q.many q.wrap) 0 63:=V1
 have hltm:=PQ (p:=(inR · ((bE q.addr q.many q.wrap).getD 0 default))) (l:=m)
 have hwh:bV m (bE q.addr q.many q.wrap)<m.length:=by unfold bV;grind
 have hdl:wrM q=true→q.data.length=(bE q.addr q.many q.wrap).length∧q.g6.length=(bE q.addr q.many q.wrap).length:=by intro h;unfold wrM at h;unfold n5 at hq4 hq5;simp at h;simp only[h,if_true] at hq4 hq5;omega
 have hwi:=W4 (q:=q)
 apply aB.tW
 refine HR rfl fun Q hQ=> ?_
 unfold nS
 generalize hall:bE q.addr q.many q.wrap=all at*
 have hwo: ∀{H:aA} {nx:Nat} {K:D→aA→Nat→Prop},K (boP (bV m all)) H nx→aB Tryz.prog mZ [dS (m.map eN),boR (eB q)] H nx K:=fun h=>KD (by omega) (by rw[hall];exact h)
 have hbu: ∀{H:aA} {nx:Nat} {K:D→aA→Nat→Prop},K (dS (all.map aJ)) H nx→aB Tryz.prog fP [boR (eB q)] H nx K:=fun h=>vY (by rw[hall];exact h)
 have hA:bQ nx [i0,i1,i2]:=AM.apart hd (by simp;omega)
 simp only[bQ,eZ] at hA
 simp only[bq8,t3,bq7,or_false,not_or] at hd
 by_cases h1n:bV m all<0
 ·rw[alZ (by rw[hall];exact h1n)] at hR;repeat' first| (first|apply bn1|apply hwo)<;>(simp only[go_sem,t1,bqT,h0,h1,h2,hA];try simp (disch:=omega) only[Iw])|apply bn2 (by omega)|refine⟨by omega,?_⟩|fail
  refine hQ _ _ _ _ _ (.inr rfl) (fZ rfl (by simp only[aA.set,if_true];rfl) rfl) ⟨boR (tG ⟨q.id,4,[]⟩),_,noF,by repeat' first|exact bo2| (with_reducible first|exact bo4|apply bo5)| ((with_reducible apply bo0);first|exact bo9 rfl|exact bpE)| ((with_reducible apply bo1);apply bo6)|apply bo5|fail,aK,hR _ _ (by omega) ?_ ?_ fun id boU e1 e2=> ?_⟩;·simp only[aA.set,hA,if_false];exact h1
  ·simp only[aA.set,hA,if_false];exact h2
  ·simp only[aA.set,show ¬id=nx by omega,show ¬id=nx+1 by omega,show ¬id=nx+9 by omega,if_false]
 have h1': ¬bV m (bE q.addr q.many q.wrap)<0:=by rw[hall];exact h1n
 by_cases h2w:wrM q=true
 ·obtain⟨hd1,hd2⟩:=hdl h2w;by_cases h3:(m.getD (bV m all).toNat default).only=true
  ·rw[anB h1' h2w (by rw[hall];exact h3)] at hR;repeat' first| (first|apply bn1|apply hwo|apply gH)<;>(simp only[go_sem,t1,bqT,h0,h1,h2,hA,h2w,h3];try simp (disch:=omega) only[Iw])|apply bn3 (by omega)|refine⟨by omega,?_⟩|fail
   refine hQ _ _ _ _ _ (.inr rfl) (fZ rfl (by simp only[aA.set,if_true];rfl) rfl) ⟨boR (tG ⟨q.id,3,[]⟩),_,noF,by repeat' first|exact bo2| (with_reducible first|exact bo4|apply bo5)| ((with_reducible apply bo0);first|exact bo9 rfl|exact bpE)| ((with_reducible apply bo1);apply bo6)|apply bo5|fail,aK,hR _ _ (by omega) ?_ ?_ fun id boU e1 e2=> ?_⟩;·simp only[aA.set,hA,if_false];exact h1
   ·simp only[aA.set,hA,if_false];exact h2
   ·simp only[aA.set,show ¬id=nx by omega,show ¬id=nx+1 by omega,show ¬id=nx+9 by omega,if_false]
  have h3': ¬(m.getD (bV m (bE q.addr q.many q.wrap)).toNat default).only=true:=by rw[hall];exact h3
  have h3f:(m.getD (bV m all).toNat default).only=false:=by simpa using h3
  by_cases h4:q.kind=4∧ ¬hh.getD (who*2+q.id).toNat default=q.addr
  ·rw[aqU h1' h3' h4.1 h4.2] at hR;have h41:=h4.1;have h42:=h4.2;repeat' first| (first|apply bn1|apply bpJ (by omega)|apply hwo|apply gH)<;>(simp only[go_sem,t1,bqT,h0,h1,h2,hA,h2w,h3f];try simp (disch:=omega) only[Iw])|apply bn2 (by omega)|apply bn3 (by omega)|refine⟨by omega,?_⟩|fail
   refine hQ _ _ _ _ _ (.inr rfl) (fZ rfl (by simp only[aA.set,if_true];rfl) rfl) ⟨boR (tG ⟨q.id,1,[]⟩),_,noF,by repeat' first|exact bo2| (with_reducible first|exact bo4|apply bo5)| ((with_reducible apply bo0);first|exact bo9 rfl|exact bpE)| ((with_reducible apply bo1);apply bo6)|apply bo5|fail,aK,hR _ _ (by omega) ?_ ?_ fun id boU e1 e2=> ?_⟩;·simp only[aA.set,hA,if_false];exact h1
   ·simp only[aA.set,hA,if_false];exact h2
   ·simp only[aA.set,show ¬id=nx by omega,show ¬id=nx+1 by omega,show ¬id=nx+9 by omega,if_false]
  obtain⟨code,hcode⟩: ∃code:Int,code=if q.kind=4 then 2 else 1:=⟨_,rfl⟩
  have bqA:doM m w hh who q=((FV w all q.data q.g6 all.length,iU hh all),⟨q.id,code,[]⟩):=by
   rcases hwi.1 h2w with hk|hk;·rw[ao1 h1' h3' hk,hall,hcode,if_neg (by omega)]
   ·rw[aoE h1' h3' hk (Classical.byContradiction fun hc=>h4 ⟨hk,hc⟩),hall,hcode,if_pos hk]
  rw[bqA] at hR;have hk24:=hwi.1 h2w;repeat' first| (first|apply bn1|refine bpL (fun h=> ?_) fun h=> ?_|apply hwo|apply hbu|apply gH)<;>(simp only[go_sem,t1,bqT,h0,h1,h2,hA,h2w,h3f];try simp (disch:=omega) only[Iw])|apply bn2 (by omega)|apply bn3 (by omega)|refine⟨by omega,?_⟩|fail
  all_goals
   have hcd:(code=2∧q.kind=4)∨(code=1∧ ¬q.kind=4):=by rw[hcode];split<;>simp[*]
   refine aM.gP (β:=Nat) (fun k=>en [(109,boP k),(108,boP all.length),(107,dS (all.map aJ)),(12,dS (all.map aJ)),(10,.one (.c (.ptr 3 (nx+9) 0 0))),(8,.one (.c (.ptr 3 (nx+1) 0 0))),(7,.one (.c (.ptr 7 nx 0 0))),(0,.one (.c (.ptr 5 i0 0 0)))])
    (fun k H1 _=>k≤all.length∧H1 i1=some ⟨1,m0,(FV w all q.data q.g6 k).map aJ⟩∧H1 nx=some ⟨7,1,[eB q]⟩∧H1 (nx+9)=some ⟨3,1,[[cI q.id,cI code,.osl 0 0 0 0 0]]⟩∧H1 (nx+1)=some ⟨3,1,[[cI 0,cI 0,.osl 0 0 0 0 0]]⟩∧ ∀id,id<nx→id≠i1→H1 id=H id) (fun k=>all.length-k) 0 ⟨noF,_,by repeat' first|exact bo2|refine xqI rfl rfl ?_|refine xqP (by omega) rfl rfl ?_|fail,aK,?_⟩ ?_
   ·refine⟨by omega,by simp only[aA.set,hA,if_false];exact h1,?_,?_,?_,fun id boU e1=> ?_⟩;·simp only[aA.set,bqT,Nat.reduceEqDiff,brN,if_false,if_true,reduceIte]
    ·simp only[aA.set,if_true];rcases hcd with⟨rfl,_⟩|⟨rfl,_⟩<;>first|rfl|contradiction
    ·simp only[aA.set,bqU,Nat.reduceEqDiff,if_false,if_true]
    ·simp only[aA.set,show ¬id=nx by omega,show ¬id=nx+1 by omega,show ¬id=nx+9 by omega,if_false]
   rintro k H1 nx1 hnx ⟨hk,g1,gq,bp5,bp4,hfr⟩ bpQ hKL
   have bqC:H1 i0=some ⟨5,1,[[.osl 1 i1 0 w.length c0,.osl 1 i2 0 hh.length c1,x,y,z]]⟩:=by rw[hfr i0 (by omega) (by omega)];exact h0
   have g2:H1 i2=some ⟨1,m1,hh.map aJ⟩:=by rw[hfr i2 (by omega) (by omega)];exact h2
   have hpl:=AX (w:=w) (all:=all) (data:=q.data) (g6:=q.g6) k
   have hpw:=afR (all:=all) (g6:=q.g6) hwr hq6 k
   have hA1:bQ nx1 [i0,i1,i2,nx,nx+1,nx+9]:=AM.apart (by simp;omega) (by simp;omega)
   simp only[bQ,eZ] at hA1
   by_cases hlt2:k<all.length
   ·have hb:=HB hbi hlt2;have hb2:(all.getD k default).toNat<(FV w all q.data q.g6 k).length:=(by omega);repeat' first| (first|apply bn1|apply ae5 (HB hpw hb2) (HB hq6 (by omega)) (HB hq7 (by omega)))<;>(simp only[go_sem,t1,bqT,bqC,g1,g2,gq,bp5,bp4,hA1];try simp (disch:=omega) only[Iw])|apply bn2 (by omega)|refine⟨by omega,?_⟩|fail
    exact hKL _ _ _ (k+1) noF _ (by omega) (by omega) (by repeat' first|exact bo2|refine xqI rfl rfl ?_|refine xqP (by omega) rfl rfl ?_|fail) aK ⟨by omega,aA.bH,by rw[aA.aC (by omega)];exact gq,by rw[aA.aC (by omega)];exact bp5,by rw[aA.aC (by omega)];exact bp4,fun id boU e1=>by rw[aA.aC e1];exact hfr id boU e1⟩
   ·repeat' first|apply bn1<;>(simp only[go_sem,t1,bqT,bqC,g1,g2,gq,bp5,bp4,hA1])|apply bn3 (by omega)|fail
    have hk2:k=all.length:=(by omega);subst hk2
    refine aM.gP (β:=Nat) (fun k=>en [(146,boP k),(145,boP 6),(144,boQ 1 i2 6 c1),(12,dS (all.map aJ)),(10,.one (.c (.ptr 3 (nx+9) 0 0))),(8,.one (.c (.ptr 3 (nx+1) 0 0))),(0,.one (.c (.ptr 5 i0 0 0)))])
     (fun k H2 _=>k≤6∧H2 i2=some ⟨1,m1,(xI hh all k).map aJ⟩∧ ∀id,id<nx1→id≠i2→H2 id=H1 id) (fun k=>6-k) 0 ⟨noF,_,by repeat' first|exact bo2|refine xqI rfl rfl ?_|refine xqP (by omega) rfl rfl ?_|refine xqO (by omega) rfl rfl (by first|rfl|omega) ?_|refine xqV rfl (by omega) ?_|fail,aK,by omega,by rw[ac9];exact g2,fun _ _ _=>rfl⟩ ?_
    rintro k H2 nx2 hnx2 ⟨hk,f2,ffr⟩ bqG hKM;have bfZ:H2 i0=some ⟨5,1,[[.osl 1 i1 0 w.length c0,.osl 1 i2 0 hh.length c1,x,y,z]]⟩:=(by rw[ffr i0 (by omega) (by omega)];exact bqC);have bkR:H2 (nx+9)=some ⟨3,1,[[cI q.id,cI code,.osl 0 0 0 0 0]]⟩:=(by rw[ffr _ (by omega) (by omega)];exact bp5);have bpX:H2 (nx+1)=some ⟨3,1,[[cI 0,cI 0,.osl 0 0 0 0 0]]⟩:=(by rw[ffr _ (by omega) (by omega)];exact bp4);have hfl:=aiJ (all:=all) (show k≤hh.length by omega);have hA2:bQ nx2 [i0,i1,i2,nx,nx+1,nx+9]:=AM.apart (by simp;omega) (by simp;omega);simp only[bQ,eZ] at hA2;by_cases hlt:k<6
    ·have hfa:=akN (all:=all) (show k<hh.length by omega);have hfs:=fun x=>agQ (all:=all) (x:=x) (show k<hh.length by omega);have hsm:=acP (all:=all) (show k<hh.length by omega);repeat' first| (first|apply bn1|refine x8 (by omega) (aE rfl) ?_)<;>(simp only[go_sem,t1,bqT,bfZ,f2,bkR,bpX,hA2,hfa];try simp (disch:=omega) only[Iw])|apply bn2 (by omega)|refine bnE (fun h=> ?_) fun h=> ?_|refine⟨by omega,?_⟩|fail
     ·exact hKM _ _ _ (k+1) noF _ (by omega) (by omega) (by repeat' first|exact bo2|refine xqI rfl rfl ?_|refine xqP (by omega) rfl rfl ?_|refine xqO (by omega) rfl rfl (by rfl) ?_|fail) aK ⟨by omega,by rw[←hfs (-1) (by rw[if_pos (by assumption)])];exact aA.bH,fun id boU e1=>by rw[aA.aC e1];exact ffr id boU e1⟩
     ·exact hKM _ _ _ (k+1) noF _ (by omega) (by omega) (by repeat' first|exact bo2|refine xqI rfl rfl ?_|refine xqP (by omega) rfl rfl ?_|refine xqO (by omega) rfl rfl (by rfl) ?_|fail) aK ⟨by omega,by rw[←hfs _ (by rw[if_neg (by assumption)]),hsm];exact f2,fun id boU e1=>ffr id boU e1⟩
    ·repeat' first|apply bn1<;>(simp only[go_sem,t1,bqT,bfZ,f2,bkR,bpX,hA2])|apply bn3 (by omega)|fail
     have hk2:k=hh.length:=(by omega);subst hk2;rw[ahC] at f2;refine hQ _ _ _ _ _ (.inr rfl) (fZ rfl (by simp only[aA.set,if_true];rfl) rfl) ⟨boR (tG ⟨q.id,code,[]⟩),_,noF,by repeat' first|exact bo2| (with_reducible first|exact bo4|apply bo5)| ((with_reducible apply bo0);first|exact bo9 rfl|exact bpE)| ((with_reducible apply bo1);apply bo6)|apply bo5|fail,aK,hR _ _ (by omega) ?_ ?_ fun id boU e1 e2=> ?_⟩;·rw[aA.aC (by omega),ffr _ (by omega) (by omega)];exact g1
     ·rw[aA.aC (by omega)];exact f2
     ·rw[aA.aC (by omega),ffr _ (by omega) e2];exact hfr id boU e1
 have h2f:wrM q=false:=by simpa using h2w
 have hk13:q.kind=1∨q.kind=3:=by have h3: ¬(q.kind=2∨q.kind=4):=fun h=>h2w (hwi.2 h);omega
 repeat' first| (first|apply bn1|apply bpK (by omega)|apply hwo|apply hbu|apply gH)<;>(simp only[go_sem,t1,bqT,h0,h1,h2,hA,h2f];try simp (disch:=omega) only[Iw])|apply bn3 (by omega)|refine⟨by omega,?_⟩|fail
 refine aM.gP (β:=Nat) (fun k=>en [(76,boP k),(75,boP all.length),(74,dS (all.map aJ)),(11,.one (.c (.ptr 1 i2 (who*2+q.id).toNat 0))),(10,.one (.c (.ptr 3 (nx+9) 0 0))),(8,.one (.c (.ptr 3 (nx+1) 0 0))),(7,.one (.c (.ptr 7 nx 0 0))),(0,.one (.c (.ptr 5 i0 0 0)))])
  (fun k H1 _=>k≤all.length∧H1 nx=some ⟨7,1,[eB q]⟩∧H1 (nx+9)=some ⟨3,1,[[cI q.id,cI 1,.osl 1 (nx+55) 0 all.length all.length]]⟩∧H1 (nx+1)=some ⟨3,1,[[cI 0,cI 0,.osl 0 0 0 0 0]]⟩∧H1 (nx+55)=some ⟨1,all.length,((List.range k).map (fun k=>w.getD (all.getD k default).toNat default)++List.replicate (all.length-k) (0:Int)).map aJ⟩∧ ∀id,id<nx→H1 id=H id)
  (fun k=>all.length-k) 0 ⟨noF,_,by repeat' first|exact bo2|refine xqI rfl rfl ?_|refine xqP (by omega) rfl rfl ?_|fail,aK,?_⟩ ?_
 ·refine⟨by omega,?_,?_,?_,?_,fun id boU=> ?_⟩;·simp only[aA.set,bqT,Nat.reduceEqDiff,brN,if_false,if_true,reduceIte]
  ·simp only[aA.set,if_true]
  ·simp only[aA.set,bqU,Nat.reduceEqDiff,if_false,if_true]
  ·simp only[aA.set,bqU,Nat.reduceEqDiff,if_false,if_true];simp[aJ]
  ·simp only[aA.set,show ¬id=nx by omega,show ¬id=nx+1 by omega,show ¬id=nx+9 by omega,show ¬id=nx+55 by omega,if_false]
 rintro k H1 nx1 hnx ⟨hk,gq,bp5,bp4,gd,hfr⟩ bpQ hKL
 have bqC:H1 i0=some ⟨5,1,[[.osl 1 i1 0 w.length c0,.osl 1 i2 0 hh.length c1,x,y,z]]⟩:=by rw[hfr i0 (by omega)];exact h0
 have g1:H1 i1=some ⟨1,m0,w.map aJ⟩:=by rw[hfr i1 (by omega)];exact h1
 have g2:H1 i2=some ⟨1,m1,hh.map aJ⟩:=by rw[hfr i2 (by omega)];exact h2
 have hdlen:((List.range k).map (fun k=>w.getD (all.getD k default).toNat default)++List.replicate (all.length-k) (0:Int)).length=all.length:=by simp;omega
 have hA1:bQ nx1 [i0,i1,i2,nx,nx+1,nx+9,nx+55]:=AM.apart (by simp;omega) (by simp;omega)
 simp only[bQ,eZ] at hA1
 by_cases hlt2:k<all.length
 ·have hb:=HB hbi hlt2;have hbs:=fun x=>XT (f:=fun k=>w.getD (all.getD k default).toNat default) (x:=x) hlt2;repeat' first|apply bn1<;>(simp only[go_sem,t1,bqT,bqC,g1,g2,gq,bp5,bp4,gd,hA1,hdlen];try simp (disch:=omega) only[Iw])|apply bn2 (by omega)|refine⟨by omega,?_⟩|fail
  exact hKL _ _ _ (k+1) noF _ (by omega) (by omega) (by repeat' first|exact bo2|refine xqI rfl rfl ?_|refine xqP (by omega) rfl rfl ?_|fail) aK ⟨by omega,by rw[aA.aC (by omega)];exact gq,by rw[aA.aC (by omega)];exact bp5,by rw[aA.aC (by omega)];exact bp4,by rw[←hbs _ rfl];exact aA.bH,fun id boU=>by rw[aA.aC (by omega)];exact hfr id boU⟩
 ·have hk2:k=all.length:=by omega
  subst hk2;have hrd:(List.range all.length).map (fun k=>w.getD (all.getD k default).toNat default)++List.replicate (all.length-all.length) (0:Int)=all.map fun a=>w.getD a.toNat default:=by rw[aqI];simp
  rw[hrd] at gd;repeat' first|apply bn1<;>(simp only[go_sem,t1,bqT,bqC,g1,g2,gq,bp5,bp4,gd,hA1])|apply bn3 (by omega)|refine bnE (fun h=> ?_) fun h=> ?_|refine⟨by omega,?_⟩|fail
  ·rw[amK h1' (by assumption),hall] at hR;refine hQ _ _ _ _ _ (.inr rfl) (fZ rfl (by simp only[aA.set,if_true];rfl) rfl) ⟨boR (tG ⟨q.id,2,all.map fun a=>w.getD a.toNat default⟩),_,fun j=>j=nx+55,lY (aH (bB rfl) (aH (bB rfl) (aH (bW (l:=all.map fun a=>w.getD a.toNat default) (F:=fun j=>j=nx+55) (m:=all.length) (len:=all.length) (cap:=all.length) bF ?_ (by simp) (by simp) rfl) eP))),PU,hR _ _ (by omega) ?_ ?_ fun id boU e1 e2=> ?_⟩;·rw[aA.aC (by omega),aA.aC (by omega),aA.aC (by omega)];exact gd
   ·rw[aA.jG (by omega),aA.aC (by omega),aA.aC (by omega),aA.aC (by omega)];exact g1
   ·rw[aA.jG (by omega),aA.aC (by omega),aA.bH]
   ·rw[aA.jG (by omega),aA.aC (by omega),aA.aC (by omega),aA.aC (by omega)];exact hfr id boU
  ·rw[akI h1' (by omega),hall] at hR;refine hQ _ _ _ _ _ (.inr rfl) (fZ rfl (by simp only[aA.set,if_true];rfl) rfl) ⟨boR (tG ⟨q.id,1,all.map fun a=>w.getD a.toNat default⟩),_,fun j=>j=nx+55,lY (aH (bB rfl) (aH (bB rfl) (aH (bW (l:=all.map fun a=>w.getD a.toNat default) (F:=fun j=>j=nx+55) (m:=all.length) (len:=all.length) (cap:=all.length) bF ?_ (by simp) (by simp) rfl) eP))),PU,hR _ _ (by omega) ?_ ?_ fun id boU e1 e2=> ?_⟩;·rw[aA.aC (by omega)];exact gd
   ·rw[aA.jG (by omega),aA.aC (by omega)];exact g1
   ·rw[aA.jG (by omega),aA.aC (by omega)];exact g2
   ·rw[aA.jG (by omega),aA.aC (by omega)];exact hfr id boU
end
theorem AP:cJ Tryz.prog cO Tryz.f200 jP oE:=cJ.mk Tryz.func200 (by kernel_rfl) AH
theorem BX:cJ Tryz.prog iX Tryz.f109 lB qR:=cJ.mk Tryz.func109 (by kernel_rfl) B8
end Go.Proofs.YtmccpdapaccnoaaGreat
namespace Go.AM
theorem aM.abC {P:Program} {T:Nat} {e:Env} {H:aA} {nx:Nat} {Q:AQ} {zs:List AC} (h: ∀G,G=H→aM P T zs e G nx Q):aM P T zs e H nx Q:=h H rfl
theorem akM {H:aA} {F:Nat→Prop} {nh:Nat} {f:FuncId} {caps:List D1} (h: ∀x∈caps,∃n id row col,id<nh∧x= .ptr n id row col):Cv1 H F id nh (.clo f caps) (.clo f caps):=
 .clo f caps caps rfl fun i x y hx hy=>by
  rw[hx] at hy;obtain rfl:x=y:=by simpa using hy
  obtain⟨n,id,row,col,h1,rfl⟩:=h x (s3 hx);exact .inr ⟨n,id,row,col,h1,rfl,rfl⟩
def aaK (V:List (Int×Int)) (k:Nat) (u:List Int):Prop:=u.length=3∧ ∀w,w<3→u.getD w default= -1∨ ∃i,i<k∧V[i]?=some ((w:Int),u.getD w default)
theorem aaK.next {c:Cfg} {s:CSt} {st k:Nat} {u:List Int} {x:Int×Int} (hs:COk c s) (hst:st<4) (h:aaK (cS (aL s st)) k u) (hx:(cS (aL s st))[k]?=some x):
 (x.1=(x.1.toNat:Int)∧x.1.toNat<3)∧u.getD x.1.toNat default<x.2∧aaK (cS (aL s st)) (k+1) (u.set x.1.toNat x.2):=by
 obtain⟨hk,hxk⟩:=m3.1 hx
 have hm:x∈cS (aL s st):=hxk▸Z5 hk
 obtain⟨hw,h0,h1⟩:=hs.vIn hst hm
 have hw3:x.1.toNat<3:=by omega
 have hwe:x.1=(x.1.toNat:Int):=by omega
 refine⟨⟨hwe,hw3⟩,?_,by simp[h.1],fun w hw3'=> ?_⟩
 ·rcases h.2 _ hw3 with h2|⟨i,hi,h2⟩
  ·omega
  ·obtain⟨hi2,h3⟩:=m3.1 h2;have h4:=Z6.1 (hs.slv st hst).inc i k hi2 hk hi;rw[h3,hxk] at h4;exact h4 hwe.symm
 ·by_cases he:w=x.1.toNat;·right;refine⟨k,by omega,?_⟩;rw[he,pY (by rw[h.1];omega),if_pos rfl,hx,←hwe]
  ·rw[pY (by rw[h.1];omega),if_neg he];exact(h.2 w hw3').imp (fun h=>h) fun⟨i,hi,h2⟩=>⟨i,by omega,h2⟩
end Go.AM
namespace Go.Proofs.YtmccpdapaccnoaaGreat
open Go Go.AM
attribute [local irreducible] aM wv aB vd wvH
section
variable {H : aA} {nx : Nat} {K : D → aA → Nat → Prop}
theorem kA {s:CSt} {st who:Nat} {w n:Int} {u:List Int} {i0 i1 i2:Nat} (hww:w=who) (hu:u.length=3) (hw:who<3) (hn:u.getD who default<n) (hpl:s.bM.length=3) (hol:(aF s who).out.length<2^40)
 (hx:0≤bK (isC n) (aF s who).out) (hx1:(bK (isC n) (aF s who).out).toNat<(aF s who).out.length) (hx2:((aF s who).out.getD (bK (isC n) (aF s who).out).toNat default).left=st)
 (hlt:i0<nx∧i1<nx∧i2<nx) (hd:[i0,i1,i2].Nodup) (o0:H i0=some ⟨3,1,[u.map cI]⟩) (o1:H i1=some ⟨5,1,[eI s]⟩) (o2:H i2=some ⟨1,1,[[cI st]]⟩)
 (h: ∀H' nx',nx≤nx'→H' i0=some ⟨3,1,[(u.set who n).map cI]⟩→(∀id,id<nx→id≠i0→H' id=H id)→K (dB true) H' nx'):
 aB Tryz.prog cO [boP w,boP n,.one (.c (.ptr 3 i0 0 0)),.one (.c (.ptr 5 i1 0 0)),.one (.c (.ptr 1 i2 0 0))] H nx K:=by
 subst hww
 refine AP rfl fun Q hQ=> ?_
 unfold jP
 have hA:bQ nx [i0,i1,i2]:=AM.apart hd (by simp;omega)
 simp only[bQ,eZ] at hA
 obtain⟨p,hpd⟩: ∃p,p=aF s who:=⟨_,rfl⟩
 have hpd':s.bM.getD who default=p:=hpd.symm
 rw[←hpd] at hol hx hx1 hx2
 obtain⟨a,ha⟩: ∃a,a=bK (isC n) p.out:=⟨_,rfl⟩
 have hut:((u.map cI).drop who).take 1=[cI (u.getD who default)]:=by rw[brB (by simp;omega)];simp[List.getD,show who<u.length by omega]
 have hull:(u.map cI).length=3:=by rw[bqW,hu]
 have hle:(who+1≤3)=True:=eq_true (by omega)
 have hou: ∀{H:aA} {nx:Nat} {K:D→aA→Nat→Prop},K (boP a) H nx→aB Tryz.prog kV [boR (cD p),boP n] H nx K:=fun h=>KT (p:=p) hol (aE rfl) (by rw[←ha];exact h)
 rw[←ha] at hx hx1 hx2
 repeat' first| (first|apply bn1|apply bpJ (by omega)|apply bpK (by omega)|apply oR|apply hou)<;>(simp only[go_sem,t1,bqT,brK,o0,o1,o2,hut,hull,hle,hpd',hx2,hA])|apply bn3 (by omega)|refine⟨by omega,?_⟩|fail
 have eu:List.take who (List.map cI u)++[D1.v (.int .i64 n)]++List.drop (who+1) (List.map cI u)=(u.set who n).map cI:=by rw[brD,bsF,if_pos (by simp;omega),C0];rfl
 rw[eu]
 exact hQ _ _ _ _ _ (.inr rfl) rfl (h _ _ (by omega) aA.bH fun id boU e1=>aA.aC e1)
end
end Go.Proofs.YtmccpdapaccnoaaGreat
