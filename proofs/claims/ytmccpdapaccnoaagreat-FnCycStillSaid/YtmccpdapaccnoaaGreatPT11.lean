/- Texts laid together by a program: rules, contracts and the walk that leads to the law. -/
import Derived.Test.YtmccpdapaccnoaaGreatPT8
import Derived.Test.YtmccpdapaccnoaaGreatPT9
import Derived.Test.YtmccpdapaccnoaaGreatPT10
import Derived.Test.YtmccpdapaccnoaaGreatPT6
import Derived.Test.YtmccpdapaccnoaaGreatPT3
import Derived.Test.YtmccpdapaccnoaaGreatPT7
set_option linter.unusedVariables false
set_option linter.unusedSimpArgs false
set_option linter.unusedSectionVars false
set_option maxRecDepth 100000
set_option maxHeartbeats 8000000
namespace Go.Proofs.YtmccpdapaccnoaaGreat
open Go Go.AM
attribute [local irreducible] aM wv aB vd wvH
theorem FD:cJ Tryz.prog eC Tryz.f283 mR uC:=cJ.mk Tryz.func283 (by kernel_rfl) FN
section
variable {H : aA} {nx : Nat} {K : D → aA → Nat → Prop}
variable{i1:Nat}
theorem HH{Y:Nat→Prop}{es:List Ev}{kind who n:Int} (hh:aiW Y H nx i1 es) (hl:es.length<1000)
 (h: ∀H' nx',nx≤nx'→aiW Y H' nx' i1 (es++[⟨kind,who,n⟩])→(∀id,Y id→H' id=H id)→K (.tup []) H' nx'):aB Tryz.prog eC [.one (.c (.ptr 5 i1 0 0)),boP kind,boP who,boP n] H nx K:=by
 obtain⟨⟨d,a,b,c,e,h1,hd⟩,⟨h2,h3⟩,hy⟩:=hh
 have k1: ∀k,(i1=nx+k)=False:=fun k=>eq_false (by omega)
 have k2: ∀k,(nx+k=i1)=False:=fun k=>eq_false (by omega)
 refine FD rfl fun Q hQ=> ?_
 unfold mR
 rcases hd with⟨rfl,rfl⟩|⟨ev,cap,rfl,⟨m,rows,g1,g2,g3,g4,g5,bkU⟩,bkV,bp4,bp5⟩
 ·repeat' first|apply bn1<;>(simp only[go_sem,h1,k1,k2])| (with_reducible first|refine fun(cap:Nat) (hcap:_≤cap)=> ?_|refine fun(hcp:_≤cap)=> ?_)|fail
  refine hQ _ _ _ _ _ (.inl rfl) rfl (h _ _ (by omega) ⟨⟨_,a,b,c,e,by simp only[aA.set,if_true];rfl,.inr ⟨nx+10,cap,rfl,⟨_,_,by simp only[aA.set,k2,if_false,if_true];rfl,rfl,by simp,by simp,by simpa using hcap,by simp⟩,by omega,fun hn=>by have:=hy _ hn;omega,by omega⟩⟩,⟨by omega,h3⟩,fun id hi=>by have:=hy id hi;omega⟩ fun id hi=> ?_)
  have boU:=hy id hi
  have e1:id≠i1:=fun he=>h3 (he▸hi)
  simp only[aA.set,e1,show ¬id=nx+9 by omega,show ¬id=nx+10 by omega,if_false]
 ·have k3: ∀k,(ev=nx+k)=False:=fun k=>eq_false (by omega)
  have k4: ∀k,(nx+k=ev)=False:=fun k=>eq_false (by omega)
  have k5:=eq_false bp5
  have k6:=eq_false (Ne.symm bp5)
  rw[bq5] at g2
  subst g2
  repeat' first|apply bn1<;>(simp only[go_sem,h1,k1,k2,k3,k4,k5,k6,g1])| (with_reducible first|refine fun(cap:Nat) (hcap:_≤cap)=> ?_|refine fun(hcp:_≤cap)=> ?_)|refine⟨by omega,?_⟩|fail
  refine hQ _ _ _ _ _ (.inl rfl) rfl (h _ _ (by omega) ⟨⟨_,a,b,c,e,by simp only[aA.set,if_true];rfl,.inr ⟨nx+10,cap,by simp,⟨_,_,by simp only[aA.set,k2,if_false,if_true];rfl,by simp[eEv],by simp,by simp,by simpa using hcap,by simp⟩,by omega,fun hn=>by have:=hy _ hn;omega,by omega⟩⟩,⟨by omega,h3⟩,fun id hi=>by have:=hy id hi;omega⟩ fun id hi=> ?_)
  have boU:=hy id hi
  have e1:id≠i1:=fun he=>h3 (he▸hi)
  have e2:id≠ev:=fun he=>bp4 (he▸hi)
  simp only[aA.set,aA.del,e1,e2,show ¬id=nx+9 by omega,show ¬id=nx+10 by omega,if_false]
variable{i0:Nat}
theorem arG{X:Nat→Prop}{nm:Nat→Nat}{s:CSt}{es:List Ev}{kind who n:Int} (hB:l9 X H nx i0 i1 nm s es) (hl:es.length<1000)
 (h: ∀H' nx',nx≤nx'→l9 X H' nx' i0 i1 nm s (es++[⟨kind,who,n⟩])→(∀id,X id→H' id=H id)→K (.tup []) H' nx'):aB Tryz.prog eC [.one (.c (.ptr 5 i1 0 0)),boP kind,boP who,boP n] H nx K:=by
 refine HH hB.hap hl fun H' nx' hx hc hfr=>h H' nx' hx ⟨hB.rep.frame hx (hfr _ (.inr (.inl rfl))) (fun k hk=>hfr _ (.inr (.inr ⟨k,hk,rfl⟩))) fun id hid=>⟨?_,fun he=>hB.rep.i0.2 (he▸hid),fun k hk he=>hB.rep.names.av k hk (he▸hid)⟩,hc⟩ fun id hid=>hfr id (.inl hid)
 have:=hB.rep.x id hid;omega
theorem acI{X:Nat→Prop}{H0:aA}{nm:Nat→Nat}{s:CSt}{es:List Ev}{kind who n:Int} (hB:l9 X H nx i0 i1 nm s es∧ ∀id,X id→H id=H0 id) (hl:es.length<1000)
 (h: ∀H' nx',nx≤nx'→l9 X H' nx' i0 i1 nm s (es++[⟨kind,who,n⟩])→(∀id,X id→H' id=H0 id)→K (.tup []) H' nx'):aB Tryz.prog eC [.one (.c (.ptr 5 i1 0 0)),boP kind,boP who,boP n] H nx K:=
 arG hB.1 hl fun H' nx' hx h1 h2=>h H' nx' hx h1 fun id hid=>(h2 id hid).trans (hB.2 id hid)
theorem p9 (l:List fC) (f:FuncId) (caps:List D1) (p:fC→Bool) (hl:l.length<2^40) (hc:caps.all D1.dQ=true) (hf: ∀x∈l,∀(H:aA) (nx:Nat) (K:D→aA→Nat→Prop),K (dB (p x)) H nx→aB Tryz.prog f (boR (eCJ x)::caps.map fun d=>.one (.c d)) H nx K):
 aB Tryz.prog bZ [dS (l.map eCJ),.one (.c (.clo f caps))] .nil 0 fun r _ _=>r.plain=true∧r=boP (bK p l):=by
 refine pH rfl fun Q hQ=> ?_
 unfold eU
 repeat' first|apply bn1<;>(simp only[go_sem])|fail
 (refine aM.loop (α:={k:Nat//k≤l.length∧(∀i,i<k→p (l.getD i default)=false)}) (fun u=>en [(8,boP u.1),(7,boP l.length),(1,.one (.c (.clo f caps))),(0,dS (l.map eCJ))]) (fun _=>.nil) _ (fun u=>l.length-u.1) ⟨0,by omega,(by intros;first|trivial|omega)⟩ (bU (m5 _) (by repeat' first|exact bo2|refine xqI rfl rfl ?_| (with_reducible apply bo3)| ((with_reducible apply bo0);exact bpG (by assumption))| ((with_reducible apply bo1);apply bo7)|fail)) ?_);(rintro⟨k,hk,hinv⟩ bpQ hKL)
 by_cases hlt:k<l.length
 ·have hmem:l.getD k default∈l:=by simp[List.getD,hlt]
  repeat' first| (first|apply bn1|apply hf _ hmem _ _ _)<;>(simp only[go_sem];try simp (disch:=omega) only[Iw])|apply bn2 (by omega)| ((refine bnF (fun h=> ?_) (fun h=> ?_))<;>try subst h)|refine⟨by omega,?_⟩|fail
  ·refine aZ hQ _ rfl rfl (qA (bq3 (CU (by omega) (by assumption) hinv)))
  · (refine hKL _ _ _ ⟨k+1,by omega,iS hinv (by assumption)⟩ (by omega) (by(try dsimp only);omega) (bU (m5 _) (by repeat' first|exact bo2|refine xqI rfl rfl ?_| (with_reducible apply bo3)| ((with_reducible apply bo0);exact bpG (by assumption))| ((with_reducible apply bo1);apply bo7)|fail)))
 ·repeat' first|apply bn1<;>(simp only[go_sem])|apply bn3 (by omega)|fail
  ·refine aZ hQ _ rfl rfl (qA (bq3 (tI fun i hi=>hinv i (by omega))))
theorem iY{l:List fC}{f:FuncId}{caps caps0:List D1}{p:fC→Bool}{d:D} (hl:l.length<2^40) (hc:caps.all D1.dQ=true) (hd:CvD H (fun _=>True) id 0 (dS (l.map eCJ)) d) (hk:CvD H (fun _=>True) id 0 (.one (.c (.clo f caps))) (.one (.c (.clo f caps0)))) (hf: ∀x∈l,∀(H:aA) (nx:Nat) (K:D→aA→Nat→Prop),K (dB (p x)) H nx→aB Tryz.prog f (boR (eCJ x)::caps.map fun d=>.one (.c d)) H nx K)
 (h:K (boP (bK p l)) H nx):aB Tryz.prog bZ [d,.one (.c (.clo f caps0))] H nx K:=
 (p9 l f caps p hl hc hf).pure rfl (aI ⟨hd,hk,trivial⟩) fun r hr=>hr▸h
theorem n4 (l:List fC) (f:FuncId) (caps:List D1) (p:fC→Bool) (hl:l.length<2^40) (hc:caps.all D1.dQ=true) (hf: ∀x∈l,∀(H:aA) (nx:Nat) (K:D→aA→Nat→Prop),K (dB (p x)) H nx→aB Tryz.prog f (boR (eCJ x)::caps.map fun d=>.one (.c d)) H nx K):
 aB Tryz.prog cM [dS (l.map eCJ),.one (.c (.clo f caps))] .nil 0 fun r _ _=>r.plain=true∧r=dB (decide (0≤bK p l)):=by
 refine nD rfl fun Q hQ=> ?_
 unfold dY
 repeat' first| (first|apply bn1|refine iY hl hc (aE rfl) (kC hc) hf ?_)<;>(simp only[go_sem])|fail
 all_goals exact aZ hQ _ rfl rfl rfl
theorem nR{l:List fC}{f:FuncId}{caps caps0:List D1}{p:fC→Bool}{d:D} (hl:l.length<2^40) (hc:caps.all D1.dQ=true) (hd:CvD H (fun _=>True) id 0 (dS (l.map eCJ)) d) (hk:CvD H (fun _=>True) id 0 (.one (.c (.clo f caps))) (.one (.c (.clo f caps0)))) (hf: ∀x∈l,∀(H:aA) (nx:Nat) (K:D→aA→Nat→Prop),K (dB (p x)) H nx→aB Tryz.prog f (boR (eCJ x)::caps.map fun d=>.one (.c d)) H nx K)
 (h:K (dB (decide (0≤bK p l))) H nx):aB Tryz.prog cM [d,.one (.c (.clo f caps0))] H nx K:=
 (n4 l f caps p hl hc hf).pure rfl (aI ⟨hd,hk,trivial⟩) fun r hr=>hr▸h
theorem QZ{j:fC}{n:Int} (h:K (dB (isC n j)) H nx):aB Tryz.prog rQ [boR (eCJ j),.one (.c (.fQ [cI n]))] H nx K:=by
 refine aB.pure (args0:=[boR (eCJ j),.one (.c (.fQ [cI n]))]) (R:=fun rr=>rr=dB (isC n j)) ?_ rfl (aI ⟨aE rfl,aE rfl,trivial⟩) (fun r hr=>hr▸h)
 clear h
 refine OM rfl fun Q hQ=> ?_
 unfold vD
 repeat' first|apply bn1<;>(simp only[go_sem])|fail
 all_goals first|with_reducible refine aZ hQ _ rfl rfl ?_|skip
 all_goals first|exact pD (by omega)|exact q9 (by omega)|exact j7 (by omega)|rfl
theorem KT{p:fR}{n:Int} (hl:p.out.length<2^40){d0:D} (hd0:CvD H (fun _=>True) id 0 (boR (cD p)) d0) (h:K (boP (bK (isC n) p.out)) H nx):aB Tryz.prog kV [d0,boP n] H nx K:=by
 refine aB.pure (args0:=[boR (cD p),boP n]) (R:=fun rr=>rr=boP (bK (isC n) p.out)) ?_ rfl (aI ⟨hd0,aE rfl,trivial⟩) (fun r hr=>hr▸h)
 clear h
 refine UN rfl fun Q hQ=> ?_
 unfold AR
 repeat' first| (first|apply bn1|refine iY (l:=p.out) (caps:=[.fQ [cI n]]) (p:=isC n) hl rfl (aE rfl) (PR ⟨zE rfl trivial rfl rfl rfl,trivial⟩) (fun x _ H nx K h=>QZ h) ?_)<;>(simp only[go_sem])|fail
 all_goals first|with_reducible refine aZ hQ _ rfl rfl ?_|skip
 all_goals first|rfl|exact qA (by omega)
theorem DE{m:List Rng}{q:Req} (hl:m.length<2^40) (h:K (boP (gZ m q)) H nx):aB Tryz.prog rN [dS (m.map eN),boR (eB q)] H nx K:=by
 refine aB.pure (args0:=[dS (m.map eN),boR (eB q)]) (R:=fun rr=>rr=boP (gZ m q)) ?_ rfl (aI ⟨aE rfl,aE rfl,trivial⟩) (fun r hr=>hr▸h)
 clear h
 refine UU rfl fun Q hQ=> ?_
 unfold z2
 have hwh:bV m (bE q.addr q.many q.wrap)<m.length:=by have hlt:=PQ (p:=(inR · ((bE q.addr q.many q.wrap).getD 0 default))) (l:=m);unfold bV;grind
 repeat' first| (first|apply bn1|apply KD hl)<;>(simp only[go_sem])|refine bnE (fun h=> ?_) fun h=> ?_|refine⟨by omega,?_⟩|fail
 all_goals first|with_reducible refine aZ hQ _ rfl rfl ?_|skip
 all_goals first|exact qA (by unfold gZ;rw[if_pos (by omega)])|exact qA (by unfold gZ;rw[if_neg (by omega)])
theorem EP{c:Cfg}{who:Nat}{st:Nat}{i:Int}{j:fC} (hp:c.cP.length=3) (ha:oA c who j.n) (h:K (dB (decide ((bT c who j.n).id=i∧ ¬j.left=st))) H nx):aB Tryz.prog iW [boR (eCJ j),.one (.c (.fQ (cU c))),.one (.c (.fQ [cI who])),.one (.c (.fQ [cI i])),.one (.c (.fQ [cI st]))] H nx K:=by
 refine aB.pure (args0:=[boR (eCJ j),.one (.c (.fQ (cU c))),.one (.c (.fQ [cI who])),.one (.c (.fQ [cI i])),.one (.c (.fQ [cI st]))]) (R:=fun rr=>rr=dB (decide ((bT c who j.n).id=i∧ ¬j.left=st))) ?_ rfl (aI ⟨aE rfl,aE rfl,aE rfl,aE rfl,aE rfl,trivial⟩) (fun r hr=>hr▸h)
 clear h
 refine CY rfl fun Q hQ=> ?_
 unfold kX
 repeat' first| (first|apply bn1|refine bpL (fun h=> ?_) fun h=> ?_|apply iJ hp ha)<;>(simp only[go_sem])|fail
 all_goals first|with_reducible refine aZ hQ _ rfl rfl ?_|skip
 all_goals first|exact pD (by omega)|exact q9 (by omega)|exact j7 (by omega)|rfl
theorem vW{c:Cfg}{s:CSt}{who:Nat}{st:Nat} (hb:aQ c) (hs:COk c s) (hw:who<3) (hst:st<4){d0:D} (hd0:CvD H (fun _=>True) id 0 (.one (.c (.fQ (eI s)))) d0) (h:K (dB (decide (HV c s who st))) H nx):aB Tryz.prog j8 [d0,boR (cU c),boP who,boP st] H nx K:=by
 refine aB.pure (args0:=[.one (.c (.fQ (eI s))),boR (cU c),boP who,boP st]) (R:=fun rr=>rr=dB (decide (HV c s who st))) ?_ rfl (aI ⟨hd0,aE rfl,aE rfl,aE rfl,trivial⟩) (fun r hr=>hr▸h)
 clear h
 refine FT rfl fun Q hQ=> ?_
 unfold mN
 obtain⟨hp3,hpr⟩:=hC hb
 have hprw:=hpr who
 have hml:=hb.1.1
 have hpl:=hs.pl
 have hpo:=hs.port who hw
 obtain⟨p,hpd⟩: ∃p,p=s.bM.getD who default:=⟨_,rfl⟩
 have hM:HV c s who st=(0<p.queue.length∧p.out.length<4∧gZ c.map (bT c who (p.queue.getD 0 default))=st∧ ∀j∈p.out,(bT c who j.n).id=(bT c who (p.queue.getD 0 default)).id→j.left=st):=by subst hpd;rfl
 rw[show aF s who=p from hpd.symm] at hpo
 obtain⟨hn1,hn2⟩:=hpo.next
 obtain⟨hq1,hq2⟩:=hpo.ql
 have hq0:=hpo.queue 0
 have hol:=hpo.ol
 repeat' first| (first|apply bn1|refine bpL (fun h=> ?_) fun h=> ?_|apply DE (by omega)|apply iJ hp3 (hpo.asks hw (by omega) (by omega))| (refine nR (l:=p.out) (caps:=[.fQ (cU c),.fQ [cI who],.fQ [cI (bT c who (p.queue.getD 0 default)).id],.fQ [cI st]]) (p:=fun j=>decide ((bT c who j.n).id=(bT c who (p.queue.getD 0 default)).id∧ ¬j.left=st)) (by omega) rfl (aE rfl) (PR ⟨zE rfl trivial rfl rfl rfl,zE rfl trivial rfl rfl rfl,zE rfl trivial rfl rfl rfl,zE rfl trivial rfl rfl rfl,trivial⟩) (fun x hx H nx K h=>EP hp3 (hpo.asks hw (hpo.out x hx).2.1.1 (by have:=(hpo.out x hx).2.1.2;omega)) h) ?_))<;>(simp only[go_sem,hpd.symm])|refine bnE (fun h=> ?_) fun h=> ?_|refine⟨by omega,?_⟩|fail
 all_goals first|with_reducible refine aZ hQ _ rfl rfl ?_|skip
 all_goals have hr:gZ c.map (List.getD (c.cP.getD who default) (p.queue.getD 0 default).toNat default)=gZ c.map (bT c who (p.queue.getD 0 default)):=rfl
 ·exact j7 (by rw[hM];omega)
 ·exact j7 (by rw[hM];omega)
 ·exact j7 (by rw[hM];omega)
 ·apply pD
  rw[hM,cH]
  refine⟨fun h=>⟨by omega,by omega,by omega,fun j hj hi=>Classical.byContradiction fun hn=>h ⟨j,hj,decide_eq_true ⟨hi,hn⟩⟩⟩,fun h ⟨j,hj,hd⟩=> ?_⟩
  have hd:=of_decide_eq_true hd
  exact hd.2 (h.2.2.2 j hj hd.1)
theorem ae5{old:Int}{new:Int}{g6:Int} (h1:0≤old∧old≤65535) (h2:0≤new∧new≤65535) (h3:0≤g6∧g6≤3) (h:K (boP (xZ old new g6)) H nx):aB Tryz.prog DA [boP old,boP new,boP g6] H nx K:=by
 refine aB.pure (args0:=[boP old,boP new,boP g6]) (R:=fun rr=>rr=boP (xZ old new g6)) ?_ rfl (aI ⟨aE rfl,aE rfl,aE rfl,trivial⟩) (fun r hr=>hr▸h)
 clear h
 refine ZG rfl fun Q hQ=> ?_
 unfold GM
 have hc:g6=0∨g6=1∨g6=2∨g6=3:=by omega
 rcases hc with rfl|rfl|rfl|rfl
 all_goals repeat' first|apply bn1<;>(simp only[go_sem])|fail
 ·exact aZ hQ (boP (aeN old new (aaU 0))) rfl rfl (qA (by rw[arC];exact PW h1 h2 (by omega)))
 ·exact aZ hQ (boP (aeN old new (aaU 1))) rfl rfl (qA (by rw[aqD];exact PW h1 h2 (by omega)))
 ·exact aZ hQ (boP (aeN old new (aaU 2))) rfl rfl (qA (by rw[arO];exact PW h1 h2 (by omega)))
 ·exact aZ hQ (boP (aeN old new (aaU 3))) rfl rfl (qA (by rw[arA];exact PW h1 h2 (by omega)))
theorem aqI{w all:List Int}:(List.range all.length).map (fun k=>w.getD (all.getD k default).toNat default)=all.map fun a=>w.getD a.toNat default:=by
 apply br2
 ·simp
 ·intro i h1 h2
  simp only[bqW] at h2
  simp[List.getD,h2]
theorem aoK{i2 i3 i4 i5 c0 c1 c2 c3 c4 c5:Nat}{s:TSt}:(oIm i0 i1 i2 i3 i4 i5 c0 c1 c2 c3 c4 c5 s).length=6:=rfl
theorem aj7{i2 i3 i4 i5 c0 c1 c2 c3 c4 c5:Nat}{s:TSt}:(oIm i0 i1 i2 i3 i4 i5 c0 c1 c2 c3 c4 c5 s).take 6=oIm i0 i1 i2 i3 i4 i5 c0 c1 c2 c3 c4 c5 s:=rfl
theorem akC{i2 i3 i4 i5 c0 c1 c2 c3 c4 c5:Nat}{s:TSt}:(oIm i0 i1 i2 i3 i4 i5 c0 c1 c2 c3 c4 c5 s).drop 6=[]:=rfl
theorem alF{i2 i3 i4 i5 c0 c1 c2 c3 c4 c5 k:Nat}{s:TSt}{cs:List D1}:iA cs (k+1) (oIm i0 i1 i2 i3 i4 i5 c0 c1 c2 c3 c4 c5 s)=iA cs (k+1) [.osl 1 i0 0 s.words.length c0,.osl 1 i1 0 s.holds.length c1,.osl 1 i2 0 s.asked.length c2,.osl 5 i3 0 s.wait.length c3,.osl 5 i4 0 s.done.length c4,.osl 5 i5 0 s.told.length c5]:=rfl
attribute [go_sem] aoK aj7 akC alF
end
end Go.Proofs.YtmccpdapaccnoaaGreat
namespace Go.AM
abbrev TE:=List Job
def IF (l:TE):List D1:=[.isl (l.map aS)]
theorem ag7 {l:TE}:(IF l).length=1:=rfl
theorem aaZ {l:TE}:(IF l).take 1=[.isl (l.map aS)]:=rfl
theorem ZY {l:TE}:(IF l).drop 1=[]:=rfl
theorem ae8 {l:TE} {cs:List D1} {k:Nat}:iA cs (k+1) (IF l)=iA cs (k+1) [.isl (l.map aS)]:=rfl
theorem al7 (l:TE):(IF l).length=1∧(IF l).all D1.dQ=true:=⟨rfl,rfl⟩
attribute [go_sem] ag7 aaZ ZY ae8
end Go.AM
namespace Go.Proofs.YtmccpdapaccnoaaGreat
open Go Go.AM
attribute [local irreducible] aM wv aB vd wvH
section
variable {H : aA} {nx : Nat} {K : D → aA → Nat → Prop}
variable{l:List Job}
theorem ac0 (h: ∀i,i<l.length→1≤i→ad5 (l.getD (i-1) default) (l.getD i default)<0):kW l:=by
 have h2: ∀(d i:Nat) (hi:i+d+1<l.length),uL (l.getD i default) (l.getD (i+d+1) default)=true:=by
  intro d
  induction d with
  |zero=>intro i hi;have:=h (i+1) (by omega) (by omega);rw[E7] at this;simpa using this
  |succ d ih=>
   intro i hi
   have h3:=ih i (by omega)
   have h4:=h (i+d+2) (by omega) (by omega)
   rw[E7,show i+d+2-1=i+d+1 by omega] at h4
   rw[show i+(d+1)+1=i+d+2 by omega]
   rw[qL] at*
   omega
 refine Z6.2 fun i j hi hj hij=> ?_
 have:=h2 (j-i-1) i (by omega)
 rw[show i+(j-i-1)+1=j by omega] at this
 simpa [List.getD,hi,hj] using this
theorem IK (hl:l.length<2^21){d0:D} (hd0:CvD H (fun _=>True) id 0 (dS (l.map aS)) d0) (h:K (dB (decide (kW l))) H nx):aB Tryz.prog oI [d0] H nx K:=by
 refine aB.pure (args0:=[dS (l.map aS)]) (R:=fun rr=>rr=dB (decide (kW l))) ?_ rfl (aI ⟨hd0,trivial⟩) (fun r hr=>hr▸h)
 clear h
 refine Q2 rfl fun Q hQ=> ?_
 unfold x7
 repeat' first|apply bn1<;>(simp only[go_sem])|fail
 refine aM.sG 0 (β:=Nat) (fun b k=>en [(3,boP k),(0,dS (l.map aS))]) (fun b k=>hp []) (fun k=>(1≤k∧(k≤l.length∨k=1))∧ ∀i,i<k→i<l.length→1≤i→ad5 (l.getD (i-1) default) (l.getD i default)<0) (fun k=>l.length-k) 1 (bU (m5 _) (by repeat' first|exact bo2|refine xqI rfl rfl ?_|fail)) ⟨by omega,fun i hi _ _=>by omega⟩ ?_
 rintro k ⟨hk,hinv⟩ bpQ hKL
 by_cases hlt:k<l.length
 ·have e1:((k:Int)-1).toNat=k-1:=by omega
  repeat' first| (first|apply bn1|apply xM)<;>(simp only[go_sem,e1];try simp (disch:=omega) only[Iw])|apply bn2 (by omega)|refine bnE (fun h=> ?_) fun h=> ?_|refine⟨by omega,?_⟩|fail
  ·refine aZ hQ (dB false) rfl rfl (j7 fun hs=> ?_)
   have h5:=Z6.1 hs (k-1) k (by omega) hlt (by omega)
   have h6:ad5 (l.getD (k-1) default) (l.getD k default)<0:=by rw[E7];simpa [List.getD,hlt,show k-1<l.length by omega] using h5
   omega
  ·exact hKL _ _ _ (k+1) (by omega) (bU (m5 _) (by repeat' first|exact bo2|refine xqI rfl rfl ?_|fail)) ⟨by omega,fun i hi hl2 h1=>by
    rcases br8.1 hi with h2|h2
    ·exact hinv i h2 hl2 h1
    ·subst h2;omega⟩ (by omega)
 ·repeat' first|apply bn1<;>(simp only[go_sem])|apply bn3 (by omega)|fail
  exact aZ hQ (dB true) rfl rfl (q9 (ac0 fun i hi h1=>hinv i (by omega) hi h1))
theorem JG{r:Rsp} (hr:r.data.length<2^40) (h:K (dB (decide (r=oW))) H nx):aB Tryz.prog iT [boR (tG r)] H nx K:=by
 refine aB.pure (args0:=[boR (tG r)]) (R:=fun rr=>rr=dB (decide (r=oW))) ?_ rfl (aI ⟨aE rfl,trivial⟩) (fun r hr=>hr▸h)
 clear h
 refine HU rfl fun Q hQ=> ?_
 unfold nO
 repeat' first| (first|apply bn1|refine bpL (fun h=> ?_) fun h=> ?_)<;>(simp only[go_sem])|fail
 all_goals first|with_reducible refine aZ hQ _ rfl rfl ?_|skip
 all_goals (obtain⟨r1,r2,r3⟩:=r;unfold oW;dsimp only at*;first|exact q9 (by simp_all)|exact j7 (by simp_all)|exact pD (by simp_all)|exact pD (by simp only[Rsp.mk.injEq];rw[←H4];omega))
theorem YD{r:Rsp} (hr:r.data.length<2^40) (h:K (dB (decide (pA r))) H nx):aB Tryz.prog m6 [boR (tG r)] H nx K:=by
 refine aB.pure (args0:=[boR (tG r)]) (R:=fun rr=>rr=dB (decide (pA r))) ?_ rfl (aI ⟨aE rfl,trivial⟩) (fun r hr=>hr▸h)
 clear h
 refine UX rfl fun Q hQ=> ?_
 unfold z8
 repeat' first| (first|apply bn1|refine bpL (fun h=> ?_) fun h=> ?_|apply fE|refine vG hr (aE rfl) ?_)<;>(simp only[go_sem])|fail
 all_goals first|with_reducible refine aZ hQ _ rfl rfl ?_|skip
 all_goals first|exact j7 (by unfold pA;grind)|exact pD (by unfold pA;grind)|exact q9 (by unfold pA;grind)
theorem HK{r:Rsp} (hr:r.data.length<2^40) (h:K (dB (decide (r=oW))) H nx):aB Tryz.prog iT [.one (.agg [cI r.id,cI r.code,.isl (r.data.map aJ)])] H nx K:=JG hr h
theorem I8{r:Rsp} (hr:r.data.length<2^40) (h:K (dB (decide (pA r))) H nx):aB Tryz.prog m6 [.one (.agg [cI r.id,cI r.code,.isl (r.data.map aJ)])] H nx K:=YD hr h
def UB (l:List Job):List (List Int×Int):=l.map fun j=>([j.who,j.n],1)
theorem alK{j:Job} (h:key j∉l.map key):jT (UB l) [j.who,j.n]=none:=by
 unfold jT UB
 rw[Option.map_eq_none_iff,List.find?_eq_none]
 intro p hp
 obtain⟨x,hx,rfl⟩:=CF.1 hp
 simp only[List.cons.injEq,and_true,decide_eq_true_eq]
 intro he
 exact h (CF.2 ⟨x,hx,by simp[key,he.1,he.2]⟩)
theorem alD{j:Job} (h:key j∉l.map key):vA (UB l) [j.who,j.n] 1=UB (l++[j]):=by
 induction l with
 |nil=>rfl
 |cons x l ih=>
  simp only[n3,t3,not_or] at h
  have hne: ¬[j.who,j.n]=[x.who,x.n]:=fun he=>h.1 (by simp only[List.cons.injEq,and_true] at he;simp[key,he.1,he.2])
  show vA (([x.who,x.n],1)::UB l) _ _=_
  simp only[vA,hne,if_false,ih h.2]
  rfl
theorem amR:(UB l).length=l.length:=by simp[UB]
theorem alS{l:List Int}{k:Nat} (h:k<l.length):(l.take (k+1)).sum=(l.take k).sum+l.getD k default:=by
 rw[brQ h,List.sum_append];simp[List.getD,h]
theorem af9{l:List Int} (h:l.length=3):(l.take 3).sum=l.getD 0 default+l.getD 1 default+l.getD 2 default:=by
 match l,h with
 | [a,b,c],_=>simp[List.getD];omega
theorem ZS{w u:List Int} (h:WK w u):JS w u:=⟨⟨by rw[h.wl];rfl,h.wr⟩,by rw[h.hl];rfl,h.hr⟩
end
theorem AP:cJ Tryz.prog cO Tryz.f200 jP oE:=cJ.mk Tryz.func200 (by kernel_rfl) AH
theorem BX:cJ Tryz.prog iX Tryz.f109 lB qR:=cJ.mk Tryz.func109 (by kernel_rfl) B8
end Go.Proofs.YtmccpdapaccnoaaGreat
namespace Go.AM
theorem aM.abC {P:Program} {T:Nat} {e:Env} {H:aA} {nx:Nat} {Q:AQ} {zs:List AC} (h: ∀G,G=H→aM P T zs e G nx Q):aM P T zs e H nx Q:=h H rfl
theorem akM {H:aA} {F:Nat→Prop} {nh:Nat} {f:FuncId} {caps:List D1} (h: ∀x∈caps,∃n id row col,id<nh∧x= .ptr n id row col):Cv1 H F id nh (.clo f caps) (.clo f caps):=
 .clo f caps caps rfl fun i x y hx hy=>by
  rw[hx] at hy
  obtain rfl:x=y:=by simpa using hy
  obtain⟨n,id,row,col,h1,rfl⟩:=h x (s3 hx)
  exact .inr ⟨n,id,row,col,h1,rfl,rfl⟩
def aaK (V:List (Int×Int)) (k:Nat) (u:List Int):Prop:=u.length=3∧ ∀w,w<3→u.getD w default= -1∨ ∃i,i<k∧V[i]?=some ((w:Int),u.getD w default)
theorem aaK.next {c:Cfg} {s:CSt} {st k:Nat} {u:List Int} {x:Int×Int} (hs:COk c s) (hst:st<4) (h:aaK (cS (aL s st)) k u) (hx:(cS (aL s st))[k]?=some x):
 (x.1=(x.1.toNat:Int)∧x.1.toNat<3)∧u.getD x.1.toNat default<x.2∧aaK (cS (aL s st)) (k+1) (u.set x.1.toNat x.2):=by
 obtain⟨hk,hxk⟩:=m3.1 hx
 have hm:x∈cS (aL s st):=hxk▸Z5 hk
 obtain⟨hw,h0,h1⟩:=hs.vIn hst hm
 have hw3:x.1.toNat<3:=by omega
 have hwe:x.1=(x.1.toNat:Int):=by omega
 refine⟨⟨hwe,hw3⟩,?_,by simp[h.1],fun w hw3'=> ?_⟩
 ·rcases h.2 _ hw3 with h2|⟨i,hi,h2⟩
  ·omega
  ·obtain⟨hi2,h3⟩:=m3.1 h2
   have h4:=Z6.1 (hs.slv st hst).inc i k hi2 hk hi
   rw[h3,hxk] at h4
   exact h4 hwe.symm
 ·by_cases he:w=x.1.toNat
  ·right
   refine⟨k,by omega,?_⟩
   rw[he,pY (by rw[h.1];omega),if_pos rfl,hx,←hwe]
  ·rw[pY (by rw[h.1];omega),if_neg he]
   exact(h.2 w hw3').imp (fun h=>h) fun⟨i,hi,h2⟩=>⟨i,by omega,h2⟩
end Go.AM
namespace Go.Proofs.YtmccpdapaccnoaaGreat
open Go Go.AM
attribute [local irreducible] aM wv aB vd wvH
section
variable {H : aA} {nx : Nat} {K : D → aA → Nat → Prop}
theorem kA {s:CSt} {st who:Nat} {w n:Int} {u:List Int} {i0 i1 i2:Nat} (hww:w=who) (hu:u.length=3) (hw:who<3) (hn:u.getD who default<n) (hpl:s.bM.length=3) (hol:(aF s who).out.length<2^40)
 (hx:0≤bK (isC n) (aF s who).out) (hx1:(bK (isC n) (aF s who).out).toNat<(aF s who).out.length) (hx2:((aF s who).out.getD (bK (isC n) (aF s who).out).toNat default).left=st)
 (hlt:i0<nx∧i1<nx∧i2<nx) (hd:[i0,i1,i2].Nodup) (o0:H i0=some ⟨3,1,[u.map cI]⟩) (o1:H i1=some ⟨5,1,[eI s]⟩) (o2:H i2=some ⟨1,1,[[cI st]]⟩)
 (h: ∀H' nx',nx≤nx'→H' i0=some ⟨3,1,[(u.set who n).map cI]⟩→(∀id,id<nx→id≠i0→H' id=H id)→K (dB true) H' nx'):
 aB Tryz.prog cO [boP w,boP n,.one (.c (.ptr 3 i0 0 0)),.one (.c (.ptr 5 i1 0 0)),.one (.c (.ptr 1 i2 0 0))] H nx K:=by
 subst hww
 refine AP rfl fun Q hQ=> ?_
 unfold jP
 have hA:bQ nx [i0,i1,i2]:=AM.apart hd (by simp;omega)
 simp only[bQ,eZ] at hA
 obtain⟨p,hpd⟩: ∃p,p=aF s who:=⟨_,rfl⟩
 have hpd':s.bM.getD who default=p:=hpd.symm
 rw[←hpd] at hol hx hx1 hx2
 obtain⟨a,ha⟩: ∃a,a=bK (isC n) p.out:=⟨_,rfl⟩
 have hut:((u.map cI).drop who).take 1=[cI (u.getD who default)]:=by
  rw[brB (by simp;omega)]
  simp[List.getD,show who<u.length by omega]
 have hull:(u.map cI).length=3:=by rw[bqW,hu]
 have hle:(who+1≤3)=True:=eq_true (by omega)
 have hou: ∀{H:aA} {nx:Nat} {K:D→aA→Nat→Prop},K (boP a) H nx→aB Tryz.prog kV [boR (cD p),boP n] H nx K:=fun h=>KT (p:=p) hol (aE rfl) (by rw[←ha];exact h)
 rw[←ha] at hx hx1 hx2
 repeat' first| (first|apply bn1|apply bpJ (by omega)|apply bpK (by omega)|apply oR|apply hou)<;>(simp only[go_sem,t1,bqT,brK,o0,o1,o2,hut,hull,hle,hpd',hx2,hA])|apply bn3 (by omega)|refine⟨by omega,?_⟩|fail
 have eu:List.take who (List.map cI u)++[D1.v (.int .i64 n)]++List.drop (who+1) (List.map cI u)=(u.set who n).map cI:=by
  rw[brD,bsF,if_pos (by simp;omega),C0];rfl
 rw[eu]
 exact hQ _ _ _ _ _ (.inr rfl) rfl (h _ _ (by omega) aA.bH fun id boU e1=>aA.aC e1)
end
end Go.Proofs.YtmccpdapaccnoaaGreat
namespace Go.AM
theorem agO {M:List (List Int×Int)} {l l':List Int} {n:Int}:jT (vA M l n) l'=if l'=l then some n else jT M l':=by
 induction M with
 |nil=>
  by_cases h:l'=l
  ·simp[vA,jT,h]
  ·simp[vA,jT,h]
 |cons p M ih=>
  obtain⟨a,b⟩:=p
  simp only[vA]
  by_cases hl:l=a
  ·subst hl
   rw[if_pos rfl]
   by_cases h:l'=l
   ·simp[jT,h]
   ·simp[jT,h]
  ·rw[if_neg hl]
   unfold jT at ih ⊢
   simp only[List.find?_cons]
   by_cases h:l'=a
   ·subst h
    simp[Ne.symm hl]
   ·simp only[h,decide_false]
    rw[ih]
def XM (c:Cfg) (who:Nat) (out:List fC) (k:Nat) (M:List (List Int×Int)):Prop:=∀i v,jT M [i]=some v→∃j∈out.take k,(bT c who j.n).id=i∧j.left=v
theorem XM.next {c:Cfg} {who:Nat} {out:List fC} {k:Nat} {M:List (List Int×Int)} (h:XM c who out k M) (hk:k<out.length):XM c who out (k+1) (vA M [(bT c who (out.getD k default).n).id] (out.getD k default).left):=by
 intro i v hv
 rw[agO] at hv
 have hm:out.getD k default∈out.take (k+1):=by
  rw[nK hk];simp
 split at hv
 ·rename_i he
  simp only[List.cons.injEq,and_true] at he
  simp only[Option.some.injEq] at hv
  exact⟨_,hm,he.symm,hv⟩
 ·obtain⟨j,h1,h2⟩:=h i v hv
  exact⟨j,(List.take_sublist_take_left (by omega)).mem h1,h2⟩
end Go.AM
namespace Go.Proofs.YtmccpdapaccnoaaGreat
open Go Go.AM
attribute [local irreducible] aM wv aB vd wvH
theorem EG:cJ Tryz.prog jK Tryz.f108 lL sF:=cJ.mk Tryz.func108 (by kernel_rfl) EM
section
variable {H : aA} {nx : Nat} {K : D → aA → Nat → Prop}
end
def kM:AC:= (boG [f5 1 0,f7 2 [OZ,OZ,OZ,OZ,OZ]] [1,2] (.seq (.region [RF 8 0 1 0,boF 9 (.load 2 true 8) [13] [] false 1,RF 11 2 1 3,g8 12 11 [13] [] true 4,RF 14 3 1 6,g8 15 14 [13] [] true 7,RF 17 4 1 9,g8 18 17 [13] [] true 10,f7 3 [OZ,OZ,OZ,OZ,OZ] 13,boF 10 (.call fL [9]) [13] [4,7,10] false 2,boF 13 (.call fY [12]) [13] [7,10] false 5,boF 16 (.call fM [15]) [13] [10] false 8,boF 19 (.call eO [18]) [13] [] false 11,rq 20 (.build [OZ,OZ,OZ,OZ,OZ] [(0,2,10),(2,1,13),(3,1,16),(4,1,19)]) 12,g0 5 true 3 20 14] 15 [1,2,3]) (.seq (boG [RF 21 2 1,RL 22 21,f1 23 22,dO 24 (ki 0)] [1,2,3,22,23,24] (.block 0 (.loop (boG [dI 25 .lss 24 23] [1,2,3,22,23,24,25] (.seq (.cond 25 .skip (.exit 0)) (.seq (.block 1 (boG [RM 26 24,e0 27 4 22 24,f8 28 4 27,f7 5 [VZ,OZ,OZ,VZ],RM 4 26,g0 4 true 5 28] [1,2,3,4,5,22,23,24] (.region [RF 29 2 3 0,g8 30 29 [] [] true 1,RM 31 4 2,RF 32 2 3 3,g8 33 32 [] [] true 4,RM 34 4 5,RF 35 1 5 6,RL 36 35 7,RF 38 2 5 9,g8 39 38 [] [] true 10,boF 37 (.call eX [36]) [] [1,4,10] false 8,boF 40 (.call eK [39]) [] [1,4] false 11,e0 41 4 30 31 12,RF 42 1 41 13,dA none (.store 1 false 42 37) none [] [4] false 14,e0 43 4 33 34 15,RF 44 2 43 16,g0 1 false 44 40 17] 18 [1,2,3,22,23,24]))) (m2 [dI 45 .add 24 (ki 1),RM 24 45] [1,2,3,22,23,24]))))))) (.seq (boG [RF 46 3 1,RL 47 46,f1 48 47,dO 49 (ki 0)] [2,3,47,48,49] (.block 2 (.loop (boG [dI 50 .lss 49 48] [2,3,47,48,49,50] (.seq (.cond 50 .skip (.exit 2)) (.seq (.block 3 (boG [RM 51 49,e0 52 3 47 49,f8 53 3 52,f7 7 [OZ,OZ,VZ],RM 6 51,g0 3 true 7 53] [2,3,6,7,47,48,49] (.region [RF 54 3 3 0,g8 55 54 [] [] true 1,RM 56 6 2,RF 57 3 3 3,g8 58 57 [] [] true 4,RM 59 6 5,RF 60 0 7 6,RL 61 60 7,RF 63 1 7 9,g8 64 63 [] [] true 10,boF 62 (.call eK [61]) [] [1,4,10] false 8,boF 65 (.call eO [64]) [] [1,4] false 11,e0 66 3 55 56 12,RF 67 0 66 13,dA none (.store 1 false 67 62) none [] [4] false 14,e0 68 3 58 59 15,RF 69 1 68 16,g0 1 false 69 65 17] 18 [2,3,47,48,49]))) (m2 [dI 70 .add 49 (ki 1),RM 49 70] [2,3,47,48,49]))))))) (boG [f8 71 5 3,g0 5 true 2 71] [2] .ret)))))
def pR:List aW:=[.cell 2 5 true]
theorem AZ:aO Tryz.prog Tryz.f117 (bnD kM)=some (kM,pR):=by kernel_rfl
def iV:AC:= (boG [dO 2 (.kv (.slice none 0 0))] [0] (boG [RM 3 0,f6 4 dL [3],f6 5 dV [4],RM 2 5] [2] .ret))
def mE:List aW:=[.tm 2]
theorem xQ:aO Tryz.prog Tryz.f211 (bnD iV)=some (iV,mE):=by kernel_rfl
theorem yL:aN Tryz.prog fY Tryz.f211 iV mE:=
 aN.mk Tryz.func211 (by kernel_rfl) xQ
def iB:AC:= (boG [dO 2 (.kv (.slice none 0 0))] [0] (boG [RM 3 0,f6 4 cZ [3],f6 5 dE [4],RM 2 5] [2] .ret))
def lZ:List aW:=[.tm 2]
theorem wJ:aO Tryz.prog Tryz.f212 (bnD iB)=some (iB,lZ):=by kernel_rfl
theorem wE:aN Tryz.prog fM Tryz.f212 iB lZ:=
 aN.mk Tryz.func212 (by kernel_rfl) wJ
def i9:AC:= (boG [dO 2 (.kv (.slice none 0 0))] [0] (boG [RM 3 0,f6 4 eE [3],f6 5 eQ [4],RM 2 5] [2] .ret))
def nN:List aW:=[.tm 2]
theorem yS:aO Tryz.prog Tryz.f213 (bnD i9)=some (i9,nN):=by kernel_rfl
theorem y7:aN Tryz.prog eK Tryz.f213 i9 nN:=
 aN.mk Tryz.func213 (by kernel_rfl) yS
def fV:AC:= (boG [dO 2 (.kv (.slice none 0 0))] [0] (boG [RM 3 0,RM 4 0,f1 5 4,RM 6 0,f1 7 6,rq 8 (.slc 4 3 none (some 5) (some 7)),RM 2 8] [2] .ret))
def jU:List aW:=[.tm 2]
theorem rW:aO Tryz.prog Tryz.f276 (bnD fV)=some (fV,jU):=by kernel_rfl
theorem r9:aN Tryz.prog dV Tryz.f276 fV jU:=
 aN.mk Tryz.func276 (by kernel_rfl) rW
def fN:AC:= (boG [dO 2 (.kv (.slice none 0 0))] [0] (.seq (boG [RM 3 0,rq 4 (.xop (.qJ false) [3])] [0,4] (.cond 4 (boG [dO 2 (.kv (.slice none 0 0))] [2] .ret) .skip)) (boG [rq 5 (.bC 4 0 [VZ,OZ,OZ,VZ] []),RM 6 0,rq 7 (.append 4 5 6),RM 2 7] [2] .ret)))
def jI:List aW:=[.tm 2]
theorem qP:aO Tryz.prog Tryz.f277 (bnD fN)=some (fN,jI):=by kernel_rfl
theorem qV:aN Tryz.prog dL Tryz.f277 fN jI:=
 aN.mk Tryz.func277 (by kernel_rfl) qP
def fG:AC:= (boG [dO 2 (.kv (.slice none 0 0))] [0] (boG [RM 3 0,RM 4 0,f1 5 4,RM 6 0,f1 7 6,rq 8 (.slc 3 3 none (some 5) (some 7)),RM 2 8] [2] .ret))
def iZ:List aW:=[.tm 2]
theorem pZ:aO Tryz.prog Tryz.f278 (bnD fG)=some (fG,iZ):=by kernel_rfl
theorem qF:aN Tryz.prog dE Tryz.f278 fG iZ:=
 aN.mk Tryz.func278 (by kernel_rfl) pZ
def eW:AC:= (boG [dO 2 (.kv (.slice none 0 0))] [0] (.seq (boG [RM 3 0,rq 4 (.xop (.qJ false) [3])] [0,4] (.cond 4 (boG [dO 2 (.kv (.slice none 0 0))] [2] .ret) .skip)) (boG [rq 5 (.bC 3 0 [OZ,OZ,VZ] []),RM 6 0,rq 7 (.append 3 5 6),RM 2 7] [2] .ret)))
def iL:List aW:=[.tm 2]
theorem oX:aO Tryz.prog Tryz.f279 (bnD eW)=some (eW,iL):=by kernel_rfl
theorem oY:aN Tryz.prog cZ Tryz.f279 eW iL:=
 aN.mk Tryz.func279 (by kernel_rfl) oX
def gK:AC:= (boG [dO 2 (.kv (.slice none 0 0))] [0] (boG [RM 3 0,RM 4 0,f1 5 4,RM 6 0,f1 7 6,rq 8 (.slc 3 3 none (some 5) (some 7)),RM 2 8] [2] .ret))
def kQ:List aW:=[.tm 2]
theorem uK:aO Tryz.prog Tryz.f280 (bnD gK)=some (gK,kQ):=by kernel_rfl
theorem uS:aN Tryz.prog eQ Tryz.f280 gK kQ:=
 aN.mk Tryz.func280 (by kernel_rfl) uK
def gB:AC:= (boG [dO 2 (.kv (.slice none 0 0))] [0] (.seq (boG [RM 3 0,rq 4 (.xop (.qJ false) [3])] [0,4] (.cond 4 (boG [dO 2 (.kv (.slice none 0 0))] [2] .ret) .skip)) (boG [rq 5 (.bC 3 0 [VZ,VZ,VZ] []),RM 6 0,rq 7 (.append 3 5 6),RM 2 7] [2] .ret)))
def kG:List aW:=[.tm 2]
theorem tA:aO Tryz.prog Tryz.f281 (bnD gB)=some (gB,kG):=by kernel_rfl
theorem sN:aN Tryz.prog eE Tryz.f281 gB kG:=
 aN.mk Tryz.func281 (by kernel_rfl) tA
theorem XO {τ:Nat→Nat} {n m:Nat} {l:List fC}:bA.rn τ ⟨n,m,l.map eCJ⟩=⟨n,m,l.map eCJ⟩:=by
 refine rF fun r hr x hx=> ?_
 obtain⟨y,_,rfl⟩:=CF.1 hr
 exact w2.1 (yK y).2 x hx
section
variable {H : aA} {nx : Nat} {K : D → aA → Nat → Prop}
theorem ag9 {l:List fC} {a:Nat} {z:List D1} (ha:a<l.length):wr ((l.take a).map eCJ++(l.drop (a+1)).map eCJ) (l.length-1) (List.replicate (l.length-(l.length-1)) z)=(B3 l a).map eCJ++[z]:=by
 have h1:(l.take a).map eCJ++(l.drop (a+1)).map eCJ=(B3 l a).map eCJ:=by simp[B3]
 have h2:((B3 l a).map eCJ).length=l.length-1:=by have:=RP ha;simp;omega
 have h3:l.length-(l.length-1)=1:=by omega
 rw[h1,h3,List.replicate_one]
 unfold wr
 have h4:List.drop (l.length-1+[z].length) ((B3 l a).map eCJ)=[]:=brZ (by simp at h2 ⊢;omega)
 rw[h4,boL (by omega),bq6]
theorem sP (l:List fC) (a cap m:Nat) (hl:l.length<2^21) (ha:a<l.length) (hc:l.length≤cap) (hcm:cap≤m):
 aB Tryz.prog eA [boQ 3 0 l.length cap,boP a,boP (a+1)] (hp [(0,⟨3,m,l.map eCJ⟩)]) 1
 fun r H' n'=>∃cap' m',(B3 l a).length≤cap'∧cap'≤m'∧n'=2∧H'=hp [(1,⟨3,m',(B3 l a).map eCJ⟩)]∧r=boQ 3 1 (B3 l a).length cap':=by
 refine rZ rfl fun Q hQ=> ?_
 unfold fW
 have e2:((a:Int)+1).toNat=a+1:=by omega
 have e3:a+(l.length-(a+1))=l.length-1:=by omega
 have e7:(a+1+(l.length-(a+1))≤l.length)=True:=eq_true (by omega)
 have e8:List.take (l.length-(a+1)) (List.drop (a+1) l)=List.drop (a+1) l:=boL (by simp)
 have bm9:(List.drop (a+1) l).length=l.length-(a+1):=CI
 have hol:=RP ha
 repeat' first|apply bn1<;>(simp only[go_sem,e2,e3,e7,e8,bm9])|apply bn3 (by omega)| (with_reducible first|refine fun(cap:Nat) (hcap:_≤cap)=> ?_|refine fun(hcp:_≤cap)=> ?_)|refine⟨by omega,?_⟩| (refine⟨by(rw[CG];omega),?_⟩)|fail
 (refine hQ _ _ _ _ _ 2 (boQ 3 1 (B3 l a).length cap) (hp [(1,⟨3,cap,(B3 l a).map eCJ⟩)]) _ _ (.inr rfl) rfl (fU [20,0] (by omega) (by repeat' first|exact bo2| ((with_reducible apply bo0);exact bpB (by omega) rfl rfl (by first|rfl|omega) rfl)| ((with_reducible apply bo1);apply bo7)|fail) ⟨⟨by simp,by simp[sgL],_,rfl,anJ (junk:=[[cI 0,cI 0,cI 0]]) (fun r hr=>(aG yK _ r hr).2) (ag9 ha) rfl (by decide)⟩,trivial⟩ (by simp[sgL])) ?_)
 exact⟨cap,cap,by omega,m5 _,rfl,rfl,rfl⟩
theorem tK {l:List fC} {z:Int} {cap m i0:Nat} (hl:l.length<2^21) (hz: ¬z<0) (ha:z.toNat<l.length) (hc:l.length≤cap) (hcm:cap≤m) (h0:i0<nx) (o0:H i0=some ⟨3,m,l.map eCJ⟩)
 (h: ∀cap' m',(B3 l z.toNat).length≤cap'→cap'≤m'→K (boQ 3 nx (B3 l z.toNat).length cap') ((H.del i0).set nx ⟨3,m',(B3 l z.toNat).map eCJ⟩) (nx+1)):
 aB Tryz.prog eA [boQ 3 i0 l.length cap,boP z,boP (z+1)] H nx K:=by
 obtain⟨a,rfl⟩: ∃a:Nat,z=a:=⟨z.toNat,by omega⟩
 refine(sP l a cap m hl ha hc hcm).AF [i0] rfl ⟨qS (by simp) rfl rfl rfl rfl,aE rfl,aE rfl,trivial⟩
  ⟨⟨by simp,id,_,o0,bP (aG yK _) rfl rfl⟩,trivial⟩ (by simp) (by simp;omega) (by simp) fun r H' n' _ ⟨cap',m',bqB,q1,q2,q3,q4⟩=> ?_
 simp only[Int.toNat_natCast] at h
 have h:=h cap' m' bqB q1
 subst q2;subst q3;subst q4
 generalize B3 l a=l' at*
 have e1:back (tau 1 nx (nth [i0])) (hp [(1,⟨3,m',l'.map eCJ⟩)]) 2 H=(H.del i0).set nx ⟨3,m',l'.map eCJ⟩:=by
  simp[back,hp,aA.set,aA.nil,tau,nth,uB,XO,aA.eL,aA.yI]
 rw[←e1] at h
 exact h
end
end Go.Proofs.YtmccpdapaccnoaaGreat
namespace Go.AM
variable{c:Cfg}{f:CSt→Nat→Option Mic}{s:CSt}{k:Nat}
theorem GZ{l:List Nat} (h:f s k=none):vE c f s (k::l)=vE c f s l:=by
 rw[vE,h]
theorem NH{l:List Nat}{m:Mic} (h:f s k=some m):vE c f s (k::l)=m::vE c f (aR c s m) l:=by
 rw[vE,h]
theorem ap4 (h:k<3):[0,1,2].drop k=k::[0,1,2].drop (k+1):=by
 obtain rfl|rfl|rfl:k=0∨k=1∨k=2:=by omega
 all_goals rfl
theorem apX (h:k<4):[0,1,2,3].drop k=k::[0,1,2,3].drop (k+1):=by
 obtain rfl|rfl|rfl|rfl:k=0∨k=1∨k=2∨k=3:=by omega
 all_goals rfl
def vU (c:Cfg) (f:CSt→Nat→Option Mic) (l:List Nat) (s:CSt) (es:List Ev) (S:CSt) (E:List Ev):Prop:=dR c s (vE c f s l)=S∧es++iP c s (vE c f s l)=E
theorem vU.none {c:Cfg} {f:CSt→Nat→Option Mic} {s S:CSt} {es E:List Ev} {k:Nat} {l:List Nat} (hl:vU c f (k::l) s es S E) (h:f s k=none):vU c f l s es S E:=by
 unfold vU at hl
 rw[GZ h] at hl
 exact hl
theorem vU.some {c:Cfg} {f:CSt→Nat→Option Mic} {s S:CSt} {es E:List Ev} {k:Nat} {l:List Nat} {m:Mic} (hl:vU c f (k::l) s es S E) (h:f s k=some m):vU c f l (aR c s m) (es++y0 s m) S E:=by
 unfold vU at hl
 rw[NH h] at hl
 refine⟨hl.1,?_⟩
 rw[C0]
 exact hl.2
theorem vU.nil{S:CSt}{es E:List Ev} (hl:vU c f [] s es S E):s=S∧es=E:=by
 refine⟨hl.1,?_⟩
 have:=hl.2
 rw[vE,iP,bq6] at this
 exact this
theorem agJ{i:CIn} (h:i.ready.getD k default=false):vT i s k=none:=by
 unfold vT;rw[if_neg (by rw[h];decide)]
theorem bkW{j:Nat} (h1:1≤j) (h2:j<5):j=1∨j=2∨j=3∨j=4:=by omega
theorem acZ{i:CIn} (h: ∀j,1≤j→j<5→NN s k (pQ s k j)=false):vT i s k=none:=by
 unfold vT
 split
 ·simp[List.find?_cons,h 1 (by omega) (by omega),h 2 (by omega) (by omega),h 3 (by omega) (by omega),h 4 (by omega) (by omega)]
 ·rfl
theorem acB{i:CIn}{j:Nat} (hr:i.ready.getD k default=true) (h1:1≤j) (h2:j≤4) (h: ∀j',1≤j'→j'<j→NN s k (pQ s k j')=false) (hj:NN s k (pQ s k j)=true):vT i s k=some (.tell k (pQ s k j)):=by
 unfold vT
 rw[if_pos hr]
 rcases bkW h1 (by omega) with rfl|rfl|rfl|rfl
 ·simp[List.find?_cons,hj]
 ·simp[List.find?_cons,hj,h 1 (by omega) (by omega)]
 ·simp[List.find?_cons,hj,h 1 (by omega) (by omega),h 2 (by omega) (by omega)]
 ·simp[List.find?_cons,hj,h 1 (by omega) (by omega),h 2 (by omega) (by omega),h 3 (by omega) (by omega)]
def LV (c:Cfg) (l:List Nat) (s:CSt) (u:List Bool) (S:CSt):Prop:=dR c s (oP c s u l)=S
theorem LV.none {c:Cfg} {s S:CSt} {u:List Bool} {k:Nat} {l:List Nat} (hl:LV c (k::l) s u S) (h:AO c s u k=none):LV c l s u S:=by
 unfold LV at hl
 rw[oP,h] at hl
 exact hl
theorem LV.some {c:Cfg} {s S:CSt} {u:List Bool} {k who:Nat} {l:List Nat} (hl:LV c (k::l) s u S) (h:AO c s u k=some who):LV c l (aR c s (.adm who k)) (u.set who true) S:=by
 unfold LV at hl
 rw[oP,h] at hl
 exact hl
theorem anA{u:List Bool}{st:Nat} (h: ¬(aL s st).pipe.length<2):AO c s u st=none:=if_neg h
theorem ah0{u:List Bool}{st:Nat} (h: ∀j,1≤j→j<4→KE c s u st (sM s st j)=false):AO c s u st=none:=by
 unfold AO
 split
 ·simp[List.find?_cons,h 1 (by omega) (by omega),h 2 (by omega) (by omega),h 3 (by omega) (by omega)]
 ·rfl
theorem ahR{u:List Bool}{st j:Nat} (hr:(aL s st).pipe.length<2) (h1:1≤j) (h2:j≤3) (h: ∀j',1≤j'→j'<j→KE c s u st (sM s st j')=false) (hj:KE c s u st (sM s st j)=true):AO c s u st=some (sM s st j):=by
 unfold AO
 rw[if_pos hr]
 obtain rfl|rfl|rfl:j=1∨j=2∨j=3:=by omega
 ·simp[List.find?_cons,hj]
 ·simp[List.find?_cons,hj,h 1 (by omega) (by omega)]
 ·simp[List.find?_cons,hj,h 1 (by omega) (by omega),h 2 (by omega) (by omega)]
end Go.AM
namespace Go.Proofs.YtmccpdapaccnoaaGreat
open Go Go.AM
attribute [local irreducible] aM wv aB vd wvH
theorem EB:cJ Tryz.prog mG Tryz.f214 lR sK:=cJ.mk Tryz.func214 (by kernel_rfl) D6
section
variable {H : aA} {nx : Nat} {K : D → aA → Nat → Prop}
theorem F8 {X:Nat→Prop} {c:Cfg} {i:CIn} {s:CSt} {es:List Ev} {i0 i1:Nat} {nm:Nat→Nat} (hb:aQ c) (hs:COk c s) (hin:i.ready.length=3) (hB:l9 X H nx i0 i1 nm s es) (hl:es.length<900)
 (h: ∀H' nx' nm',nx≤nx'→l9 X H' nx' i0 i1 nm' (CW c i s) (es++iP c s (KQ c i s))→(∀id,X id→H' id=H id)→K (.tup []) H' nx'):
 aB Tryz.prog mG [.one (.c (.ptr 5 i0 0 0)),boR (eIn i),.one (.c (.ptr 5 i1 0 0))] H nx K:=by
 refine EB rfl fun Q hQ=> ?_
 unfold lR
 obtain⟨wc,hc,pc,vc,tc,hi0,hw0,hh0,ht0,hpc,hvc⟩: ∃wc hc pc vc tc,H i0=some ⟨5,1,[[.osl 1 (nm 0) 0 s.words.length wc,.osl 1 (nm 1) 0 s.holds.length hc,.osl 4 (nm 2) 0 3 pc,.osl 3 (nm 3) 0 4 vc,.osl 5 (nm 4) 0 s.told.length tc]]⟩∧_:=by
  obtain⟨cells,h1,⟨wc,hc,pc,vc,tc,rfl,h2⟩,_⟩:=hB.rep.st
  exact⟨wc,hc,pc,vc,tc,h1,h2⟩
 have hA:=hB.rep.apart (nx':=nx) [] [] (m5 _) (by simp) (by simp) (by simp) (by simp)
 simp only[bQ,eZ,List.map,List.nil_append] at hA
 repeat' first|apply bn1<;>(simp only[go_sem,hi0,hA])|fail
 obtain⟨H0,hH0⟩: ∃H0,H0=H.set nx ⟨3,1,[eIn i]⟩:=⟨_,rfl⟩
 rw[←hH0]
 have h0i:H0 nx=some ⟨3,1,[eIn i]⟩:=by rw[hH0];exact aA.bH
 have hB0:l9 (fun id=>X id∨id=nx) H0 (nx+7) i0 i1 nm s es:=hB.next (by omega) (fun id h1 h2=>by rw[hH0,aA.aC (by omega)]) fun id hid=>by
  rcases hid with hid|rfl
  ·have:=hB.rep.x id (.inl hid)
   exact⟨by omega,.inl hid⟩
  ·exact⟨by omega,.inr (m5 _)⟩
 have hxi0:=hB.rep.i0.1
 have hxi1:=hB.hap.i1.1
 refine aM.gP (β:=Nat×CSt×List Ev×(Nat→Nat)) (fun u=>en [(18,boP u.1),(17,boP 3),(4,.one (.c (.ptr 3 nx 0 0))),(2,.one (.c (.ptr 5 i1 0 0))),(0,.one (.c (.ptr 5 i0 0 0)))])
  (fun u H1 nx1=>u.1≤3∧COk c u.2.1∧l9 (fun id=>X id∨id=nx) H1 nx1 i0 i1 u.2.2.2 u.2.1 u.2.2.1∧(∀id,X id∨id=nx→H1 id=H0 id)∧vU c (vT i) ([0,1,2].drop u.1) u.2.1 u.2.2.1 (CW c i s) (es++iP c s (KQ c i s))∧u.2.2.1.length≤es.length+u.1)
  (fun u=>3-u.1) (0,s,es,nm) ⟨noF,_,by repeat' first|exact bo2|refine xqI rfl rfl ?_|refine xqP (by omega) rfl rfl ?_|fail,aK,by dsimp only;omega,hs,hB0,fun _ _=>rfl,⟨rfl,rfl⟩,by simp⟩ ?_
 rintro⟨k,s1,es1,nm1⟩ H1 nx1 hnx ⟨hk,hs1,hB1,hX1,hS1,hL1⟩ bpQ hKL
 dsimp only at hk hs1 hB1 hS1 hL1
 obtain⟨wc,hc,pc,vc,tc,mp,rp,mv,rv,bqC,g1,g2,g3,g4,g5,bkU,bkV,bp4,bp5,ga,gb⟩:=hB1.rep.get
 have hin1:H1 nx=some ⟨3,1,[eIn i]⟩:=by rw[hX1 nx (.inr rfl)];exact h0i
 by_cases hlt:k<3
 ·have hS2:=hS1
  rw[ap4 hlt] at hS2
  obtain⟨p,hpd⟩: ∃p,p=aF s1 k:=⟨_,rfl⟩
  obtain⟨qo,qc,oc,gr,gq,go⟩:=ga k hlt
  rw[←hpd] at gr gq go
  repeat' first|apply bn1<;>(simp only[go_sem,bqC,g1,gr,hin1])|apply bn2 (by omega)|refine⟨by omega,?_⟩|fail
  have hpo:=hs1.port k hlt
  rw[←hpd] at hpo
  have hn2:=hB1.rep.names.lt 2 (by omega)
  obtain⟨hla,hlb⟩:=hpo.last
  refine aM.gP (β:=Nat) (fun j=>en [(18,boP k),(17,boP 3),(8,boP j),(7,.one (.c (.ptr 4 (nm1 2) k 0))),(6,boP k),(4,.one (.c (.ptr 3 nx 0 0))),(2,.one (.c (.ptr 5 i1 0 0))),(0,.one (.c (.ptr 5 i0 0 0)))])
   (fun j H2 _=>1≤j∧j≤5∧H2=H1∧ ∀j',1≤j'→j'<j→NN s1 k (pQ s1 k j')=false) (fun j=>5-j) 1 ⟨noF,_,by repeat' first|exact bo2|refine xqI rfl rfl ?_|refine xqP (by omega) rfl rfl ?_|fail,aK,by omega,by omega,rfl,fun j' h1 h2=>by omega⟩ ?_
  rintro j H2 nx2 hnx2 ⟨hj1,hj5,hH2,hinv⟩ bkT hKJ
  subst hH2
  by_cases hj4:j≤4
  ·cases hrd:i.ready.getD k default with
   |false=>
    repeat' first| (first|apply bn1|apply bpJ (by omega))<;>(simp only[go_sem,hin1,hrd];try simp (disch:=omega) only[Iw])|refine⟨by omega,?_⟩|fail
    exact hKL _ _ _ (k+1,s1,es1,nm1) noF _ (by omega) (by dsimp only;omega) (by repeat' first|exact bo2|refine xqI rfl rfl ?_|refine xqP (by omega) rfl rfl ?_|fail) aK ⟨by dsimp only;omega,hs1,hB1.mono (by omega),hX1,hS2.none (agJ hrd),by dsimp only;omega⟩
   |true=>
   obtain⟨st,hst⟩: ∃st,st=pQ s1 k j:=⟨_,rfl⟩
   have hst':st=((p.last+(j:Int))%4).toNat:=by rw[hst,hpd];rfl
   have hst4:st<4:=by omega
   have hmod:(p.last+(j:Int)).tmod 4=(st:Int):=by rw[brF (by omega)];omega
   obtain⟨v,hvd⟩: ∃v,v=aL s1 st:=⟨_,rfl⟩
   obtain⟨po,ppc,do_,dc,gs,gp,gd⟩:=gb st hst4
   rw[←hvd] at gs gp gd
   obtain⟨md,rd,d1,d2,d3,bkS,bk2,bk3⟩:=gd.ex
   by_cases hd0:v.done.length=0
   ·have hlen:((v.done.length:Int)=0)=True:=eq_true (by omega)
    repeat' first| (first|apply bn1|apply bpJ (by omega))<;>(simp only[go_sem,bqC,g1,g2,gr,gs,hin1,hmod,hrd,hlen];try simp (disch:=omega) only[Iw])|refine⟨by omega,?_⟩|fail
    exact hKJ _ _ _ (j+1) noF _ (by omega) (by omega) (by repeat' first|exact bo2|refine xqI rfl rfl ?_|refine xqP (by omega) rfl rfl ?_|fail) aK ⟨by omega,by omega,rfl,fun j' h1 h2=>by
     by_cases hj:j'<j
     ·exact hinv j' h1 hj
     ·have:j'=j:=by omega
      subst this
      rw[←hst]
      exact decide_eq_false fun hc=>by rw[←hvd] at hc;omega⟩
   have hlen:((v.done.length:Int)=0)=False:=eq_false (by omega)
   obtain⟨d,hdd⟩: ∃d,d=v.done.getD 0 default:=⟨_,rfl⟩
   have bk4:rd[do_]?=some (aS d):=by
    have:(rd.drop do_)[0]?=some (aS d):=by rw[d2,p0];simp[hdd,List.getD,show 0<v.done.length by omega]
    rwa [s5,Nat.add_zero] at this
   by_cases hwho:d.who=k
   ·have hn8:=hB1.rep.names.lt (8+k) (by omega)
    have htl:s1.told.length≤36:=by have:=hs1.st.lens hb;simp only[cX] at this;omega
    have hol:=hpo.ol
    have hex: ∃j∈p.out,j.n=d.n:=by
     obtain⟨_,j,q1,q2,_⟩:=(hs1.slv st hst4).out (key d) (by rw[←hvd];exact M9 (by rw[hdd];exact cC (by omega)))
     have e:(key d).1.toNat=k:=by show d.who.toNat=k;omega
     rw[e,←hpd] at q1
     exact⟨j,q1,q2⟩
    obtain⟨hx1,hx2⟩:=PJ hex
    have hx3: ¬bK (isC d.n) p.out<0:=by
     have:0≤bK (isC d.n) p.out:=cH.2 (by obtain⟨j,q1,q2⟩:=hex;exact⟨j,q1,decide_eq_true q2⟩)
     omega
    have hout: ∀{G:aA} {n':Nat} {K:D→aA→Nat→Prop},G (nm1 (5+k))=H2 (nm1 (5+k))→G (nm1 (8+k))=H2 (nm1 (8+k))→K (boP (bK (isC d.n) p.out)) G n'→aB Tryz.prog kV [.one (.agg [cI p.next,.osl 1 (nm1 (5+k)) qo p.queue.length qc,.osl 3 (nm1 (8+k)) 0 p.out.length oc,cI p.last]),boP d.n] G n' K:=fun h1 h2 h3=>
     KT (by omega) (lY (A8 (fO ZX (fO ((gq.frame h1).frz (aG bF _) trivial) (fO ((go.frame h2).frz (aG yK _) trivial) (fO ZX LH)))))) h3
    have hA:=hB1.rep.apart (nx':=nx2) [nx] [0,1,2,3,4,5+k,8+k,11+st,15+st] (by omega) (by simp) (fun x hx=>.inl (.inr (by simpa using hx))) (by simp;omega) (by simp;omega)
    simp only[bQ,eZ,List.map,List.cons_append,List.nil_append] at hA
    obtain⟨mt,rt,e1,e2,e3,e4,e5,e6⟩:=g5.ex
    obtain⟨mo,ro,o1,o2,bqD,bqE,bqF,blC⟩:=go.ex
    rw[bq5] at e2 o2
    subst e2;subst o2
    refine aM.BW fun hnm=> ?_
    have hgk: ∀r,(rp.set k r)[k]?=some r:=fun r=>by rw[bqZ (by omega)]
    have hmk: ∀k l,msk (nx2+k) l H2=H2:=fun k l=>BV hnm (by omega)
    repeat' first| (first|apply bn1|apply bpJ (by omega)|apply hout (by simp only[aA.set,aA.del,hA,if_false]) (by simp only[aA.set,aA.del,hA,if_false])| (refine tK (m:=mo) (by omega) hx3 hx1 bqF (by omega) (by omega) (by simp only[aA.set,aA.del,hA,if_false];exact o1) (fun cap' m' q1 q2=> ?_)))<;>(simp only[go_sem,t1,bqT,hmk,umS (G:=H2),umD (G:=H2),umB,hgk,bq1,bqC,g1,g2,gr,gs,hin1,hmod,hrd,hlen,d1,bk4,hwho,e1,o1,hA];try simp (disch:=omega) only[Iw])| (with_reducible first|refine fun(cap:Nat) (hcap:_≤cap)=> ?_|refine fun(hcp:_≤cap)=> ?_)|refine⟨by omega,?_⟩|fail
    obtain⟨nm',hnm'⟩: ∃nm',nm'=put (put nm1 4 (nx2+56)) (8+k) (nx2+88):=⟨_,rfl⟩
    have pn: ∀j,j≠4→j≠8+k→nm' j=nm1 j:=fun j h1 h2=>by rw[hnm',jE h2,jE h1]
    have p4:nm' 4=nx2+56:=by rw[hnm',jE (by omega),t8]
    have bk9:nm' (8+k)=nx2+88:=by rw[hnm',t8]
    obtain⟨s',hs'⟩: ∃s',s'=aR c s1 (.tell k st):=⟨_,rfl⟩
    have hdj:iF s1 st=d:=by rw[hdd,hvd];rfl
    have hpd':aF s' k= {p with out:=PE p.out d.n,last:=st}:=by rw[hs',bL rfl (by rw[hs1.pl];omega),if_pos rfl,hdj,←hpd]
    have hvd':aL s' st= {v with done:=v.done.drop 1}:=by rw[hs',bO rfl (by rw[hs1.sl];omega),if_pos rfl,←hvd]
    have htd:s'.told=s1.told++[d]:=by rw[hs',←hdj];rfl
    refine acI (hB1.upd k st nm' s' (by omega) ?_ ?_ ?_ ?_ ?_ ?_ (.inl hlt) (.inl hst4) (fun j hj hne=>by rw[hs',bL rfl (by rw[hs1.pl];omega),if_neg hne]) (fun j hj hne=>by rw[hs',bO rfl (by rw[hs1.sl];omega),if_neg hne])) (by omega) fun H' nx' hx hB' hX'=> ?_
    ·rw[hnm']
     have hXl: ∀v,nx2≤v→¬((X v∨v=nx)∨v=i1):=fun v hv hn=>by have:=hB1.rep.x v hn;omega
     exact((hB1.rep.names.mono (by omega:nx1≤nx2)).put (nx':=nx2+57) (by omega) (by omega) (hXl _ (by omega))).put (by omega) (by omega) (hXl _ (by omega))
    ·intro j hj
     by_cases h4:j=4
     ·subst h4;exact .inr ⟨.inl rfl,by omega⟩
     ·by_cases h8:j=8+k
      ·subst h8;exact .inr ⟨.inr (.inr (.inl rfl)),by omega⟩
      ·exact .inl (pn j h4 h8)
    ·intro id hid h0 hne
     simp only[aA.set,aA.del,h0,hne 2 (by omega) (by omega),hne 3 (by omega) (by omega),hne 4 (by omega) (by omega),hne (8+k) (by omega) (by omega),show ¬id=nx2+47 by omega,show ¬id=nx2+55 by omega,show ¬id=nx2+56 by omega,show ¬id=nx2+88 by omega,if_false]
    ·refine⟨wc,hc,pc,vc,cap,?_,?_,?_,?_,bkU,bkV⟩
     ·simp only[aA.set,aA.del,hA,if_false,if_true,U2,pn 0 (by omega) (by omega),pn 1 (by omega) (by omega),pn 2 (by omega) (by omega),pn 3 (by omega) (by omega),p4,htd,t2,List.length_singleton]
      rw[hs'];rfl
     ·rw[pn 0 (by omega) (by omega),hs']
      exact g3.frame (by simp only[aA.set,aA.del,hA,if_false])
     ·rw[pn 1 (by omega) (by omega),hs']
      exact g4.frame (by simp only[aA.set,aA.del,hA,if_false])
     ·rw[p4,htd]
      exact⟨cap,(s1.told++[d]).map aS,by simp only[aA.set,aA.del,hA,if_false,if_true,show ¬nx2+56=nx2+88 by omega],rfl,by simp,by simp,by simpa using hcap,by simp⟩
    ·refine⟨mp,rp.set k [cI p.next,.osl 1 (nm1 (5+k)) qo p.queue.length qc,.osl 3 (nx2+88) 0 (PE p.out d.n).length cap',cI st],mp,rp,g1,by simp only[aA.set,aA.del,hA,if_false,if_true];rfl,by simp only[Y5,bp4],fun j hj hne=>by rw[bq0 (Ne.symm hne)],fun _=>⟨_,hgk _,⟨qo,qc,cap',?_,?_,?_⟩⟩⟩
     ·rw[hpd',pn (5+k) (by omega) (by omega),bk9];rfl
     ·rw[hpd',pn (5+k) (by omega) (by omega)]
      exact gq.frame (by simp only[aA.set,aA.del,hA,if_false])
     ·rw[hpd',bk9]
      exact⟨m',(PE p.out d.n).map eCJ,by simp only[aA.set,aA.del,hA,if_false,if_true];rfl,rfl,by simp,by simp,q1,by omega⟩
    ·refine⟨mv,rv.set st [.osl 3 (nm1 (11+st)) po v.pipe.length ppc,.osl 5 (nm1 (15+st)) (do_+1) (v.done.length-1) (dc-1),cI v.last],mv,rv,g2,by simp only[aA.set,aA.del,hA,if_false,if_true],by simp only[Y5,bp5],fun j hj hne=>by rw[bq0 (Ne.symm hne)],fun _=>⟨[.osl 3 (nm1 (11+st)) po v.pipe.length ppc,.osl 5 (nm1 (15+st)) (do_+1) (v.done.length-1) (dc-1),cI v.last],bqZ (by omega),⟨po,ppc,do_+1,dc-1,?_,?_,?_⟩⟩⟩
     ·rw[hvd',pn (11+st) (by omega) (by omega),pn (15+st) (by omega) (by omega)]
      simp only[aj9,CI]
     ·rw[hvd',pn (11+st) (by omega) (by omega)]
      exact gp.frame (by simp only[aA.set,aA.del,hA,if_false])
     ·rw[hvd',pn (15+st) (by omega) (by omega)]
      refine⟨md,rd,by simp only[aA.set,aA.del,hA,if_false];exact d1,by rw[brE,←d2,Y2],?_,by simp,?_,?_⟩
      ·simp only[CI];omega
      ·simp only[CI];omega
      ·omega
    ·simp only[go_sem]
     repeat' first|apply bn1<;>(simp only[go_sem];try simp (disch:=omega) only[Iw])|fail
     have boT:vT i s1 k=some (.tell k st):=by
      rw[hst]
      exact acB hrd hj1 hj4 hinv (by rw[←hst];exact decide_eq_true ⟨by rw[←hvd];omega,by rw[←hvd,←hdd];exact hwho⟩)
     have hL:=hS2.some boT
     rw[←hs',show y0 s1 (.tell k st)=[⟨3,k,d.n⟩] from by rw[←hdj];rfl] at hL
     have hs2:COk c s':=by rw[hs'];exact o9 hb hs1 (TB hs1 hlt boT)
     exact hKL _ _ _ (k+1,s',es1++[⟨3,k,d.n⟩],nm') noF _ (by omega) (by dsimp only;omega) (by repeat' first|exact bo2|refine xqI rfl rfl ?_|refine xqP (by omega) rfl rfl ?_|fail) aK ⟨by dsimp only;omega,hs2,hB'.mono (by omega),fun id hid=>(hX' id hid).trans (hX1 id hid),hL,by simp;omega⟩
   ·have hwf:(d.who=(k:Int))=False:=eq_false hwho
    repeat' first| (first|apply bn1|apply bpJ (by omega))<;>(simp only[go_sem,bqC,g1,g2,gr,gs,hin1,hmod,hrd,hlen,d1,bk4,hwf];try simp (disch:=omega) only[Iw])|refine⟨by omega,?_⟩|fail
    exact hKJ _ _ _ (j+1) noF _ (by omega) (by omega) (by repeat' first|exact bo2|refine xqI rfl rfl ?_|refine xqP (by omega) rfl rfl ?_|fail) aK ⟨by omega,by omega,rfl,fun j' h1 h2=>by
     by_cases hj:j'<j
     ·exact hinv j' h1 hj
     ·have:j'=j:=by omega
      subst this
      rw[←hst]
      exact decide_eq_false fun hc=>hwho (by rw[hdd,hvd];exact hc.2)⟩
  ·repeat' first| (first|apply bn1|apply bpK (by omega))<;>(simp only[go_sem];try simp (disch:=omega) only[Iw])|fail
   exact hKL _ _ _ (k+1,s1,es1,nm1) noF _ (by omega) (by dsimp only;omega) (by repeat' first|exact bo2|refine xqI rfl rfl ?_|refine xqP (by omega) rfl rfl ?_|fail) aK ⟨by dsimp only;omega,hs1,hB1.mono (by omega),hX1,hS2.none (acZ fun j' h1 h2=>hinv j' h1 (by omega)),by dsimp only;omega⟩
 ·repeat' first|apply bn1<;>(simp only[go_sem])|apply bn3 (by omega)|fail
  have hk3:k=3:=by omega
  subst hk3
  obtain⟨rfl,rfl⟩:=vU.nil hS1
  refine hQ _ _ _ _ _ (.inl rfl) rfl (h _ _ nm1 (by omega) (hB1.next (by omega) (fun _ _ _=>rfl) fun id hid=>⟨?_,.inl (.inl hid)⟩) fun id hid=> ?_)
  ·have:=hB.rep.x id (.inl hid);omega
  ·rw[hX1 id (.inl hid),hH0,aA.aC]
   have:=hB.rep.x id (.inl hid);omega
end
end Go.Proofs.YtmccpdapaccnoaaGreat
