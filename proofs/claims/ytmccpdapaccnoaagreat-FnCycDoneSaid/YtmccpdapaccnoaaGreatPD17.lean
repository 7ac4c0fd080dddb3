/- Texts laid together by a program: rules, contracts and the walk that leads to the law. -/
import Derived.Test.YtmccpdapaccnoaaGreatPD13
set_option linter.unusedVariables false
set_option linter.unusedSimpArgs false
set_option linter.unusedSectionVars false
set_option maxRecDepth 100000
set_option maxHeartbeats 8000000
namespace Go.Proofs.YtmccpdapaccnoaaGreat
open Go Go.AM
attribute [local irreducible] aM wv aB vd wvH
theorem EE:cJ Tryz.prog mM Tryz.f215 lQ sI:=cJ.mk Tryz.func215 (by kernel_rfl) EC
theorem aa0 {i:CIn} {s:CSt} {st:Nat} (h:i.n9.getD st default=true∨(aL s st).pipe.length=0):qW i s st=none:=if_pos h
theorem acO {i:CIn} {s:CSt} {st:Nat} (h: ¬(i.n9.getD st default=true∨(aL s st).pipe.length=0)) (h2:0<(bI s st).left):qW i s st=some (.tick st):=by unfold qW;rw[if_neg h,if_pos h2]
theorem adE {i:CIn} {s:CSt} {st:Nat} (h: ¬(i.n9.getD st default=true∨(aL s st).pipe.length=0)) (h2: ¬0<(bI s st).left) (h3:(aL s st).done.length<2):qW i s st=some (.work st):=by unfold qW;rw[if_neg h,if_neg h2,if_pos h3]
theorem ae2 {i:CIn} {s:CSt} {st:Nat} (h: ¬(i.n9.getD st default=true∨(aL s st).pipe.length=0)) (h2: ¬0<(bI s st).left) (h3: ¬(aL s st).done.length<2):qW i s st=none:=by unfold qW;rw[if_neg h,if_neg h2,if_neg h3]
section
variable {H : aA} {nx : Nat} {K : D → aA → Nat → Prop}
theorem GF {X:Nat→Prop} {c:Cfg} {i:CIn} {s:CSt} {es:List Ev} {i0 i1:Nat} {nm:Nat→Nat} (hb:aQ c) (hs:COk c s) (hin:i.n9.length=4) (hB:l9 X H nx i0 i1 nm s es) (hl:es.length<900)
 (h: ∀H' nx' nm',nx≤nx'→l9 X H' nx' i0 i1 nm' (dR c s (xX c i s)) (es++iP c s (xX c i s))→(∀id,X id→H' id=H id)→K (.tup []) H' nx'):
 aB Tryz.prog mM [.one (.c (.ptr 5 i0 0 0)),boR (cU c),boR (eIn i),.one (.c (.ptr 5 i1 0 0))] H nx K:=by
 refine EE rfl fun Q hQ=> ?_
 unfold lQ
 obtain⟨hp3,hpr⟩:=hC hb
 obtain⟨wc,hc,pc,vc,tc,hi0,hw0,hh0,ht0,hpc,hvc⟩: ∃wc hc pc vc tc,H i0=some ⟨5,1,[[.osl 1 (nm 0) 0 s.words.length wc,.osl 1 (nm 1) 0 s.holds.length hc,.osl 4 (nm 2) 0 3 pc,.osl 3 (nm 3) 0 4 vc,.osl 5 (nm 4) 0 s.told.length tc]]⟩∧_:=by obtain⟨cells,h1,⟨wc,hc,pc,vc,tc,rfl,h2⟩,_⟩:=hB.rep.st;exact⟨wc,hc,pc,vc,tc,h1,h2⟩
 have hA:=hB.rep.apart (nx':=nx) [] [] (m5 _) (by simp) (by simp) (by simp) (by simp)
 simp only[bQ,eZ,List.map,List.nil_append] at hA
 repeat' first|apply bn1<;>(simp only[go_sem,t1,bqT,hi0,hA])|fail
 obtain⟨H0,hH0⟩: ∃H0,H0=(H.set nx ⟨3,1,[cU c]⟩).set (nx+1) ⟨3,1,[eIn i]⟩:=⟨_,rfl⟩
 rw[←hH0]
 have h0c:H0 nx=some ⟨3,1,[cU c]⟩:=by rw[hH0,aA.aC (by omega)];exact aA.bH
 have h0i:H0 (nx+1)=some ⟨3,1,[eIn i]⟩:=by rw[hH0];exact aA.bH
 have hxi0:=hB.rep.i0.1
 have hxi1:=hB.hap.i1.1
 have hB0:l9 (fun id=>X id∨id=nx∨id=nx+1) H0 (nx+8) i0 i1 nm s es:=hB.next (by omega) (fun id h1 h2=>by rw[hH0,aA.aC (by omega),aA.aC (by omega)]) fun id hid=>by
  rcases hid with hid|rfl|rfl;·have:=hB.rep.x id (.inl hid);exact⟨by omega,.inl hid⟩
  ·exact⟨by omega,.inr (m5 _)⟩
  ·exact⟨by omega,.inr (by omega)⟩
 refine aM.gP (β:=Nat×CSt×List Ev×(Nat→Nat)) (fun u=>en [(16,boP u.1),(15,boP 4),(6,.one (.c (.ptr 3 (nx+1) 0 0))),(5,.one (.c (.ptr 3 nx 0 0))),(3,.one (.c (.ptr 5 i1 0 0))),(0,.one (.c (.ptr 5 i0 0 0)))])
  (fun u H1 nx1=>u.1≤4∧COk c u.2.1∧l9 (fun id=>X id∨id=nx∨id=nx+1) H1 nx1 i0 i1 u.2.2.2 u.2.1 u.2.2.1∧(∀id,X id∨id=nx∨id=nx+1→H1 id=H0 id)∧vU c (qW i) ([0,1,2,3].drop u.1) u.2.1 u.2.2.1 (dR c s (xX c i s)) (es++iP c s (xX c i s))∧u.2.2.1.length≤es.length+u.1)
  (fun u=>4-u.1) (0,s,es,nm) ⟨noF,_,by repeat' first|exact bo2|refine xqI rfl rfl ?_|refine xqP (by omega) rfl rfl ?_|fail,aK,by dsimp only;omega,hs,hB0.mono (by omega),fun _ _=>rfl,⟨rfl,rfl⟩,by simp⟩ ?_
 rintro⟨k,s1,es1,nm1⟩ H1 nx1 hnx ⟨hk,hs1,hB1,hX1,hS1,hL1⟩ bpQ hKL
 dsimp only at hk hs1 hB1 hS1 hL1
 obtain⟨wc,hc,pc,vc,tc,mp,rp,mv,rv,bqC,g1,g2,g3,g4,g5,bkU,bkV,bp4,bp5,ga,gb⟩:=hB1.rep.get
 have hin1:H1 (nx+1)=some ⟨3,1,[eIn i]⟩:=by rw[hX1 _ (.inr (.inr rfl))];exact h0i
 have hcf1:H1 nx=some ⟨3,1,[cU c]⟩:=by rw[hX1 _ (.inr (.inl rfl))];exact h0c
 by_cases hlt:k<4
 ·have hS2:=hS1;rw[apX hlt] at hS2;obtain⟨v,hvd⟩: ∃v,v=aL s1 k:=⟨_,rfl⟩
  obtain⟨po,ppc,do_,dc,gs,gp,gd⟩:=gb k hlt;rw[←hvd] at gs gp gd;obtain⟨md,rd,d1,d2,d3,bkS,bk2,bk3⟩:=gd.ex;obtain⟨me,re,p1,p2,p3,p4,p5,p6⟩:=gp.ex;rw[bqW] at bkS p4
  cases hst:i.n9.getD k default with
  |true=>
   repeat' first|apply bn1<;>(simp only[go_sem,t1,bqT,bqC,g2,gs,hin1,hst];try simp (disch:=omega) only[Iw])|apply bn2 (by omega)|refine⟨by omega,?_⟩|fail
   exact hKL _ _ _ (k+1,s1,es1,nm1) noF _ (by omega) (by dsimp only;omega) (by repeat' first|exact bo2|refine xqI rfl rfl ?_|refine xqP (by omega) rfl rfl ?_|fail) aK ⟨by dsimp only;omega,hs1,hB1.mono (by omega),hX1,hS2.none (aa0 (.inl hst)),by dsimp only;omega⟩
  |false=>
  have hnf: ∀{A:Prop},¬(i.n9.getD k default=true∨A)↔¬A:=fun {A}=>by rw[hst];simp
  by_cases hp0:v.pipe.length=0
  ·have hlen:((v.pipe.length:Int)=0)=True:=eq_true (by omega);repeat' first|apply bn1<;>(simp only[go_sem,t1,bqT,bqC,g2,gs,hin1,hst,hlen];try simp (disch:=omega) only[Iw])|apply bn2 (by omega)|refine⟨by omega,?_⟩|fail
   exact hKL _ _ _ (k+1,s1,es1,nm1) noF _ (by omega) (by dsimp only;omega) (by repeat' first|exact bo2|refine xqI rfl rfl ?_|refine xqP (by omega) rfl rfl ?_|fail) aK ⟨by dsimp only;omega,hs1,hB1.mono (by omega),hX1,hS2.none (aa0 (.inr (by rw[←hvd];exact hp0))),by dsimp only;omega⟩
  have hnp: ¬(i.n9.getD k default=true∨(aL s1 k).pipe.length=0):=by rw[←hvd];exact hnf.2 hp0
  have hlen:((v.pipe.length:Int)=0)=False:=eq_false (by omega);obtain⟨j,hjd⟩: ∃j,j=v.pipe.getD 0 default:=⟨_,rfl⟩
  have hjp:bI s1 k=j:=by rw[hjd,hvd];rfl
  have p7:re[po]?=some (eCJ j):=by have:(re.drop po)[0]?=some (eCJ j):=(by rw[p2,p0];simp[hjd,List.getD,show 0<v.pipe.length by omega]);rwa [s5,Nat.add_zero] at this
  have hA:=hB1.rep.apart (nx':=nx1) [nx,nx+1] [0,1,2,3,4,11+k,15+k] (m5 _) (by simp) (fun x hx=>.inl (.inr (by simpa using hx))) (by simp;omega) (by simp;omega);simp only[bQ,eZ,List.map,List.cons_append,List.nil_append] at hA;have hsk:=hs1.slv k hlt;have hjm:j∈(aL s1 k).pipe:=by rw[hjd,hvd];exact cC (by rw[←hvd];omega)
  obtain⟨hjw,hjn1,hjn2⟩:=hs1.vIn hlt (JB hjm);dsimp only at hjw hjn1 hjn2;have hask:oA c j.who j.n:=by have:=(hs1.port j.who.toNat (by omega)).asks (n:=j.n) (by omega) hjn1 (by omega);rwa [show ((j.who.toNat:Nat):Int)=j.who by omega] at this
  have hjl:=(hsk.left 0 (by rw[←hvd];omega)).1;rw[←hvd,←hjd] at hjl;have hlat:=S0 hb hlt;have hrq:=GK hb hask;have hml:=hb.1.1;have hgk: ∀r,(rv.set k r)[k]?=some r:=fun r=>by rw[bqZ (by omega)]
  obtain⟨hask1,hask2,hask3⟩:=hask;have htl:s1.told.length≤36:=by have:=hs1.st.lens hb;simp only[cX] at this;omega
  obtain⟨mw,rw0,bqH,bqI,bk6,bk5,bk7,bk8⟩:=g3.ex;obtain⟨mh,rh0,h1',h2',h3',h4',h5',h6'⟩:=g4.ex;rw[bq5] at bqI h2';subst bqI;subst h2';refine aM.BW fun hnm=> ?_;have hmk: ∀k l,msk (nx1+k) l H1=H1:=fun k l=>BV hnm (by omega);by_cases hl0:0<j.left
  ·repeat' first|apply bn1<;>(simp only[go_sem,t1,bqT,hmk,umS (G:=H1),umD (G:=H1),umB,bqC,g2,gs,hin1,hst,hlen,p1,p7,hA];try simp (disch:=omega) only[Iw])|apply bn2 (by omega)|refine⟨by omega,?_⟩|fail
   have boT:qW i s1 k=some (.tick k):=acO hnp (by rw[hjp];exact hl0);have hL:=hS2.some boT;obtain⟨s',hs'⟩: ∃s',s'=aR c s1 (.tick k):=⟨_,rfl⟩
   rw[←hs',show y0 s1 (.tick k)=[] from rfl,bq6] at hL;have hs2:COk c s':=(by rw[hs'];exact o9 hb hs1 (LM hs1 hlt boT));have hvd':aL s' k= {v with pipe:=v.pipe.set 0 {j with left:=j.left-1}}:=(by rw[hs',bO rfl (by rw[hs1.sl];omega),if_pos rfl,hjp,←hvd]);have hBu:=hB1.upd (H':=(H1.set (nx1+29) ⟨3,1,[eCJ j]⟩).set (nm1 (11+k)) ⟨3,me,re.set po [cI j.who,cI j.n,cI (j.left-1)]⟩) (nx':=nx1+48) 14 k nm1 s' (by omega) (hB1.rep.names.mono (by omega)) (fun j _=>.inl rfl) ?_ ?_ ?_ ?_ (.inr rfl) (.inl hlt) (fun j hj hne=>by rw[hs'];rfl) (fun j hj hne=>by rw[hs',bO rfl (by rw[hs1.sl];omega),if_neg hne]);·exact hKL _ _ _ (k+1,s',es1,nm1) noF _ (by omega) (by dsimp only;omega) (by repeat' first|exact bo2|refine xqI rfl rfl ?_|refine xqP (by omega) rfl rfl ?_|fail) aK ⟨by dsimp only;omega,hs2,hBu.1,fun id hid=>(hBu.2 id hid).trans (hX1 id hid),hL,by dsimp only;omega⟩
   ·intro id hid h0 hne;rw[aA.aC (hne (11+k) (by omega) (by omega)),aA.aC (by omega)]
   ·refine⟨wc,hc,pc,vc,tc,?_,?_,?_,?_,bkU,bkV⟩;·simp only[aA.set,hA,if_false];rw[bqC,hs'];rfl
    ·rw[hs'];exact g3.frame (by simp only[aA.set,hA,if_false])
    ·rw[hs'];exact g4.frame (by simp only[aA.set,hA,if_false])
    ·rw[hs'];exact g5.frame (by simp only[aA.set,hA,if_false])
   ·exact⟨mp,rp,mp,rp,g1,by simp only[aA.set,hA,if_false];exact g1,bp4,fun _ _ _=>rfl,fun hh=>by omega⟩
   ·refine⟨mv,rv,mv,rv,g2,by simp only[aA.set,hA,if_false];exact g2,bp5,fun _ _ _=>rfl,fun _=>⟨_,gs,⟨po,ppc,do_,dc,?_,?_,?_⟩⟩⟩;·rw[hvd'];simp only[aj9,Y5]
    ·rw[hvd'];refine⟨me,_,aA.bH,?_,by simpa using p3,by simp,by simpa using p5,p6⟩;rw[List.drop_set,if_neg (by omega),brJ,p2,brD];rfl
    ·rw[hvd'];exact gd.frame (by simp only[aA.set,hA,if_false])
  by_cases hd2:v.done.length<2
  ·repeat' first|apply bn1<;>(simp only[go_sem,t1,bqT,hmk,umS (G:=H1),umD (G:=H1),umB,bqC,g2,gs,hgk,bq1,hcf1,hin1,hst,hlen,p1,p7,hA])|apply bn2 (by omega)|apply bn3 (by omega)|refine⟨by omega,?_⟩|fail
   refine HZ (q:=bT c j.who j.n) (m0:=mw) (m1:=mh) (i0:=i0) (by omega) hs1.atm bk7 h5' hjw hrq ?_ ?_ (by simp only[aA.set,hA,if_false];exact bqC) (by simp only[aA.set,hA,if_false];exact bqH) (by simp only[aA.set,hA,if_false];exact h1') (fun H' nx' hx' bpR f2 ffr=> ?_);·have:=hB1.rep.i0.1;have:=hB1.rep.names.lt 0 (by omega);have:=hB1.rep.names.lt 1 (by omega);omega
   ·simp only[bq8,t3,bq7,or_false,not_or,hA,not_false_eq_true,and_self,List.nodup_nil]
   have hn: ∀a,a<19→nm1 a<nx1:=hB1.rep.names.lt;have e3:H' (nm1 3)=some ⟨3,mv,rv.set k [.osl 3 (nm1 (11+k)) (po+1) (v.pipe.length-1) (ppc-1),.osl 5 (nm1 (15+k)) do_ v.done.length dc,cI v.last]⟩:=(by rw[ffr _ (by have:=hn 3 (by omega);omega) (by simp only[ne_eq,hA,not_false_eq_true]) (by simp only[ne_eq,hA,not_false_eq_true])];exact aA.bH);have ej:H' (nx1+29)=some ⟨3,1,[eCJ j]⟩:=(by rw[ffr _ (by omega) (by have:=hn 0 (by omega);omega) (by have:=hn 1 (by omega);omega)];simp only[aA.set,hA,if_false,if_true]);have ed:H' (nm1 (15+k))=some ⟨5,md,rd⟩:=(by rw[ffr _ (by have:=hn (15+k) (by omega);omega) (by simp only[ne_eq,hA,not_false_eq_true]) (by simp only[ne_eq,hA,not_false_eq_true])];simp only[aA.set,hA,if_false];exact d1);have hA':=hB1.rep.apart (nx':=nx') [nx,nx+1] [0,1,2,3,4,11+k,15+k] (by omega) (by simp) (fun x hx=>.inl (.inr (by simpa using hx))) (by simp;omega) (by simp;omega);simp only[bQ,eZ,List.map,List.cons_append,List.nil_append] at hA';simp only[go_sem,t1,bqT,msk,List.map,t3,bq7,or_false,bqU,Nat.reduceEqDiff,Nat.reduceAdd,e3,ej,ed,hgk,hA,hA',if_false,if_true,bq1];refine⟨⟨by omega,by omega⟩,by omega,fun cap hcap hcp=> ?_⟩;obtain⟨d,hdd⟩: ∃d:Job,d=⟨j.who,j.n,(doM c.map s1.words s1.holds j.who (bT c j.who j.n)).2⟩:=⟨_,rfl⟩
   have er:List.take v.done.length (List.drop do_ rd)++[cI j.who::cI j.n::tG (doM c.map s1.words s1.holds j.who (bT c j.who j.n)).snd]=(v.done++[d]).map aS:=(by rw[d2,boL (by simp),bqX,hdd];rfl);have er1:[cI j.who::cI j.n::tG (doM c.map s1.words s1.holds j.who (bT c j.who j.n)).snd]=[aS d]:=(by rw[hdd];rfl);rw[er,er1];repeat' first|apply bn1<;>(simp only[go_sem,t1,bqT,ej,hA,hA'])|fail
   obtain⟨nm',hnm'⟩: ∃nm',nm'=put nm1 (15+k) (nx1+80):=⟨_,rfl⟩
   have pn: ∀j,j≠15+k→nm' j=nm1 j:=fun j h1=>by rw[hnm',jE h1]
   have p15:nm' (15+k)=nx1+80:=(by rw[hnm',t8]);have boT:qW i s1 k=some (.work k):=adE hnp (by rw[hjp];exact hl0) (by rw[←hvd];exact hd2);have hL:=hS2.some boT;obtain⟨s',hs'⟩: ∃s',s'=aR c s1 (.work k):=⟨_,rfl⟩
   rw[←hs',show y0 s1 (.work k)=[⟨2,j.who,j.n⟩] from by rw[←hjp];rfl] at hL;have hs2:COk c s':=(by rw[hs'];exact o9 hb hs1 (LM hs1 hlt boT));have hvd':aL s' k= {v with pipe:=v.pipe.drop 1,done:=v.done++[d]}:=(by rw[hs',bO rfl (by rw[hs1.sl];omega),if_pos rfl,hjp,←hvd,hdd];unfold jD;rw[hjp]);have hwd:s'.words=(doM c.map s1.words s1.holds j.who (bT c j.who j.n)).1.1:=(by rw[hs',←hjp];rfl);have hhd:s'.holds=(doM c.map s1.words s1.holds j.who (bT c j.who j.n)).1.2:=(by rw[hs',←hjp];rfl);have hwl:s'.words.length=s1.words.length:=(by obtain⟨h1,_⟩:=hs2.atm;obtain⟨h2,_⟩:=hs1.atm;omega);have hhl:s'.holds.length=s1.holds.length:=(by obtain⟨_,_,h1,_⟩:=hs2.atm;obtain⟨_,_,h2,_⟩:=hs1.atm;omega);rw[←hwd] at bpR;rw[←hhd] at f2;have htd:s'.told=s1.told:=(by rw[hs'];rfl);have hH: ∀id,id<nx1→id≠nm1 0→id≠nm1 1→id≠nm1 3→H' id=H1 id:=fun id e boU e1 e3=>by rw[ffr id (by omega) boU e1,aA.aC e3,aA.aC (by omega)]
   refine acI (hB1.upd 14 k nm' s' (by omega) ?_ ?_ ?_ ?_ ?_ ?_ (.inr rfl) (.inl hlt) (fun j hj hne=>by rw[hs'];rfl) (fun j hj hne=>by rw[hs',bO rfl (by rw[hs1.sl];omega),if_neg hne])) (by omega) fun H2 nx2 hx hB' hX'=> ?_
   ·rw[hnm'];have hXl: ∀v,nx1≤v→¬((X v∨v=nx∨v=nx+1)∨v=i1):=fun v hv hn=>by have:=hB1.rep.x v hn;omega
    exact hB1.rep.names.put (by omega) (by omega) (hXl _ (by omega))
   ·intro j hj;by_cases h4:j=15+k;·subst h4;exact .inr ⟨.inr (.inr (.inr (.inr rfl))),by omega⟩
    ·exact .inl (pn j h4)
   ·intro id hid h0 hne;have e3:=hne 3 (by omega) (by omega);simp only[aA.set,aA.del,e3,hne (15+k) (by omega) (by omega),show ¬id=nx1+79 by omega,show ¬id=nx1+80 by omega,if_false];exact hH id hid (hne 0 (by omega) (by omega)) (hne 1 (by omega) (by omega)) e3
   ·refine⟨wc,hc,pc,vc,tc,?_,?_,?_,?_,bkU,bkV⟩;·simp only[aA.set,aA.del,hA,hA',if_false,U2,pn 0 (by omega),pn 1 (by omega),pn 2 (by omega),pn 3 (by omega),pn 4 (by omega),hwl,hhl,htd];rw[hH i0 (by have:=hB1.rep.i0.1;omega) (by simp only[ne_eq,hA,not_false_eq_true]) (by simp only[ne_eq,hA,not_false_eq_true]) (by simp only[ne_eq,hA,not_false_eq_true])];exact bqC
    ·rw[pn 0 (by omega)];exact⟨mw,s'.words.map aJ,by simp only[aA.set,aA.del,hA,hA',if_false];exact bpR,rfl,by simp,by simp,by omega,bk8⟩
    ·rw[pn 1 (by omega)];exact⟨mh,s'.holds.map aJ,by simp only[aA.set,aA.del,hA,hA',if_false];exact f2,rfl,by simp,by simp,by omega,h6'⟩
    ·rw[pn 4 (by omega),htd];apply g5.frame;simp only[aA.set,aA.del,hA,hA',if_false];exact hH _ (hn 4 (by omega)) (by simp only[ne_eq,hA,not_false_eq_true]) (by simp only[ne_eq,hA,not_false_eq_true]) (by simp only[ne_eq,hA,not_false_eq_true])
   ·refine⟨mp,rp,mp,rp,g1,?_,bp4,fun _ _ _=>rfl,fun hh=>by omega⟩;simp only[aA.set,aA.del,hA,hA',if_false];rw[hH _ (hn 2 (by omega)) (by simp only[ne_eq,hA,not_false_eq_true]) (by simp only[ne_eq,hA,not_false_eq_true]) (by simp only[ne_eq,hA,not_false_eq_true])];exact g1
   ·refine⟨mv,_,mv,rv,g2,aA.bH,by simp only[Y5,bp5],fun j hj hne=>by rw[bq0 (Ne.symm hne)],fun _=>⟨_,bqZ (by omega),⟨po+1,ppc-1,0,cap,?_,?_,?_⟩⟩⟩;·rw[hvd',pn (11+k) (by omega),p15];simp only[aj9,CI,t2,List.length_singleton]
    ·rw[hvd',pn (11+k) (by omega)];refine⟨me,re,?_,by rw[brE,←p2,Y2],?_,by simp,?_,?_⟩;·simp only[aA.set,aA.del,hA,hA',if_false];rw[hH _ (hn (11+k) (by omega)) (by simp only[ne_eq,hA,not_false_eq_true]) (by simp only[ne_eq,hA,not_false_eq_true]) (by simp only[ne_eq,hA,not_false_eq_true])];exact p1
     ·simp only[CI];omega
     ·simp only[CI];omega
     ·omega
    ·rw[hvd',p15];refine⟨cap,(v.done++[d]).map aS,by simp only[aA.set,aA.del,hA,if_false,if_true],rfl,by simp,by simp,by simpa using hcap,by simp⟩
   ·simp only[go_sem];repeat' first|apply bn1<;>(simp only[go_sem];try simp (disch:=omega) only[Iw])|fail
    exact hKL _ _ _ (k+1,s',es1++[⟨2,j.who,j.n⟩],nm') noF _ (by omega) (by dsimp only;omega) (by repeat' first|exact bo2|refine xqI rfl rfl ?_|refine xqP (by omega) rfl rfl ?_|fail) aK ⟨by dsimp only;omega,hs2,hB'.mono (by omega),fun id hid=>(hX' id hid).trans (hX1 id hid),hL,by simp;omega⟩
  ·repeat' first|apply bn1<;>(simp only[go_sem,t1,bqT,hmk,umS (G:=H1),umD (G:=H1),umB,bqC,g2,gs,hin1,hst,hlen,p1,p7,hA];try simp (disch:=omega) only[Iw])|apply bn2 (by omega)|apply bn3 (by omega)|refine⟨by omega,?_⟩|fail
   have boT:=ae2 hnp (by rw[hjp];exact hl0) (by rw[←hvd];exact hd2);refine hKL _ _ _ (k+1,s1,es1,nm1) noF _ (by omega) (by dsimp only;omega) (by repeat' first|exact bo2|refine xqI rfl rfl ?_|refine xqP (by omega) rfl rfl ?_|fail) aK ⟨by dsimp only;omega,hs1,hB1.next (by omega) (fun id h1 h2=>by rw[aA.aC (by omega)]) fun id hid=>⟨?_,.inl hid⟩,fun id hid=> ?_,hS2.none boT,by dsimp only;omega⟩;·have:=hB1.rep.x id (.inl hid);omega
   ·have:=hB1.rep.x id (.inl hid);rw[aA.aC (by omega)];exact hX1 id hid
 ·repeat' first|apply bn1<;>(simp only[go_sem])|apply bn3 (by omega)|fail
  have hk4:k=4:=by omega
  subst hk4;obtain⟨rfl,rfl⟩:=vU.nil hS1;refine hQ _ _ _ _ _ (.inl rfl) rfl (h _ _ nm1 (by omega) (hB1.next (by omega) (fun _ _ _=>rfl) fun id hid=>⟨?_,.inl (.inl hid)⟩) fun id hid=> ?_);·have:=hB.rep.x id (.inl hid);omega
  ·have:=hB.rep.x id (.inl hid);rw[hX1 id (.inl hid),hH0,aA.aC (by omega),aA.aC (by omega)]
end
end Go.Proofs.YtmccpdapaccnoaaGreat
