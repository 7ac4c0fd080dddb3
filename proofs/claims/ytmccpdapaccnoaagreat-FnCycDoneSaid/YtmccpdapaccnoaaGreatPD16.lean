/- Texts laid together by a program: rules, contracts and the walk that leads to the law. -/
import Derived.Test.YtmccpdapaccnoaaGreatPD13
set_option linter.unusedVariables false
set_option linter.unusedSimpArgs false
set_option linter.unusedSectionVars false
set_option maxRecDepth 100000
set_option maxHeartbeats 8000000
namespace Go.Proofs.YtmccpdapaccnoaaGreat
open Go Go.AM
attribute [local irreducible] aM wv aB vd wvH
theorem F1:cJ Tryz.prog n6 Tryz.f216 mL uR:=cJ.mk Tryz.func216 (by kernel_rfl) FB
end Go.Proofs.YtmccpdapaccnoaaGreat
namespace Go.AM
theorem l9.cells {X:Nat→Prop} {H:aA} {nx i0 i1:Nat} {nm:Nat→Nat} {s:CSt} {es:List Ev} (h:l9 X H nx i0 i1 nm s es) {r r':List D1} {k:Nat} (hk:k<4) (h1:H i1=some ⟨5,1,[r]⟩) (hr:r'=r.set (1+k) (cI 1)):l9 X (H.set i1 ⟨5,1,[r']⟩) nx i0 i1 nm s es:=by
 subst hr;have hav:=h.rep.names.av;have hi0:=h.rep.i0;refine⟨h.rep.frame (m5 _) (aA.aC fun he=>hi0.2 (.inr he)) (fun k hk=>aA.aC fun he=>hav k hk (.inr he)) fun id hid=>⟨h.rep.x id hid,fun he=>hi0.2 (he▸hid),fun k hk he=>hav k hk (he▸hid)⟩,?_⟩;obtain⟨⟨d,a,b,c,e,g1,g2⟩,g3,g4⟩:=h.hap;rw[h1] at g1;obtain rfl:r=[d,cI a,cI b,cI c,cI e]:=by simpa using g1
 have hd:aqA (fun id=>X id∨id=i0∨ ∃k,k<19∧id=nm k) (H.set i1 ⟨5,1,[[d,cI a,cI b,cI c,cI e].set (1+k) (cI 1)]⟩) nx i1 es d:=by
  rcases g2 with g2|⟨ev,cap,k1,k2,k3,k4,k5⟩
  ·exact .inl g2
  ·exact .inr ⟨ev,cap,k1,k2.frame (aA.aC k5),k3,k4,k5⟩
 refine⟨?_,g3,g4⟩;obtain rfl|rfl|rfl|rfl:k=0∨k=1∨k=2∨k=3:=by omega
 ·exact⟨d,1,b,c,e,aA.bH,hd⟩
 ·exact⟨d,a,1,c,e,aA.bH,hd⟩
 ·exact⟨d,a,b,1,e,aA.bH,hd⟩
 ·exact⟨d,a,b,c,1,aA.bH,hd⟩
theorem l9.atI {X:Nat→Prop} {H:aA} {nx i0 i1:Nat} {nm:Nat→Nat} {s:CSt} {es:List Ev} {j:Nat} {o:bA} (h:l9 X H nx i0 i1 nm s es) (hj:X j):l9 X (H.set j o) nx i0 i1 nm s es:=h.next (m5 _) (fun id _ hn=>aA.aC fun he=>hn (he▸hj)) fun id hid=>⟨h.rep.x id (.inl hid),.inl hid⟩
end Go.AM
namespace Go.Proofs.YtmccpdapaccnoaaGreat
open Go Go.AM
attribute [local irreducible] aM wv aB vd wvH
section
variable {H : aA} {nx : Nat} {K : D → aA → Nat → Prop}
theorem HT {X:Nat→Prop} {c:Cfg} {s:CSt} {es:List Ev} {i0 i1:Nat} {nm:Nat→Nat} (hb:aQ c) (hs:COk c s) (hB:l9 X H nx i0 i1 nm s es)
 (h: ∀H' nx' nm',nx≤nx'→l9 X H' nx' i0 i1 nm' (dR c s (ad4 c s)) es→(∀id,X id→H' id=H id)→K (.tup []) H' nx'):
 aB Tryz.prog n6 [.one (.c (.ptr 5 i0 0 0)),boR (cU c),.one (.c (.ptr 5 i1 0 0))] H nx K:=by
 refine F1 rfl fun Q hQ=> ?_
 unfold mL
 obtain⟨hp3,hpr⟩:=hC hb
 obtain⟨wc,hc,pc,vc,tc,hi0,hw0,hh0,ht0,hpc,hvc⟩: ∃wc hc pc vc tc,H i0=some ⟨5,1,[[.osl 1 (nm 0) 0 s.words.length wc,.osl 1 (nm 1) 0 s.holds.length hc,.osl 4 (nm 2) 0 3 pc,.osl 3 (nm 3) 0 4 vc,.osl 5 (nm 4) 0 s.told.length tc]]⟩∧_:=by obtain⟨cells,h1,⟨wc,hc,pc,vc,tc,rfl,h2⟩,_⟩:=hB.rep.st;exact⟨wc,hc,pc,vc,tc,h1,h2⟩
 have hA:=hB.rep.apart (nx':=nx) [] [] (m5 _) (by simp) (by simp) (by simp) (by simp)
 simp only[bQ,eZ,List.map,List.nil_append] at hA
 repeat' first|apply bn1<;>(simp only[go_sem,t1,bqT,hi0,hA])|fail
 obtain⟨H0,hH0⟩: ∃H0,H0=(H.set nx ⟨3,1,[cU c]⟩).set (nx+1) ⟨3,1,[[false,false,false].map cB]⟩:=⟨_,rfl⟩
 have hH0':=hH0
 simp only[List.map] at hH0'
 unfold cB at hH0'
 rw[←hH0']
 clear hH0'
 have h0c:H0 nx=some ⟨3,1,[cU c]⟩:=by rw[hH0,aA.aC (by omega)];exact aA.bH
 have h0u:H0 (nx+1)=some ⟨3,1,[[false,false,false].map cB]⟩:=by rw[hH0];exact aA.bH
 have hxi0:=hB.rep.i0.1
 have hxi1:=hB.hap.i1.1
 have hB0:l9 (fun id=>X id∨id=nx∨id=nx+1) H0 (nx+8) i0 i1 nm s es:=hB.next (by omega) (fun id h1 h2=>by rw[hH0,aA.aC (by omega),aA.aC (by omega)]) fun id hid=>by
  rcases hid with hid|rfl|rfl;·have:=hB.rep.x id (.inl hid);exact⟨by omega,.inl hid⟩
  ·exact⟨by omega,.inr (m5 _)⟩
  ·exact⟨by omega,.inr (by omega)⟩
 refine aM.gP (β:=Nat×CSt×List Bool×(Nat→Nat)) (fun u=>en [(18,boP u.1),(17,boP 4),(6,.one (.c (.ptr 3 (nx+1) 0 0))),(4,.one (.c (.ptr 3 nx 0 0))),(2,.one (.c (.ptr 5 i1 0 0))),(0,.one (.c (.ptr 5 i0 0 0)))])
  (fun u H1 nx1=>u.1≤4∧COk c u.2.1∧l9 (fun id=>X id∨id=nx∨id=nx+1) H1 nx1 i0 i1 u.2.2.2 u.2.1 es∧(∀id,X id∨id=nx→H1 id=H0 id)∧LV c ([0,1,2,3].drop u.1) u.2.1 u.2.2.1 (dR c s (ad4 c s))∧u.2.2.1.length=3∧H1 (nx+1)=some ⟨3,1,[u.2.2.1.map cB]⟩)
  (fun u=>4-u.1) (0,s,[false,false,false],nm) ⟨noF,_,by repeat' first|exact bo2|refine xqI rfl rfl ?_|refine xqP (by omega) rfl rfl ?_|fail,aK,by dsimp only;omega,hs,hB0.mono (by omega),fun _ _=>rfl,rfl,rfl,h0u⟩ ?_
 rintro⟨k,s1,u,nm1⟩ H1 nx1 hnx ⟨hk,hs1,hB1,hX1,hS1,hul,hu1⟩ bpQ hKL
 dsimp only at hk hs1 hB1 hS1 hul hu1
 obtain⟨wc,hc,pc,vc,tc,mp,rp,mv,rv,bqC,g1,g2,g3,g4,g5,bkU,bkV,bp4,bp5,ga,gb⟩:=hB1.rep.get
 have hcf1:H1 nx=some ⟨3,1,[cU c]⟩:=by rw[hX1 _ (.inr rfl)];exact h0c
 by_cases hlt:k<4
 ·have hS2:=hS1;rw[apX hlt] at hS2;obtain⟨v,hvd⟩: ∃v,v=aL s1 k:=⟨_,rfl⟩
  obtain⟨po,ppc,do_,dc,gs,gp,gd⟩:=gb k hlt;rw[←hvd] at gs gp gd;obtain⟨me,re,p1,p2,p3,p4,p5,p6⟩:=gp.ex;rw[bqW] at p4;have hvo:=(hs1.slv k hlt).last;have hn3:=hB1.rep.names.lt 3 (by omega);rw[←hvd] at hvo;repeat' first|apply bn1<;>(simp only[go_sem,t1,bqT,bqC,g2,gs])|apply bn2 (by omega)|refine⟨by omega,?_⟩|fail
  refine aM.gP (β:=Nat) (fun j=>en [(18,boP k),(17,boP 4),(9,boP j),(8,.one (.c (.ptr 3 (nm1 3) k 0))),(7,boP k),(6,.one (.c (.ptr 3 (nx+1) 0 0))),(4,.one (.c (.ptr 3 nx 0 0))),(2,.one (.c (.ptr 5 i1 0 0))),(0,.one (.c (.ptr 5 i0 0 0)))])
   (fun j H2 _=>1≤j∧j≤4∧H2=H1∧ ∀j',1≤j'→j'<j→KE c s1 u k (sM s1 k j')=false) (fun j=>4-j) 1 ⟨noF,_,by repeat' first|exact bo2|refine xqI rfl rfl ?_|refine xqP (by omega) rfl rfl ?_|fail,aK,by omega,by omega,rfl,fun j' h1 h2=>by omega⟩ ?_
  rintro j H2 nx2 hnx2 ⟨hj1,hj5,hH2,hinv⟩ bkT hKJ;subst hH2;by_cases hp2:v.pipe.length<2
  ·by_cases hj4:j≤3
   ·obtain⟨who,hwd⟩: ∃who,who=sM s1 k j:=⟨_,rfl⟩
    have hwd':who=((v.last+(j:Int))%3).toNat:=(by rw[hwd,hvd];rfl);have hw3:who<3:=(by omega);have hmod:(v.last+(j:Int)).tmod 3=(who:Int):=(by rw[brF (by omega)];omega);have hut:((u.map cB).drop who).take 1=[cB (u.getD who default)]:=(by rw[brB (by simp;omega)];simp[List.getD,show who<u.length by omega]);have hull:(u.map cB).length=3:=(by rw[bqW,hul]);have hle:(who+1≤3)=True:=eq_true (by omega)
    have hback:KE c s1 u k who=false→∀j',1≤j'→j'<j+1→KE c s1 u k (sM s1 k j')=false:=fun hf j' h1 h2=>by
     by_cases hj:j'<j;·exact hinv j' h1 hj
     ·have:j'=j:=(by omega);subst this;rw[←hwd];exact hf
    cases huw:u.getD who default with
    |true=>
     repeat' first| (first|apply bn1|apply bpJ (by omega))<;>(simp only[go_sem,t1,bqT,bqC,g2,gs,brK,hmod,hu1,hut,hull,hle,huw];try simp (disch:=omega) only[Iw])|apply bn2 (by omega)|refine⟨by omega,?_⟩|fail
     exact hKJ _ _ _ (j+1) noF _ (by omega) (by omega) (by repeat' first|exact bo2|refine xqI rfl rfl ?_|refine xqP (by omega) rfl rfl ?_|fail) aK ⟨by omega,by omega,rfl,hback (by unfold KE;rw[huw];rfl)⟩
    |false=>
    by_cases hmay:HV c s1 who k
    ·have hmd:decide (HV c s1 who k)=true:=decide_eq_true hmay;obtain⟨p,hpd⟩: ∃p,p=aF s1 who:=⟨_,rfl⟩
     obtain⟨qo,qc,oc,gr,gq,go⟩:=ga who hw3;rw[←hpd] at gr gq go;have hm1:=hmay.1;have hm2:=hmay.2.1;rw[←hpd] at hm1 hm2;have hpo:=hs1.port who hw3;rw[←hpd] at hpo;have hql:=hpo.ql;obtain⟨mq,rq0,q1,q2,q3,q4,q5,q6⟩:=gq.ex;obtain⟨mo,ro,o1,o2,bqD,bqE,bqF,blC⟩:=go.ex;rw[bqW] at q4 bqE;rw[bq5] at o2;subst o2;obtain⟨n0,hn0⟩: ∃n0,n0=p.queue.getD 0 default:=⟨_,rfl⟩
     have bqJ:rq0[qo]?=some [cI n0]:=(by have:(rq0.drop qo)[0]?=some [cI n0]:=(by rw[q2,p0];simp[hn0,List.getD,show 0<p.queue.length by omega,aJ]);rwa [s5,Nat.add_zero] at this);have hlt4:=hb.2.1;have hgk: ∀r,(rp.set who r)[who]?=some r:=fun r=>by rw[bqZ (by omega)]
     have hgv: ∀r,(rv.set k r)[k]?=some r:=fun r=>by rw[bqZ (by omega)]
     have hA:=hB1.rep.apart (nx':=nx2) [nx,nx+1,i1] [0,1,2,3,4,5+who,8+who,11+k,15+k] (by omega) (by simp;omega) (fun x hx=>by simp at hx;rcases hx with rfl|rfl|rfl;exact .inl (.inr (.inl rfl));exact .inl (.inr (.inr rfl));exact .inr rfl) (by simp;omega) (by simp;omega);simp only[bQ,eZ,List.map,List.cons_append,List.nil_append] at hA;obtain⟨dh,ha1,ha2,ha3,ha4,hi1,_⟩:=hB1.hap.ex;refine aM.BW fun hnm=> ?_;have hmk: ∀k l,msk (nx2+k) l H2=H2:=fun k l=>BV hnm (by omega);repeat' first| (first|apply bn1|apply bpJ (by omega)|apply vW (s:=s1) hb hs1 hw3 hlt (hB1.rep.ar5 hs1.pl hs1.sl))<;>(simp only[go_sem,t1,bqT,brK,hmod,hu1,hut,hull,hle,huw,hcf1,hmd,hmk,umS (G:=H2),umD (G:=H2),umB,bq1,bqC,g1,g2,gr,gs,hgk,hgv,q1,bqJ,o1,p1,hi1,hA];try simp (disch:=omega) only[Iw])|apply bn2 (by omega)| (with_reducible first|refine fun(cap:Nat) (hcap:_≤cap)=> ?_|refine fun(hcp:_≤cap)=> ?_)|refine⟨by omega,?_⟩|fail
     rename_i cap1 hcap1 hcp1;obtain⟨jo,hjo⟩: ∃jo:fC,jo=⟨who,n0,k⟩:=⟨_,rfl⟩
     obtain⟨jp,hjp⟩: ∃jp:fC,jp=⟨who,n0,c.lat.getD k default⟩:=⟨_,rfl⟩
     have eo:List.map eCJ p.out++[[D1.v (.int .i64 who),cI n0,D1.v (.int .i64 k)]]=(p.out++[jo]).map eCJ:=(by rw[bqX,hjo];rfl);have ep:List.take v.pipe.length (List.drop po re)++[[D1.v (.int .i64 who),cI n0,D1.v (.int .i64 (c.lat.getD k default))]]=(v.pipe++[jp]).map eCJ:=(by rw[p2,boL (by simp),bqX,hjp];rfl);have eu:List.take who (List.map cB u)++[D1.v (.bool true)]++List.drop (who+1) (List.map cB u)=(u.set who true).map cB:=(by rw[brD,bsF,if_pos (by simp;omega),C0];rfl);have ei:List.take (1+k) [dh,cI ha1,cI ha2,cI ha3,cI ha4]++[D1.v (.int .i64 1)]++List.drop (1+(k+1)) [dh,cI ha1,cI ha2,cI ha3,cI ha4]=[dh,cI ha1,cI ha2,cI ha3,cI ha4].set (1+k) (cI 1):=(by rw[bsF,if_pos (by simp;omega),C0];rfl);rw[eo,ep,eu,ei];obtain⟨nm',hnm'⟩: ∃nm',nm'=put (put nm1 (8+who) (nx2+62)) (11+k) (nx2+80):=⟨_,rfl⟩
     have pn: ∀j,j≠8+who→j≠11+k→nm' j=nm1 j:=fun j h1 h2=>by rw[hnm',jE h2,jE h1]
     have p8':nm' (8+who)=nx2+62:=(by rw[hnm',jE (by omega),t8]);have p11:nm' (11+k)=nx2+80:=(by rw[hnm',t8]);have aYL:AO c s1 u k=some who:=(by rw[hwd];exact ahR (by rw[←hvd];exact hp2) hj1 hj4 hinv (by rw[←hwd];unfold KE;rw[huw,hmd];rfl));obtain⟨s',hs'⟩: ∃s',s'=aR c s1 (.adm who k):=⟨_,rfl⟩
     have hL:=hS2.some aYL;rw[←hs'] at hL;have hsk:COk c s':=(by rw[hs'];exact o9 hb hs1 (XH hlt aYL));have hpd':aF s' who= {p with queue:=p.queue.drop 1,out:=p.out++[jo]}:=(by rw[hs',bL rfl (by rw[hs1.pl];omega),if_pos rfl,←hpd,hjo,hn0]);have hvd':aL s' k= {v with pipe:=v.pipe++[jp],last:=who}:=(by rw[hs',bO rfl (by rw[hs1.sl];omega),if_pos rfl,←hpd,←hvd,hjp,hn0]);obtain⟨Hm,hHm⟩: ∃Hm,Hm=(((((((H2.del (nm1 (8+who))).del (nm1 (11+k))).set (nm1 2) ⟨4,mp,rp.set who [cI p.next,.osl 1 (nm1 (5+who)) (qo+1) (p.queue.length-1) (qc-1),.osl 3 (nx2+62) 0 (p.out.length+1) cap1,cI p.last]⟩).set (nx2+61) ⟨3,1,[eCJ jo]⟩).set (nx2+62) ⟨3,cap1,(p.out++[jo]).map eCJ⟩).set (nx2+79) ⟨3,1,[eCJ jp]⟩).set (nx2+80) ⟨3,cap,(v.pipe++[jp]).map eCJ⟩).set (nm1 3) ⟨3,mv,rv.set k [.osl 3 (nx2+80) 0 (v.pipe.length+1) cap,.osl 5 (nm1 (15+k)) do_ v.done.length dc,cI who]⟩:=⟨_,rfl⟩
     have hBu:=hB1.upd (H':=Hm) (nx':=nx2+100) who k nm' s' (by omega) ?_ ?_ ?_ ?_ ?_ ?_ (.inl hw3) (.inl hlt) (fun j hj hne=>by rw[hs',bL rfl (by rw[hs1.pl];omega),if_neg hne]) (fun j hj hne=>by rw[hs',bO rfl (by rw[hs1.sl];omega),if_neg hne])
     ·have hXn:X nx∨nx=nx∨nx=nx+1:=.inr (.inl rfl);have hi1n:Hm i1=some ⟨5,1,[[dh,cI ha1,cI ha2,cI ha3,cI ha4]]⟩:=(by rw[hHm];simp only[aA.set,aA.del,hA,if_false];exact hi1);have hni:i1≠nx+1:=(by omega);refine hKL _ _ _ (k+1,s',u.set who true,nm') noF ((Hm.set (nx+1) ⟨3,1,[(u.set who true).map cB]⟩).set i1 ⟨5,1,[[dh,cI ha1,cI ha2,cI ha3,cI ha4].set (1+k) (cI 1)]⟩) (by omega) (by dsimp only;omega) (by repeat' first|exact bo2|refine xqI rfl rfl ?_|refine xqP (by omega) rfl rfl ?_|fail) ?_ ⟨by dsimp only;omega,hsk,(hBu.1.atI (.inr (.inr rfl))).cells hlt ((aA.aC hni).trans hi1n) rfl,fun id hid=> ?_,hL,by simpa using hul,?_⟩;·rw[hHm,hjo,hjp];exact aK
      ·have h1:id≠i1:=by
        rintro rfl
        rcases hid with hid|rfl
        ·exact hB1.hap.i1.2 (.inl (.inl hid))
        ·omega
       have h2:id≠nx+1:=by
        rcases hid with hid|rfl;·have:=hB.rep.x id (.inl hid);omega
        ·omega
       rw[aA.aC h1,aA.aC h2,hBu.2 id (hid.imp (fun h=>h) .inl)]
       exact hX1 id hid
      ·rw[aA.aC hni.symm];exact aA.bH
     ·rw[hnm'];have hXl: ∀v,nx1≤v→¬((X v∨v=nx∨v=nx+1)∨v=i1):=fun v hv hn=>by have:=hB1.rep.x v hn;omega
      exact((hB1.rep.names.mono (by omega:nx1≤nx2)).put (nx':=nx2+63) (by omega) (by omega) (hXl _ (by omega))).put (by omega) (by omega) (hXl _ (by omega))
     ·intro j hj;by_cases h4:j=8+who;·subst h4;exact .inr ⟨.inr (.inr (.inl rfl)),by omega⟩
      ·by_cases h8:j=11+k;·subst h8;exact .inr ⟨.inr (.inr (.inr (.inl rfl))),by omega⟩
       ·exact .inl (pn j h4 h8)
     ·intro id hid h0 hne;rw[hHm];simp only[aA.set,aA.del,hne 2 (by omega) (by omega),hne 3 (by omega) (by omega),hne (8+who) (by omega) (by omega),hne (11+k) (by omega) (by omega),show ¬id=nx2+61 by omega,show ¬id=nx2+62 by omega,show ¬id=nx2+79 by omega,show ¬id=nx2+80 by omega,if_false]
     ·refine⟨wc,hc,pc,vc,tc,?_,?_,?_,?_,bkU,bkV⟩;·rw[hHm];simp only[aA.set,aA.del,hA,if_false,U2,pn 0 (by omega) (by omega),pn 1 (by omega) (by omega),pn 2 (by omega) (by omega),pn 3 (by omega) (by omega),pn 4 (by omega) (by omega)];rw[hs'];exact bqC
      ·rw[pn 0 (by omega) (by omega),hs'];exact g3.frame (by rw[hHm];simp only[aA.set,aA.del,hA,if_false])
      ·rw[pn 1 (by omega) (by omega),hs'];exact g4.frame (by rw[hHm];simp only[aA.set,aA.del,hA,if_false])
      ·rw[pn 4 (by omega) (by omega),hs'];exact g5.frame (by rw[hHm];simp only[aA.set,aA.del,hA,if_false])
     ·refine⟨mp,rp.set who [cI p.next,.osl 1 (nm1 (5+who)) (qo+1) (p.queue.length-1) (qc-1),.osl 3 (nx2+62) 0 (p.out.length+1) cap1,cI p.last],mp,rp,g1,by rw[hHm];simp only[aA.set,aA.del,hA,if_false,if_true],by simp only[Y5,bp4],fun j hj hne=>by rw[bq0 (Ne.symm hne)],fun _=>⟨_,hgk _,⟨qo+1,qc-1,cap1,?_,?_,?_⟩⟩⟩;·rw[hpd',pn (5+who) (by omega) (by omega),p8'];simp only[af5,CI,t2,List.length_singleton]
      ·rw[hpd',pn (5+who) (by omega) (by omega)];refine⟨mq,rq0,?_,by rw[brE,←q2,Y2],?_,by simp,?_,?_⟩;·rw[hHm];simp only[aA.set,aA.del,hA,if_false];exact q1
       ·simp only[CI];omega
       ·simp only[CI];omega
       ·omega
      ·rw[hpd',p8'];refine⟨cap1,(p.out++[jo]).map eCJ,?_,rfl,by simp,by simp,by simpa using hcap1,by simp⟩;rw[hHm];simp only[aA.set,aA.del,hA,if_false,if_true,bqU,Nat.reduceEqDiff]
     ·refine⟨mv,rv.set k [.osl 3 (nx2+80) 0 (v.pipe.length+1) cap,.osl 5 (nm1 (15+k)) do_ v.done.length dc,cI who],mv,rv,g2,by rw[hHm];exact aA.bH,by simp only[Y5,bp5],fun j hj hne=>by rw[bq0 (Ne.symm hne)],fun _=>⟨_,hgv _,⟨0,cap,do_,dc,?_,?_,?_⟩⟩⟩;·rw[hvd',p11,pn (15+k) (by omega) (by omega)];simp only[aj9,t2,List.length_singleton]
      ·rw[hvd',p11];refine⟨cap,(v.pipe++[jp]).map eCJ,?_,rfl,by simp,by simp,by simpa using hcap,by simp⟩;rw[hHm];simp only[aA.set,aA.del,hA,if_false,if_true]
      ·rw[hvd',pn (15+k) (by omega) (by omega)];exact gd.frame (by rw[hHm];simp only[aA.set,aA.del,hA,if_false])
    ·have hmd:decide (HV c s1 who k)=false:=decide_eq_false hmay;repeat' first| (first|apply bn1|apply bpJ (by omega)|apply vW (s:=s1) hb hs1 hw3 hlt (hB1.rep.ar5 hs1.pl hs1.sl))<;>(simp only[go_sem,t1,bqT,bqC,g2,gs,brK,hmod,hu1,hut,hull,hle,huw,hcf1,hmd];try simp (disch:=omega) only[Iw])|apply bn2 (by omega)|refine⟨by omega,?_⟩|fail
     exact hKJ _ _ _ (j+1) noF _ (by omega) (by omega) (by repeat' first|exact bo2|refine xqI rfl rfl ?_|refine xqP (by omega) rfl rfl ?_|fail) aK ⟨by omega,by omega,rfl,hback (by unfold KE;rw[huw];rw[hmd];rfl)⟩
   ·repeat' first| (first|apply bn1|apply bpK (by omega))<;>(simp only[go_sem,t1,bqT,bqC,g2,gs];try simp (disch:=omega) only[Iw])|fail
    exact hKL _ _ _ (k+1,s1,u,nm1) noF _ (by omega) (by dsimp only;omega) (by repeat' first|exact bo2|refine xqI rfl rfl ?_|refine xqP (by omega) rfl rfl ?_|fail) aK ⟨by dsimp only;omega,hs1,hB1.mono (by omega),hX1,hS2.none (ah0 fun j' h1 h2=>hinv j' h1 (by omega)),hul,hu1⟩
  ·repeat' first| (first|apply bn1|refine bpL (fun h=> ?_) fun h=> ?_)<;>(simp only[go_sem,t1,bqT,bqC,g2,gs];try simp (disch:=omega) only[Iw])|apply bn3 (by omega)|fail
   all_goals exact hKL _ _ _ (k+1,s1,u,nm1) noF _ (by omega) (by dsimp only;omega) (by repeat' first|exact bo2|refine xqI rfl rfl ?_|refine xqP (by omega) rfl rfl ?_|fail) aK ⟨by dsimp only;omega,hs1,hB1.mono (by omega),hX1,hS2.none (anA (by rw[←hvd];exact hp2)),hul,hu1⟩
 ·repeat' first|apply bn1<;>(simp only[go_sem])|apply bn3 (by omega)|fail
  have hk4:k=4:=by omega
  subst hk4;obtain rfl:=hS1;refine hQ _ _ _ _ _ (.inl rfl) rfl (h _ _ nm1 (by omega) (hB1.next (by omega) (fun _ _ _=>rfl) fun id hid=>⟨?_,.inl (.inl hid)⟩) fun id hid=> ?_);·have:=hB.rep.x id (.inl hid);omega
  ·have:=hB.rep.x id (.inl hid);rw[hX1 id (.inl hid),hH0,aA.aC (by omega),aA.aC (by omega)]
end
end Go.Proofs.YtmccpdapaccnoaaGreat
