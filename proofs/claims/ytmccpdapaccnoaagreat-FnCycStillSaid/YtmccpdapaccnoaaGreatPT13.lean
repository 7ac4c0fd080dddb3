/- Texts laid together by a program: rules, contracts and the walk that leads to the law. -/
import Derived.Test.YtmccpdapaccnoaaGreatPT11
import Derived.Test.YtmccpdapaccnoaaGreatPT12
import Derived.Test.YtmccpdapaccnoaaGreatPT10
import Derived.Test.YtmccpdapaccnoaaGreatPT7
import Derived.Test.YtmccpdapaccnoaaGreatPT8
import Derived.Test.YtmccpdapaccnoaaGreatPT9
set_option linter.unusedVariables false
set_option linter.unusedSimpArgs false
set_option linter.unusedSectionVars false
set_option maxRecDepth 100000
set_option maxHeartbeats 8000000
namespace Go.Proofs.YtmccpdapaccnoaaGreat
open Go Go.AM
attribute [local irreducible] aM wv aB vd wvH
theorem F1:cJ Tryz.prog n6 Tryz.f216 mL uR:=cJ.mk Tryz.func216 (by kernel_rfl) FB
end Go.Proofs.YtmccpdapaccnoaaGreat
namespace Go.AM
theorem l9.cells {X:Nat→Prop} {H:aA} {nx i0 i1:Nat} {nm:Nat→Nat} {s:CSt} {es:List Ev} (h:l9 X H nx i0 i1 nm s es) {r r':List D1} {k:Nat} (hk:k<4) (h1:H i1=some ⟨5,1,[r]⟩) (hr:r'=r.set (1+k) (cI 1)):l9 X (H.set i1 ⟨5,1,[r']⟩) nx i0 i1 nm s es:=by
 subst hr
 have hav:=h.rep.names.av
 have hi0:=h.rep.i0
 refine⟨h.rep.frame (m5 _) (aA.aC fun he=>hi0.2 (.inr he)) (fun k hk=>aA.aC fun he=>hav k hk (.inr he)) fun id hid=>⟨h.rep.x id hid,fun he=>hi0.2 (he▸hid),fun k hk he=>hav k hk (he▸hid)⟩,?_⟩
 obtain⟨⟨d,a,b,c,e,g1,g2⟩,g3,g4⟩:=h.hap
 rw[h1] at g1
 obtain rfl:r=[d,cI a,cI b,cI c,cI e]:=by simpa using g1
 have hd:aqA (fun id=>X id∨id=i0∨ ∃k,k<19∧id=nm k) (H.set i1 ⟨5,1,[[d,cI a,cI b,cI c,cI e].set (1+k) (cI 1)]⟩) nx i1 es d:=by
  rcases g2 with g2|⟨ev,cap,k1,k2,k3,k4,k5⟩
  ·exact .inl g2
  ·exact .inr ⟨ev,cap,k1,k2.frame (aA.aC k5),k3,k4,k5⟩
 refine⟨?_,g3,g4⟩
 obtain rfl|rfl|rfl|rfl:k=0∨k=1∨k=2∨k=3:=by omega
 ·exact⟨d,1,b,c,e,aA.bH,hd⟩
 ·exact⟨d,a,1,c,e,aA.bH,hd⟩
 ·exact⟨d,a,b,1,e,aA.bH,hd⟩
 ·exact⟨d,a,b,c,1,aA.bH,hd⟩
theorem l9.atI {X:Nat→Prop} {H:aA} {nx i0 i1:Nat} {nm:Nat→Nat} {s:CSt} {es:List Ev} {j:Nat} {o:bA} (h:l9 X H nx i0 i1 nm s es) (hj:X j):l9 X (H.set j o) nx i0 i1 nm s es:=
 h.next (m5 _) (fun id _ hn=>aA.aC fun he=>hn (he▸hj)) fun id hid=>⟨h.rep.x id (.inl hid),.inl hid⟩
end Go.AM
namespace Go.Proofs.YtmccpdapaccnoaaGreat
open Go Go.AM
attribute [local irreducible] aM wv aB vd wvH
section
variable {H : aA} {nx : Nat} {K : D → aA → Nat → Prop}
theorem HT {X:Nat→Prop} {c:Cfg} {s:CSt} {es:List Ev} {i0 i1:Nat} {nm:Nat→Nat} (hb:aQ c) (hs:COk c s) (hB:l9 X H nx i0 i1 nm s es)
 (h: ∀H' nx' nm',nx≤nx'→l9 X H' nx' i0 i1 nm' (dR c s (ad4 c s)) es→(∀id,X id→H' id=H id)→K (.tup []) H' nx'):
 aB Tryz.prog n6 [.one (.c (.ptr 5 i0 0 0)),boR (cU c),.one (.c (.ptr 5 i1 0 0))] H nx K:=by
 refine F1 rfl fun Q hQ=> ?_
 unfold mL
 obtain⟨hp3,hpr⟩:=hC hb
 obtain⟨wc,hc,pc,vc,tc,hi0,hw0,hh0,ht0,hpc,hvc⟩: ∃wc hc pc vc tc,H i0=some ⟨5,1,[[.osl 1 (nm 0) 0 s.words.length wc,.osl 1 (nm 1) 0 s.holds.length hc,.osl 4 (nm 2) 0 3 pc,.osl 3 (nm 3) 0 4 vc,.osl 5 (nm 4) 0 s.told.length tc]]⟩∧_:=by
  obtain⟨cells,h1,⟨wc,hc,pc,vc,tc,rfl,h2⟩,_⟩:=hB.rep.st
  exact⟨wc,hc,pc,vc,tc,h1,h2⟩
 have hA:=hB.rep.apart (nx':=nx) [] [] (m5 _) (by simp) (by simp) (by simp) (by simp)
 simp only[bQ,eZ,List.map,List.nil_append] at hA
 repeat' first|apply bn1<;>(simp only[go_sem,t1,bqT,hi0,hA])|fail
 obtain⟨H0,hH0⟩: ∃H0,H0=(H.set nx ⟨3,1,[cU c]⟩).set (nx+1) ⟨3,1,[[false,false,false].map cB]⟩:=⟨_,rfl⟩
 have hH0':=hH0
 simp only[List.map] at hH0'
 unfold cB at hH0'
 rw[←hH0']
 clear hH0'
 have h0c:H0 nx=some ⟨3,1,[cU c]⟩:=by rw[hH0,aA.aC (by omega)];exact aA.bH
 have h0u:H0 (nx+1)=some ⟨3,1,[[false,false,false].map cB]⟩:=by rw[hH0];exact aA.bH
 have hxi0:=hB.rep.i0.1
 have hxi1:=hB.hap.i1.1
 have hB0:l9 (fun id=>X id∨id=nx∨id=nx+1) H0 (nx+8) i0 i1 nm s es:=hB.next (by omega) (fun id h1 h2=>by rw[hH0,aA.aC (by omega),aA.aC (by omega)]) fun id hid=>by
  rcases hid with hid|rfl|rfl
  ·have:=hB.rep.x id (.inl hid)
   exact⟨by omega,.inl hid⟩
  ·exact⟨by omega,.inr (m5 _)⟩
  ·exact⟨by omega,.inr (by omega)⟩
 refine aM.gP (β:=Nat×CSt×List Bool×(Nat→Nat)) (fun u=>en [(18,boP u.1),(17,boP 4),(6,.one (.c (.ptr 3 (nx+1) 0 0))),(4,.one (.c (.ptr 3 nx 0 0))),(2,.one (.c (.ptr 5 i1 0 0))),(0,.one (.c (.ptr 5 i0 0 0)))])
  (fun u H1 nx1=>u.1≤4∧COk c u.2.1∧l9 (fun id=>X id∨id=nx∨id=nx+1) H1 nx1 i0 i1 u.2.2.2 u.2.1 es∧(∀id,X id∨id=nx→H1 id=H0 id)∧LV c ([0,1,2,3].drop u.1) u.2.1 u.2.2.1 (dR c s (ad4 c s))∧u.2.2.1.length=3∧H1 (nx+1)=some ⟨3,1,[u.2.2.1.map cB]⟩)
  (fun u=>4-u.1) (0,s,[false,false,false],nm) ⟨noF,_,by repeat' first|exact bo2|refine xqI rfl rfl ?_|refine xqP (by omega) rfl rfl ?_|fail,aK,by dsimp only;omega,hs,hB0.mono (by omega),fun _ _=>rfl,rfl,rfl,h0u⟩ ?_
 rintro⟨k,s1,u,nm1⟩ H1 nx1 hnx ⟨hk,hs1,hB1,hX1,hS1,hul,hu1⟩ bpQ hKL
 dsimp only at hk hs1 hB1 hS1 hul hu1
 obtain⟨wc,hc,pc,vc,tc,mp,rp,mv,rv,bqC,g1,g2,g3,g4,g5,bkU,bkV,bp4,bp5,ga,gb⟩:=hB1.rep.get
 have hcf1:H1 nx=some ⟨3,1,[cU c]⟩:=by rw[hX1 _ (.inr rfl)];exact h0c
 by_cases hlt:k<4
 ·have hS2:=hS1
  rw[apX hlt] at hS2
  obtain⟨v,hvd⟩: ∃v,v=aL s1 k:=⟨_,rfl⟩
  obtain⟨po,ppc,do_,dc,gs,gp,gd⟩:=gb k hlt
  rw[←hvd] at gs gp gd
  obtain⟨me,re,p1,p2,p3,p4,p5,p6⟩:=gp.ex
  rw[bqW] at p4
  have hvo:=(hs1.slv k hlt).last
  have hn3:=hB1.rep.names.lt 3 (by omega)
  rw[←hvd] at hvo
  repeat' first|apply bn1<;>(simp only[go_sem,t1,bqT,bqC,g2,gs])|apply bn2 (by omega)|refine⟨by omega,?_⟩|fail
  refine aM.gP (β:=Nat) (fun j=>en [(18,boP k),(17,boP 4),(9,boP j),(8,.one (.c (.ptr 3 (nm1 3) k 0))),(7,boP k),(6,.one (.c (.ptr 3 (nx+1) 0 0))),(4,.one (.c (.ptr 3 nx 0 0))),(2,.one (.c (.ptr 5 i1 0 0))),(0,.one (.c (.ptr 5 i0 0 0)))])
   (fun j H2 _=>1≤j∧j≤4∧H2=H1∧ ∀j',1≤j'→j'<j→KE c s1 u k (sM s1 k j')=false) (fun j=>4-j) 1 ⟨noF,_,by repeat' first|exact bo2|refine xqI rfl rfl ?_|refine xqP (by omega) rfl rfl ?_|fail,aK,by omega,by omega,rfl,fun j' h1 h2=>by omega⟩ ?_
  rintro j H2 nx2 hnx2 ⟨hj1,hj5,hH2,hinv⟩ bkT hKJ
  subst hH2
  by_cases hp2:v.pipe.length<2
  ·by_cases hj4:j≤3
   ·obtain⟨who,hwd⟩: ∃who,who=sM s1 k j:=⟨_,rfl⟩
    have hwd':who=((v.last+(j:Int))%3).toNat:=by rw[hwd,hvd];rfl
    have hw3:who<3:=by omega
    have hmod:(v.last+(j:Int)).tmod 3=(who:Int):=by rw[brF (by omega)];omega
    have hut:((u.map cB).drop who).take 1=[cB (u.getD who default)]:=by
     rw[brB (by simp;omega)]
     simp[List.getD,show who<u.length by omega]
    have hull:(u.map cB).length=3:=by rw[bqW,hul]
    have hle:(who+1≤3)=True:=eq_true (by omega)
    have hback:KE c s1 u k who=false→∀j',1≤j'→j'<j+1→KE c s1 u k (sM s1 k j')=false:=fun hf j' h1 h2=>by
     by_cases hj:j'<j
     ·exact hinv j' h1 hj
     ·have:j'=j:=by omega
      subst this
      rw[←hwd];exact hf
    cases huw:u.getD who default with
    |true=>
     repeat' first| (first|apply bn1|apply bpJ (by omega))<;>(simp only[go_sem,t1,bqT,bqC,g2,gs,brK,hmod,hu1,hut,hull,hle,huw];try simp (disch:=omega) only[Iw])|apply bn2 (by omega)|refine⟨by omega,?_⟩|fail
     exact hKJ _ _ _ (j+1) noF _ (by omega) (by omega) (by repeat' first|exact bo2|refine xqI rfl rfl ?_|refine xqP (by omega) rfl rfl ?_|fail) aK ⟨by omega,by omega,rfl,hback (by unfold KE;rw[huw];rfl)⟩
    |false=>
    by_cases hmay:HV c s1 who k
    ·have hmd:decide (HV c s1 who k)=true:=decide_eq_true hmay
     obtain⟨p,hpd⟩: ∃p,p=aF s1 who:=⟨_,rfl⟩
     obtain⟨qo,qc,oc,gr,gq,go⟩:=ga who hw3
     rw[←hpd] at gr gq go
     have hm1:=hmay.1
     have hm2:=hmay.2.1
     rw[←hpd] at hm1 hm2
     have hpo:=hs1.port who hw3
     rw[←hpd] at hpo
     have hql:=hpo.ql
     obtain⟨mq,rq0,q1,q2,q3,q4,q5,q6⟩:=gq.ex
     obtain⟨mo,ro,o1,o2,bqD,bqE,bqF,blC⟩:=go.ex
     rw[bqW] at q4 bqE
     rw[bq5] at o2
     subst o2
     obtain⟨n0,hn0⟩: ∃n0,n0=p.queue.getD 0 default:=⟨_,rfl⟩
     have bqJ:rq0[qo]?=some [cI n0]:=by
      have:(rq0.drop qo)[0]?=some [cI n0]:=by rw[q2,p0];simp[hn0,List.getD,show 0<p.queue.length by omega,aJ]
      rwa [s5,Nat.add_zero] at this
     have hlt4:=hb.2.1
     have hgk: ∀r,(rp.set who r)[who]?=some r:=fun r=>by rw[bqZ (by omega)]
     have hgv: ∀r,(rv.set k r)[k]?=some r:=fun r=>by rw[bqZ (by omega)]
     have hA:=hB1.rep.apart (nx':=nx2) [nx,nx+1,i1] [0,1,2,3,4,5+who,8+who,11+k,15+k] (by omega) (by simp;omega) (fun x hx=>by simp at hx;rcases hx with rfl|rfl|rfl;exact .inl (.inr (.inl rfl));exact .inl (.inr (.inr rfl));exact .inr rfl) (by simp;omega) (by simp;omega)
     simp only[bQ,eZ,List.map,List.cons_append,List.nil_append] at hA
     obtain⟨dh,ha1,ha2,ha3,ha4,hi1,_⟩:=hB1.hap.ex
     refine aM.BW fun hnm=> ?_
     have hmk: ∀k l,msk (nx2+k) l H2=H2:=fun k l=>BV hnm (by omega)
     repeat' first| (first|apply bn1|apply bpJ (by omega)|apply vW (s:=s1) hb hs1 hw3 hlt (hB1.rep.ar5 hs1.pl hs1.sl))<;>(simp only[go_sem,t1,bqT,brK,hmod,hu1,hut,hull,hle,huw,hcf1,hmd,hmk,umS (G:=H2),umD (G:=H2),umB,bq1,bqC,g1,g2,gr,gs,hgk,hgv,q1,bqJ,o1,p1,hi1,hA];try simp (disch:=omega) only[Iw])|apply bn2 (by omega)| (with_reducible first|refine fun(cap:Nat) (hcap:_≤cap)=> ?_|refine fun(hcp:_≤cap)=> ?_)|refine⟨by omega,?_⟩|fail
     rename_i cap1 hcap1 hcp1
     obtain⟨jo,hjo⟩: ∃jo:fC,jo=⟨who,n0,k⟩:=⟨_,rfl⟩
     obtain⟨jp,hjp⟩: ∃jp:fC,jp=⟨who,n0,c.lat.getD k default⟩:=⟨_,rfl⟩
     have eo:List.map eCJ p.out++[[D1.v (.int .i64 who),cI n0,D1.v (.int .i64 k)]]=(p.out++[jo]).map eCJ:=by rw[bqX,hjo];rfl
     have ep:List.take v.pipe.length (List.drop po re)++[[D1.v (.int .i64 who),cI n0,D1.v (.int .i64 (c.lat.getD k default))]]=(v.pipe++[jp]).map eCJ:=by
      rw[p2,boL (by simp),bqX,hjp];rfl
     have eu:List.take who (List.map cB u)++[D1.v (.bool true)]++List.drop (who+1) (List.map cB u)=(u.set who true).map cB:=by
      rw[brD,bsF,if_pos (by simp;omega),C0];rfl
     have ei:List.take (1+k) [dh,cI ha1,cI ha2,cI ha3,cI ha4]++[D1.v (.int .i64 1)]++List.drop (1+(k+1)) [dh,cI ha1,cI ha2,cI ha3,cI ha4]=[dh,cI ha1,cI ha2,cI ha3,cI ha4].set (1+k) (cI 1):=by
      rw[bsF,if_pos (by simp;omega),C0];rfl
     rw[eo,ep,eu,ei]
     obtain⟨nm',hnm'⟩: ∃nm',nm'=put (put nm1 (8+who) (nx2+62)) (11+k) (nx2+80):=⟨_,rfl⟩
     have pn: ∀j,j≠8+who→j≠11+k→nm' j=nm1 j:=fun j h1 h2=>by rw[hnm',jE h2,jE h1]
     have p8':nm' (8+who)=nx2+62:=by rw[hnm',jE (by omega),t8]
     have p11:nm' (11+k)=nx2+80:=by rw[hnm',t8]
     have aYL:AO c s1 u k=some who:=by rw[hwd];exact ahR (by rw[←hvd];exact hp2) hj1 hj4 hinv (by rw[←hwd];unfold KE;rw[huw,hmd];rfl)
     obtain⟨s',hs'⟩: ∃s',s'=aR c s1 (.adm who k):=⟨_,rfl⟩
     have hL:=hS2.some aYL
     rw[←hs'] at hL
     have hsk:COk c s':=by rw[hs'];exact o9 hb hs1 (XH hlt aYL)
     have hpd':aF s' who= {p with queue:=p.queue.drop 1,out:=p.out++[jo]}:=by rw[hs',bL rfl (by rw[hs1.pl];omega),if_pos rfl,←hpd,hjo,hn0]
     have hvd':aL s' k= {v with pipe:=v.pipe++[jp],last:=who}:=by rw[hs',bO rfl (by rw[hs1.sl];omega),if_pos rfl,←hpd,←hvd,hjp,hn0]
     obtain⟨Hm,hHm⟩: ∃Hm,Hm=(((((((H2.del (nm1 (8+who))).del (nm1 (11+k))).set (nm1 2) ⟨4,mp,rp.set who [cI p.next,.osl 1 (nm1 (5+who)) (qo+1) (p.queue.length-1) (qc-1),.osl 3 (nx2+62) 0 (p.out.length+1) cap1,cI p.last]⟩).set (nx2+61) ⟨3,1,[eCJ jo]⟩).set (nx2+62) ⟨3,cap1,(p.out++[jo]).map eCJ⟩).set (nx2+79) ⟨3,1,[eCJ jp]⟩).set (nx2+80) ⟨3,cap,(v.pipe++[jp]).map eCJ⟩).set (nm1 3) ⟨3,mv,rv.set k [.osl 3 (nx2+80) 0 (v.pipe.length+1) cap,.osl 5 (nm1 (15+k)) do_ v.done.length dc,cI who]⟩:=⟨_,rfl⟩
     have hBu:=hB1.upd (H':=Hm) (nx':=nx2+100) who k nm' s' (by omega) ?_ ?_ ?_ ?_ ?_ ?_ (.inl hw3) (.inl hlt) (fun j hj hne=>by rw[hs',bL rfl (by rw[hs1.pl];omega),if_neg hne]) (fun j hj hne=>by rw[hs',bO rfl (by rw[hs1.sl];omega),if_neg hne])
     ·have hXn:X nx∨nx=nx∨nx=nx+1:=.inr (.inl rfl)
      have hi1n:Hm i1=some ⟨5,1,[[dh,cI ha1,cI ha2,cI ha3,cI ha4]]⟩:=by
       rw[hHm]
       simp only[aA.set,aA.del,hA,if_false]
       exact hi1
      have hni:i1≠nx+1:=by omega
      refine hKL _ _ _ (k+1,s',u.set who true,nm') noF ((Hm.set (nx+1) ⟨3,1,[(u.set who true).map cB]⟩).set i1 ⟨5,1,[[dh,cI ha1,cI ha2,cI ha3,cI ha4].set (1+k) (cI 1)]⟩) (by omega) (by dsimp only;omega) (by repeat' first|exact bo2|refine xqI rfl rfl ?_|refine xqP (by omega) rfl rfl ?_|fail) ?_ ⟨by dsimp only;omega,hsk,(hBu.1.atI (.inr (.inr rfl))).cells hlt ((aA.aC hni).trans hi1n) rfl,fun id hid=> ?_,hL,by simpa using hul,?_⟩
      ·rw[hHm,hjo,hjp]
       exact aK
      ·have h1:id≠i1:=by
        rintro rfl
        rcases hid with hid|rfl
        ·exact hB1.hap.i1.2 (.inl (.inl hid))
        ·omega
       have h2:id≠nx+1:=by
        rcases hid with hid|rfl
        ·have:=hB.rep.x id (.inl hid);omega
        ·omega
       rw[aA.aC h1,aA.aC h2,hBu.2 id (hid.imp (fun h=>h) .inl)]
       exact hX1 id hid
      ·rw[aA.aC hni.symm];exact aA.bH
     ·rw[hnm']
      have hXl: ∀v,nx1≤v→¬((X v∨v=nx∨v=nx+1)∨v=i1):=fun v hv hn=>by have:=hB1.rep.x v hn;omega
      exact((hB1.rep.names.mono (by omega:nx1≤nx2)).put (nx':=nx2+63) (by omega) (by omega) (hXl _ (by omega))).put (by omega) (by omega) (hXl _ (by omega))
     ·intro j hj
      by_cases h4:j=8+who
      ·subst h4;exact .inr ⟨.inr (.inr (.inl rfl)),by omega⟩
      ·by_cases h8:j=11+k
       ·subst h8;exact .inr ⟨.inr (.inr (.inr (.inl rfl))),by omega⟩
       ·exact .inl (pn j h4 h8)
     ·intro id hid h0 hne
      rw[hHm]
      simp only[aA.set,aA.del,hne 2 (by omega) (by omega),hne 3 (by omega) (by omega),hne (8+who) (by omega) (by omega),hne (11+k) (by omega) (by omega),show ¬id=nx2+61 by omega,show ¬id=nx2+62 by omega,show ¬id=nx2+79 by omega,show ¬id=nx2+80 by omega,if_false]
     ·refine⟨wc,hc,pc,vc,tc,?_,?_,?_,?_,bkU,bkV⟩
      ·rw[hHm]
       simp only[aA.set,aA.del,hA,if_false,U2,pn 0 (by omega) (by omega),pn 1 (by omega) (by omega),pn 2 (by omega) (by omega),pn 3 (by omega) (by omega),pn 4 (by omega) (by omega)]
       rw[hs'];exact bqC
      ·rw[pn 0 (by omega) (by omega),hs']
       exact g3.frame (by rw[hHm];simp only[aA.set,aA.del,hA,if_false])
      ·rw[pn 1 (by omega) (by omega),hs']
       exact g4.frame (by rw[hHm];simp only[aA.set,aA.del,hA,if_false])
      ·rw[pn 4 (by omega) (by omega),hs']
       exact g5.frame (by rw[hHm];simp only[aA.set,aA.del,hA,if_false])
     ·refine⟨mp,rp.set who [cI p.next,.osl 1 (nm1 (5+who)) (qo+1) (p.queue.length-1) (qc-1),.osl 3 (nx2+62) 0 (p.out.length+1) cap1,cI p.last],mp,rp,g1,by rw[hHm];simp only[aA.set,aA.del,hA,if_false,if_true],by simp only[Y5,bp4],fun j hj hne=>by rw[bq0 (Ne.symm hne)],fun _=>⟨_,hgk _,⟨qo+1,qc-1,cap1,?_,?_,?_⟩⟩⟩
      ·rw[hpd',pn (5+who) (by omega) (by omega),p8']
       simp only[af5,CI,t2,List.length_singleton]
      ·rw[hpd',pn (5+who) (by omega) (by omega)]
       refine⟨mq,rq0,?_,by rw[brE,←q2,Y2],?_,by simp,?_,?_⟩
       ·rw[hHm]
        simp only[aA.set,aA.del,hA,if_false]
        exact q1
       ·simp only[CI];omega
       ·simp only[CI];omega
       ·omega
      ·rw[hpd',p8']
       refine⟨cap1,(p.out++[jo]).map eCJ,?_,rfl,by simp,by simp,by simpa using hcap1,by simp⟩
       rw[hHm]
       simp only[aA.set,aA.del,hA,if_false,if_true,bqU,Nat.reduceEqDiff]
     ·refine⟨mv,rv.set k [.osl 3 (nx2+80) 0 (v.pipe.length+1) cap,.osl 5 (nm1 (15+k)) do_ v.done.length dc,cI who],mv,rv,g2,by rw[hHm];exact aA.bH,by simp only[Y5,bp5],fun j hj hne=>by rw[bq0 (Ne.symm hne)],fun _=>⟨_,hgv _,⟨0,cap,do_,dc,?_,?_,?_⟩⟩⟩
      ·rw[hvd',p11,pn (15+k) (by omega) (by omega)]
       simp only[aj9,t2,List.length_singleton]
      ·rw[hvd',p11]
       refine⟨cap,(v.pipe++[jp]).map eCJ,?_,rfl,by simp,by simp,by simpa using hcap,by simp⟩
       rw[hHm]
       simp only[aA.set,aA.del,hA,if_false,if_true]
      ·rw[hvd',pn (15+k) (by omega) (by omega)]
       exact gd.frame (by rw[hHm];simp only[aA.set,aA.del,hA,if_false])
    ·have hmd:decide (HV c s1 who k)=false:=decide_eq_false hmay
     repeat' first| (first|apply bn1|apply bpJ (by omega)|apply vW (s:=s1) hb hs1 hw3 hlt (hB1.rep.ar5 hs1.pl hs1.sl))<;>(simp only[go_sem,t1,bqT,bqC,g2,gs,brK,hmod,hu1,hut,hull,hle,huw,hcf1,hmd];try simp (disch:=omega) only[Iw])|apply bn2 (by omega)|refine⟨by omega,?_⟩|fail
     exact hKJ _ _ _ (j+1) noF _ (by omega) (by omega) (by repeat' first|exact bo2|refine xqI rfl rfl ?_|refine xqP (by omega) rfl rfl ?_|fail) aK ⟨by omega,by omega,rfl,hback (by unfold KE;rw[huw];rw[hmd];rfl)⟩
   ·repeat' first| (first|apply bn1|apply bpK (by omega))<;>(simp only[go_sem,t1,bqT,bqC,g2,gs];try simp (disch:=omega) only[Iw])|fail
    exact hKL _ _ _ (k+1,s1,u,nm1) noF _ (by omega) (by dsimp only;omega) (by repeat' first|exact bo2|refine xqI rfl rfl ?_|refine xqP (by omega) rfl rfl ?_|fail) aK ⟨by dsimp only;omega,hs1,hB1.mono (by omega),hX1,hS2.none (ah0 fun j' h1 h2=>hinv j' h1 (by omega)),hul,hu1⟩
  ·repeat' first| (first|apply bn1|refine bpL (fun h=> ?_) fun h=> ?_)<;>(simp only[go_sem,t1,bqT,bqC,g2,gs];try simp (disch:=omega) only[Iw])|apply bn3 (by omega)|fail
   all_goals exact hKL _ _ _ (k+1,s1,u,nm1) noF _ (by omega) (by dsimp only;omega) (by repeat' first|exact bo2|refine xqI rfl rfl ?_|refine xqP (by omega) rfl rfl ?_|fail) aK ⟨by dsimp only;omega,hs1,hB1.mono (by omega),hX1,hS2.none (anA (by rw[←hvd];exact hp2)),hul,hu1⟩
 ·repeat' first|apply bn1<;>(simp only[go_sem])|apply bn3 (by omega)|fail
  have hk4:k=4:=by omega
  subst hk4
  obtain rfl:=hS1
  refine hQ _ _ _ _ _ (.inl rfl) rfl (h _ _ nm1 (by omega) (hB1.next (by omega) (fun _ _ _=>rfl) fun id hid=>⟨?_,.inl (.inl hid)⟩) fun id hid=> ?_)
  ·have:=hB.rep.x id (.inl hid);omega
  ·have:=hB.rep.x id (.inl hid)
   rw[hX1 id (.inl hid),hH0,aA.aC (by omega),aA.aC (by omega)]
end
theorem EN:cJ Tryz.prog jF Tryz.f118 lK sL:=cJ.mk Tryz.func118 (by kernel_rfl) D7
theorem afN {c:Cfg} {s:CSt} {l:List Mic}:(iP c s l).length≤l.length:=by
 induction l generalizing s with
 |nil=>simp[iP]
 |cons m l ih=>
  have:=@ih (aR c s m)
  rw[iP,t2,List.length_cons]
  have h1:(y0 s m).length≤1:=by cases m<;>simp[y0]
  omega
theorem aaW {c:Cfg} {f:CSt→Nat→Option Mic} {l:List Nat} {s:CSt}:(vE c f s l).length≤l.length:=by
 induction l generalizing s with
 |nil=>simp[vE]
 |cons k l ih=>
  rw[vE]
  split
  ·have:=@ih s;rw[List.length_cons];omega
  ·rename_i m _;have:=@ih (aR c s m);rw[List.length_cons,List.length_cons];omega
theorem aqN {c:Cfg} {l:List Nat} {s s0:CSt} {u:List Bool}:iP c s0 (oP c s u l)=[]:=by
 induction l generalizing s u s0 with
 |nil=>simp[oP,iP]
 |cons k l ih=>
  rw[oP]
  split
  ·exact ih
  ·rw[iP,ih];rfl
theorem aoN {c:Cfg} {i:CIn} {s:CSt}:TK c i s=([]++iP c s (KQ c i s))++iP c (CW c i s) (xX c i (CW c i s))++iP c (OI c i s) (MV c i (OI c i s)):=by
 have e1:dR c s (KQ c i s++xX c i (CW c i s)++ad4 c (QD c i s))=OI c i s:=by rw[tB,tB];rfl
 have e2:dR c s (KQ c i s++xX c i (CW c i s))=QD c i s:=by rw[tB];rfl
 rw[TK,YC,G6,G6,G6,e1,e2,List.nil_append]
 rw[show iP c (QD c i s) (ad4 c (QD c i s))=[] from aqN,bq6]
 rfl
section
variable {H : aA} {nx : Nat} {K : D → aA → Nat → Prop}
theorem tX {X:Nat→Prop} {c:Cfg} {i:CIn} {s:CSt} {i0:Nat} {nm:Nat→Nat} (hb:aQ c) (hs:COk c s) (hi:i.ready.length=3∧i.n9.length=4∧i.send.length=3) (hR:Rep X H nx i0 nm s)
 (h: ∀H' nx' nm' a b d e,nx≤nx'→Rep X H' nx' i0 nm' (vF c i s)→(∀id,X id→H' id=H id)→K (boR [.isl ((TK c i s).map eEv),cI a,cI b,cI d,cI e]) H' nx'):
 aB Tryz.prog jF [.one (.c (.ptr 5 i0 0 0)),boR (cU c),boR (eIn i)] H nx K:=by
 apply aB.tW
 refine EN rfl fun Q hQ=> ?_
 unfold lK
 repeat' first|apply bn1<;>(simp only[go_sem,t1,bqT])|fail
 have hxi0:=hR.i0.1
 have hxX:=hR.x
 have hB0:l9 (fun id=>X id∨id=nx∨id=nx+1∨id=nx+2) ((((H.set nx ⟨3,1,[cU c]⟩).set (nx+1) ⟨3,1,[eIn i]⟩).set (nx+2) ⟨5,1,[[.osl 0 0 0 0 0,cI 0,cI 0,cI 0,cI 0]]⟩).set (nx+3) ⟨5,1,[[.osl 0 0 0 0 0,cI 0,cI 0,cI 0,cI 0]]⟩) (nx+7) i0 (nx+3) nm s []:=by
  have ho: ∀id,id<nx→((((H.set nx ⟨3,1,[cU c]⟩).set (nx+1) ⟨3,1,[eIn i]⟩).set (nx+2) ⟨5,1,[[.osl 0 0 0 0 0,cI 0,cI 0,cI 0,cI 0]]⟩).set (nx+3) ⟨5,1,[[.osl 0 0 0 0 0,cI 0,cI 0,cI 0,cI 0]]⟩) id=H id:=fun id hid=>by
   rw[aA.aC (by omega),aA.aC (by omega),aA.aC (by omega),aA.aC (by omega)]
  have hlt:=hR.names.lt
  refine⟨hR.frame (by omega) (ho _ hxi0) (fun k hk=>ho _ (hlt k hk)) fun id hid=> ?_,⟨⟨_,0,0,0,0,aA.bH,.inl ⟨rfl,rfl⟩⟩,⟨by omega,?_⟩,?_⟩⟩
  ·rcases hid with(hid|hid)|hid
   ·have:=hxX id hid
    exact⟨by omega,fun he=>hR.i0.2 (he▸hid),fun k hk he=>hR.names.av k hk (he▸hid)⟩
   ·exact⟨by omega,by omega,fun k hk=>by have:=hlt k hk;omega⟩
   ·exact⟨by omega,by omega,fun k hk=>by have:=hlt k hk;omega⟩
  ·rintro((hid|hid)|hid|⟨k,hk,hid⟩)
   ·have:=hxX _ hid;omega
   ·omega
   ·omega
   ·have:=hlt k hk;omega
  ·rintro id ((hid|hid)|hid|⟨k,hk,hid⟩)
   ·have:=hxX _ hid;omega
   ·omega
   ·omega
   ·have:=hlt k hk;omega
 have hX0: ∀{G:aA},(∀id,X id∨id=nx∨id=nx+1∨id=nx+2→G id=((((H.set nx ⟨3,1,[cU c]⟩).set (nx+1) ⟨3,1,[eIn i]⟩).set (nx+2) ⟨5,1,[[.osl 0 0 0 0 0,cI 0,cI 0,cI 0,cI 0]]⟩).set (nx+3) ⟨5,1,[[.osl 0 0 0 0 0,cI 0,cI 0,cI 0,cI 0]]⟩) id)→G nx=some ⟨3,1,[cU c]⟩∧G (nx+1)=some ⟨3,1,[eIn i]⟩∧G (nx+2)=some ⟨5,1,[[.osl 0 0 0 0 0,cI 0,cI 0,cI 0,cI 0]]⟩∧ ∀id,X id→G id=H id:=fun bqK=>by
  refine⟨?_,?_,?_,fun id hid=> ?_⟩
  ·rw[bqK _ (.inr (.inl rfl)),aA.aC (by omega),aA.aC (by omega),aA.aC (by omega)];exact aA.bH
  ·rw[bqK _ (.inr (.inr (.inl rfl))),aA.aC (by omega),aA.aC (by omega)];exact aA.bH
  ·rw[bqK _ (.inr (.inr (.inr rfl))),aA.aC (by omega)];exact aA.bH
  ·have:=hxX id hid
   rw[bqK _ (.inl hid),aA.aC (by omega),aA.aC (by omega),aA.aC (by omega),aA.aC (by omega)]
 have hfT:(iP c s (KQ c i s)).length≤3:=CQ afN aaW
 have hfW:(iP c (CW c i s) (xX c i (CW c i s))).length≤4:=CQ afN aaW
 refine F8 hb hs hi.1 hB0 (by simp) fun H1 nx1 nm1 hx1 hB1 hX1=> ?_
 obtain⟨b1,b2,boX,boY⟩:=hX0 hX1
 simp only[go_sem]
 repeat' first|apply bn1<;>(simp only[go_sem,b1,b2,boX])|fail
 refine GF hb (PH hb hs) hi.2.1 (hB1.mono (by omega)) (by simp;omega) fun H2 nx2 nm2 hx2 hB2 hX2=> ?_
 obtain⟨c1,c2,c3,c4⟩:=hX0 fun id hid=>(hX2 id hid).trans (hX1 id hid)
 simp only[go_sem]
 repeat' first|apply bn1<;>(simp only[go_sem,c1,c2,c3])|fail
 refine HT hb (PV hb hs) (hB2.mono (by omega)) fun H3 nx3 nm3 hx3 hB3 hX3=> ?_
 obtain⟨d1,d2,d3,bkS⟩:=hX0 fun id hid=>(hX3 id hid).trans ((hX2 id hid).trans (hX1 id hid))
 simp only[go_sem]
 repeat' first|apply bn1<;>(simp only[go_sem,d1,d2,d3])|fail
 refine HN hb (afG hb hs) hi.2.2 (hB3.mono (by omega)) (by simp;omega) fun bqL nx4 nm4 hx4 hB4 hX4=> ?_
 obtain⟨e1,e2,e3,e4⟩:=hX0 fun id hid=>(hX4 id hid).trans ((hX3 id hid).trans ((hX2 id hid).trans (hX1 id hid)))
 obtain⟨dv,ha1,ha2,ha3,ha4,hi1,hdv⟩:=hB4.hap.ex
 rw[←aoN] at hdv
 simp only[go_sem]
 repeat' first|apply bn1<;>(simp only[go_sem,t1,bqT,e1,e2,e3,hi1])|fail
 have hav:=hB4.rep.names.av
 have hlt4:=hB4.rep.names.lt
 have hi04:=hB4.rep.i0
 have hn0:i0≠nx+2:=by omega
 have hnk: ∀k,k<19→nm4 k≠nx+2:=fun k hk he=>hav k hk (.inl (.inr (.inr (.inr he))))
 have hXk: ∀id,X id→id<nx4+2∧id≠i0∧ ∀k,k<19→id≠nm4 k:=fun id hid=>⟨by have:=hxX id hid;omega,fun he=>hi04.2 (.inl (.inl (he▸hid))),fun k hk he=>hav k hk (.inl (.inl (he▸hid)))⟩
 have hcS:vF c i s=dR c (OI c i s) (MV c i (OI c i s)):=rfl
 rcases hdv with⟨he,rfl⟩|⟨ev,cap,rfl,⟨m,rows,v1,v2,aXN,v4,aXO,v6⟩,blW,blX,bnA⟩
 ·refine hQ _ _ _ _ _ (.inr rfl) (fZ rfl aA.bH rfl) ⟨boR [.isl ((TK c i s).map eEv),cI ha1,cI ha2,cI ha3,cI ha4],_,noF,by rw[he];simp only[List.map];repeat' first|exact bo2| (with_reducible first|exact bo4|apply bo5)| ((with_reducible apply bo0);first|exact bo9 rfl|exact bpE)| ((with_reducible apply bo1);apply bo6)|fail,aK,h _ _ nm4 _ _ _ _ (by omega) (hcS▸hB4.rep.frame (by omega) (aA.aC hn0) (fun k hk=>aA.aC (hnk k hk)) hXk) fun id hid=> ?_⟩
  have:=hxX id hid
  rw[aA.aC (by omega)];exact e4 id hid
 ·have hev2:ev≠nx+2:=fun he=>blX (.inl (.inr (.inr (.inr he))))
  have hev0:i0≠ev:=fun he=>blX (.inr (.inl he.symm))
  have hevk: ∀k,k<19→nm4 k≠ev:=fun k hk he=>blX (.inr (.inr ⟨k,hk,he.symm⟩))
  rw[bq5] at v2
  subst v2
  refine hQ _ _ _ _ _ (.inr rfl) (fZ rfl aA.bH rfl) ⟨boR [.isl ((TK c i s).map eEv),cI ha1,cI ha2,cI ha3,cI ha4],_,fun j=>j=ev,lY (aH (bW (F:=fun j=>j=ev) (m:=m) aq2 ((aA.aC hev2).trans v1) rfl (by omega) rfl) (aH (bB rfl) (aH (bB rfl) (aH (bB rfl) (aH (bB rfl) eP))))),PU,h _ _ nm4 _ _ _ _ (by omega) (hcS▸hB4.rep.frame (by omega) ((aA.jG hev0).trans (aA.aC hn0)) (fun k hk=>(aA.jG (hevk k hk)).trans (aA.aC (hnk k hk))) hXk) fun id hid=> ?_⟩
  have:=hxX id hid
  have hne:id≠ev:=fun he=>blX (.inl (.inl (he▸hid)))
  rw[aA.jG hne,aA.aC (by omega)];exact e4 id hid
theorem t6 (l:List fC) (hl:l.length<2^21):aB Tryz.prog eE [dS (l.map eCJ)] (hp []) 0
 fun r H' n'=>∃cap,l.length≤cap∧n'=1∧H'=hp [(0,⟨3,cap,l.map eCJ⟩)]∧r=boQ 3 0 l.length cap:=by
 refine sN rfl fun Q hQ=> ?_
 unfold gB
 refine aM.seq (aM.EJ 3 ?_)
 repeat' first|apply bn1<;>(simp only[go_sem])|refine bpI (fun h=> ?_) fun h=> ?_| (with_reducible first|refine fun(cap:Nat) (hcap:_≤cap)=> ?_|refine fun(hcp:_≤cap)=> ?_|refine fun(b:Bool)=> ?_)| ((refine bnF (fun h=> ?_) (fun h=> ?_))<;>try subst h)|refine⟨by omega,?_⟩|fail
 all_goals first
  | (have hcap':=m5 cap
     (refine hQ _ _ _ _ _ 1 (boQ 3 0 l.length cap) (hp [(0,⟨3,cap,l.map eCJ⟩)]) _ _ (.inr rfl) rfl (fU [6] (by omega) (by repeat' first|exact bo2| ((with_reducible apply bo0);exact bpB (by omega) rfl rfl (by rfl) rfl)| ((with_reducible apply bo1);apply bo7)|fail) ⟨⟨by simp,by simp[sgL],_,rfl,bP (aG yK _) rfl rfl⟩,trivial⟩ (by simp[sgL])) ?_)
     exact⟨cap,by omega,rfl,rfl,rfl⟩)
  | (have h0:l=[]:=CE (by omega)
     subst h0
     (refine hQ _ _ _ _ _ 1 (boQ 3 0 0 0) (hp [(0,⟨3,0,([]:List fC).map eCJ⟩)]) _ _ (.inr rfl) rfl (fU [0] (by omega) (by repeat' first|exact bo2| ((with_reducible apply bo0);exact bpA)| ((with_reducible apply bo1);apply bo7)|fail) ⟨⟨by simp,by simp[sgL],_,rfl,bP (aG yK _) rfl rfl⟩,trivial⟩ (by simp[sgL])) ?_)
     exact⟨0,m5 _,rfl,rfl,rfl⟩)
theorem tY {l:List fC} (hl:l.length<2^21) (h: ∀cap,l.length≤cap→K (boQ 3 nx l.length cap) (H.set nx ⟨3,cap,l.map eCJ⟩) (nx+1)):aB Tryz.prog eE [dS (l.map eCJ)] H nx K:=by
 refine(t6 l hl).AF (l0:=[]) [] rfl ⟨aE rfl,trivial⟩ trivial (by simp) (by simp) (by simp) fun r H' n' _ ⟨cap,bqB,q1,q2,q3⟩=> ?_
 have h:=h cap bqB
 subst q1;subst q2;subst q3
 have e1:back (tau 0 nx (nth [])) (hp [(0,⟨3,cap,l.map eCJ⟩)]) 1 H=H.set nx ⟨3,cap,l.map eCJ⟩:=by
  simp only[back,hp,aA.set,tau,bq2,if_true,if_false,Nat.sub_zero,Nat.add_zero,Option.map_some,XO,aA.eL]
 rw[←e1] at h
 exact h
theorem uX (l:List fC) (cap m:Nat) (hl:l.length<2^21) (hc:l.length≤cap):aB Tryz.prog eQ [boQ 3 0 l.length cap] (hp [(0,⟨3,m,l.map eCJ⟩)]) 1
 fun r H' n'=>n'=1∧ ∃o',H'=hp [(0,o')]∧C7 o'∧o'=⟨3,m,l.map eCJ⟩∧r=boQ 3 0 l.length l.length:=by
 refine uS rfl fun Q hQ=> ?_
 unfold gK
 repeat' first|apply bn1<;>(simp only[go_sem])|refine⟨by omega,?_⟩|fail
 exact lA hQ (boQ 3 0 l.length l.length) _ _ rfl (by repeat' first|exact bo2| ((with_reducible apply bo0);exact bpB (by omega) rfl rfl (by rfl) rfl)| ((with_reducible apply bo1);apply bo7)|fail) rfl (oB yK _) ⟨rfl,rfl⟩
theorem vQ {l:List fC} {cap m i:Nat} (hl:l.length<2^21) (hc:l.length≤cap) (hi:i<nx) (ho:H i=some ⟨3,m,l.map eCJ⟩) (h:K (boQ 3 i l.length l.length) (H.set i ⟨3,m,l.map eCJ⟩) nx):
 aB Tryz.prog eQ [boQ 3 i l.length cap] H nx K:=
 (uX l cap m hl hc).OU i rfl (gW ⟨qS (by omega) rfl rfl rfl rfl,trivial⟩) hi ho (oB yK _) fun r o' ⟨h1,h2⟩=>by
  subst h1;subst h2;exact h
theorem AI (l:List fC) (hl:l.length<2^21):aB Tryz.prog eK [dS (l.map eCJ)] (hp []) 0
 fun r H' n'=>∃cap,l.length≤cap∧n'=1∧H'=hp [(0,⟨3,cap,l.map eCJ⟩)]∧r=boQ 3 0 l.length l.length:=by
 refine y7 rfl fun Q hQ=> ?_
 unfold i9
 repeat' first| (first|apply bn1|refine tY hl (fun cap hcap=> ?_)|refine vQ hl hcap (by omega) rfl ?_)<;>(simp only[go_sem])|fail
 (refine hQ _ _ _ _ _ 1 (boQ 3 0 l.length l.length) (hp [(0,⟨3,cap,l.map eCJ⟩)]) _ _ (.inr rfl) rfl (fU [5] (by omega) (by repeat' first|exact bo2| ((with_reducible apply bo0);exact bpB (by omega) rfl rfl (by rfl) rfl)| ((with_reducible apply bo1);apply bo7)|fail) ⟨⟨by simp,by simp[sgL],_,rfl,bP (aG yK _) rfl rfl⟩,trivial⟩ (by simp[sgL])) ?_)
 exact⟨cap,hcap,rfl,rfl,rfl⟩
theorem oD {l:List fC} (hl:l.length<2^21) (h: ∀m,l.length≤m→K (boQ 3 nx l.length l.length) (H.set nx ⟨3,m,l.map eCJ⟩) (nx+1)):aB Tryz.prog eK [dS (l.map eCJ)] H nx K:=by
 refine(AI l hl).AF (l0:=[]) [] rfl ⟨aE rfl,trivial⟩ trivial (by simp) (by simp) (by simp) fun r H' n' _ ⟨cap,bqB,q1,q2,q3⟩=> ?_
 have h:=h cap bqB
 subst q1;subst q2;subst q3
 have e1:back (tau 0 nx (nth [])) (hp [(0,⟨3,cap,l.map eCJ⟩)]) 1 H=H.set nx ⟨3,cap,l.map eCJ⟩:=by
  simp only[back,hp,aA.set,tau,bq2,if_true,if_false,Nat.sub_zero,Nat.add_zero,Option.map_some,XO,aA.eL]
 rw[←e1] at h
 exact h
theorem VV {τ:Nat→Nat} {n m:Nat} {l:List fR}:bA.rn τ ⟨n,m,l.map cD⟩=⟨n,m,l.map cD⟩:=by
 refine rF fun r hr x hx=> ?_
 obtain⟨y,_,rfl⟩:=CF.1 hr
 exact w2.1 (t7 y).2 x hx
theorem r7 (l:List fR) (hl:l.length<2^21):aB Tryz.prog dL [dS (l.map cD)] (hp []) 0
 fun r H' n'=>∃cap,l.length≤cap∧n'=1∧H'=hp [(0,⟨4,cap,l.map cD⟩)]∧r=boQ 4 0 l.length cap:=by
 refine qV rfl fun Q hQ=> ?_
 unfold fN
 refine aM.seq (aM.EJ 4 ?_)
 repeat' first|apply bn1<;>(simp only[go_sem])|refine bpI (fun h=> ?_) fun h=> ?_| (with_reducible first|refine fun(cap:Nat) (hcap:_≤cap)=> ?_|refine fun(hcp:_≤cap)=> ?_|refine fun(b:Bool)=> ?_)| ((refine bnF (fun h=> ?_) (fun h=> ?_))<;>try subst h)|refine⟨by omega,?_⟩|fail
 all_goals first
  | (have hcap':=m5 cap
     (refine hQ _ _ _ _ _ 1 (boQ 4 0 l.length cap) (hp [(0,⟨4,cap,l.map cD⟩)]) _ _ (.inr rfl) rfl (fU [6] (by omega) (by repeat' first|exact bo2| ((with_reducible apply bo0);exact bpB (by omega) rfl rfl (by rfl) rfl)| ((with_reducible apply bo1);apply bo7)|fail) ⟨⟨by simp,by simp[sgL],_,rfl,bP (aG t7 _) rfl rfl⟩,trivial⟩ (by simp[sgL])) ?_)
     exact⟨cap,by omega,rfl,rfl,rfl⟩)
  | (have h0:l=[]:=CE (by omega)
     subst h0
     (refine hQ _ _ _ _ _ 1 (boQ 4 0 0 0) (hp [(0,⟨4,0,([]:List fR).map cD⟩)]) _ _ (.inr rfl) rfl (fU [0] (by omega) (by repeat' first|exact bo2| ((with_reducible apply bo0);exact bpA)| ((with_reducible apply bo1);apply bo7)|fail) ⟨⟨by simp,by simp[sgL],_,rfl,bP (aG t7 _) rfl rfl⟩,trivial⟩ (by simp[sgL])) ?_)
     exact⟨0,m5 _,rfl,rfl,rfl⟩)
theorem sC {l:List fR} (hl:l.length<2^21) (h: ∀cap,l.length≤cap→K (boQ 4 nx l.length cap) (H.set nx ⟨4,cap,l.map cD⟩) (nx+1)):aB Tryz.prog dL [dS (l.map cD)] H nx K:=by
 refine(r7 l hl).AF (l0:=[]) [] rfl ⟨aE rfl,trivial⟩ trivial (by simp) (by simp) (by simp) fun r H' n' _ ⟨cap,bqB,q1,q2,q3⟩=> ?_
 have h:=h cap bqB
 subst q1;subst q2;subst q3
 have e1:back (tau 0 nx (nth [])) (hp [(0,⟨4,cap,l.map cD⟩)]) 1 H=H.set nx ⟨4,cap,l.map cD⟩:=by
  simp only[back,hp,aA.set,tau,bq2,if_true,if_false,Nat.sub_zero,Nat.add_zero,Option.map_some,VV,aA.eL]
 rw[←e1] at h
 exact h
theorem tJ (l:List fR) (cap m:Nat) (hl:l.length<2^21) (hc:l.length≤cap):aB Tryz.prog dV [boQ 4 0 l.length cap] (hp [(0,⟨4,m,l.map cD⟩)]) 1
 fun r H' n'=>n'=1∧ ∃o',H'=hp [(0,o')]∧C7 o'∧o'=⟨4,m,l.map cD⟩∧r=boQ 4 0 l.length l.length:=by
 refine r9 rfl fun Q hQ=> ?_
 unfold fV
 repeat' first|apply bn1<;>(simp only[go_sem])|refine⟨by omega,?_⟩|fail
 exact lA hQ (boQ 4 0 l.length l.length) _ _ rfl (by repeat' first|exact bo2| ((with_reducible apply bo0);exact bpB (by omega) rfl rfl (by rfl) rfl)| ((with_reducible apply bo1);apply bo7)|fail) rfl (oB t7 _) ⟨rfl,rfl⟩
theorem sT {l:List fR} {cap m i:Nat} (hl:l.length<2^21) (hc:l.length≤cap) (hi:i<nx) (ho:H i=some ⟨4,m,l.map cD⟩) (h:K (boQ 4 i l.length l.length) (H.set i ⟨4,m,l.map cD⟩) nx):
 aB Tryz.prog dV [boQ 4 i l.length cap] H nx K:=
 (tJ l cap m hl hc).OU i rfl (gW ⟨qS (by omega) rfl rfl rfl rfl,trivial⟩) hi ho (oB t7 _) fun r o' ⟨h1,h2⟩=>by
  subst h1;subst h2;exact h
theorem yZ (l:List fR) (hl:l.length<2^21):aB Tryz.prog fY [dS (l.map cD)] (hp []) 0
 fun r H' n'=>∃cap,l.length≤cap∧n'=1∧H'=hp [(0,⟨4,cap,l.map cD⟩)]∧r=boQ 4 0 l.length l.length:=by
 refine yL rfl fun Q hQ=> ?_
 unfold iV
 repeat' first| (first|apply bn1|refine sC hl (fun cap hcap=> ?_)|refine sT hl hcap (by omega) rfl ?_)<;>(simp only[go_sem])|fail
 (refine hQ _ _ _ _ _ 1 (boQ 4 0 l.length l.length) (hp [(0,⟨4,cap,l.map cD⟩)]) _ _ (.inr rfl) rfl (fU [5] (by omega) (by repeat' first|exact bo2| ((with_reducible apply bo0);exact bpB (by omega) rfl rfl (by rfl) rfl)| ((with_reducible apply bo1);apply bo7)|fail) ⟨⟨by simp,by simp[sgL],_,rfl,bP (aG t7 _) rfl rfl⟩,trivial⟩ (by simp[sgL])) ?_)
 exact⟨cap,hcap,rfl,rfl,rfl⟩
theorem yX {l:List fR} (hl:l.length<2^21) (h: ∀m,l.length≤m→K (boQ 4 nx l.length l.length) (H.set nx ⟨4,m,l.map cD⟩) (nx+1)):aB Tryz.prog fY [dS (l.map cD)] H nx K:=by
 refine(yZ l hl).AF (l0:=[]) [] rfl ⟨aE rfl,trivial⟩ trivial (by simp) (by simp) (by simp) fun r H' n' _ ⟨cap,bqB,q1,q2,q3⟩=> ?_
 have h:=h cap bqB
 subst q1;subst q2;subst q3
 have e1:back (tau 0 nx (nth [])) (hp [(0,⟨4,cap,l.map cD⟩)]) 1 H=H.set nx ⟨4,cap,l.map cD⟩:=by
  simp only[back,hp,aA.set,tau,bq2,if_true,if_false,Nat.sub_zero,Nat.add_zero,Option.map_some,VV,aA.eL]
 rw[←e1] at h
 exact h
theorem ZC {τ:Nat→Nat} {n m:Nat} {l:List nY}:bA.rn τ ⟨n,m,l.map gF⟩=⟨n,m,l.map gF⟩:=by
 refine rF fun r hr x hx=> ?_
 obtain⟨y,_,rfl⟩:=CF.1 hr
 exact w2.1 (zJ y).2 x hx
theorem qB (l:List nY) (hl:l.length<2^21):aB Tryz.prog cZ [dS (l.map gF)] (hp []) 0
 fun r H' n'=>∃cap,l.length≤cap∧n'=1∧H'=hp [(0,⟨3,cap,l.map gF⟩)]∧r=boQ 3 0 l.length cap:=by
 refine oY rfl fun Q hQ=> ?_
 unfold eW
 refine aM.seq (aM.EJ 3 ?_)
 repeat' first|apply bn1<;>(simp only[go_sem])|refine bpI (fun h=> ?_) fun h=> ?_| (with_reducible first|refine fun(cap:Nat) (hcap:_≤cap)=> ?_|refine fun(hcp:_≤cap)=> ?_|refine fun(b:Bool)=> ?_)| ((refine bnF (fun h=> ?_) (fun h=> ?_))<;>try subst h)|refine⟨by omega,?_⟩|fail
 all_goals first
  | (have hcap':=m5 cap
     (refine hQ _ _ _ _ _ 1 (boQ 3 0 l.length cap) (hp [(0,⟨3,cap,l.map gF⟩)]) _ _ (.inr rfl) rfl (fU [6] (by omega) (by repeat' first|exact bo2| ((with_reducible apply bo0);exact bpB (by omega) rfl rfl (by rfl) rfl)| ((with_reducible apply bo1);apply bo7)|fail) ⟨⟨by simp,by simp[sgL],_,rfl,bP (aG zJ _) rfl rfl⟩,trivial⟩ (by simp[sgL])) ?_)
     exact⟨cap,by omega,rfl,rfl,rfl⟩)
  | (have h0:l=[]:=CE (by omega)
     subst h0
     (refine hQ _ _ _ _ _ 1 (boQ 3 0 0 0) (hp [(0,⟨3,0,([]:List nY).map gF⟩)]) _ _ (.inr rfl) rfl (fU [0] (by omega) (by repeat' first|exact bo2| ((with_reducible apply bo0);exact bpA)| ((with_reducible apply bo1);apply bo7)|fail) ⟨⟨by simp,by simp[sgL],_,rfl,bP (aG zJ _) rfl rfl⟩,trivial⟩ (by simp[sgL])) ?_)
     exact⟨0,m5 _,rfl,rfl,rfl⟩)
theorem qG {l:List nY} (hl:l.length<2^21) (h: ∀cap,l.length≤cap→K (boQ 3 nx l.length cap) (H.set nx ⟨3,cap,l.map gF⟩) (nx+1)):aB Tryz.prog cZ [dS (l.map gF)] H nx K:=by
 refine(qB l hl).AF (l0:=[]) [] rfl ⟨aE rfl,trivial⟩ trivial (by simp) (by simp) (by simp) fun r H' n' _ ⟨cap,bqB,q1,q2,q3⟩=> ?_
 have h:=h cap bqB
 subst q1;subst q2;subst q3
 have e1:back (tau 0 nx (nth [])) (hp [(0,⟨3,cap,l.map gF⟩)]) 1 H=H.set nx ⟨3,cap,l.map gF⟩:=by
  simp only[back,hp,aA.set,tau,bq2,if_true,if_false,Nat.sub_zero,Nat.add_zero,Option.map_some,ZC,aA.eL]
 rw[←e1] at h
 exact h
theorem rJ (l:List nY) (cap m:Nat) (hl:l.length<2^21) (hc:l.length≤cap):aB Tryz.prog dE [boQ 3 0 l.length cap] (hp [(0,⟨3,m,l.map gF⟩)]) 1
 fun r H' n'=>n'=1∧ ∃o',H'=hp [(0,o')]∧C7 o'∧o'=⟨3,m,l.map gF⟩∧r=boQ 3 0 l.length l.length:=by
 refine qF rfl fun Q hQ=> ?_
 unfold fG
 repeat' first|apply bn1<;>(simp only[go_sem])|refine⟨by omega,?_⟩|fail
 exact lA hQ (boQ 3 0 l.length l.length) _ _ rfl (by repeat' first|exact bo2| ((with_reducible apply bo0);exact bpB (by omega) rfl rfl (by rfl) rfl)| ((with_reducible apply bo1);apply bo7)|fail) rfl (oB zJ _) ⟨rfl,rfl⟩
theorem qZ {l:List nY} {cap m i:Nat} (hl:l.length<2^21) (hc:l.length≤cap) (hi:i<nx) (ho:H i=some ⟨3,m,l.map gF⟩) (h:K (boQ 3 i l.length l.length) (H.set i ⟨3,m,l.map gF⟩) nx):
 aB Tryz.prog dE [boQ 3 i l.length cap] H nx K:=
 (rJ l cap m hl hc).OU i rfl (gW ⟨qS (by omega) rfl rfl rfl rfl,trivial⟩) hi ho (oB zJ _) fun r o' ⟨h1,h2⟩=>by
  subst h1;subst h2;exact h
theorem yJ (l:List nY) (hl:l.length<2^21):aB Tryz.prog fM [dS (l.map gF)] (hp []) 0
 fun r H' n'=>∃cap,l.length≤cap∧n'=1∧H'=hp [(0,⟨3,cap,l.map gF⟩)]∧r=boQ 3 0 l.length l.length:=by
 refine wE rfl fun Q hQ=> ?_
 unfold iB
 repeat' first| (first|apply bn1|refine qG hl (fun cap hcap=> ?_)|refine qZ hl hcap (by omega) rfl ?_)<;>(simp only[go_sem])|fail
 (refine hQ _ _ _ _ _ 1 (boQ 3 0 l.length l.length) (hp [(0,⟨3,cap,l.map gF⟩)]) _ _ (.inr rfl) rfl (fU [5] (by omega) (by repeat' first|exact bo2| ((with_reducible apply bo0);exact bpB (by omega) rfl rfl (by rfl) rfl)| ((with_reducible apply bo1);apply bo7)|fail) ⟨⟨by simp,by simp[sgL],_,rfl,bP (aG zJ _) rfl rfl⟩,trivial⟩ (by simp[sgL])) ?_)
 exact⟨cap,hcap,rfl,rfl,rfl⟩
theorem xA {l:List nY} (hl:l.length<2^21) (h: ∀m,l.length≤m→K (boQ 3 nx l.length l.length) (H.set nx ⟨3,m,l.map gF⟩) (nx+1)):aB Tryz.prog fM [dS (l.map gF)] H nx K:=by
 refine(yJ l hl).AF (l0:=[]) [] rfl ⟨aE rfl,trivial⟩ trivial (by simp) (by simp) (by simp) fun r H' n' _ ⟨cap,bqB,q1,q2,q3⟩=> ?_
 have h:=h cap bqB
 subst q1;subst q2;subst q3
 have e1:back (tau 0 nx (nth [])) (hp [(0,⟨3,cap,l.map gF⟩)]) 1 H=H.set nx ⟨3,cap,l.map gF⟩:=by
  simp only[back,hp,aA.set,tau,bq2,if_true,if_false,Nat.sub_zero,Nat.add_zero,Option.map_some,ZC,aA.eL]
 rw[←e1] at h
 exact h
end
theorem BJ:cJ Tryz.prog cV Tryz.f117 kM pR:=cJ.mk Tryz.func117 (by kernel_rfl) AZ
end Go.Proofs.YtmccpdapaccnoaaGreat
namespace Go.AM
structure Part (A:Nat→Prop) (lo hi:Nat) (nm:Nat→Nat):Prop where
 inj: ∀j k,A j→A k→nm j=nm k→j=k
 rng: ∀k,A k→lo≤nm k∧nm k<hi
theorem Part.mono {A:Nat→Prop} {lo hi hi':Nat} {nm:Nat→Nat} (h:Part A lo hi nm) (hh:hi≤hi'):Part A lo hi' nm:=⟨h.inj,fun k hk=>by have:=h.rng k hk;omega⟩
theorem Part.put {A B:Nat→Prop} {lo hi hi' k v:Nat} {nm:Nat→Nat} (h:Part A lo hi nm) (h0:lo≤hi) (h1:hi≤v) (h2:v<hi') (hB: ∀j,B j→A j∧j≠k∨j=k):Part B lo hi' (put nm k v):=by
 refine⟨fun i j hi hj he=> ?_,fun j hj=> ?_⟩
 ·rcases hB i hi with⟨az9,az2⟩|rfl<;>rcases hB j hj with⟨b1,b2⟩|rfl
  ·rw[jE az2,jE b2] at he;exact h.inj i j az9 b1 he
  ·rw[jE az2,t8] at he;have:=h.rng i az9;omega
  ·rw[jE b2,t8] at he;have:=h.rng j b1;omega
  ·rfl
 ·rcases hB j hj with⟨az9,az2⟩|rfl
  ·rw[jE az2];have:=h.rng j az9;omega
  ·rw[t8];omega
structure CSz (s:CSt):Prop where
 pl:s.bM.length=3
 sl:s.dD.length=4
 w:s.words.length<2^21
 h:s.holds.length<2^21
 t:s.told.length<2^21∧ ∀j∈s.told,j.rsp.data.length<2^21
 port: ∀k,k<3→(aF s k).queue.length<2^21∧(aF s k).out.length<2^21
 slv: ∀k,k<4→(aL s k).pipe.length<2^21∧(aL s k).done.length<2^21∧ ∀j∈(aL s k).done,j.rsp.data.length<2^21
theorem aM.TF {P:Program} {T:Nat} {e:Env} {H:aA} {nx:Nat} {Q:AQ} {zs:List AC} (h: ∀G,G=H→aM P T zs e G nx Q):aM P T zs e H nx Q:=h H rfl
def asA (k:Nat) (H:aA) (nm:Nat→Nat) (s:CSt) (rows:List (List D1)):Prop:=
 rows.length=3∧(∀j,j<k→∃r,rows[j]?=some r∧CX H (nm (5+j)) (nm (8+j)) (aF s j) r)∧ ∀j,k≤j→j<3→rows[j]?=some (cD (aF s j))
def asP (k:Nat) (H:aA) (nm:Nat→Nat) (s:CSt) (rows:List (List D1)):Prop:=
 rows.length=4∧(∀j,j<k→∃r,rows[j]?=some r∧LJ H (nm (11+j)) (nm (15+j)) (aL s j) r)∧ ∀j,k≤j→j<4→rows[j]?=some (gF (aL s j))
end Go.AM
namespace Go.Proofs.YtmccpdapaccnoaaGreat
open Go Go.AM
attribute [local irreducible] aM wv aB vd wvH
section
variable {H : aA} {nx : Nat} {K : D → aA → Nat → Prop}
theorem fJ {s:CSt} (hs:CSz s)
 (h: ∀H' nx' nm cells,nx≤nx'→abY H' nm s cells→Part (fun k=>k<19) nx nx' nm→(∀id,id<nx→H' id=H id)→K (.one (.agg cells)) H' nx'):
 aB Tryz.prog cV [boR (eI s)] H nx K:=by
 have hpl:=hs.pl
 have hsl:=hs.sl
 refine BJ rfl fun Q hQ=> ?_
 unfold kM
 refine aM.BW fun hnm=> ?_
 have hmk: ∀k l,msk (nx+k) l H=H:=fun k l=>BV hnm (by omega)
 repeat' first| (first|apply bn1|refine qN (w:=s.words) (u:=s.holds) hs.w hs.h (fun m0 m1 hm0 hm1=> ?_)|refine yX (l:=s.bM) (by omega) (fun bp3 hm2=> ?_)|refine xA (l:=s.dD) (by omega) (fun bqM hm3=> ?_)|refine gY (l:=s.told) hs.t.1 hs.t.2 (fun bqN hm4=> ?_))<;>(simp only[go_sem,boC,hmk,umS (G:=H),umD (G:=H),umB,msk,List.map,t3,bq7,or_false,hpl,hsl])|fail
 refine aM.TF fun bqO hG0=> ?_
 have c0:bqO nx=some ⟨5,1,[eI s]⟩:=by rw[hG0];simp only[aA.set,bqU,Nat.reduceEqDiff,bqV,bqT,if_false,if_true]
 have c1:bqO (nx+1)=some ⟨5,1,[[.osl 0 0 0 0 0,.osl 0 0 0 0 0,.osl 0 0 0 0 0,.osl 0 0 0 0 0,.osl 0 0 0 0 0]]⟩:=by rw[hG0];simp only[aA.set,bqU,Nat.reduceEqDiff,bqV,bqT,if_false,if_true]
 have c15:bqO (nx+15)=some ⟨5,1,[[.osl 1 (nx+17) 0 s.words.length s.words.length,.osl 1 (nx+18) 0 s.holds.length s.holds.length,.osl 4 (nx+19) 0 3 3,.osl 3 (nx+20) 0 4 4,.osl 5 (nx+21) 0 s.told.length s.told.length]]⟩:=by rw[hG0];simp only[aA.set,bqU,Nat.reduceEqDiff,bqV,bqT,if_false,if_true]
 have c17:bqO (nx+17)=some ⟨1,m0,s.words.map aJ⟩:=by rw[hG0];simp only[aA.set,bqU,Nat.reduceEqDiff,bqV,bqT,if_false,if_true]
 have c18:bqO (nx+18)=some ⟨1,m1,s.holds.map aJ⟩:=by rw[hG0];simp only[aA.set,bqU,Nat.reduceEqDiff,bqV,bqT,if_false,if_true]
 have c19:bqO (nx+19)=some ⟨4,bp3,s.bM.map cD⟩:=by rw[hG0];simp only[aA.set,bqU,Nat.reduceEqDiff,bqV,bqT,if_false,if_true]
 have c20:bqO (nx+20)=some ⟨3,bqM,s.dD.map gF⟩:=by rw[hG0];simp only[aA.set,bqU,Nat.reduceEqDiff,bqV,bqT,if_false,if_true]
 have c21:bqO (nx+21)=some ⟨5,bqN,s.told.map aS⟩:=by rw[hG0];simp only[aA.set,bqU,Nat.reduceEqDiff,bqV,bqT,if_false,if_true]
 have cfr: ∀id,id<nx→bqO id=H id:=fun id hid=>by
  rw[hG0];simp only[aA.set,show ¬id=nx by omega,show ¬id=nx+1 by omega,show ¬id=nx+15 by omega,show ¬id=nx+17 by omega,show ¬id=nx+18 by omega,show ¬id=nx+19 by omega,show ¬id=nx+20 by omega,show ¬id=nx+21 by omega,if_false]
 clear hG0
 refine aM.gP (β:=Nat×(Nat→Nat)) (fun u=>en [(24,boP u.1),(23,boP 3),(22,dS (s.bM.map cD)),(3,.one (.c (.ptr 5 (nx+15) 0 0))),(2,.one (.c (.ptr 5 (nx+1) 0 0))),(1,.one (.c (.ptr 5 nx 0 0)))])
  (fun u H1 nx1=>u.1≤3∧(∀j,j<5→u.2 j=nx+17+j)∧Part (fun j=>j<5∨(5≤j∧j<5+u.1)∨(8≤j∧j<8+u.1)) (nx+17) nx1 u.2∧(∀id,id<nx+22→id≠nx+19→H1 id=bqO id)∧ ∃rows,H1 (nx+19)=some ⟨4,bp3,rows⟩∧asA u.1 H1 u.2 s rows)
  (fun u=>3-u.1) (0,fun j=>nx+17+j) ⟨noF,_,by repeat' first|exact bo2|refine xqI rfl rfl ?_|refine xqP (by omega) rfl rfl ?_|fail,aK,by dsimp only;omega,fun _ _=>rfl,⟨fun j k _ _ he=>by dsimp only at he;omega,fun j hj=>by dsimp only at hj ⊢;omega⟩,fun _ _ _=>rfl,_,c19,by simpa using hpl,fun j hj=>by dsimp only at hj;omega,fun j _ hj=>by rw[p0];simp[aF,List.getD,show j<s.bM.length by omega]⟩ ?_
 rintro⟨k,nm⟩ H1 nx1 hnx ⟨hk,hn5,boS,hfr,rows,g19,hR1,hR2,hR3⟩ bpQ hKL
 dsimp only at hk hn5 boS hR2 hR3
 have bqC:H1 nx=some ⟨5,1,[eI s]⟩:=by rw[hfr _ (by omega) (by omega)];exact c0
 have g15:H1 (nx+15)=some ⟨5,1,[[.osl 1 (nx+17) 0 s.words.length s.words.length,.osl 1 (nx+18) 0 s.holds.length s.holds.length,.osl 4 (nx+19) 0 3 3,.osl 3 (nx+20) 0 4 4,.osl 5 (nx+21) 0 s.told.length s.told.length]]⟩:=by rw[hfr _ (by omega) (by omega)];exact c15
 have hA:bQ nx1 [nx,nx+1,nx+15,nx+19,nx+20]:=AM.apart (by simp) (by simp;omega)
 simp only[bQ,eZ] at hA
 by_cases hlt:k<3
 ·obtain⟨p,hpd⟩: ∃p,p=aF s k:=⟨_,rfl⟩
  have hpd':s.bM.getD k default=p:=hpd.symm
  obtain⟨hq,ho⟩:=hs.port k hlt
  rw[←hpd] at hq ho
  have hgk: ∀r,(rows.set k r)[k]?=some r:=fun r=>by rw[bqZ (by omega)]
  have hrk:=hR3 k (m5 _) hlt
  rw[←hpd] at hrk
  refine aM.BW fun hnm1=> ?_
  have hmk1: ∀k l,msk (nx1+k) l H1=H1:=fun k l=>BV hnm1 (by omega)
  repeat' first| (first|apply bn1|refine kH (l:=p.queue) hq (fun mq hmq=> ?_)|refine oD (l:=p.out) ho (fun mo hmo=> ?_))<;>(simp only[go_sem,boC,hmk1,umS (G:=H1),umD (G:=H1),umB,msk,List.map,t3,bq7,or_false,hpd',hgk,hrk,bq1,bqC,g15,g19,hA];try simp (disch:=omega) only[Iw])|apply bn2 (by omega)|refine⟨by omega,?_⟩|fail
  have hq19: ∀j,j<5∨(5≤j∧j<5+k)∨(8≤j∧j<8+k)→j≠2→nm j≠nx+19:=fun j hj h2 he=>h2 (boS.inj j 2 hj (.inl (by omega)) (by rw[he,hn5 2 (by omega)]))
  refine hKL _ _ _ (k+1,put (put nm (5+k) (nx1+25)) (8+k) (nx1+26)) noF _ (by omega) (by dsimp only;omega) (by repeat' first|exact bo2|refine xqI rfl rfl ?_|refine xqP (by omega) rfl rfl ?_|fail) aK ⟨by dsimp only;omega,fun j hj=> ?_,?_,fun id boU e1=> ?_,_,aA.bH,?_,fun j hj=> ?_,fun j h1 h2=> ?_⟩
  ·dsimp only;rw[jE (by omega),jE (by omega)];exact hn5 j hj
  ·exact(boS.put (B:=fun j=>j<5∨(5≤j∧j<5+(k+1))∨(8≤j∧j<8+k)) (hi':=nx1+26) (by omega) (by omega) (by omega) (fun j hj=>by first|omega| (dsimp only at*;omega))).put (by omega) (by omega) (by omega) (fun j hj=>by first|omega| (dsimp only at*;omega))
  ·rw[aA.aC e1,aA.aC (by omega),aA.aC (by omega),aA.aC (by omega)];exact hfr id boU e1
  ·rw[Y5];exact hR1
  ·dsimp only at hj ⊢
   by_cases hjk:j=k
   ·subst hjk
    refine⟨_,hgk _,⟨0,p.queue.length,p.out.length,?_,?_,?_⟩⟩
    ·rw[jE (by omega),t8,t8,←hpd];rfl
    ·rw[jE (by omega),t8,←hpd]
     exact⟨mq,p.queue.map aJ,by rw[aA.aC (by omega),aA.aC (by omega)];exact aA.bH,rfl,by simp,by simp,m5 _,by omega⟩
    ·rw[t8,←hpd]
     exact⟨mo,p.out.map eCJ,by rw[aA.aC (by omega)];exact aA.bH,rfl,by simp,by simp,m5 _,by omega⟩
   ·obtain⟨r,h1,h2⟩:=hR2 j (by omega)
    have aAA:=boS.rng (5+j) (.inr (.inl ⟨by omega,by omega⟩))
    have aAB:=boS.rng (8+j) (.inr (.inr ⟨by omega,by omega⟩))
    refine⟨r,by rw[bq0 (by omega)];exact h1,?_⟩
    rw[jE (show 5+j≠8+k by omega),jE (show 5+j≠5+k by omega),jE (show 8+j≠8+k by omega),jE (show 8+j≠5+k by omega)]
    apply h2.frame
    ·rw[aA.aC (hq19 _ (.inr (.inl ⟨by omega,by omega⟩)) (by omega)),aA.aC (by omega),aA.aC (by omega),aA.aC (by omega)]
    ·rw[aA.aC (hq19 _ (.inr (.inr ⟨by omega,by omega⟩)) (by omega)),aA.aC (by omega),aA.aC (by omega),aA.aC (by omega)]
  ·dsimp only at h1 ⊢
   rw[bq0 (by omega)];exact hR3 j (by omega) h2
 ·repeat' first|apply bn1<;>(simp only[go_sem,bqC])|apply bn3 (by omega)|fail
  have hk3:k=3:=by omega
  subst hk3
  have g20:H1 (nx+20)=some ⟨3,bqM,s.dD.map gF⟩:=by rw[hfr _ (by omega) (by omega)];exact c20
  refine aM.gP (β:=Nat×(Nat→Nat)) (fun u=>en [(49,boP u.1),(48,boP 4),(47,dS (s.dD.map gF)),(3,.one (.c (.ptr 5 (nx+15) 0 0))),(2,.one (.c (.ptr 5 (nx+1) 0 0)))])
   (fun u H2 nx2=>u.1≤4∧(∀j,j<11→u.2 j=nm j)∧Part (fun j=>j<11∨(11≤j∧j<11+u.1)∨(15≤j∧j<15+u.1)) (nx+17) nx2 u.2∧(∀id,id<nx1→id≠nx+20→H2 id=H1 id)∧ ∃rv,H2 (nx+20)=some ⟨3,bqM,rv⟩∧asP u.1 H2 u.2 s rv)
   (fun u=>4-u.1) (0,nm) ⟨noF,_,by repeat' first|exact bo2|refine xqI rfl rfl ?_|refine xqP (by omega) rfl rfl ?_|refine xqV rfl (by omega) ?_|fail,aK,by dsimp only;omega,fun _ _=>rfl,⟨fun j k hj hk he=>boS.inj j k (by first|omega| (dsimp only at*;omega)) (by first|omega| (dsimp only at*;omega)) he,fun j hj=>by have:=boS.rng j (by first|omega| (dsimp only at*;omega));first|omega| (dsimp only at*;omega)⟩,fun _ _ _=>rfl,_,g20,by simpa using hsl,fun j hj=>by dsimp only at hj;omega,fun j _ hj=>by rw[p0];simp[aL,List.getD,show j<s.dD.length by omega]⟩ ?_
  rintro⟨k,nm2⟩ H2 nx2 hnx2 ⟨hk,hn11,hP2,hfr2,rv,f20,hV1,hV2,hV3⟩ bqG hKM
  dsimp only at hk hn11 hP2 hV2 hV3
  have f15:H2 (nx+15)=some ⟨5,1,[[.osl 1 (nx+17) 0 s.words.length s.words.length,.osl 1 (nx+18) 0 s.holds.length s.holds.length,.osl 4 (nx+19) 0 3 3,.osl 3 (nx+20) 0 4 4,.osl 5 (nx+21) 0 s.told.length s.told.length]]⟩:=by rw[hfr2 _ (by omega) (by omega)];exact g15
  have bpR:H2 (nx+1)=some ⟨5,1,[[.osl 0 0 0 0 0,.osl 0 0 0 0 0,.osl 0 0 0 0 0,.osl 0 0 0 0 0,.osl 0 0 0 0 0]]⟩:=by rw[hfr2 _ (by omega) (by omega),hfr _ (by omega) (by omega)];exact c1
  have hA2:bQ nx2 [nx,nx+1,nx+15,nx+19,nx+20]:=AM.apart (by simp) (by simp;omega)
  simp only[bQ,eZ] at hA2
  have hn3:nm2 3=nx+20:=by rw[hn11 3 (by omega),hn5 3 (by omega)]
  by_cases hlt:k<4
  ·obtain⟨v,hvd⟩: ∃v,v=aL s k:=⟨_,rfl⟩
   have hvd':s.dD.getD k default=v:=hvd.symm
   obtain⟨hq,ho,ho2⟩:=hs.slv k hlt
   rw[←hvd] at hq ho ho2
   have hgk: ∀r,(rv.set k r)[k]?=some r:=fun r=>by rw[bqZ (by omega)]
   have hrk:=hV3 k (m5 _) hlt
   rw[←hvd] at hrk
   refine aM.BW fun hnm1=> ?_
   have hmk1: ∀k l,msk (nx2+k) l H2=H2:=fun k l=>BV hnm1 (by omega)
   repeat' first| (first|apply bn1|refine oD (l:=v.pipe) hq (fun mq hmq=> ?_)|refine gY (l:=v.done) ho ho2 (fun mo hmo=> ?_))<;>(simp only[go_sem,boC,hmk1,umS (G:=H2),umD (G:=H2),umB,msk,List.map,t3,bq7,or_false,hvd',hgk,hrk,bq1,f15,f20,hA2];try simp (disch:=omega) only[Iw])|apply bn2 (by omega)|refine⟨by omega,?_⟩|fail
   have hq20: ∀j,j<11∨(11≤j∧j<11+k)∨(15≤j∧j<15+k)→j≠3→nm2 j≠nx+20:=fun j hj h2 he=>h2 (hP2.inj j 3 hj (.inl (by omega)) (by rw[he,hn3]))
   refine hKM _ _ _ (k+1,put (put nm2 (11+k) (nx2+25)) (15+k) (nx2+26)) noF _ (by omega) (by dsimp only;omega) (by repeat' first|exact bo2|refine xqI rfl rfl ?_|refine xqP (by omega) rfl rfl ?_|fail) aK ⟨by dsimp only;omega,fun j hj=> ?_,?_,fun id boU e1=> ?_,_,aA.bH,?_,fun j hj=> ?_,fun j h1 h2=> ?_⟩
   ·dsimp only;rw[jE (by omega),jE (by omega)];exact hn11 j hj
   ·exact(hP2.put (B:=fun j=>j<11∨(11≤j∧j<11+(k+1))∨(15≤j∧j<15+k)) (hi':=nx2+26) (by omega) (by omega) (by omega) (fun j hj=>by first|omega| (dsimp only at*;omega))).put (by omega) (by omega) (by omega) (fun j hj=>by first|omega| (dsimp only at*;omega))
   ·rw[aA.aC e1,aA.aC (by omega),aA.aC (by omega),aA.aC (by omega)];exact hfr2 id boU e1
   ·rw[Y5];exact hV1
   ·dsimp only at hj ⊢
    by_cases hjk:j=k
    ·subst hjk
     refine⟨_,hgk _,⟨0,v.pipe.length,0,v.done.length,?_,?_,?_⟩⟩
     ·rw[jE (by omega),t8,t8,←hvd];rfl
     ·rw[jE (by omega),t8,←hvd]
      exact⟨mq,v.pipe.map eCJ,by rw[aA.aC (by omega),aA.aC (by omega)];exact aA.bH,rfl,by simp,by simp,m5 _,by omega⟩
     ·rw[t8,←hvd]
      exact⟨mo,v.done.map aS,by rw[aA.aC (by omega)];exact aA.bH,rfl,by simp,by simp,m5 _,by omega⟩
    ·obtain⟨r,h1,h2⟩:=hV2 j (by omega)
     have aAA:=hP2.rng (11+j) (.inr (.inl ⟨by omega,by omega⟩))
     have aAB:=hP2.rng (15+j) (.inr (.inr ⟨by omega,by omega⟩))
     refine⟨r,by rw[bq0 (by omega)];exact h1,?_⟩
     rw[jE (show 11+j≠15+k by omega),jE (show 11+j≠11+k by omega),jE (show 15+j≠15+k by omega),jE (show 15+j≠11+k by omega)]
     apply h2.frame
     ·rw[aA.aC (hq20 _ (.inr (.inl ⟨by omega,by omega⟩)) (by omega)),aA.aC (by omega),aA.aC (by omega),aA.aC (by omega)]
     ·rw[aA.aC (hq20 _ (.inr (.inr ⟨by omega,by omega⟩)) (by omega)),aA.aC (by omega),aA.aC (by omega),aA.aC (by omega)]
   ·dsimp only at h1 ⊢
    rw[bq0 (by omega)];exact hV3 j (by omega) h2
  ·repeat' first|apply bn1<;>(simp only[go_sem,f15,bpR,hA2])|apply bn3 (by omega)|fail
   have hk4:k=4:=by omega
   subst hk4
   have boU: ∀j,j<5→nm2 j=nx+17+j:=fun j hj=>(hn11 j (by omega)).trans (hn5 j hj)
   have hrd: ∀id,id<nx+22→id≠nx+1→id≠nx+19→id≠nx+20→(H2.set (nx+1) ⟨5,1,[[.osl 1 (nx+17) 0 s.words.length s.words.length,.osl 1 (nx+18) 0 s.holds.length s.holds.length,.osl 4 (nx+19) 0 3 3,.osl 3 (nx+20) 0 4 4,.osl 5 (nx+21) 0 s.told.length s.told.length]]⟩) id=bqO id:=fun id h1 h2 h3 h4=>by
    rw[aA.aC h2,hfr2 id (by omega) h4,hfr id h1 h3]
   have hge: ∀j,j<19→nx+17≤nm2 j:=fun j hj=>(hP2.rng j (by first|omega| (dsimp only;omega))).1
   refine hQ _ _ _ _ _ (.inr rfl) (fZ rfl aA.bH rfl) (h _ _ nm2 _ (by omega) ⟨⟨s.words.length,s.holds.length,3,4,s.told.length,?_,?_,?_,?_,m5 _,m5 _⟩,⟨bp3,rows,?_,hR1,fun j hj=> ?_⟩,⟨bqM,rv,?_,hV1,fun j hj=> ?_⟩⟩ ⟨fun j k hj hk he=>hP2.inj j k (by first|omega| (dsimp only;omega)) (by first|omega| (dsimp only;omega)) he,fun j hj=>by have:=hP2.rng j (by first|omega| (dsimp only;omega));omega⟩ fun id hid=> ?_)
   ·rw[U2,boU 0 (by omega),boU 1 (by omega),boU 2 (by omega),boU 3 (by omega),boU 4 (by omega)]
   ·rw[boU 0 (by omega)]
    exact⟨m0,s.words.map aJ,(hrd _ (by omega) (by omega) (by omega) (by omega)).trans c17,rfl,by simp,by simp,m5 _,by omega⟩
   ·rw[boU 1 (by omega)]
    exact⟨m1,s.holds.map aJ,(hrd _ (by omega) (by omega) (by omega) (by omega)).trans c18,rfl,by simp,by simp,m5 _,by omega⟩
   ·rw[boU 4 (by omega)]
    exact⟨bqN,s.told.map aS,(hrd _ (by omega) (by omega) (by omega) (by omega)).trans c21,rfl,by simp,by simp,m5 _,by omega⟩
   ·rw[boU 2 (by omega),aA.aC (by omega),hfr2 _ (by omega) (by omega)];exact g19
   ·obtain⟨r,h1,h2⟩:=hR2 j hj
    have aAA:=boS.rng (5+j) (.inr (.inl ⟨by omega,by omega⟩))
    have aAB:=boS.rng (8+j) (.inr (.inr ⟨by omega,by omega⟩))
    have boZ:nm2 (5+j)≠nx+20:=fun he=>by
     have:=hP2.inj (5+j) 3 (.inl (by omega)) (.inl (by omega)) (by rw[he,hn3]);omega
    have bnB:nm2 (8+j)≠nx+20:=fun he=>by
     have:=hP2.inj (8+j) 3 (.inl (by omega)) (.inl (by omega)) (by rw[he,hn3]);omega
    rw[hn11 _ (by omega)] at boZ bnB
    refine⟨r,h1,?_⟩
    rw[hn11 _ (by omega),hn11 _ (by omega)]
    exact h2.frame (by rw[aA.aC (by omega),hfr2 _ (by omega) boZ]) (by rw[aA.aC (by omega),hfr2 _ (by omega) bnB])
   ·rw[hn3,aA.aC (by omega)];exact f20
   ·obtain⟨r,h1,h2⟩:=hV2 j hj
    exact⟨r,h1,h2.frame (aA.aC (by have:=hge (11+j) (by omega);omega)) (aA.aC (by have:=hge (15+j) (by omega);omega))⟩
   ·rw[hrd id (by omega) (by omega) (by omega) (by omega)];exact cfr id hid
end
end Go.Proofs.YtmccpdapaccnoaaGreat
namespace Go.AM
theorem IW {p:Job→Bool}: ∀{A B:List Job},(∀a∈A,p a=false)→(∀b∈B,p b=true)→(A++B).findIdx p=A.length
 | [],[],_,_=>rfl
 | [],b::B,_,hB=>by
   rw[List.nil_append,List.findIdx_cons,hB b (by simp)];rfl
 |a::A,B,hA,hB=>by
  rw[List.cons_append,List.findIdx_cons,hA a (by simp)]
  simp only[cond_false,List.length_cons]
  rw[IW (fun x hx=>hA x (bq9 _ hx)) hB]
theorem abS{A B:List Job}{x:Job} (hA: ∀a∈A,uL x a=false) (hB: ∀b∈B,uL x b=true):BM (A++B) x=A++x::B:=by
 unfold BM
 rw[IW hA hB,List.take_left',List.drop_left']
 ·rfl
 ·rfl
def A5 (l:List Job) (k:Nat):List Job:=jX (l.take k)
variable{l:List Job}
theorem ahI{k:Nat} (hk:k≤l.length):(A5 l k).length=k:=by
 unfold A5;rw[(fH _).length_eq,CG];omega
theorem ac8{k:Nat} (hk:k<l.length):A5 l (k+1)=BM (A5 l k) (l.getD k default):=by
 unfold A5 jX
 rw[nK hk,List.foldl_append];rfl
theorem ah3:A5 l 1=l.take 1:=by
 cases l with
 |nil=>rfl
 |cons x l=>rfl
theorem aiE:A5 l l.length=jX l:=by unfold A5;rw[bq4]
def MS (S:List Job) (x:Job) (j:Nat):List Job:=S.take j++x::S.drop j
variable{S:List Job}
theorem amF{x:Job}{j:Nat} (_:j≤S.length):(MS S x j).length=S.length+1:=by
 unfold MS;simp;omega
theorem ah1{R:List Job}{x:Job}{j:Nat} (h0:0<j) (hj:j≤S.length):((MS S x j++R).set j (S.getD (j-1) default)).set (j-1) x=MS S x (j-1)++R:=by
 have h1:S.take j=S.take (j-1)++[S.getD (j-1) default]:=by
  have:=nK (l:=S) (k:=j-1) (by omega)
  rwa [show j-1+1=j by omega] at this
 have h2:S.drop (j-1)=S.getD (j-1) default::S.drop j:=by
  have:=brB (l:=S) (i:=j-1) (by omega)
  rw[this,show j-1+1=j by omega];simp[List.getD,show j-1<S.length by omega]
 have hl:(S.take (j-1)).length=j-1:=by simp;omega
 unfold MS
 rw[h1,h2]
 generalize S.take (j-1)=A at*
 generalize S.drop j=B
 generalize S.getD (j-1) default=y
 simp only[C0,List.cons_append,List.nil_append,List.singleton_append]
 obtain rfl:j=A.length+1:=by omega
 rw[List.set_append_right _ _ (by omega)]
 simp
theorem anT{R:List Job}{x:Job}{j:Nat} (hj:j≤S.length):(MS S x j++R).getD j default=x:=by
 have hl:(S.take j).length=j:=by simp;omega
 unfold MS
 simp[List.getD,hl,C0,brX]
theorem adY{R:List Job}{x:Job}{j:Nat} (h0:0<j) (hj:j≤S.length):(MS S x j++R).getD (j-1) default=S.getD (j-1) default:=by
 unfold MS
 simp only[List.getD,C0]
 rw[brO (by simp;omega),List.getElem?_take_of_lt (by omega)]
end Go.AM
namespace Go.Proofs.YtmccpdapaccnoaaGreat
open Go Go.AM
attribute [local irreducible] aM wv aB vd wvH
theorem mY:cJ Tryz.prog cL Tryz.f285 dU gU:=cJ.mk Tryz.func285 (by kernel_rfl) m9
theorem tL:cJ Tryz.prog gL Tryz.f220 gA kJ:=cJ.mk Tryz.func220 (by kernel_rfl) sX
theorem mA:cJ Tryz.prog cG Tryz.f124 dF gD:=cJ.mk Tryz.func124 (by kernel_rfl) mB
section
variable {H : aA} {nx : Nat} {K : D → aA → Nat → Prop}
end
end Go.Proofs.YtmccpdapaccnoaaGreat
