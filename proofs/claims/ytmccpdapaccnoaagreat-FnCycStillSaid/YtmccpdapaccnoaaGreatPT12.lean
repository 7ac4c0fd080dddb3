/- Texts laid together by a program: rules, contracts and the walk that leads to the law. -/
import Derived.Test.YtmccpdapaccnoaaGreatPT11
set_option linter.unusedVariables false
set_option linter.unusedSimpArgs false
set_option linter.unusedSectionVars false
set_option maxRecDepth 100000
set_option maxHeartbeats 8000000
namespace Go.Proofs.YtmccpdapaccnoaaGreat
open Go Go.AM
attribute [local irreducible] aM wv aB vd wvH
theorem HR:cJ Tryz.prog pL Tryz.f171 nS vR:=cJ.mk Tryz.func171 (by kernel_rfl) HL
theorem fZ {H:aA} {e:Env} {t n id m:Nat} {cs:List D1} (he:e t= .one (.c (.ptr n id 0 0))) (ho:H id=some ⟨n,m,[cs]⟩) (hl:cs.length=n):yT H e [.cell t n true]=some (boR cs):=by
 subst hl
 simp[yT,VP,he,tT,ho,mkV]
theorem PU {nx i:Nat} {H:aA}:CvX (fun j=>j=i) nx H (H.del i):=fun j o' hj=>by
 simp only[aA.del] at hj
 split at hj
 ·cases hj
 ·exact⟨by assumption,o',hj,.inl rfl⟩
section
variable {H : aA} {nx : Nat} {K : D → aA → Nat → Prop}
theorem HZ {m:List Rng} {w hh:List Int} {who:Int} {q:Req} {c0 c1 m0 m1 i0 i1 i2:Nat} {x y z:D1} (hm4:m.length<2^21) (hf:WK w hh) (hc0:w.length≤c0) (hc1:hh.length≤c1) (hw:0≤who∧who≤2) (hq:dH q)
 (hlt:i0<nx∧i1<nx∧i2<nx) (hd:[i0,i1,i2].Nodup) (h0:H i0=some ⟨5,1,[[.osl 1 i1 0 w.length c0,.osl 1 i2 0 hh.length c1,x,y,z]]⟩) (h1:H i1=some ⟨1,m0,w.map aJ⟩) (h2:H i2=some ⟨1,m1,hh.map aJ⟩)
 (hR: ∀H' nx',nx≤nx'→H' i1=some ⟨1,m0,(doM m w hh who q).1.1.map aJ⟩→H' i2=some ⟨1,m1,(doM m w hh who q).1.2.map aJ⟩→(∀id,id<nx→id≠i1→id≠i2→H' id=H id)→K (boR (tG (doM m w hh who q).2)) H' nx'):
 aB Tryz.prog pL [.one (.c (.ptr 5 i0 0 0)),dS (m.map eN),boP who,boR (eB q)] H nx K:=by
 obtain⟨hwl,hwr,hsl,hsr⟩:=hf
 obtain⟨hq1,hq2,hq3,hq4,hq5,hq6,hq7,hq8⟩:=hq
 have hbl:=DF hq3
 have hbp:=ai5 hq3
 have hb4:=MK (addr:=q.addr) (many:=q.many) (wrap:=q.wrap)
 have hbi:All (bE q.addr q.many q.wrap) 0 63:=V1
 have hltm:=PQ (p:=(inR · ((bE q.addr q.many q.wrap).getD 0 default))) (l:=m)
 have hwh:bV m (bE q.addr q.many q.wrap)<m.length:=by unfold bV;grind
 have hdl:wrM q=true→q.data.length=(bE q.addr q.many q.wrap).length∧q.g6.length=(bE q.addr q.many q.wrap).length:=by
  intro h;unfold wrM at h;unfold n5 at hq4 hq5;simp at h;simp only[h,if_true] at hq4 hq5;omega
 have hwi:=W4 (q:=q)
 apply aB.tW
 refine HR rfl fun Q hQ=> ?_
 unfold nS
 generalize hall:bE q.addr q.many q.wrap=all at*
 have hwo: ∀{H:aA} {nx:Nat} {K:D→aA→Nat→Prop},K (boP (bV m all)) H nx→aB Tryz.prog mZ [dS (m.map eN),boR (eB q)] H nx K:=fun h=>KD (by omega) (by rw[hall];exact h)
 have hbu: ∀{H:aA} {nx:Nat} {K:D→aA→Nat→Prop},K (dS (all.map aJ)) H nx→aB Tryz.prog fP [boR (eB q)] H nx K:=fun h=>vY (by rw[hall];exact h)
 have hA:bQ nx [i0,i1,i2]:=AM.apart hd (by simp;omega)
 simp only[bQ,eZ] at hA
 simp only[bq8,t3,bq7,or_false,not_or] at hd
 by_cases h1n:bV m all<0
 ·rw[alZ (by rw[hall];exact h1n)] at hR
  repeat' first| (first|apply bn1|apply hwo)<;>(simp only[go_sem,t1,bqT,h0,h1,h2,hA];try simp (disch:=omega) only[Iw])|apply bn2 (by omega)|refine⟨by omega,?_⟩|fail
  refine hQ _ _ _ _ _ (.inr rfl) (fZ rfl (by simp only[aA.set,if_true];rfl) rfl) ⟨boR (tG ⟨q.id,4,[]⟩),_,noF,by repeat' first|exact bo2| (with_reducible first|exact bo4|apply bo5)| ((with_reducible apply bo0);first|exact bo9 rfl|exact bpE)| ((with_reducible apply bo1);apply bo6)|apply bo5|fail,aK,hR _ _ (by omega) ?_ ?_ fun id boU e1 e2=> ?_⟩
  ·simp only[aA.set,hA,if_false];exact h1
  ·simp only[aA.set,hA,if_false];exact h2
  ·simp only[aA.set,show ¬id=nx by omega,show ¬id=nx+1 by omega,show ¬id=nx+9 by omega,if_false]
 have h1': ¬bV m (bE q.addr q.many q.wrap)<0:=by rw[hall];exact h1n
 by_cases h2w:wrM q=true
 ·obtain⟨hd1,hd2⟩:=hdl h2w
  by_cases h3:(m.getD (bV m all).toNat default).only=true
  ·rw[anB h1' h2w (by rw[hall];exact h3)] at hR
   repeat' first| (first|apply bn1|apply hwo|apply gH)<;>(simp only[go_sem,t1,bqT,h0,h1,h2,hA,h2w,h3];try simp (disch:=omega) only[Iw])|apply bn3 (by omega)|refine⟨by omega,?_⟩|fail
   refine hQ _ _ _ _ _ (.inr rfl) (fZ rfl (by simp only[aA.set,if_true];rfl) rfl) ⟨boR (tG ⟨q.id,3,[]⟩),_,noF,by repeat' first|exact bo2| (with_reducible first|exact bo4|apply bo5)| ((with_reducible apply bo0);first|exact bo9 rfl|exact bpE)| ((with_reducible apply bo1);apply bo6)|apply bo5|fail,aK,hR _ _ (by omega) ?_ ?_ fun id boU e1 e2=> ?_⟩
   ·simp only[aA.set,hA,if_false];exact h1
   ·simp only[aA.set,hA,if_false];exact h2
   ·simp only[aA.set,show ¬id=nx by omega,show ¬id=nx+1 by omega,show ¬id=nx+9 by omega,if_false]
  have h3': ¬(m.getD (bV m (bE q.addr q.many q.wrap)).toNat default).only=true:=by rw[hall];exact h3
  have h3f:(m.getD (bV m all).toNat default).only=false:=by simpa using h3
  by_cases h4:q.kind=4∧ ¬hh.getD (who*2+q.id).toNat default=q.addr
  ·rw[aqU h1' h3' h4.1 h4.2] at hR
   have h41:=h4.1
   have h42:=h4.2
   repeat' first| (first|apply bn1|apply bpJ (by omega)|apply hwo|apply gH)<;>(simp only[go_sem,t1,bqT,h0,h1,h2,hA,h2w,h3f];try simp (disch:=omega) only[Iw])|apply bn2 (by omega)|apply bn3 (by omega)|refine⟨by omega,?_⟩|fail
   refine hQ _ _ _ _ _ (.inr rfl) (fZ rfl (by simp only[aA.set,if_true];rfl) rfl) ⟨boR (tG ⟨q.id,1,[]⟩),_,noF,by repeat' first|exact bo2| (with_reducible first|exact bo4|apply bo5)| ((with_reducible apply bo0);first|exact bo9 rfl|exact bpE)| ((with_reducible apply bo1);apply bo6)|apply bo5|fail,aK,hR _ _ (by omega) ?_ ?_ fun id boU e1 e2=> ?_⟩
   ·simp only[aA.set,hA,if_false];exact h1
   ·simp only[aA.set,hA,if_false];exact h2
   ·simp only[aA.set,show ¬id=nx by omega,show ¬id=nx+1 by omega,show ¬id=nx+9 by omega,if_false]
  obtain⟨code,hcode⟩: ∃code:Int,code=if q.kind=4 then 2 else 1:=⟨_,rfl⟩
  have bqA:doM m w hh who q=((FV w all q.data q.g6 all.length,iU hh all),⟨q.id,code,[]⟩):=by
   rcases hwi.1 h2w with hk|hk
   ·rw[ao1 h1' h3' hk,hall,hcode,if_neg (by omega)]
   ·rw[aoE h1' h3' hk (Classical.byContradiction fun hc=>h4 ⟨hk,hc⟩),hall,hcode,if_pos hk]
  rw[bqA] at hR
  have hk24:=hwi.1 h2w
  repeat' first| (first|apply bn1|refine bpL (fun h=> ?_) fun h=> ?_|apply hwo|apply hbu|apply gH)<;>(simp only[go_sem,t1,bqT,h0,h1,h2,hA,h2w,h3f];try simp (disch:=omega) only[Iw])|apply bn2 (by omega)|apply bn3 (by omega)|refine⟨by omega,?_⟩|fail
  all_goals
   have hcd:(code=2∧q.kind=4)∨(code=1∧ ¬q.kind=4):=by rw[hcode];split<;>simp[*]
   refine aM.gP (β:=Nat) (fun k=>en [(109,boP k),(108,boP all.length),(107,dS (all.map aJ)),(12,dS (all.map aJ)),(10,.one (.c (.ptr 3 (nx+9) 0 0))),(8,.one (.c (.ptr 3 (nx+1) 0 0))),(7,.one (.c (.ptr 7 nx 0 0))),(0,.one (.c (.ptr 5 i0 0 0)))])
    (fun k H1 _=>k≤all.length∧H1 i1=some ⟨1,m0,(FV w all q.data q.g6 k).map aJ⟩∧H1 nx=some ⟨7,1,[eB q]⟩∧H1 (nx+9)=some ⟨3,1,[[cI q.id,cI code,.osl 0 0 0 0 0]]⟩∧H1 (nx+1)=some ⟨3,1,[[cI 0,cI 0,.osl 0 0 0 0 0]]⟩∧ ∀id,id<nx→id≠i1→H1 id=H id) (fun k=>all.length-k) 0 ⟨noF,_,by repeat' first|exact bo2|refine xqI rfl rfl ?_|refine xqP (by omega) rfl rfl ?_|fail,aK,?_⟩ ?_
   ·refine⟨by omega,by simp only[aA.set,hA,if_false];exact h1,?_,?_,?_,fun id boU e1=> ?_⟩
    ·simp only[aA.set,bqT,Nat.reduceEqDiff,brN,if_false,if_true,reduceIte]
    ·simp only[aA.set,if_true]
     rcases hcd with⟨rfl,_⟩|⟨rfl,_⟩<;>first|rfl|contradiction
    ·simp only[aA.set,bqU,Nat.reduceEqDiff,if_false,if_true]
    ·simp only[aA.set,show ¬id=nx by omega,show ¬id=nx+1 by omega,show ¬id=nx+9 by omega,if_false]
   rintro k H1 nx1 hnx ⟨hk,g1,gq,bp5,bp4,hfr⟩ bpQ hKL
   have bqC:H1 i0=some ⟨5,1,[[.osl 1 i1 0 w.length c0,.osl 1 i2 0 hh.length c1,x,y,z]]⟩:=by rw[hfr i0 (by omega) (by omega)];exact h0
   have g2:H1 i2=some ⟨1,m1,hh.map aJ⟩:=by rw[hfr i2 (by omega) (by omega)];exact h2
   have hpl:=AX (w:=w) (all:=all) (data:=q.data) (g6:=q.g6) k
   have hpw:=afR (all:=all) (g6:=q.g6) hwr hq6 k
   have hA1:bQ nx1 [i0,i1,i2,nx,nx+1,nx+9]:=AM.apart (by simp;omega) (by simp;omega)
   simp only[bQ,eZ] at hA1
   by_cases hlt2:k<all.length
   ·have hb:=HB hbi hlt2
    have hb2:(all.getD k default).toNat<(FV w all q.data q.g6 k).length:=by omega
    repeat' first| (first|apply bn1|apply ae5 (HB hpw hb2) (HB hq6 (by omega)) (HB hq7 (by omega)))<;>(simp only[go_sem,t1,bqT,bqC,g1,g2,gq,bp5,bp4,hA1];try simp (disch:=omega) only[Iw])|apply bn2 (by omega)|refine⟨by omega,?_⟩|fail
    exact hKL _ _ _ (k+1) noF _ (by omega) (by omega) (by repeat' first|exact bo2|refine xqI rfl rfl ?_|refine xqP (by omega) rfl rfl ?_|fail) aK ⟨by omega,aA.bH,by rw[aA.aC (by omega)];exact gq,by rw[aA.aC (by omega)];exact bp5,by rw[aA.aC (by omega)];exact bp4,fun id boU e1=>by rw[aA.aC e1];exact hfr id boU e1⟩
   ·repeat' first|apply bn1<;>(simp only[go_sem,t1,bqT,bqC,g1,g2,gq,bp5,bp4,hA1])|apply bn3 (by omega)|fail
    have hk2:k=all.length:=by omega
    subst hk2
    refine aM.gP (β:=Nat) (fun k=>en [(146,boP k),(145,boP 6),(144,boQ 1 i2 6 c1),(12,dS (all.map aJ)),(10,.one (.c (.ptr 3 (nx+9) 0 0))),(8,.one (.c (.ptr 3 (nx+1) 0 0))),(0,.one (.c (.ptr 5 i0 0 0)))])
     (fun k H2 _=>k≤6∧H2 i2=some ⟨1,m1,(xI hh all k).map aJ⟩∧ ∀id,id<nx1→id≠i2→H2 id=H1 id) (fun k=>6-k) 0 ⟨noF,_,by repeat' first|exact bo2|refine xqI rfl rfl ?_|refine xqP (by omega) rfl rfl ?_|refine xqO (by omega) rfl rfl (by first|rfl|omega) ?_|refine xqV rfl (by omega) ?_|fail,aK,by omega,by rw[ac9];exact g2,fun _ _ _=>rfl⟩ ?_
    rintro k H2 nx2 hnx2 ⟨hk,f2,ffr⟩ bqG hKM
    have bfZ:H2 i0=some ⟨5,1,[[.osl 1 i1 0 w.length c0,.osl 1 i2 0 hh.length c1,x,y,z]]⟩:=by rw[ffr i0 (by omega) (by omega)];exact bqC
    have bkR:H2 (nx+9)=some ⟨3,1,[[cI q.id,cI code,.osl 0 0 0 0 0]]⟩:=by rw[ffr _ (by omega) (by omega)];exact bp5
    have bpX:H2 (nx+1)=some ⟨3,1,[[cI 0,cI 0,.osl 0 0 0 0 0]]⟩:=by rw[ffr _ (by omega) (by omega)];exact bp4
    have hfl:=aiJ (all:=all) (show k≤hh.length by omega)
    have hA2:bQ nx2 [i0,i1,i2,nx,nx+1,nx+9]:=AM.apart (by simp;omega) (by simp;omega)
    simp only[bQ,eZ] at hA2
    by_cases hlt:k<6
    ·have hfa:=akN (all:=all) (show k<hh.length by omega)
     have hfs:=fun x=>agQ (all:=all) (x:=x) (show k<hh.length by omega)
     have hsm:=acP (all:=all) (show k<hh.length by omega)
     repeat' first| (first|apply bn1|refine x8 (by omega) (aE rfl) ?_)<;>(simp only[go_sem,t1,bqT,bfZ,f2,bkR,bpX,hA2,hfa];try simp (disch:=omega) only[Iw])|apply bn2 (by omega)|refine bnE (fun h=> ?_) fun h=> ?_|refine⟨by omega,?_⟩|fail
     ·exact hKM _ _ _ (k+1) noF _ (by omega) (by omega) (by repeat' first|exact bo2|refine xqI rfl rfl ?_|refine xqP (by omega) rfl rfl ?_|refine xqO (by omega) rfl rfl (by rfl) ?_|fail) aK ⟨by omega,by rw[←hfs (-1) (by rw[if_pos (by assumption)])];exact aA.bH,fun id boU e1=>by rw[aA.aC e1];exact ffr id boU e1⟩
     ·exact hKM _ _ _ (k+1) noF _ (by omega) (by omega) (by repeat' first|exact bo2|refine xqI rfl rfl ?_|refine xqP (by omega) rfl rfl ?_|refine xqO (by omega) rfl rfl (by rfl) ?_|fail) aK ⟨by omega,by rw[←hfs _ (by rw[if_neg (by assumption)]),hsm];exact f2,fun id boU e1=>ffr id boU e1⟩
    ·repeat' first|apply bn1<;>(simp only[go_sem,t1,bqT,bfZ,f2,bkR,bpX,hA2])|apply bn3 (by omega)|fail
     have hk2:k=hh.length:=by omega
     subst hk2
     rw[ahC] at f2
     refine hQ _ _ _ _ _ (.inr rfl) (fZ rfl (by simp only[aA.set,if_true];rfl) rfl) ⟨boR (tG ⟨q.id,code,[]⟩),_,noF,by repeat' first|exact bo2| (with_reducible first|exact bo4|apply bo5)| ((with_reducible apply bo0);first|exact bo9 rfl|exact bpE)| ((with_reducible apply bo1);apply bo6)|apply bo5|fail,aK,hR _ _ (by omega) ?_ ?_ fun id boU e1 e2=> ?_⟩
     ·rw[aA.aC (by omega),ffr _ (by omega) (by omega)];exact g1
     ·rw[aA.aC (by omega)];exact f2
     ·rw[aA.aC (by omega),ffr _ (by omega) e2];exact hfr id boU e1
 have h2f:wrM q=false:=by simpa using h2w
 have hk13:q.kind=1∨q.kind=3:=by have h3: ¬(q.kind=2∨q.kind=4):=fun h=>h2w (hwi.2 h);omega
 repeat' first| (first|apply bn1|apply bpK (by omega)|apply hwo|apply hbu|apply gH)<;>(simp only[go_sem,t1,bqT,h0,h1,h2,hA,h2f];try simp (disch:=omega) only[Iw])|apply bn3 (by omega)|refine⟨by omega,?_⟩|fail
 refine aM.gP (β:=Nat) (fun k=>en [(76,boP k),(75,boP all.length),(74,dS (all.map aJ)),(11,.one (.c (.ptr 1 i2 (who*2+q.id).toNat 0))),(10,.one (.c (.ptr 3 (nx+9) 0 0))),(8,.one (.c (.ptr 3 (nx+1) 0 0))),(7,.one (.c (.ptr 7 nx 0 0))),(0,.one (.c (.ptr 5 i0 0 0)))])
  (fun k H1 _=>k≤all.length∧H1 nx=some ⟨7,1,[eB q]⟩∧H1 (nx+9)=some ⟨3,1,[[cI q.id,cI 1,.osl 1 (nx+55) 0 all.length all.length]]⟩∧H1 (nx+1)=some ⟨3,1,[[cI 0,cI 0,.osl 0 0 0 0 0]]⟩∧H1 (nx+55)=some ⟨1,all.length,((List.range k).map (fun k=>w.getD (all.getD k default).toNat default)++List.replicate (all.length-k) (0:Int)).map aJ⟩∧ ∀id,id<nx→H1 id=H id)
  (fun k=>all.length-k) 0 ⟨noF,_,by repeat' first|exact bo2|refine xqI rfl rfl ?_|refine xqP (by omega) rfl rfl ?_|fail,aK,?_⟩ ?_
 ·refine⟨by omega,?_,?_,?_,?_,fun id boU=> ?_⟩
  ·simp only[aA.set,bqT,Nat.reduceEqDiff,brN,if_false,if_true,reduceIte]
  ·simp only[aA.set,if_true]
  ·simp only[aA.set,bqU,Nat.reduceEqDiff,if_false,if_true]
  ·simp only[aA.set,bqU,Nat.reduceEqDiff,if_false,if_true]
   simp[aJ]
  ·simp only[aA.set,show ¬id=nx by omega,show ¬id=nx+1 by omega,show ¬id=nx+9 by omega,show ¬id=nx+55 by omega,if_false]
 rintro k H1 nx1 hnx ⟨hk,gq,bp5,bp4,gd,hfr⟩ bpQ hKL
 have bqC:H1 i0=some ⟨5,1,[[.osl 1 i1 0 w.length c0,.osl 1 i2 0 hh.length c1,x,y,z]]⟩:=by rw[hfr i0 (by omega)];exact h0
 have g1:H1 i1=some ⟨1,m0,w.map aJ⟩:=by rw[hfr i1 (by omega)];exact h1
 have g2:H1 i2=some ⟨1,m1,hh.map aJ⟩:=by rw[hfr i2 (by omega)];exact h2
 have hdlen:((List.range k).map (fun k=>w.getD (all.getD k default).toNat default)++List.replicate (all.length-k) (0:Int)).length=all.length:=by simp;omega
 have hA1:bQ nx1 [i0,i1,i2,nx,nx+1,nx+9,nx+55]:=AM.apart (by simp;omega) (by simp;omega)
 simp only[bQ,eZ] at hA1
 by_cases hlt2:k<all.length
 ·have hb:=HB hbi hlt2
  have hbs:=fun x=>XT (f:=fun k=>w.getD (all.getD k default).toNat default) (x:=x) hlt2
  repeat' first|apply bn1<;>(simp only[go_sem,t1,bqT,bqC,g1,g2,gq,bp5,bp4,gd,hA1,hdlen];try simp (disch:=omega) only[Iw])|apply bn2 (by omega)|refine⟨by omega,?_⟩|fail
  exact hKL _ _ _ (k+1) noF _ (by omega) (by omega) (by repeat' first|exact bo2|refine xqI rfl rfl ?_|refine xqP (by omega) rfl rfl ?_|fail) aK ⟨by omega,by rw[aA.aC (by omega)];exact gq,by rw[aA.aC (by omega)];exact bp5,by rw[aA.aC (by omega)];exact bp4,by rw[←hbs _ rfl];exact aA.bH,fun id boU=>by rw[aA.aC (by omega)];exact hfr id boU⟩
 ·have hk2:k=all.length:=by omega
  subst hk2
  have hrd:(List.range all.length).map (fun k=>w.getD (all.getD k default).toNat default)++List.replicate (all.length-all.length) (0:Int)=all.map fun a=>w.getD a.toNat default:=by rw[aqI];simp
  rw[hrd] at gd
  repeat' first|apply bn1<;>(simp only[go_sem,t1,bqT,bqC,g1,g2,gq,bp5,bp4,gd,hA1])|apply bn3 (by omega)|refine bnE (fun h=> ?_) fun h=> ?_|refine⟨by omega,?_⟩|fail
  ·rw[amK h1' (by assumption),hall] at hR
   refine hQ _ _ _ _ _ (.inr rfl) (fZ rfl (by simp only[aA.set,if_true];rfl) rfl) ⟨boR (tG ⟨q.id,2,all.map fun a=>w.getD a.toNat default⟩),_,fun j=>j=nx+55,lY (aH (bB rfl) (aH (bB rfl) (aH (bW (l:=all.map fun a=>w.getD a.toNat default) (F:=fun j=>j=nx+55) (m:=all.length) (len:=all.length) (cap:=all.length) bF ?_ (by simp) (by simp) rfl) eP))),PU,hR _ _ (by omega) ?_ ?_ fun id boU e1 e2=> ?_⟩
   ·rw[aA.aC (by omega),aA.aC (by omega),aA.aC (by omega)];exact gd
   ·rw[aA.jG (by omega),aA.aC (by omega),aA.aC (by omega),aA.aC (by omega)];exact g1
   ·rw[aA.jG (by omega),aA.aC (by omega),aA.bH]
   ·rw[aA.jG (by omega),aA.aC (by omega),aA.aC (by omega),aA.aC (by omega)];exact hfr id boU
  ·rw[akI h1' (by omega),hall] at hR
   refine hQ _ _ _ _ _ (.inr rfl) (fZ rfl (by simp only[aA.set,if_true];rfl) rfl) ⟨boR (tG ⟨q.id,1,all.map fun a=>w.getD a.toNat default⟩),_,fun j=>j=nx+55,lY (aH (bB rfl) (aH (bB rfl) (aH (bW (l:=all.map fun a=>w.getD a.toNat default) (F:=fun j=>j=nx+55) (m:=all.length) (len:=all.length) (cap:=all.length) bF ?_ (by simp) (by simp) rfl) eP))),PU,hR _ _ (by omega) ?_ ?_ fun id boU e1 e2=> ?_⟩
   ·rw[aA.aC (by omega)];exact gd
   ·rw[aA.jG (by omega),aA.aC (by omega)];exact g1
   ·rw[aA.jG (by omega),aA.aC (by omega)];exact g2
   ·rw[aA.jG (by omega),aA.aC (by omega)];exact hfr id boU
end
theorem EE:cJ Tryz.prog mM Tryz.f215 lQ sI:=cJ.mk Tryz.func215 (by kernel_rfl) EC
theorem aa0 {i:CIn} {s:CSt} {st:Nat} (h:i.n9.getD st default=true∨(aL s st).pipe.length=0):qW i s st=none:=if_pos h
theorem acO {i:CIn} {s:CSt} {st:Nat} (h: ¬(i.n9.getD st default=true∨(aL s st).pipe.length=0)) (h2:0<(bI s st).left):qW i s st=some (.tick st):=by
 unfold qW;rw[if_neg h,if_pos h2]
theorem adE {i:CIn} {s:CSt} {st:Nat} (h: ¬(i.n9.getD st default=true∨(aL s st).pipe.length=0)) (h2: ¬0<(bI s st).left) (h3:(aL s st).done.length<2):qW i s st=some (.work st):=by
 unfold qW;rw[if_neg h,if_neg h2,if_pos h3]
theorem ae2 {i:CIn} {s:CSt} {st:Nat} (h: ¬(i.n9.getD st default=true∨(aL s st).pipe.length=0)) (h2: ¬0<(bI s st).left) (h3: ¬(aL s st).done.length<2):qW i s st=none:=by
 unfold qW;rw[if_neg h,if_neg h2,if_neg h3]
section
variable {H : aA} {nx : Nat} {K : D → aA → Nat → Prop}
theorem GF {X:Nat→Prop} {c:Cfg} {i:CIn} {s:CSt} {es:List Ev} {i0 i1:Nat} {nm:Nat→Nat} (hb:aQ c) (hs:COk c s) (hin:i.n9.length=4) (hB:l9 X H nx i0 i1 nm s es) (hl:es.length<900)
 (h: ∀H' nx' nm',nx≤nx'→l9 X H' nx' i0 i1 nm' (dR c s (xX c i s)) (es++iP c s (xX c i s))→(∀id,X id→H' id=H id)→K (.tup []) H' nx'):
 aB Tryz.prog mM [.one (.c (.ptr 5 i0 0 0)),boR (cU c),boR (eIn i),.one (.c (.ptr 5 i1 0 0))] H nx K:=by
 refine EE rfl fun Q hQ=> ?_
 unfold lQ
 obtain⟨hp3,hpr⟩:=hC hb
 obtain⟨wc,hc,pc,vc,tc,hi0,hw0,hh0,ht0,hpc,hvc⟩: ∃wc hc pc vc tc,H i0=some ⟨5,1,[[.osl 1 (nm 0) 0 s.words.length wc,.osl 1 (nm 1) 0 s.holds.length hc,.osl 4 (nm 2) 0 3 pc,.osl 3 (nm 3) 0 4 vc,.osl 5 (nm 4) 0 s.told.length tc]]⟩∧_:=by
  obtain⟨cells,h1,⟨wc,hc,pc,vc,tc,rfl,h2⟩,_⟩:=hB.rep.st
  exact⟨wc,hc,pc,vc,tc,h1,h2⟩
 have hA:=hB.rep.apart (nx':=nx) [] [] (m5 _) (by simp) (by simp) (by simp) (by simp)
 simp only[bQ,eZ,List.map,List.nil_append] at hA
 repeat' first|apply bn1<;>(simp only[go_sem,t1,bqT,hi0,hA])|fail
 obtain⟨H0,hH0⟩: ∃H0,H0=(H.set nx ⟨3,1,[cU c]⟩).set (nx+1) ⟨3,1,[eIn i]⟩:=⟨_,rfl⟩
 rw[←hH0]
 have h0c:H0 nx=some ⟨3,1,[cU c]⟩:=by rw[hH0,aA.aC (by omega)];exact aA.bH
 have h0i:H0 (nx+1)=some ⟨3,1,[eIn i]⟩:=by rw[hH0];exact aA.bH
 have hxi0:=hB.rep.i0.1
 have hxi1:=hB.hap.i1.1
 have hB0:l9 (fun id=>X id∨id=nx∨id=nx+1) H0 (nx+8) i0 i1 nm s es:=hB.next (by omega) (fun id h1 h2=>by rw[hH0,aA.aC (by omega),aA.aC (by omega)]) fun id hid=>by
  rcases hid with hid|rfl|rfl
  ·have:=hB.rep.x id (.inl hid)
   exact⟨by omega,.inl hid⟩
  ·exact⟨by omega,.inr (m5 _)⟩
  ·exact⟨by omega,.inr (by omega)⟩
 refine aM.gP (β:=Nat×CSt×List Ev×(Nat→Nat)) (fun u=>en [(16,boP u.1),(15,boP 4),(6,.one (.c (.ptr 3 (nx+1) 0 0))),(5,.one (.c (.ptr 3 nx 0 0))),(3,.one (.c (.ptr 5 i1 0 0))),(0,.one (.c (.ptr 5 i0 0 0)))])
  (fun u H1 nx1=>u.1≤4∧COk c u.2.1∧l9 (fun id=>X id∨id=nx∨id=nx+1) H1 nx1 i0 i1 u.2.2.2 u.2.1 u.2.2.1∧(∀id,X id∨id=nx∨id=nx+1→H1 id=H0 id)∧vU c (qW i) ([0,1,2,3].drop u.1) u.2.1 u.2.2.1 (dR c s (xX c i s)) (es++iP c s (xX c i s))∧u.2.2.1.length≤es.length+u.1)
  (fun u=>4-u.1) (0,s,es,nm) ⟨noF,_,by repeat' first|exact bo2|refine xqI rfl rfl ?_|refine xqP (by omega) rfl rfl ?_|fail,aK,by dsimp only;omega,hs,hB0.mono (by omega),fun _ _=>rfl,⟨rfl,rfl⟩,by simp⟩ ?_
 rintro⟨k,s1,es1,nm1⟩ H1 nx1 hnx ⟨hk,hs1,hB1,hX1,hS1,hL1⟩ bpQ hKL
 dsimp only at hk hs1 hB1 hS1 hL1
 obtain⟨wc,hc,pc,vc,tc,mp,rp,mv,rv,bqC,g1,g2,g3,g4,g5,bkU,bkV,bp4,bp5,ga,gb⟩:=hB1.rep.get
 have hin1:H1 (nx+1)=some ⟨3,1,[eIn i]⟩:=by rw[hX1 _ (.inr (.inr rfl))];exact h0i
 have hcf1:H1 nx=some ⟨3,1,[cU c]⟩:=by rw[hX1 _ (.inr (.inl rfl))];exact h0c
 by_cases hlt:k<4
 ·have hS2:=hS1
  rw[apX hlt] at hS2
  obtain⟨v,hvd⟩: ∃v,v=aL s1 k:=⟨_,rfl⟩
  obtain⟨po,ppc,do_,dc,gs,gp,gd⟩:=gb k hlt
  rw[←hvd] at gs gp gd
  obtain⟨md,rd,d1,d2,d3,bkS,bk2,bk3⟩:=gd.ex
  obtain⟨me,re,p1,p2,p3,p4,p5,p6⟩:=gp.ex
  rw[bqW] at bkS p4
  cases hst:i.n9.getD k default with
  |true=>
   repeat' first|apply bn1<;>(simp only[go_sem,t1,bqT,bqC,g2,gs,hin1,hst];try simp (disch:=omega) only[Iw])|apply bn2 (by omega)|refine⟨by omega,?_⟩|fail
   exact hKL _ _ _ (k+1,s1,es1,nm1) noF _ (by omega) (by dsimp only;omega) (by repeat' first|exact bo2|refine xqI rfl rfl ?_|refine xqP (by omega) rfl rfl ?_|fail) aK ⟨by dsimp only;omega,hs1,hB1.mono (by omega),hX1,hS2.none (aa0 (.inl hst)),by dsimp only;omega⟩
  |false=>
  have hnf: ∀{A:Prop},¬(i.n9.getD k default=true∨A)↔¬A:=fun {A}=>by rw[hst];simp
  by_cases hp0:v.pipe.length=0
  ·have hlen:((v.pipe.length:Int)=0)=True:=eq_true (by omega)
   repeat' first|apply bn1<;>(simp only[go_sem,t1,bqT,bqC,g2,gs,hin1,hst,hlen];try simp (disch:=omega) only[Iw])|apply bn2 (by omega)|refine⟨by omega,?_⟩|fail
   exact hKL _ _ _ (k+1,s1,es1,nm1) noF _ (by omega) (by dsimp only;omega) (by repeat' first|exact bo2|refine xqI rfl rfl ?_|refine xqP (by omega) rfl rfl ?_|fail) aK ⟨by dsimp only;omega,hs1,hB1.mono (by omega),hX1,hS2.none (aa0 (.inr (by rw[←hvd];exact hp0))),by dsimp only;omega⟩
  have hnp: ¬(i.n9.getD k default=true∨(aL s1 k).pipe.length=0):=by rw[←hvd];exact hnf.2 hp0
  have hlen:((v.pipe.length:Int)=0)=False:=eq_false (by omega)
  obtain⟨j,hjd⟩: ∃j,j=v.pipe.getD 0 default:=⟨_,rfl⟩
  have hjp:bI s1 k=j:=by rw[hjd,hvd];rfl
  have p7:re[po]?=some (eCJ j):=by
   have:(re.drop po)[0]?=some (eCJ j):=by rw[p2,p0];simp[hjd,List.getD,show 0<v.pipe.length by omega]
   rwa [s5,Nat.add_zero] at this
  have hA:=hB1.rep.apart (nx':=nx1) [nx,nx+1] [0,1,2,3,4,11+k,15+k] (m5 _) (by simp) (fun x hx=>.inl (.inr (by simpa using hx))) (by simp;omega) (by simp;omega)
  simp only[bQ,eZ,List.map,List.cons_append,List.nil_append] at hA
  have hsk:=hs1.slv k hlt
  have hjm:j∈(aL s1 k).pipe:=by rw[hjd,hvd];exact cC (by rw[←hvd];omega)
  obtain⟨hjw,hjn1,hjn2⟩:=hs1.vIn hlt (JB hjm)
  dsimp only at hjw hjn1 hjn2
  have hask:oA c j.who j.n:=by
   have:=(hs1.port j.who.toNat (by omega)).asks (n:=j.n) (by omega) hjn1 (by omega)
   rwa [show ((j.who.toNat:Nat):Int)=j.who by omega] at this
  have hjl:=(hsk.left 0 (by rw[←hvd];omega)).1
  rw[←hvd,←hjd] at hjl
  have hlat:=S0 hb hlt
  have hrq:=GK hb hask
  have hml:=hb.1.1
  have hgk: ∀r,(rv.set k r)[k]?=some r:=fun r=>by rw[bqZ (by omega)]
  obtain⟨hask1,hask2,hask3⟩:=hask
  have htl:s1.told.length≤36:=by have:=hs1.st.lens hb;simp only[cX] at this;omega
  obtain⟨mw,rw0,bqH,bqI,bk6,bk5,bk7,bk8⟩:=g3.ex
  obtain⟨mh,rh0,h1',h2',h3',h4',h5',h6'⟩:=g4.ex
  rw[bq5] at bqI h2'
  subst bqI;subst h2'
  refine aM.BW fun hnm=> ?_
  have hmk: ∀k l,msk (nx1+k) l H1=H1:=fun k l=>BV hnm (by omega)
  by_cases hl0:0<j.left
  ·repeat' first|apply bn1<;>(simp only[go_sem,t1,bqT,hmk,umS (G:=H1),umD (G:=H1),umB,bqC,g2,gs,hin1,hst,hlen,p1,p7,hA];try simp (disch:=omega) only[Iw])|apply bn2 (by omega)|refine⟨by omega,?_⟩|fail
   have boT:qW i s1 k=some (.tick k):=acO hnp (by rw[hjp];exact hl0)
   have hL:=hS2.some boT
   obtain⟨s',hs'⟩: ∃s',s'=aR c s1 (.tick k):=⟨_,rfl⟩
   rw[←hs',show y0 s1 (.tick k)=[] from rfl,bq6] at hL
   have hs2:COk c s':=by rw[hs'];exact o9 hb hs1 (LM hs1 hlt boT)
   have hvd':aL s' k= {v with pipe:=v.pipe.set 0 {j with left:=j.left-1}}:=by rw[hs',bO rfl (by rw[hs1.sl];omega),if_pos rfl,hjp,←hvd]
   have hBu:=hB1.upd (H':=(H1.set (nx1+29) ⟨3,1,[eCJ j]⟩).set (nm1 (11+k)) ⟨3,me,re.set po [cI j.who,cI j.n,cI (j.left-1)]⟩) (nx':=nx1+48) 14 k nm1 s' (by omega) (hB1.rep.names.mono (by omega)) (fun j _=>.inl rfl) ?_ ?_ ?_ ?_ (.inr rfl) (.inl hlt) (fun j hj hne=>by rw[hs'];rfl) (fun j hj hne=>by rw[hs',bO rfl (by rw[hs1.sl];omega),if_neg hne])
   ·exact hKL _ _ _ (k+1,s',es1,nm1) noF _ (by omega) (by dsimp only;omega) (by repeat' first|exact bo2|refine xqI rfl rfl ?_|refine xqP (by omega) rfl rfl ?_|fail) aK ⟨by dsimp only;omega,hs2,hBu.1,fun id hid=>(hBu.2 id hid).trans (hX1 id hid),hL,by dsimp only;omega⟩
   ·intro id hid h0 hne
    rw[aA.aC (hne (11+k) (by omega) (by omega)),aA.aC (by omega)]
   ·refine⟨wc,hc,pc,vc,tc,?_,?_,?_,?_,bkU,bkV⟩
    ·simp only[aA.set,hA,if_false]
     rw[bqC,hs'];rfl
    ·rw[hs']
     exact g3.frame (by simp only[aA.set,hA,if_false])
    ·rw[hs']
     exact g4.frame (by simp only[aA.set,hA,if_false])
    ·rw[hs']
     exact g5.frame (by simp only[aA.set,hA,if_false])
   ·exact⟨mp,rp,mp,rp,g1,by simp only[aA.set,hA,if_false];exact g1,bp4,fun _ _ _=>rfl,fun hh=>by omega⟩
   ·refine⟨mv,rv,mv,rv,g2,by simp only[aA.set,hA,if_false];exact g2,bp5,fun _ _ _=>rfl,fun _=>⟨_,gs,⟨po,ppc,do_,dc,?_,?_,?_⟩⟩⟩
    ·rw[hvd'];simp only[aj9,Y5]
    ·rw[hvd']
     refine⟨me,_,aA.bH,?_,by simpa using p3,by simp,by simpa using p5,p6⟩
     rw[List.drop_set,if_neg (by omega),brJ,p2,brD];rfl
    ·rw[hvd']
     exact gd.frame (by simp only[aA.set,hA,if_false])
  by_cases hd2:v.done.length<2
  ·repeat' first|apply bn1<;>(simp only[go_sem,t1,bqT,hmk,umS (G:=H1),umD (G:=H1),umB,bqC,g2,gs,hgk,bq1,hcf1,hin1,hst,hlen,p1,p7,hA])|apply bn2 (by omega)|apply bn3 (by omega)|refine⟨by omega,?_⟩|fail
   refine HZ (q:=bT c j.who j.n) (m0:=mw) (m1:=mh) (i0:=i0) (by omega) hs1.atm bk7 h5' hjw hrq ?_ ?_ (by simp only[aA.set,hA,if_false];exact bqC) (by simp only[aA.set,hA,if_false];exact bqH) (by simp only[aA.set,hA,if_false];exact h1') (fun H' nx' hx' bpR f2 ffr=> ?_)
   ·have:=hB1.rep.i0.1;have:=hB1.rep.names.lt 0 (by omega);have:=hB1.rep.names.lt 1 (by omega)
    omega
   ·simp only[bq8,t3,bq7,or_false,not_or,hA,not_false_eq_true,and_self,List.nodup_nil]
   have hn: ∀a,a<19→nm1 a<nx1:=hB1.rep.names.lt
   have e3:H' (nm1 3)=some ⟨3,mv,rv.set k [.osl 3 (nm1 (11+k)) (po+1) (v.pipe.length-1) (ppc-1),.osl 5 (nm1 (15+k)) do_ v.done.length dc,cI v.last]⟩:=by
    rw[ffr _ (by have:=hn 3 (by omega);omega) (by simp only[ne_eq,hA,not_false_eq_true]) (by simp only[ne_eq,hA,not_false_eq_true])]
    exact aA.bH
   have ej:H' (nx1+29)=some ⟨3,1,[eCJ j]⟩:=by
    rw[ffr _ (by omega) (by have:=hn 0 (by omega);omega) (by have:=hn 1 (by omega);omega)]
    simp only[aA.set,hA,if_false,if_true]
   have ed:H' (nm1 (15+k))=some ⟨5,md,rd⟩:=by
    rw[ffr _ (by have:=hn (15+k) (by omega);omega) (by simp only[ne_eq,hA,not_false_eq_true]) (by simp only[ne_eq,hA,not_false_eq_true])]
    simp only[aA.set,hA,if_false]
    exact d1
   have hA':=hB1.rep.apart (nx':=nx') [nx,nx+1] [0,1,2,3,4,11+k,15+k] (by omega) (by simp) (fun x hx=>.inl (.inr (by simpa using hx))) (by simp;omega) (by simp;omega)
   simp only[bQ,eZ,List.map,List.cons_append,List.nil_append] at hA'
   simp only[go_sem,t1,bqT,msk,List.map,t3,bq7,or_false,bqU,Nat.reduceEqDiff,Nat.reduceAdd,e3,ej,ed,hgk,hA,hA',if_false,if_true,bq1]
   refine⟨⟨by omega,by omega⟩,by omega,fun cap hcap hcp=> ?_⟩
   obtain⟨d,hdd⟩: ∃d:Job,d=⟨j.who,j.n,(doM c.map s1.words s1.holds j.who (bT c j.who j.n)).2⟩:=⟨_,rfl⟩
   have er:List.take v.done.length (List.drop do_ rd)++[cI j.who::cI j.n::tG (doM c.map s1.words s1.holds j.who (bT c j.who j.n)).snd]=(v.done++[d]).map aS:=by
    rw[d2,boL (by simp),bqX,hdd];rfl
   have er1:[cI j.who::cI j.n::tG (doM c.map s1.words s1.holds j.who (bT c j.who j.n)).snd]=[aS d]:=by rw[hdd];rfl
   rw[er,er1]
   repeat' first|apply bn1<;>(simp only[go_sem,t1,bqT,ej,hA,hA'])|fail
   obtain⟨nm',hnm'⟩: ∃nm',nm'=put nm1 (15+k) (nx1+80):=⟨_,rfl⟩
   have pn: ∀j,j≠15+k→nm' j=nm1 j:=fun j h1=>by rw[hnm',jE h1]
   have p15:nm' (15+k)=nx1+80:=by rw[hnm',t8]
   have boT:qW i s1 k=some (.work k):=adE hnp (by rw[hjp];exact hl0) (by rw[←hvd];exact hd2)
   have hL:=hS2.some boT
   obtain⟨s',hs'⟩: ∃s',s'=aR c s1 (.work k):=⟨_,rfl⟩
   rw[←hs',show y0 s1 (.work k)=[⟨2,j.who,j.n⟩] from by rw[←hjp];rfl] at hL
   have hs2:COk c s':=by rw[hs'];exact o9 hb hs1 (LM hs1 hlt boT)
   have hvd':aL s' k= {v with pipe:=v.pipe.drop 1,done:=v.done++[d]}:=by rw[hs',bO rfl (by rw[hs1.sl];omega),if_pos rfl,hjp,←hvd,hdd];unfold jD;rw[hjp]
   have hwd:s'.words=(doM c.map s1.words s1.holds j.who (bT c j.who j.n)).1.1:=by rw[hs',←hjp];rfl
   have hhd:s'.holds=(doM c.map s1.words s1.holds j.who (bT c j.who j.n)).1.2:=by rw[hs',←hjp];rfl
   have hwl:s'.words.length=s1.words.length:=by obtain⟨h1,_⟩:=hs2.atm;obtain⟨h2,_⟩:=hs1.atm;omega
   have hhl:s'.holds.length=s1.holds.length:=by obtain⟨_,_,h1,_⟩:=hs2.atm;obtain⟨_,_,h2,_⟩:=hs1.atm;omega
   rw[←hwd] at bpR
   rw[←hhd] at f2
   have htd:s'.told=s1.told:=by rw[hs'];rfl
   have hH: ∀id,id<nx1→id≠nm1 0→id≠nm1 1→id≠nm1 3→H' id=H1 id:=fun id e boU e1 e3=>by rw[ffr id (by omega) boU e1,aA.aC e3,aA.aC (by omega)]
   refine acI (hB1.upd 14 k nm' s' (by omega) ?_ ?_ ?_ ?_ ?_ ?_ (.inr rfl) (.inl hlt) (fun j hj hne=>by rw[hs'];rfl) (fun j hj hne=>by rw[hs',bO rfl (by rw[hs1.sl];omega),if_neg hne])) (by omega) fun H2 nx2 hx hB' hX'=> ?_
   ·rw[hnm']
    have hXl: ∀v,nx1≤v→¬((X v∨v=nx∨v=nx+1)∨v=i1):=fun v hv hn=>by have:=hB1.rep.x v hn;omega
    exact hB1.rep.names.put (by omega) (by omega) (hXl _ (by omega))
   ·intro j hj
    by_cases h4:j=15+k
    ·subst h4;exact .inr ⟨.inr (.inr (.inr (.inr rfl))),by omega⟩
    ·exact .inl (pn j h4)
   ·intro id hid h0 hne
    have e3:=hne 3 (by omega) (by omega)
    simp only[aA.set,aA.del,e3,hne (15+k) (by omega) (by omega),show ¬id=nx1+79 by omega,show ¬id=nx1+80 by omega,if_false]
    exact hH id hid (hne 0 (by omega) (by omega)) (hne 1 (by omega) (by omega)) e3
   ·refine⟨wc,hc,pc,vc,tc,?_,?_,?_,?_,bkU,bkV⟩
    ·simp only[aA.set,aA.del,hA,hA',if_false,U2,pn 0 (by omega),pn 1 (by omega),pn 2 (by omega),pn 3 (by omega),pn 4 (by omega),hwl,hhl,htd]
     rw[hH i0 (by have:=hB1.rep.i0.1;omega) (by simp only[ne_eq,hA,not_false_eq_true]) (by simp only[ne_eq,hA,not_false_eq_true]) (by simp only[ne_eq,hA,not_false_eq_true])]
     exact bqC
    ·rw[pn 0 (by omega)]
     exact⟨mw,s'.words.map aJ,by simp only[aA.set,aA.del,hA,hA',if_false];exact bpR,rfl,by simp,by simp,by omega,bk8⟩
    ·rw[pn 1 (by omega)]
     exact⟨mh,s'.holds.map aJ,by simp only[aA.set,aA.del,hA,hA',if_false];exact f2,rfl,by simp,by simp,by omega,h6'⟩
    ·rw[pn 4 (by omega),htd]
     apply g5.frame
     simp only[aA.set,aA.del,hA,hA',if_false]
     exact hH _ (hn 4 (by omega)) (by simp only[ne_eq,hA,not_false_eq_true]) (by simp only[ne_eq,hA,not_false_eq_true]) (by simp only[ne_eq,hA,not_false_eq_true])
   ·refine⟨mp,rp,mp,rp,g1,?_,bp4,fun _ _ _=>rfl,fun hh=>by omega⟩
    simp only[aA.set,aA.del,hA,hA',if_false]
    rw[hH _ (hn 2 (by omega)) (by simp only[ne_eq,hA,not_false_eq_true]) (by simp only[ne_eq,hA,not_false_eq_true]) (by simp only[ne_eq,hA,not_false_eq_true])]
    exact g1
   ·refine⟨mv,_,mv,rv,g2,aA.bH,by simp only[Y5,bp5],fun j hj hne=>by rw[bq0 (Ne.symm hne)],fun _=>⟨_,bqZ (by omega),⟨po+1,ppc-1,0,cap,?_,?_,?_⟩⟩⟩
    ·rw[hvd',pn (11+k) (by omega),p15]
     simp only[aj9,CI,t2,List.length_singleton]
    ·rw[hvd',pn (11+k) (by omega)]
     refine⟨me,re,?_,by rw[brE,←p2,Y2],?_,by simp,?_,?_⟩
     ·simp only[aA.set,aA.del,hA,hA',if_false]
      rw[hH _ (hn (11+k) (by omega)) (by simp only[ne_eq,hA,not_false_eq_true]) (by simp only[ne_eq,hA,not_false_eq_true]) (by simp only[ne_eq,hA,not_false_eq_true])]
      exact p1
     ·simp only[CI];omega
     ·simp only[CI];omega
     ·omega
    ·rw[hvd',p15]
     refine⟨cap,(v.done++[d]).map aS,by simp only[aA.set,aA.del,hA,if_false,if_true],rfl,by simp,by simp,by simpa using hcap,by simp⟩
   ·simp only[go_sem]
    repeat' first|apply bn1<;>(simp only[go_sem];try simp (disch:=omega) only[Iw])|fail
    exact hKL _ _ _ (k+1,s',es1++[⟨2,j.who,j.n⟩],nm') noF _ (by omega) (by dsimp only;omega) (by repeat' first|exact bo2|refine xqI rfl rfl ?_|refine xqP (by omega) rfl rfl ?_|fail) aK ⟨by dsimp only;omega,hs2,hB'.mono (by omega),fun id hid=>(hX' id hid).trans (hX1 id hid),hL,by simp;omega⟩
  ·repeat' first|apply bn1<;>(simp only[go_sem,t1,bqT,hmk,umS (G:=H1),umD (G:=H1),umB,bqC,g2,gs,hin1,hst,hlen,p1,p7,hA];try simp (disch:=omega) only[Iw])|apply bn2 (by omega)|apply bn3 (by omega)|refine⟨by omega,?_⟩|fail
   have boT:=ae2 hnp (by rw[hjp];exact hl0) (by rw[←hvd];exact hd2)
   refine hKL _ _ _ (k+1,s1,es1,nm1) noF _ (by omega) (by dsimp only;omega) (by repeat' first|exact bo2|refine xqI rfl rfl ?_|refine xqP (by omega) rfl rfl ?_|fail) aK ⟨by dsimp only;omega,hs1,hB1.next (by omega) (fun id h1 h2=>by rw[aA.aC (by omega)]) fun id hid=>⟨?_,.inl hid⟩,fun id hid=> ?_,hS2.none boT,by dsimp only;omega⟩
   ·have:=hB1.rep.x id (.inl hid);omega
   ·have:=hB1.rep.x id (.inl hid)
    rw[aA.aC (by omega)];exact hX1 id hid
 ·repeat' first|apply bn1<;>(simp only[go_sem])|apply bn3 (by omega)|fail
  have hk4:k=4:=by omega
  subst hk4
  obtain⟨rfl,rfl⟩:=vU.nil hS1
  refine hQ _ _ _ _ _ (.inl rfl) rfl (h _ _ nm1 (by omega) (hB1.next (by omega) (fun _ _ _=>rfl) fun id hid=>⟨?_,.inl (.inl hid)⟩) fun id hid=> ?_)
  ·have:=hB.rep.x id (.inl hid);omega
  ·have:=hB.rep.x id (.inl hid)
   rw[hX1 id (.inl hid),hH0,aA.aC (by omega),aA.aC (by omega)]
end
theorem EY:cJ Tryz.prog nX Tryz.f217 mI uE:=cJ.mk Tryz.func217 (by kernel_rfl) FG
theorem aoP {c:Cfg} {i:CIn} {s:CSt} {k:Nat} (h: ¬(i.send.getD k default=true∧(aF s k).queue.length<2∧(aF s k).next<(c.cP.getD k default).length)):PA c i s k=none:=if_neg h
section
variable {H : aA} {nx : Nat} {K : D → aA → Nat → Prop}
theorem HN {X:Nat→Prop} {c:Cfg} {i:CIn} {s:CSt} {es:List Ev} {i0 i1:Nat} {nm:Nat→Nat} (hb:aQ c) (hs:COk c s) (hin:i.send.length=3) (hB:l9 X H nx i0 i1 nm s es) (hl:es.length<900)
 (h: ∀H' nx' nm',nx≤nx'→l9 X H' nx' i0 i1 nm' (dR c s (MV c i s)) (es++iP c s (MV c i s))→(∀id,X id→H' id=H id)→K (.tup []) H' nx'):
 aB Tryz.prog nX [.one (.c (.ptr 5 i0 0 0)),boR (cU c),boR (eIn i),.one (.c (.ptr 5 i1 0 0))] H nx K:=by
 refine EY rfl fun Q hQ=> ?_
 unfold mI
 obtain⟨hp3,hpr⟩:=hC hb
 obtain⟨wc,hc,pc,vc,tc,hi0,hw0,hh0,ht0,hpc,hvc⟩: ∃wc hc pc vc tc,H i0=some ⟨5,1,[[.osl 1 (nm 0) 0 s.words.length wc,.osl 1 (nm 1) 0 s.holds.length hc,.osl 4 (nm 2) 0 3 pc,.osl 3 (nm 3) 0 4 vc,.osl 5 (nm 4) 0 s.told.length tc]]⟩∧_:=by
  obtain⟨cells,h1,⟨wc,hc,pc,vc,tc,rfl,h2⟩,_⟩:=hB.rep.st
  exact⟨wc,hc,pc,vc,tc,h1,h2⟩
 have hA:=hB.rep.apart (nx':=nx) [] [] (m5 _) (by simp) (by simp) (by simp) (by simp)
 simp only[bQ,eZ,List.map,List.nil_append] at hA
 repeat' first|apply bn1<;>(simp only[go_sem,t1,bqT,hi0,hA])|fail
 obtain⟨H0,hH0⟩: ∃H0,H0=(H.set nx ⟨3,1,[cU c]⟩).set (nx+1) ⟨3,1,[eIn i]⟩:=⟨_,rfl⟩
 rw[←hH0]
 have h0c:H0 nx=some ⟨3,1,[cU c]⟩:=by rw[hH0,aA.aC (by omega)];exact aA.bH
 have h0i:H0 (nx+1)=some ⟨3,1,[eIn i]⟩:=by rw[hH0];exact aA.bH
 have hxi0:=hB.rep.i0.1
 have hxi1:=hB.hap.i1.1
 have hB0:l9 (fun id=>X id∨id=nx∨id=nx+1) H0 (nx+8) i0 i1 nm s es:=hB.next (by omega) (fun id h1 h2=>by rw[hH0,aA.aC (by omega),aA.aC (by omega)]) fun id hid=>by
  rcases hid with hid|rfl|rfl
  ·have:=hB.rep.x id (.inl hid)
   exact⟨by omega,.inl hid⟩
  ·exact⟨by omega,.inr (m5 _)⟩
  ·exact⟨by omega,.inr (by omega)⟩
 refine aM.gP (β:=Nat×CSt×List Ev×(Nat→Nat)) (fun u=>en [(15,boP u.1),(14,boP 3),(6,.one (.c (.ptr 3 (nx+1) 0 0))),(5,.one (.c (.ptr 3 nx 0 0))),(3,.one (.c (.ptr 5 i1 0 0))),(0,.one (.c (.ptr 5 i0 0 0)))])
  (fun u H1 nx1=>u.1≤3∧COk c u.2.1∧l9 (fun id=>X id∨id=nx∨id=nx+1) H1 nx1 i0 i1 u.2.2.2 u.2.1 u.2.2.1∧(∀id,X id∨id=nx∨id=nx+1→H1 id=H0 id)∧vU c (PA c i) ([0,1,2].drop u.1) u.2.1 u.2.2.1 (dR c s (MV c i s)) (es++iP c s (MV c i s))∧u.2.2.1.length≤es.length+u.1)
  (fun u=>3-u.1) (0,s,es,nm) ⟨noF,_,by repeat' first|exact bo2|refine xqI rfl rfl ?_|refine xqP (by omega) rfl rfl ?_|fail,aK,by dsimp only;omega,hs,hB0.mono (by omega),fun _ _=>rfl,⟨rfl,rfl⟩,by simp⟩ ?_
 rintro⟨k,s1,es1,nm1⟩ H1 nx1 hnx ⟨hk,hs1,hB1,hX1,hS1,hL1⟩ bpQ hKL
 dsimp only at hk hs1 hB1 hS1 hL1
 obtain⟨wc,hc,pc,vc,tc,mp,rp,mv,rv,bqC,g1,g2,g3,g4,g5,bkU,bkV,bp4,bp5,ga,gb⟩:=hB1.rep.get
 have hin1:H1 (nx+1)=some ⟨3,1,[eIn i]⟩:=by rw[hX1 _ (.inr (.inr rfl))];exact h0i
 have hcf1:H1 nx=some ⟨3,1,[cU c]⟩:=by rw[hX1 _ (.inr (.inl rfl))];exact h0c
 by_cases hlt:k<3
 ·have hS2:=hS1
  rw[ap4 hlt] at hS2
  obtain⟨p,hpd⟩: ∃p,p=aF s1 k:=⟨_,rfl⟩
  obtain⟨qo,qc,oc,gr,gq,go⟩:=ga k hlt
  rw[←hpd] at gr gq go
  have hpo:=hs1.port k hlt
  rw[←hpd] at hpo
  obtain⟨hn1,hn2⟩:=hpo.next
  have hql:=hpo.ql
  have hprk:=hpr k
  obtain⟨mq,rq0,q1,q2,q3,q4,q5,q6⟩:=gq.ex
  rw[bqW] at q4
  by_cases boT:i.send.getD k default=true∧(aF s1 k).queue.length<2∧(aF s1 k).next<(c.cP.getD k default).length
  ·have hO2:PA c i s1 k=some (.ask k):=if_pos boT
   obtain⟨hsd,hq2,hnl⟩:=boT
   rw[←hpd] at hq2 hnl
   have hA:=hB1.rep.apart (nx':=nx1) [nx,nx+1] [0,1,2,3,4,5+k,8+k] (m5 _) (by simp) (fun x hx=>.inl (.inr (by simpa using hx))) (by simp;omega) (by simp;omega)
   simp only[bQ,eZ,List.map,List.cons_append,List.nil_append] at hA
   have hgk: ∀r,(rp.set k r)[k]?=some r:=fun r=>by rw[bqZ (by omega)]
   refine aM.BW fun hnm=> ?_
   have hmk: ∀k l,msk (nx1+k) l H1=H1:=fun k l=>BV hnm (by omega)
   repeat' first| (first|apply bn1|apply bpJ (by omega))<;>(simp only[go_sem,t1,bqT,hmk,umS (G:=H1),umD (G:=H1),umB,bqC,g1,gr,hgk,bq1,hcf1,hin1,hsd,q1,hA])|apply bn2 (by omega)| (with_reducible first|refine fun(cap:Nat) (hcap:_≤cap)=> ?_|refine fun(hcp:_≤cap)=> ?_)|refine⟨by omega,?_⟩|fail
   have er:List.take p.queue.length (List.drop qo rq0)++[[cI p.next]]=(p.queue++[p.next]).map aJ:=by
    rw[q2,boL (by simp),bqX];rfl
   rw[er]
   obtain⟨nm',hnm'⟩: ∃nm',nm'=put nm1 (5+k) (nx1+46):=⟨_,rfl⟩
   have pn: ∀j,j≠5+k→nm' j=nm1 j:=fun j h1=>by rw[hnm',jE h1]
   have p5:nm' (5+k)=nx1+46:=by rw[hnm',t8]
   have hL:=hS2.some hO2
   obtain⟨s2,hs2⟩: ∃s2:CSt,s2= {s1 with bM:=s1.bM.set k {p with queue:=p.queue++[p.next]}}:=⟨_,rfl⟩
   obtain⟨s',hs'⟩: ∃s',s'=aR c s1 (.ask k):=⟨_,rfl⟩
   rw[←hs',show y0 s1 (.ask k)=[⟨1,k,p.next⟩] from by rw[hpd];rfl] at hL
   have hsk:COk c s':=by rw[hs'];exact o9 hb hs1 (YH hs1 hlt hO2)
   have hpd2:aF s2 k= {p with queue:=p.queue++[p.next]}:=by rw[hs2,bL rfl (by rw[hs1.pl];omega),if_pos rfl]
   have hpd':aF s' k= {p with queue:=p.queue++[p.next],next:=p.next+1}:=by rw[hs',bL rfl (by rw[hs1.pl];omega),if_pos rfl,←hpd]
   refine acI (hB1.upd k 8 nm' s2 (by omega) ?_ ?_ ?_ ?_ ?_ ?_ (.inl hlt) (.inr rfl) (fun j hj hne=>by rw[hs2,bL rfl (by rw[hs1.pl];omega),if_neg hne]) (fun j hj hne=>by rw[hs2];rfl)) (by omega) fun H' nx' hx hB' hX'=> ?_
   ·rw[hnm']
    have hXl: ∀v,nx1≤v→¬((X v∨v=nx∨v=nx+1)∨v=i1):=fun v hv hn=>by have:=hB1.rep.x v hn;omega
    exact hB1.rep.names.put (by omega) (by omega) (hXl _ (by omega))
   ·intro j hj
    by_cases h4:j=5+k
    ·subst h4;exact .inr ⟨.inr (.inl rfl),by omega⟩
    ·exact .inl (pn j h4)
   ·intro id hid h0 hne
    simp only[aA.set,aA.del,hne 2 (by omega) (by omega),hne (5+k) (by omega) (by omega),show ¬id=nx1+45 by omega,show ¬id=nx1+46 by omega,if_false]
   ·refine⟨wc,hc,pc,vc,tc,?_,?_,?_,?_,bkU,bkV⟩
    ·simp only[aA.set,aA.del,hA,if_false,U2,pn 0 (by omega),pn 1 (by omega),pn 2 (by omega),pn 3 (by omega),pn 4 (by omega)]
     rw[hs2];exact bqC
    ·rw[pn 0 (by omega),hs2]
     exact g3.frame (by simp only[aA.set,aA.del,hA,if_false])
    ·rw[pn 1 (by omega),hs2]
     exact g4.frame (by simp only[aA.set,aA.del,hA,if_false])
    ·rw[pn 4 (by omega),hs2]
     exact g5.frame (by simp only[aA.set,aA.del,hA,if_false])
   ·refine⟨mp,_,mp,rp,g1,aA.bH,by simp only[Y5,bp4],fun j hj hne=>by rw[bq0 (Ne.symm hne)],fun _=>⟨_,hgk _,⟨0,cap,oc,?_,?_,?_⟩⟩⟩
    ·rw[hpd2,pn (8+k) (by omega),p5]
     simp only[af5,t2,List.length_singleton]
    ·rw[hpd2,p5]
     exact⟨cap,(p.queue++[p.next]).map aJ,by simp only[aA.set,aA.del,hA,if_false,if_true],rfl,by simp,by simp,by simpa using hcap,by simp⟩
    ·rw[hpd2,pn (8+k) (by omega)]
     exact go.frame (by simp only[aA.set,aA.del,hA,if_false])
   ·exact⟨mv,rv,mv,rv,g2,by simp only[aA.set,aA.del,hA,if_false];exact g2,bp5,fun _ _ _=>rfl,fun hh=>by omega⟩
   ·obtain⟨wc,hc,pc,vc,tc,mp,rp,mv,rv,bqC,g1,g2,g3,g4,g5,bkU,bkV,bp4,bp5,ga,gb⟩:=hB'.rep.get
    obtain⟨qo,qc,oc,gr,gq,go⟩:=ga k hlt
    have hgk: ∀r,(rp.set k r)[k]?=some r:=fun r=>by rw[bqZ (by omega)]
    have hA2:=hB'.rep.apart (nx':=nx') [nx,nx+1] [0,1,2,3,4,5+k,8+k] (m5 _) (by simp) (fun x hx=>.inl (.inr (by simpa using hx))) (by simp;omega) (by simp;omega)
    simp only[bQ,eZ,List.map,List.cons_append,List.nil_append] at hA2
    have pn2:=(pn 2 (by omega)).symm
    rw[hpd2] at gr gq go
    simp only[go_sem]
    repeat' first|apply bn1<;>(simp only[go_sem,t1,bqT,pn2,bqC,g1,gr,hgk,bq1,hA2];try simp (disch:=omega) only[Iw])|fail
    have hBu:=hB'.upd (H':=H'.set (nm' 2) ⟨4,mp,rp.set k [cI (p.next+1),.osl 1 (nm' (5+k)) qo (p.queue.length+1) qc,.osl 3 (nm' (8+k)) 0 p.out.length oc,cI p.last]⟩) (nx':=nx'+10) k 8 nm' s' (by omega) (hB'.rep.names.mono (by omega)) (fun j _=>.inl rfl) ?_ ?_ ?_ ?_ (.inl hlt) (.inr rfl) (fun j hj hne=>(show aF s' j=aF s1 j from by rw[hs',bL (s:=s1) rfl (by rw[hs1.pl];omega),if_neg hne]).trans (show aF s2 j=aF s1 j from by rw[hs2,bL (s:=s1) rfl (by rw[hs1.pl];omega),if_neg hne]).symm) (fun j hj hne=>by rw[hs',hs2];rfl)
    ·exact hKL _ _ _ (k+1,s',es1++[⟨1,k,p.next⟩],nm') noF _ (by omega) (by dsimp only;omega) (by repeat' first|exact bo2|refine xqI rfl rfl ?_|refine xqP (by omega) rfl rfl ?_|fail) aK ⟨by dsimp only;omega,hsk,hBu.1,fun id hid=>(hBu.2 id hid).trans ((hX' id hid).trans (hX1 id hid)),hL,by simp;omega⟩
    ·intro id hid h0 hne
     exact aA.aC (hne 2 (by omega) (by omega))
    ·refine⟨wc,hc,pc,vc,tc,?_,?_,?_,?_,bkU,bkV⟩
     ·simp only[aA.set,hA2,if_false]
      rw[bqC,hs',hs2];rfl
     ·rw[hs2] at g3;rw[hs']
      exact g3.frame (by simp only[aA.set,hA2,if_false])
     ·rw[hs2] at g4;rw[hs']
      exact g4.frame (by simp only[aA.set,hA2,if_false])
     ·rw[hs2] at g5;rw[hs']
      exact g5.frame (by simp only[aA.set,hA2,if_false])
    ·refine⟨mp,_,mp,rp,g1,aA.bH,by simp only[Y5,bp4],fun j hj hne=>by rw[bq0 (Ne.symm hne)],fun _=>⟨_,hgk _,⟨qo,qc,oc,?_,?_,?_⟩⟩⟩
     ·rw[hpd']
      simp only[af5,t2,List.length_singleton]
     ·rw[hpd']
      exact gq.frame (by simp only[aA.set,hA2,if_false])
     ·rw[hpd']
      exact go.frame (by simp only[aA.set,hA2,if_false])
    ·exact⟨mv,rv,mv,rv,g2,by simp only[aA.set,hA2,if_false];exact g2,bp5,fun _ _ _=>rfl,fun hh=>by omega⟩
  ·have hO2:=aoP boT
   rw[←hpd] at boT
   cases hsd:i.send.getD k default with
   |false=>
    repeat' first|apply bn1<;>(simp only[go_sem,t1,bqT,bqC,g1,gr,hcf1,hin1,hsd];try simp (disch:=omega) only[Iw])|apply bn2 (by omega)|refine⟨by omega,?_⟩|fail
    exact hKL _ _ _ (k+1,s1,es1,nm1) noF _ (by omega) (by dsimp only;omega) (by repeat' first|exact bo2|refine xqI rfl rfl ?_|refine xqP (by omega) rfl rfl ?_|fail) aK ⟨by dsimp only;omega,hs1,hB1.mono (by omega),hX1,hS2.none (hO2),by dsimp only;omega⟩
   |true=>
   rw[hsd] at boT
   repeat' first| (first|apply bn1|refine bpL (fun h=> ?_) fun h=> ?_)<;>(simp only[go_sem,t1,bqT,bqC,g1,gr,hcf1,hin1,hsd];try simp (disch:=omega) only[Iw])|apply bn2 (by omega)|refine bnE (fun h=> ?_) fun h=> ?_|refine⟨by omega,?_⟩|fail
   all_goals first|exact absurd ⟨rfl,by omega,by omega⟩ boT| (exact hKL _ _ _ (k+1,s1,es1,nm1) noF _ (by omega) (by dsimp only;omega) (by repeat' first|exact bo2|refine xqI rfl rfl ?_|refine xqP (by omega) rfl rfl ?_|fail) aK ⟨by dsimp only;omega,hs1,hB1.mono (by omega),hX1,hS2.none hO2,by dsimp only;omega⟩)
 ·repeat' first|apply bn1<;>(simp only[go_sem])|apply bn3 (by omega)|fail
  have hk4:k=3:=by omega
  subst hk4
  obtain⟨rfl,rfl⟩:=vU.nil hS1
  refine hQ _ _ _ _ _ (.inl rfl) rfl (h _ _ nm1 (by omega) (hB1.next (by omega) (fun _ _ _=>rfl) fun id hid=>⟨?_,.inl (.inl hid)⟩) fun id hid=> ?_)
  ·have:=hB.rep.x id (.inl hid);omega
  ·have:=hB.rep.x id (.inl hid)
   rw[hX1 id (.inl hid),hH0,aA.aC (by omega),aA.aC (by omega)]
end
end Go.Proofs.YtmccpdapaccnoaaGreat
