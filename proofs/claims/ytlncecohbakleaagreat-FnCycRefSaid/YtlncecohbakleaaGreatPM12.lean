/- Rules and contracts. -/
import Derived.Test.YtlncecohbakleaaGreatPM10
import Derived.Test.YtlncecohbakleaaGreatPM11
import Derived.Test.YtlncecohbakleaaGreatPM9
set_option linter.unusedVariables false
set_option linter.unusedSimpArgs false
set_option maxRecDepth 100000
set_option maxHeartbeats 8000000
namespace Go.AM
theorem Cm{P:Program}{f:FuncId}{args:List D}{H:aA}{nx:Nat}{K:ag2}
 (h:aC P f args H nx fun r H' n'=>∃nh d2 b F σ,CvR nx r H' nh d2 b F σ/\K d2 b nh):aC P f args H nx K:=by
 refine⟨h.1,fun c vs hs g hl hr=> ?_⟩
 refine(h.2 c vs hs g hl hr).mono ?_
 rintro x u ⟨v,c2,r,H2,w,rfl,rfl,j,l,m,y,n,nh,d2,b,F,σ,a,o⟩
 obtain⟨I',p,q,s,t⟩:=Tq j l g a.le a.fix a.heap
 refine⟨v,c2.conv nx nh σ I',d2,b,nh,rfl,rfl,s,t,?_,a.le,EB j p q a.fix a.d n,o⟩
 rintro i (⟨k,e⟩|⟨k,e,_⟩)
 ·rcases m i e with h|h;·exact .inl h
  ·omega
 ·exact .inr ⟨k,e⟩
end Go.AM
namespace Go.Proofs.YtlncecohbakleaaGreat
open Go Go.AM
attribute [local irreducible] aK wv aC vd wvH
theorem iM{H:aA}{e:Env}{t n id m:Nat}{cs:List D1}(he:e t= .one (.c (.ptr n id 0 0)))(a:H id=some ⟨n,m,[cs]⟩)(hl:cs.length=n):nP H e [.cell t n true]=some (dA cs):=by subst hl;simp[nP,V0,he,rI,a,mkV]
theorem O9{nx i:Nat}{H:aA}:CvX (fun j=>j=i) nx H (H.del i):=fun j o' a=>by
 simp only[aA.del] at a;split at a;·cases a
 ·exact⟨by assumption,o',a,.inl rfl⟩
section
variable{H:aA}{nx:Nat}{K:ag2}
theorem DY{m:List Rng}{w e:List Int}{who:Int}{q:Req}{c0 c1 m0 m1 i0 i1 i2:Nat}{N:Nat}{ts:List D1}(dh:m.length<2^21)(hf:QF w e)(dm:w.length<=c0)(ds:e.length<=c1)(hw:0<=who/\who<=2)(hq:cR q)
 (br:i0<nx/\i1<nx/\i2<nx) (hd:[i0,i1,i2].Nodup) (M:H i0=some ⟨N,1,[.osl 1 i1 0 w.length c0:: .osl 1 i2 0 e.length c1::ts]⟩) (B:H i1=some ⟨1,m0,w.map aF⟩) (C:H i2=some ⟨1,m1,e.map aF⟩)
 (y: ∀H' nx',nx<=nx'->H' i1=some ⟨1,m0,(doM m w e who q).1.1.map aF⟩->H' i2=some ⟨1,m1,(doM m w e who q).1.2.map aF⟩->(∀id,id<nx->id≠i1->id≠i2->H' id=H id)->K (dA (lP (doM m w e who q).2)) H' nx'):
 ag1 i9 [.one (.c (.ptr N i0 0 0)),dS (m.map cY),dI who,dA (dT q)] H nx K:=by
 obtain⟨dv,ca,dx,dy⟩:=hf
 obtain⟨dz,eb,Z,aa,ab,ad,cc,ed⟩:=hq
 have ei:=zT Z
 have ej:=ux Z
 have eo:=FA (addr:=q.addr) (many:=q.many) (wrap:=q.wrap)
 have ai:All (bQ q.addr q.many q.wrap) 0 63:=ve
 have cd:=S9 (p:=(inR · ((bQ q.addr q.many q.wrap).getD 0 default))) (l:=m)
 have ep:eT m (bQ q.addr q.many q.wrap)<m.length:=by unfold eT;grind
 have cf:wrM q=true->q.data.length=(bQ q.addr q.many q.wrap).length/\q.lanes.length=(bQ q.addr q.many q.wrap).length:=by intro h;unfold wrM at h;unfold oE at aa ab;simp at h;simp only[h,if_true] at aa ab;omega
 have O:=YQ (q:=q)
 apply aC.qC
 refine bW.mk Tryz.func224 (by kernel_rfl) PX rfl fun Q W=> ?_
 unfold mS
 generalize b:bQ q.addr q.many q.wrap=all at*
 have z: ∀{H:aA} {nx:Nat} {K:ag2},K (dI (eT m all)) H nx->ag1 wP [dS (m.map cY),dA (dT q)] H nx K:=fun h=>TI (by omega) (by rw[b];exact h)
 have aj: ∀{H:aA} {nx:Nat} {K:ag2},K (dS (all.map aF)) H nx->ag1 kB [dA (dT q)] H nx K:=fun h=>DZ (by rw[b];exact h)
 have u:aT nx [i0,i1,i2]:=AM.apart hd (by simp;omega)
 simp only[aT,bM] at u
 simp only[aeA,adA,ad4,or_false,not_or] at hd
 by_cases ao:eT m all<0
 ·rw[Bk (by rw[b];exact ao)] at y;repeat' first| (first|apply vI|apply z)<;>(simp only[go_sem,ac2,ac3,M,B,C,u];try simp (disch:=omega) only[Iw])|apply vT (by omega)|refine⟨by omega,?_⟩|fail
  refine W _ _ _ _ _ (.inr rfl) (iM rfl (by simp only[aA.set,if_true];rfl) rfl) ⟨dA (lP ⟨q.id,4,[]⟩),_,noF,by repeat' first|exact C1| (with_reducible first|exact C3|apply C4)| ((with_reducible apply C0);first|exact CB rfl|exact CF)| ((with_reducible apply D0);apply C9)|apply C4|fail,aI,y _ _ (by omega) ?_ ?_ fun id i n X=> ?_⟩;·simp only[aA.set,u,if_false];exact B
  ·simp only[aA.set,u,if_false];exact C
  ·simp only[aA.set,show ¬id=nx by omega,show ¬id=nx+1 by omega,show ¬id=nx+9 by omega,if_false]
 have v: ¬eT m (bQ q.addr q.many q.wrap)<0:=by rw[b];exact ao
 by_cases g:wrM q=true
 ·obtain⟨et,eu⟩:=cf g;by_cases h3:(m.getD (eT m all).toNat default).only=true
  ·rw[Au v g (by rw[b];exact h3)] at y;repeat' first| (first|apply vI|apply z|apply jH)<;>(simp only[go_sem,ac2,ac3,M,B,C,u,g,h3];try simp (disch:=omega) only[Iw])|apply vF (by omega)|refine⟨by omega,?_⟩|fail
   refine W _ _ _ _ _ (.inr rfl) (iM rfl (by simp only[aA.set,if_true];rfl) rfl) ⟨dA (lP ⟨q.id,3,[]⟩),_,noF,by repeat' first|exact C1| (with_reducible first|exact C3|apply C4)| ((with_reducible apply C0);first|exact CB rfl|exact CF)| ((with_reducible apply D0);apply C9)|apply C4|fail,aI,y _ _ (by omega) ?_ ?_ fun id i n X=> ?_⟩;·simp only[aA.set,u,if_false];exact B
   ·simp only[aA.set,u,if_false];exact C
   ·simp only[aA.set,show ¬id=nx by omega,show ¬id=nx+1 by omega,show ¬id=nx+9 by omega,if_false]
  have P: ¬(m.getD (eT m (bQ q.addr q.many q.wrap)).toNat default).only=true:=by rw[b];exact h3
  have bb:(m.getD (eT m all).toNat default).only=false:=by simpa using h3
  by_cases h4:q.kind=4/\ ¬e.getD (who*2+q.id).toNat default=q.addr
  ·rw[Pf v P h4.1 h4.2] at y;have ew:=h4.1;have ff:=h4.2;repeat' first| (first|apply vI|apply Y4 (by omega)|apply z|apply jH)<;>(simp only[go_sem,ac2,ac3,M,B,C,u,g,bb];try simp (disch:=omega) only[Iw])|apply vT (by omega)|apply vF (by omega)|refine⟨by omega,?_⟩|fail
   refine W _ _ _ _ _ (.inr rfl) (iM rfl (by simp only[aA.set,if_true];rfl) rfl) ⟨dA (lP ⟨q.id,1,[]⟩),_,noF,by repeat' first|exact C1| (with_reducible first|exact C3|apply C4)| ((with_reducible apply C0);first|exact CB rfl|exact CF)| ((with_reducible apply D0);apply C9)|apply C4|fail,aI,y _ _ (by omega) ?_ ?_ fun id i n X=> ?_⟩;·simp only[aA.set,u,if_false];exact B
   ·simp only[aA.set,u,if_false];exact C
   ·simp only[aA.set,show ¬id=nx by omega,show ¬id=nx+1 by omega,show ¬id=nx+9 by omega,if_false]
  obtain⟨code,o⟩: ∃code:Int,code=if q.kind=4 then 2 else 1:=⟨_,rfl⟩
  have hD:doM m w e who q=((SW w all q.data q.lanes all.length,rX e all),⟨q.id,code,[]⟩):=by
   rcases O.1 g with G|G;·rw[Hv v P G,b,o,if_neg (by omega)]
   ·rw[Hy v P G (Classical.byContradiction fun hc=>h4 ⟨G,hc⟩),b,o,if_pos G]
  rw[hD] at y;have ck:=O.1 g;repeat' first| (first|apply vI|refine Y6 (fun h=> ?_) fun h=> ?_|apply z|apply aj|apply jH)<;>(simp only[go_sem,ac2,ac3,M,B,C,u,g,bb];try simp (disch:=omega) only[Iw])|apply vT (by omega)|apply vF (by omega)|refine⟨by omega,?_⟩|fail
  all_goals
   have cl:(code=2/\q.kind=4)\/(code=1/\ ¬q.kind=4):=by rw[o];split<;>simp[*]
   refine aK.cW (β:=Nat) (fun k=>en [(109,dI k),(108,dI all.length),(107,dS (all.map aF)),(12,dS (all.map aF)),(10,.one (.c (.ptr 3 (nx+9) 0 0))),(8,.one (.c (.ptr 3 (nx+1) 0 0))),(7,.one (.c (.ptr 7 nx 0 0))),(0,.one (.c (.ptr N i0 0 0)))])
    (fun k H1 _=>k<=all.length/\H1 i1=some ⟨1,m0,(SW w all q.data q.lanes k).map aF⟩/\H1 nx=some ⟨7,1,[dT q]⟩/\H1 (nx+9)=some ⟨3,1,[[cI q.id,cI code,.osl 0 0 0 0 0]]⟩/\H1 (nx+1)=some ⟨3,1,[[cI 0,cI 0,.osl 0 0 0 0 0]]⟩/\ ∀id,id<nx->id≠i1->H1 id=H id) (fun k=>all.length-k) 0 ⟨noF,_,by repeat' first|exact C1|refine xqI rfl rfl ?_|refine xqP (by omega) rfl rfl ?_|fail,aI,?_⟩ ?_
   ·refine⟨by omega,by simp only[aA.set,u,if_false];exact B,?_,?_,?_,fun id i n=> ?_⟩;·simp only[aA.set,ac3,Nat.reduceEqDiff,ae8,if_false,if_true,reduceIte]
    ·simp only[aA.set,if_true];rcases cl with⟨rfl,_⟩|⟨rfl,_⟩<;>first|rfl|contradiction
    ·simp only[aA.set,ac4,Nat.reduceEqDiff,if_false,if_true]
    ·simp only[aA.set,show ¬id=nx by omega,show ¬id=nx+1 by omega,show ¬id=nx+9 by omega,if_false]
   rintro k H1 E cp ⟨G,I,R,J,L,d⟩ KL S
   have Y:H1 i0=some ⟨N,1,[.osl 1 i1 0 w.length c0:: .osl 1 i2 0 e.length c1::ts]⟩:=by rw[d i0 (by omega) (by omega)];exact M
   have T:H1 i2=some ⟨1,m1,e.map aF⟩:=by rw[d i2 (by omega) (by omega)];exact C
   have fh:=ZZ (w:=w) (all:=all) (data:=q.data) (lanes:=q.lanes) k
   have cq:=yw (all:=all) (lanes:=q.lanes) ca ad k
   have r:aT E [i0,i1,i2,nx,nx+1,nx+9]:=AM.apart (by simp;omega) (by simp;omega)
   simp only[aT,bM] at r
   by_cases t:k<all.length
   ·have hb:=tK ai t;have cr:(all.getD k default).toNat<(SW w all q.data q.lanes k).length:=(by omega);repeat' first| (first|apply vI|apply Dn (tK cq cr) (tK ad (by omega)) (tK cc (by omega)))<;>(simp only[go_sem,ac2,ac3,Y,I,T,R,J,L,r];try simp (disch:=omega) only[Iw])|apply vT (by omega)|refine⟨by omega,?_⟩|fail
    exact S _ _ _ (k+1) noF _ (by omega) (by omega) (by repeat' first|exact C1|refine xqI rfl rfl ?_|refine xqP (by omega) rfl rfl ?_|fail) aI ⟨by omega,aA.aJ,by rw[aA.aB (by omega)];exact R,by rw[aA.aB (by omega)];exact J,by rw[aA.aB (by omega)];exact L,fun id i n=>by rw[aA.aB n];exact d id i n⟩
   ·repeat' first|apply vI<;>(simp only[go_sem,ac2,ac3,Y,I,T,R,J,L,r])|apply vF (by omega)|fail
    have A:k=all.length:=(by omega);subst A
    refine aK.cW (β:=Nat) (fun k=>en [(146,dI k),(145,dI 6),(144,dO 1 i2 6 c1),(12,dS (all.map aF)),(10,.one (.c (.ptr 3 (nx+9) 0 0))),(8,.one (.c (.ptr 3 (nx+1) 0 0))),(0,.one (.c (.ptr N i0 0 0)))])
     (fun k H2 _=>k<=6/\H2 i2=some ⟨1,m1,(uY e all k).map aF⟩/\ ∀id,id<E->id≠i2->H2 id=H1 id) (fun k=>6-k) 0 ⟨noF,_,by repeat' first|exact C1|refine xqI rfl rfl ?_|refine xqP (by omega) rfl rfl ?_|refine xqO (by omega) rfl rfl (by first|rfl|omega) ?_|refine xqV rfl (by omega) ?_|fail,aI,by omega,by rw[dp];exact T,fun _ _ _=>rfl⟩ ?_
    rintro k H2 ct cv ⟨G,f2,s⟩ KM bk;have f0:H2 i0=some ⟨N,1,[.osl 1 i1 0 w.length c0:: .osl 1 i2 0 e.length c1::ts]⟩:=(by rw[s i0 (by omega) (by omega)];exact Y);have f9:H2 (nx+9)=some ⟨3,1,[[cI q.id,cI code,.osl 0 0 0 0 0]]⟩:=(by rw[s _ (by omega) (by omega)];exact J);have f8:H2 (nx+1)=some ⟨3,1,[[cI 0,cI 0,.osl 0 0 0 0 0]]⟩:=(by rw[s _ (by omega) (by omega)];exact L);have fi:=ug (all:=all) (show k<=e.length by omega);have U:aT ct [i0,i1,i2,nx,nx+1,nx+9]:=AM.apart (by simp;omega) (by simp;omega);simp only[aT,bM] at U;by_cases br:k<6
    ·have cw:=Bo (all:=all) (show k<e.length by omega);have bp:=fun x=>sr (all:=all) (x:=x) (show k<e.length by omega);have cx:=jt (all:=all) (show k<e.length by omega);repeat' first| (first|apply vI|refine F2 (by omega) (aE rfl) ?_)<;>(simp only[go_sem,ac2,ac3,f0,f2,f9,f8,U,cw];try simp (disch:=omega) only[Iw])|apply vT (by omega)|refine iR (fun h=> ?_) fun h=> ?_|refine⟨by omega,?_⟩|fail
     ·exact bk _ _ _ (k+1) noF _ (by omega) (by omega) (by repeat' first|exact C1|refine xqI rfl rfl ?_|refine xqP (by omega) rfl rfl ?_|refine xqO (by omega) rfl rfl (by rfl) ?_|fail) aI ⟨by omega,by rw[<-bp (-1) (by rw[if_pos (by assumption)])];exact aA.aJ,fun id i n=>by rw[aA.aB n];exact s id i n⟩
     ·exact bk _ _ _ (k+1) noF _ (by omega) (by omega) (by repeat' first|exact C1|refine xqI rfl rfl ?_|refine xqP (by omega) rfl rfl ?_|refine xqO (by omega) rfl rfl (by rfl) ?_|fail) aI ⟨by omega,by rw[<-bp _ (by rw[if_neg (by assumption)]),cx];exact f2,fun id i n=>s id i n⟩
    ·repeat' first|apply vI<;>(simp only[go_sem,ac2,ac3,f0,f2,f9,f8,U])|apply vF (by omega)|fail
     have A:k=e.length:=(by omega);subst A;rw[th] at f2;refine W _ _ _ _ _ (.inr rfl) (iM rfl (by simp only[aA.set,if_true];rfl) rfl) ⟨dA (lP ⟨q.id,code,[]⟩),_,noF,by repeat' first|exact C1| (with_reducible first|exact C3|apply C4)| ((with_reducible apply C0);first|exact CB rfl|exact CF)| ((with_reducible apply D0);apply C9)|apply C4|fail,aI,y _ _ (by omega) ?_ ?_ fun id i n X=> ?_⟩;·rw[aA.aB (by omega),s _ (by omega) (by omega)];exact I
     ·rw[aA.aB (by omega)];exact f2
     ·rw[aA.aB (by omega),s _ (by omega) X];exact d id i n
 have cy:wrM q=false:=by simpa using g
 have da:q.kind=1\/q.kind=3:=by have h3: ¬(q.kind=2\/q.kind=4):=fun h=>g (O.2 h);omega
 repeat' first| (first|apply vI|apply Y5 (by omega)|apply z|apply aj|apply jH)<;>(simp only[go_sem,ac2,ac3,M,B,C,u,cy];try simp (disch:=omega) only[Iw])|apply vF (by omega)|refine⟨by omega,?_⟩|fail
 refine aK.cW (β:=Nat) (fun k=>en [(76,dI k),(75,dI all.length),(74,dS (all.map aF)),(11,.one (.c (.ptr 1 i2 (who*2+q.id).toNat 0))),(10,.one (.c (.ptr 3 (nx+9) 0 0))),(8,.one (.c (.ptr 3 (nx+1) 0 0))),(7,.one (.c (.ptr 7 nx 0 0))),(0,.one (.c (.ptr N i0 0 0)))])
  (fun k H1 _=>k<=all.length/\H1 nx=some ⟨7,1,[dT q]⟩/\H1 (nx+9)=some ⟨3,1,[[cI q.id,cI 1,.osl 1 (nx+55) 0 all.length all.length]]⟩/\H1 (nx+1)=some ⟨3,1,[[cI 0,cI 0,.osl 0 0 0 0 0]]⟩/\H1 (nx+55)=some ⟨1,all.length,((List.range k).map (fun k=>w.getD (all.getD k default).toNat default)++List.replicate (all.length-k) (0:Int)).map aF⟩/\ ∀id,id<nx->H1 id=H id)
  (fun k=>all.length-k) 0 ⟨noF,_,by repeat' first|exact C1|refine xqI rfl rfl ?_|refine xqP (by omega) rfl rfl ?_|fail,aI,?_⟩ ?_
 ·refine⟨by omega,?_,?_,?_,?_,fun id i=> ?_⟩;·simp only[aA.set,ac3,Nat.reduceEqDiff,ae8,if_false,if_true,reduceIte]
  ·simp only[aA.set,if_true]
  ·simp only[aA.set,ac4,Nat.reduceEqDiff,if_false,if_true]
  ·simp only[aA.set,ac4,Nat.reduceEqDiff,if_false,if_true];simp[aF]
  ·simp only[aA.set,show ¬id=nx by omega,show ¬id=nx+1 by omega,show ¬id=nx+9 by omega,show ¬id=nx+55 by omega,if_false]
 rintro k H1 E cp ⟨G,R,J,L,gd,d⟩ KL S
 have Y:H1 i0=some ⟨N,1,[.osl 1 i1 0 w.length c0:: .osl 1 i2 0 e.length c1::ts]⟩:=by rw[d i0 (by omega)];exact M
 have I:H1 i1=some ⟨1,m0,w.map aF⟩:=by rw[d i1 (by omega)];exact B
 have T:H1 i2=some ⟨1,m1,e.map aF⟩:=by rw[d i2 (by omega)];exact C
 have V:((List.range k).map (fun k=>w.getD (all.getD k default).toNat default)++List.replicate (all.length-k) (0:Int)).length=all.length:=by simp;omega
 have r:aT E [i0,i1,i2,nx,nx+1,nx+9,nx+55]:=AM.apart (by simp;omega) (by simp;omega)
 simp only[aT,bM] at r
 by_cases t:k<all.length
 ·have hb:=tK ai t;have dc:=fun x=>xd (f:=fun k=>w.getD (all.getD k default).toNat default) (x:=x) t;repeat' first|apply vI<;>(simp only[go_sem,ac2,ac3,Y,I,T,R,J,L,gd,r,V];try simp (disch:=omega) only[Iw])|apply vT (by omega)|refine⟨by omega,?_⟩|fail
  exact S _ _ _ (k+1) noF _ (by omega) (by omega) (by repeat' first|exact C1|refine xqI rfl rfl ?_|refine xqP (by omega) rfl rfl ?_|fail) aI ⟨by omega,by rw[aA.aB (by omega)];exact R,by rw[aA.aB (by omega)];exact J,by rw[aA.aB (by omega)];exact L,by rw[<-dc _ rfl];exact aA.aJ,fun id i=>by rw[aA.aB (by omega)];exact d id i⟩
 ·have A:k=all.length:=by omega
  subst A;have df:(List.range all.length).map (fun k=>w.getD (all.getD k default).toNat default)++List.replicate (all.length-all.length) (0:Int)=all.map fun a=>w.getD a.toNat default:=by rw[aaJ];simp
  rw[df] at gd;repeat' first|apply vI<;>(simp only[go_sem,ac2,ac3,Y,I,T,R,J,L,gd,r])|apply vF (by omega)|refine iR (fun h=> ?_) fun h=> ?_|refine⟨by omega,?_⟩|fail
  ·rw[Bu v (by assumption),b] at y;refine W _ _ _ _ _ (.inr rfl) (iM rfl (by simp only[aA.set,if_true];rfl) rfl) ⟨dA (lP ⟨q.id,2,all.map fun a=>w.getD a.toNat default⟩),_,fun j=>j=nx+55,oH (aH (bE rfl) (aH (bE rfl) (aH (cM (l:=all.map fun a=>w.getD a.toNat default) (F:=fun j=>j=nx+55) (m:=all.length) (len:=all.length) (cap:=all.length) aP ?_ (by simp) (by simp) rfl) cG))),O9,y _ _ (by omega) ?_ ?_ fun id i n X=> ?_⟩;·rw[aA.aB (by omega),aA.aB (by omega),aA.aB (by omega)];exact gd
   ·rw[aA.cL (by omega),aA.aB (by omega),aA.aB (by omega),aA.aB (by omega)];exact I
   ·rw[aA.cL (by omega),aA.aB (by omega),aA.aJ]
   ·rw[aA.cL (by omega),aA.aB (by omega),aA.aB (by omega),aA.aB (by omega)];exact d id i
  ·rw[Av v (by omega),b] at y;refine W _ _ _ _ _ (.inr rfl) (iM rfl (by simp only[aA.set,if_true];rfl) rfl) ⟨dA (lP ⟨q.id,1,all.map fun a=>w.getD a.toNat default⟩),_,fun j=>j=nx+55,oH (aH (bE rfl) (aH (bE rfl) (aH (cM (l:=all.map fun a=>w.getD a.toNat default) (F:=fun j=>j=nx+55) (m:=all.length) (len:=all.length) (cap:=all.length) aP ?_ (by simp) (by simp) rfl) cG))),O9,y _ _ (by omega) ?_ ?_ fun id i n X=> ?_⟩;·rw[aA.aB (by omega)];exact gd
   ·rw[aA.cL (by omega),aA.aB (by omega)];exact I
   ·rw[aA.cL (by omega),aA.aB (by omega)];exact T
   ·rw[aA.cL (by omega),aA.aB (by omega)];exact d id i
end
theorem SP(m:List Rng)(s:TSt)(who:Int)(q:Req)(c0 c1 c2 c3 c4 c5 m0 m1:Nat)(b c d e:bN)(f:m.length<2^21)(n:QF s.words s.holds)(g:s.words.length<=c0)(h:s.holds.length<=c1)(hw:0<=who/\who<=2)(o:cR q)(i:kC b)(j:kC c)(k:kC d)(l:kC e):
 ag1 i9 [dP 6 0,dS (m.map cY),dI who,dA (dT q)] (hp [(0,⟨6,1,[oIm 1 2 3 4 5 6 c0 c1 c2 c3 c4 c5 s]⟩),(1,⟨1,m0,(s.words).map aF⟩),(2,⟨1,m1,(s.holds).map aF⟩),(3,b),(4,c),(5,d),(6,e)]) 7
 fun r H' n'=>n'=7/\H'=hp [(0,⟨6,1,[oIm 1 2 3 4 5 6 c0 c1 c2 c3 c4 c5 s]⟩),(1,⟨1,m0,((doM m s.words s.holds who q).1.1).map aF⟩),(2,⟨1,m1,((doM m s.words s.holds who q).1.2).map aF⟩),(3,b),(4,c),(5,d),(6,e)]/\r=dA (lP (doM m s.words s.holds who q).2):=by
 refine Cm (DY (i0:=0) (i1:=1) (i2:=2) f n g h hw o (by omega) (by simp) rfl rfl rfl fun H' nx' B p t a=> ?_)
 have u:=a 0 (by omega) (by omega) (by omega)
 have v:=a 3 (by omega) (by omega) (by omega)
 have w:=a 4 (by omega) (by omega) (by omega)
 have x:=a 5 (by omega) (by omega) (by omega)
 have f6:=a 6 (by omega) (by omega) (by omega)
 generalize doM m s.words s.holds who q=y at*
 obtain⟨⟨z,A⟩,r'⟩:=y
 refine⟨7,dA (lP r'),hp [(0,⟨6,1,[oIm 1 2 3 4 5 6 c0 c1 c2 c3 c4 c5 s]⟩),(1,⟨1,m0,z.map aF⟩),(2,⟨1,m1,A.map aF⟩),(3,b),(4,c),(5,d),(6,e)],_,_,fT [0,1,2,3,4,5,6] (by omega) (aE rfl) ⟨⟨by omega,by simp[sgL],_,u,aW (by simp only[oIm];repeat' first|exact C1| (with_reducible first|exact C3|apply C4)| ((with_reducible apply C0);exact CQ (by omega) rfl rfl (by rfl) rfl)|fail)⟩,⟨by omega,by simp[sgL],_,p,aY (aG aP _) rfl rfl⟩,⟨by omega,by simp[sgL],_,t,aY (aG aP _) rfl rfl⟩,⟨by omega,by simp[sgL],_,v,cP i⟩,⟨by omega,by simp[sgL],_,w,cP j⟩,⟨by omega,by simp[sgL],_,x,cP k⟩,⟨by omega,by simp[sgL],_,f6,cP l⟩,trivial⟩ (by simp[sgL]),rfl,rfl,rfl⟩
section
variable{H:aA}{nx:Nat}{K:ag2}
theorem SG{m:List Rng}{s:TSt}{who:Int}{q:Req}{c0 c1 c2 c3 c4 c5 m0 m1 i0 i1 i2 i3 i4 i5 a:Nat}{f g i j:bN}(k:m.length<2^21)(u:QF s.words s.holds)(l:s.words.length<=c0)(n:s.holds.length<=c1)(hw:0<=who/\who<=2)(v:cR q)(b:kC f)(c:kC g)(d:kC i)(e:kC j)
 (w:i0<nx/\i1<nx/\i2<nx/\i3<nx/\i4<nx/\i5<nx/\a<nx) (o:[i0,i1,i2,i3,i4,i5,a].Nodup) (y:H i0=some ⟨6,1,[oIm i1 i2 i3 i4 i5 a c0 c1 c2 c3 c4 c5 s]⟩) (z:H i1=some ⟨1,m0,s.words.map aF⟩) (A:H i2=some ⟨1,m1,s.holds.map aF⟩) (B:H i3=some f) (C:H i4=some g) (D:H i5=some i) (E:H a=some j)
 (h:K (dA (lP (doM m s.words s.holds who q).2)) (((((((H.set i0 ⟨6,1,[oIm i1 i2 i3 i4 i5 a c0 c1 c2 c3 c4 c5 s]⟩).set i1 ⟨1,m0,(doM m s.words s.holds who q).1.1.map aF⟩).set i2 ⟨1,m1,(doM m s.words s.holds who q).1.2.map aF⟩).set i3 f).set i4 g).set i5 i).set a j) nx):ag1 i9 [dP 6 i0,dS (m.map cY),dI who,dA (dT q)] H nx K:=by
 refine(SP m s who q c0 c1 c2 c3 c4 c5 m0 m1 f g i j k u l n hw v b c d e).DD [i0,i1,i2,i3,i4,i5,a] rfl ⟨pL (by simp) rfl,aE rfl,aE rfl,aE rfl,trivial⟩ ?_ ?_ ?_ o fun r H' n' _ ⟨F,G,I⟩=> ?_
 ·refine⟨⟨by simp,id,_,y,aW ?_⟩,⟨by simp,id,_,z,aY (aG aP _) rfl rfl⟩,⟨by simp,id,_,A,aY (aG aP _) rfl rfl⟩,⟨by simp,id,_,B,cP b⟩,⟨by simp,id,_,C,cP c⟩,⟨by simp,id,_,D,cP d⟩,⟨by simp,id,_,E,cP e⟩,trivial⟩;unfold oIm;exact aH (gG (by simp) rfl rfl rfl rfl) (aH (gG (by simp) rfl rfl rfl rfl) (aH (gG (by simp) rfl rfl rfl rfl) (aH (gG (by simp) rfl rfl rfl rfl) (aH (gG (by simp) rfl rfl rfl rfl) (aH (gG (by simp) rfl rfl rfl rfl) cG)))))
 ·exact o
 ·intro x J;simp only[adA,ad4,or_false] at J;omega
 ·subst F;subst G;subst I;generalize (doM m s.words s.holds who q)=L at*;obtain⟨⟨p,t⟩,r'⟩:=L;have M:bN.rn (tau 7 nx (nth [i0,i1,i2,i3,i4,i5,a])) ⟨6,1,[oIm 1 2 3 4 5 6 c0 c1 c2 c3 c4 c5 s]⟩=⟨6,1,[oIm i1 i2 i3 i4 i5 a c0 c1 c2 c3 c4 c5 s]⟩:=rfl;have N:back (tau 7 nx (nth [i0,i1,i2,i3,i4,i5,a])) (hp [(0,⟨6,1,[oIm 1 2 3 4 5 6 c0 c1 c2 c3 c4 c5 s]⟩),(1,⟨1,m0,p.map aF⟩),(2,⟨1,m1,t.map aF⟩),(3,f),(4,g),(5,i),(6,j)]) 7 H=(((((((H.set i0 ⟨6,1,[oIm i1 i2 i3 i4 i5 a c0 c1 c2 c3 c4 c5 s]⟩).set i1 ⟨1,m0,p.map aF⟩).set i2 ⟨1,m1,t.map aF⟩).set i3 f).set i4 g).set i5 i).set a j):=by simp only[back,hp,aA.set,Option.map_some,M,nN,mW b,mW c,mW d,mW e,aA.fI,if_true,Nat.reduceEqDiff,if_false,reduceIte];rfl
  rw[<-N] at h;exact h
theorem MQ(c:Cfg)(s:TSt)(e:Ev)(c0 c1 c2 c3 c4 c5 m0 m1 z N O x:Nat)(A:bG c)(hs:kM c s)(B:L7 c s e=0)(hc:s.words.length<=c0/\s.holds.length<=c1/\s.asked.length<=c2/\s.wait.length<=c3/\s.done.length<=c4/\s.told.length<=c5)(hm:c3<=N/\c4<=O/\c5<=x):
 ag1 l5 [dA (bO c),dP 6 0,dA (eEv e)] (hp [(0,⟨6,1,[oIm 1 2 3 4 5 6 c0 c1 c2 c3 c4 c5 s]⟩),(1,⟨1,m0,s.words.map aF⟩),(2,⟨1,m1,s.holds.map aF⟩),(3,⟨1,z,s.asked.map aF⟩),(4,⟨5,N,s.wait.map aL⟩),(5,⟨5,O,s.done.map aL⟩),(6,⟨5,x,s.told.map aL⟩)]) 7
 fun r H' n'=>∃k o p C D E,((dY c s e).wait.length<=k/\(dY c s e).done.length<=o/\(dY c s e).told.length<=p)/\(k<=C/\o<=D/\p<=E)/\n'=10/\
  H'=hp [(0,⟨6,1,[oIm 1 2 3 7 8 9 c0 c1 c2 k o p (dY c s e)]⟩),(1,⟨1,m0,(dY c s e).words.map aF⟩),(2,⟨1,m1,(dY c s e).holds.map aF⟩),(3,⟨1,z,(dY c s e).asked.map aF⟩),(7,⟨5,C,(dY c s e).wait.map aL⟩),(8,⟨5,D,(dY c s e).done.map aL⟩),(9,⟨5,E,(dY c s e).told.map aL⟩)]/\r= .tup []:=by
 have hl:=hs.lens A
 have hf:=hs.fit A
 obtain⟨aa,F⟩:=eM A
 have ab:=hs.atm.wl
 have ad:=hs.atm.hl
 have ai:=hs.yI
 have V:=A.1.1
 have W:=F e.who.toNat
 obtain⟨P,R,aj,i,j,G⟩:=hc
 obtain⟨t,u,H⟩:=hm
 obtain⟨I,v⟩:=O1 B
 have w:=FE A I
 obtain⟨S,ao⟩:=I
 have T:=bo hs.nodup
 have bb:=hs.HV e.who.toNat (by omega)
 refine aR.mk Tryz.func134 (by kernel_rfl) MA rfl fun Q y=> ?_
 unfold lC
 simp only[oIm]
 rcases v with⟨X,hi⟩|⟨X,hi⟩|⟨X,hi⟩
 ·have f:(e.who,e.n)∉s.wait.map key:=fun hm=>by
   have:=(hs.Eo (e.who,e.n) (by simp only[keys,adF];exact ad8 _ (ad8 _ hm))).2.2
   dsimp only at this;omega
  repeat' first| (first|apply vI|refine jv (by omega) hs.TA f i t (by omega) rfl (fun b J K L=> ?_))<;>(simp only[go_sem];try simp (disch:=omega) only[Iw])|apply vT (by omega)|refine⟨by omega,?_⟩|fail
  have g:dY c s e=({s with asked:=s.asked.set e.who.toNat (e.n+1),wait:=iF s.wait ⟨e.who,e.n,iL⟩}:TSt):=by simp only[dY];rw[if_pos (by assumption)]
  have U:s.asked.getD e.who.toNat default+1=e.n+1:=by omega
  rw[U]
  rw[g] at y
  try apply aK.nil
  (refine y _ _ _ _ _ 10 (.tup []) (hp [(0,⟨6,1,[oIm 1 2 3 7 8 9 c0 c1 c2 b c4 c5 ({s with asked:=s.asked.set e.who.toNat (e.n+1),wait:=iF s.wait ⟨e.who,e.n,iL⟩}:TSt)]⟩),(1,⟨1,m0,({s with asked:=s.asked.set e.who.toNat (e.n+1),wait:=iF s.wait ⟨e.who,e.n,iL⟩}:TSt).words.map aF⟩),(2,⟨1,m1,({s with asked:=s.asked.set e.who.toNat (e.n+1),wait:=iF s.wait ⟨e.who,e.n,iL⟩}:TSt).holds.map aF⟩),(3,⟨1,z,({s with asked:=s.asked.set e.who.toNat (e.n+1),wait:=iF s.wait ⟨e.who,e.n,iL⟩}:TSt).asked.map aF⟩),(7,⟨5,J,({s with asked:=s.asked.set e.who.toNat (e.n+1),wait:=iF s.wait ⟨e.who,e.n,iL⟩}:TSt).wait.map aL⟩),(8,⟨5,O,({s with asked:=s.asked.set e.who.toNat (e.n+1),wait:=iF s.wait ⟨e.who,e.n,iL⟩}:TSt).done.map aL⟩),(9,⟨5,x,({s with asked:=s.asked.set e.who.toNat (e.n+1),wait:=iF s.wait ⟨e.who,e.n,iL⟩}:TSt).told.map aL⟩)]) _ _ (.inl rfl) rfl (fT [38,5,6,0,1,2,3] (by omega) (by repeat' ((with_reducible apply D0);exact CA rfl)) ⟨⟨by simp,by simp[sgL],_,rfl,aW (by unfold oIm;repeat' first|exact C1| (with_reducible first|exact C3|apply C4)| ((with_reducible apply C0);(exact CQ (by omega) rfl rfl (by first|rfl| (simp;done)) rfl))|fail)⟩,⟨by simp,by simp[sgL],_,rfl,aY (aG aP _) rfl rfl⟩,⟨by simp,by simp[sgL],_,rfl,aY (aG aP _) rfl rfl⟩,⟨by simp,by simp[sgL],_,rfl,aY (aG aP _) rfl rfl⟩,⟨by simp,by simp[sgL],_,rfl,aY (aG bC _) rfl rfl⟩,⟨by simp,by simp[sgL],_,rfl,aY (aG bC _) rfl rfl⟩,⟨by simp,by simp[sgL],_,rfl,aY (aG bC _) rfl rfl⟩,trivial⟩ (by simp[sgL])) ?_)
  exact⟨b,c4,c5,J,O,x,⟨K,j,G⟩,⟨L,u,H⟩,rfl,rfl,rfl⟩
 ·have d:=nR hi;have f:(e.who,e.n)∉s.done.map key:=T _ (ac9.2 ⟨_,cC d.1,d.2⟩);repeat' first| (first|apply vI|refine EO (l:=s.wait) (by omega) (oI bC rfl rfl i trivial) ?_|refine nG (by omega) hi d.1 i t (by omega) rfl (fun a h K L=> ?_)|refine SG (s:=({s with wait:=lT s.wait (bK (cO e.who e.n) s.wait).toNat}:TSt)) (c0:=c0) (c1:=c1) (c2:=c2) (c3:=a) (c4:=c4) (c5:=c5) (m:=c.map) (q:=bF c e.who e.n) (by omega) hs.atm P R S w (eC aP _) (eC bC _) (eC bC _) (eC bC _) (by omega) (by simp) rfl rfl rfl rfl rfl rfl rfl ?_|refine gm (by omega) hs.UP f j u (by omega) rfl (fun b J q3 q4=> ?_))<;>(simp only[go_sem,oIm];try simp (disch:=omega) only[Iw])|apply vT (by omega)|apply vF (by omega)|refine⟨by omega,?_⟩|fail
  have g:dY c s e=({s with words:=(doM c.map s.words s.holds e.who (bF c e.who e.n)).1.1,holds:=(doM c.map s.words s.holds e.who (bF c e.who e.n)).1.2,wait:=lT s.wait (bK (cO e.who e.n) s.wait).toNat,done:=iF s.done ⟨e.who,e.n,(doM c.map s.words s.holds e.who (bF c e.who e.n)).2⟩}:TSt):=by simp only[dY];rw[if_neg (by omega),if_pos (by assumption)]
  have Y:=(vt (m:=c.map) (who:=e.who) hs.atm w).wl;have Z:=(vt (m:=c.map) (who:=e.who) hs.atm w).hl;rw[g] at y;try apply aK.nil
  (refine y _ _ _ _ _ 10 (.tup []) (hp [(0,⟨6,1,[oIm 1 2 3 7 8 9 c0 c1 c2 a b c5 ({s with words:=(doM c.map s.words s.holds e.who (bF c e.who e.n)).1.1,holds:=(doM c.map s.words s.holds e.who (bF c e.who e.n)).1.2,wait:=lT s.wait (bK (cO e.who e.n) s.wait).toNat,done:=iF s.done ⟨e.who,e.n,(doM c.map s.words s.holds e.who (bF c e.who e.n)).2⟩}:TSt)]⟩),(1,⟨1,m0,({s with words:=(doM c.map s.words s.holds e.who (bF c e.who e.n)).1.1,holds:=(doM c.map s.words s.holds e.who (bF c e.who e.n)).1.2,wait:=lT s.wait (bK (cO e.who e.n) s.wait).toNat,done:=iF s.done ⟨e.who,e.n,(doM c.map s.words s.holds e.who (bF c e.who e.n)).2⟩}:TSt).words.map aF⟩),(2,⟨1,m1,({s with words:=(doM c.map s.words s.holds e.who (bF c e.who e.n)).1.1,holds:=(doM c.map s.words s.holds e.who (bF c e.who e.n)).1.2,wait:=lT s.wait (bK (cO e.who e.n) s.wait).toNat,done:=iF s.done ⟨e.who,e.n,(doM c.map s.words s.holds e.who (bF c e.who e.n)).2⟩}:TSt).holds.map aF⟩),(3,⟨1,z,({s with words:=(doM c.map s.words s.holds e.who (bF c e.who e.n)).1.1,holds:=(doM c.map s.words s.holds e.who (bF c e.who e.n)).1.2,wait:=lT s.wait (bK (cO e.who e.n) s.wait).toNat,done:=iF s.done ⟨e.who,e.n,(doM c.map s.words s.holds e.who (bF c e.who e.n)).2⟩}:TSt).asked.map aF⟩),(7,⟨5,h,({s with words:=(doM c.map s.words s.holds e.who (bF c e.who e.n)).1.1,holds:=(doM c.map s.words s.holds e.who (bF c e.who e.n)).1.2,wait:=lT s.wait (bK (cO e.who e.n) s.wait).toNat,done:=iF s.done ⟨e.who,e.n,(doM c.map s.words s.holds e.who (bF c e.who e.n)).2⟩}:TSt).wait.map aL⟩),(8,⟨5,J,({s with words:=(doM c.map s.words s.holds e.who (bF c e.who e.n)).1.1,holds:=(doM c.map s.words s.holds e.who (bF c e.who e.n)).1.2,wait:=lT s.wait (bK (cO e.who e.n) s.wait).toNat,done:=iF s.done ⟨e.who,e.n,(doM c.map s.words s.holds e.who (bF c e.who e.n)).2⟩}:TSt).done.map aL⟩),(9,⟨5,x,({s with words:=(doM c.map s.words s.holds e.who (bF c e.who e.n)).1.1,holds:=(doM c.map s.words s.holds e.who (bF c e.who e.n)).1.2,wait:=lT s.wait (bK (cO e.who e.n) s.wait).toNat,done:=iF s.done ⟨e.who,e.n,(doM c.map s.words s.holds e.who (bF c e.who e.n)).2⟩}:TSt).told.map aL⟩)]) _ _ (.inl rfl) rfl (fT [37,70,6,0,1,2,3] (by omega) (by repeat' ((with_reducible apply D0);exact CA rfl)) ⟨⟨by simp,by simp[sgL],_,rfl,aW (by unfold oIm;repeat' first|exact C1| (with_reducible first|exact C3|apply C4)| ((with_reducible apply C0);(exact CQ (by omega) rfl rfl (by first|rfl| (dsimp only;omega)) rfl))|fail)⟩,⟨by simp,by simp[sgL],_,rfl,aY (aG aP _) rfl rfl⟩,⟨by simp,by simp[sgL],_,rfl,aY (aG aP _) rfl rfl⟩,⟨by simp,by simp[sgL],_,rfl,aY (aG aP _) rfl rfl⟩,⟨by simp,by simp[sgL],_,rfl,aY (aG bC _) rfl rfl⟩,⟨by simp,by simp[sgL],_,rfl,aY (aG bC _) rfl rfl⟩,⟨by simp,by simp[sgL],_,rfl,aY (aG bC _) rfl rfl⟩,trivial⟩ (by simp[sgL])) ?_);exact⟨a,b,c5,h,J,x,⟨K,q3,G⟩,⟨L,q4,H⟩,rfl,rfl,rfl⟩
 ·have d:=nR hi;repeat' first| (first|apply vI|refine EO (l:=s.done) (by omega) (oI bC rfl rfl j trivial) ?_|refine nG (by omega) hi d.1 j u (by omega) rfl (fun a h K L=> ?_))<;>(simp only[go_sem];try simp (disch:=omega) only[Iw])|apply vT (by omega)|apply vF (by omega)| (with_reducible first|refine fun(cap:Nat) (M:_<=cap)=> ?_|refine fun(bk:_<=cap)=> ?_)|refine⟨by omega,?_⟩|fail
  have g:dY c s e=({s with told:=s.told++[s.done.getD (bK (cO e.who e.n) s.done).toNat default],done:=lT s.done (bK (cO e.who e.n) s.done).toNat}:TSt):=by simp only[dY];rw[if_neg (by omega),if_neg (by omega)]
  rw[g] at y;try apply aK.nil
  (refine y _ _ _ _ _ 10 (.tup []) (hp [(0,⟨6,1,[oIm 1 2 3 7 8 9 c0 c1 c2 c3 a cap ({s with told:=s.told++[s.done.getD (bK (cO e.who e.n) s.done).toNat default],done:=lT s.done (bK (cO e.who e.n) s.done).toNat}:TSt)]⟩),(1,⟨1,m0,({s with told:=s.told++[s.done.getD (bK (cO e.who e.n) s.done).toNat default],done:=lT s.done (bK (cO e.who e.n) s.done).toNat}:TSt).words.map aF⟩),(2,⟨1,m1,({s with told:=s.told++[s.done.getD (bK (cO e.who e.n) s.done).toNat default],done:=lT s.done (bK (cO e.who e.n) s.done).toNat}:TSt).holds.map aF⟩),(3,⟨1,z,({s with told:=s.told++[s.done.getD (bK (cO e.who e.n) s.done).toNat default],done:=lT s.done (bK (cO e.who e.n) s.done).toNat}:TSt).asked.map aF⟩),(7,⟨5,N,({s with told:=s.told++[s.done.getD (bK (cO e.who e.n) s.done).toNat default],done:=lT s.done (bK (cO e.who e.n) s.done).toNat}:TSt).wait.map aL⟩),(8,⟨5,h,({s with told:=s.told++[s.done.getD (bK (cO e.who e.n) s.done).toNat default],done:=lT s.done (bK (cO e.who e.n) s.done).toNat}:TSt).done.map aL⟩),(9,⟨5,cap,({s with told:=s.told++[s.done.getD (bK (cO e.who e.n) s.done).toNat default],done:=lT s.done (bK (cO e.who e.n) s.done).toNat}:TSt).told.map aL⟩)]) _ _ (.inl rfl) rfl (fT [4,56,40,0,1,2,3] (by omega) (by repeat' ((with_reducible apply D0);exact CA rfl)) ⟨⟨by simp,by simp[sgL],_,rfl,aW (by unfold oIm;repeat' first|exact C1| (with_reducible first|exact C3|apply C4)| ((with_reducible apply C0);(exact CQ (by omega) rfl rfl (by first|rfl| (simp;done)) rfl))|fail)⟩,⟨by simp,by simp[sgL],_,rfl,aY (aG aP _) rfl rfl⟩,⟨by simp,by simp[sgL],_,rfl,aY (aG aP _) rfl rfl⟩,⟨by simp,by simp[sgL],_,rfl,aY (aG aP _) rfl rfl⟩,⟨by simp,by simp[sgL],_,rfl,aY (aG bC _) rfl rfl⟩,⟨by simp,by simp[sgL],_,rfl,aY (aG bC _) rfl rfl⟩,⟨by simp,by simp[sgL],_,rfl,aY (aG bC _) rfl rfl⟩,trivial⟩ (by simp[sgL])) ?_);exact⟨c3,a,cap,N,h,cap,⟨i,K,by simpa using M⟩,⟨t,L,ac1 _⟩,rfl,rfl,rfl⟩
end
theorem NW{i:CIn}{s:CSt}{st:Nat}(h:i.nO.getD st default=true\/(aU s st).pipe.length=0):mQ i s st=none:=if_pos h
theorem aw{i:CIn}{s:CSt}{st:Nat}(h: ¬(i.nO.getD st default=true\/(aU s st).pipe.length=0))(a:0<(eL s st).left):mQ i s st=some (.tick st):=by unfold mQ;rw[if_neg h,if_pos a]
theorem jm{i:CIn}{s:CSt}{st:Nat}(h: ¬(i.nO.getD st default=true\/(aU s st).pipe.length=0))(a: ¬0<(eL s st).left)(b:(aU s st).done.length<2):mQ i s st=some (.work st):=by unfold mQ;rw[if_neg h,if_neg a,if_pos b]
theorem ZE{i:CIn}{s:CSt}{st:Nat}(h: ¬(i.nO.getD st default=true\/(aU s st).pipe.length=0))(a: ¬0<(eL s st).left)(b: ¬(aU s st).done.length<2):mQ i s st=none:=by unfold mQ;rw[if_neg h,if_neg a,if_neg b]
section
variable{H:aA}{nx:Nat}{K:ag2}
variable{i0 i1:Nat}
theorem OJ{X:Nat->Prop}{c:Cfg}{i:CIn}{s:CSt}{es:List Ev}{nm:Nat->Nat}(hb:bG c)(hs:COk c s)(fs:i.nO.length=4)(hB:pN X H nx i0 i1 nm s es)(hl:es.length<900)
 (h: ∀H' nx' E,nx<=nx'->pN X H' nx' i0 i1 E (l6 c s (GY c i s)) (es++iE c s (GY c i s))->(∀id,X id->H' id=H id)->K (.tup []) H' nx'):
 ag1 qH [.one (.c (.ptr 5 i0 0 0)),dA (bO c),dA (eIn i),.one (.c (.ptr 5 i1 0 0))] H nx K:=by
 refine bW.mk Tryz.func188 (by kernel_rfl) MG rfl fun Q hQ=> ?_
 unfold lF
 obtain⟨fx,gf⟩:=eM hb
 obtain⟨wc,hc,pc,vc,tc,cw,gi,gq,gr,ha,hd⟩: ∃wc hc pc vc tc,H i0=some ⟨5,1,[[.osl 1 (nm 0) 0 s.words.length wc,.osl 1 (nm 1) 0 s.holds.length hc,.osl 4 (nm 2) 0 3 pc,.osl 3 (nm 3) 0 4 vc,.osl 5 (nm 4) 0 s.told.length tc]]⟩/\_:=by obtain⟨cells,h1,⟨wc,hc,pc,vc,tc,rfl,h2⟩,_⟩:=hB.rep.st;exact⟨wc,hc,pc,vc,tc,h1,h2⟩
 have f:=hB.rep.apart (nx':=nx) [] [] (ac1 _) (by simp) (by simp) (by simp) (by simp)
 simp only[aT,bM,List.map,List.nil_append] at f
 repeat' first|apply vI<;>(simp only[go_sem,ac2,ac3,cw,f])|fail
 obtain⟨H0,M⟩: ∃H0,H0=(H.set nx ⟨3,1,[bO c]⟩).set (nx+1) ⟨3,1,[eIn i]⟩:=⟨_,rfl⟩
 rw[<-M]
 have cx:H0 nx=some ⟨3,1,[bO c]⟩:=by rw[M,aA.aB (by omega)];exact aA.aJ
 have cy:H0 (nx+1)=some ⟨3,1,[eIn i]⟩:=by rw[M];exact aA.aJ
 have da:=hB.rep.i0.1
 have df:=hB.hap.i1.1
 have dh:pN (fun id=>X id\/id=nx\/id=nx+1) H0 (nx+8) i0 i1 nm s es:=hB.next (by omega) (fun id h1 h2=>by rw[M,aA.aB (by omega),aA.aB (by omega)]) fun id b=>by
  rcases b with b|rfl|rfl;·have:=hB.rep.x id (.inl b);exact⟨by omega,.inl b⟩
  ·exact⟨by omega,.inr (ac1 _)⟩
  ·exact⟨by omega,.inr (by omega)⟩
 refine aK.cW (β:=Nat×CSt×List Ev×(Nat->Nat)) (fun u=>en [(16,dI u.1),(15,dI 4),(6,.one (.c (.ptr 3 (nx+1) 0 0))),(5,.one (.c (.ptr 3 nx 0 0))),(3,.one (.c (.ptr 5 i1 0 0))),(0,.one (.c (.ptr 5 i0 0 0)))])
  (fun u H1 t=>u.1<=4/\COk c u.2.1/\pN (fun id=>X id\/id=nx\/id=nx+1) H1 t i0 i1 u.2.2.2 u.2.1 u.2.2.1/\(∀id,X id\/id=nx\/id=nx+1->H1 id=H0 id)/\DP c (mQ i) ([0,1,2,3].drop u.1) u.2.1 u.2.2.1 (l6 c s (GY c i s)) (es++iE c s (GY c i s))/\u.2.2.1.length<=es.length+u.1)
  (fun u=>4-u.1) (0,s,es,nm) ⟨noF,_,by repeat' first|exact C1|refine xqI rfl rfl ?_|refine xqP (by omega) rfl rfl ?_|fail,aI,by dsimp only;omega,hs,dh.mono (by omega),fun _ _=>rfl,⟨rfl,rfl⟩,by simp⟩ ?_
 rintro⟨k,s1,N,p⟩ H1 t hf ⟨hk,m,g,F,ab,dm⟩ KL O
 dsimp only at hk m g ab dm
 obtain⟨wc,hc,pc,vc,tc,mp,rp,mv,rv,W,g1,Y,g3,g4,g5,g6,g7,g8,g9,ga,gb⟩:=g.rep.get
 have I:H1 (nx+1)=some ⟨3,1,[eIn i]⟩:=by rw[F _ (.inr (.inr rfl))];exact cy
 have ad:H1 nx=some ⟨3,1,[bO c]⟩:=by rw[F _ (.inr (.inl rfl))];exact cx
 by_cases B:k<4
 ·have L:=ab;rw[ta B] at L;obtain⟨v,y⟩: ∃v,v=aU s1 k:=⟨_,rfl⟩
  obtain⟨po,ai,do_,dc,gs,gp,gd⟩:=gb k B;rw[<-y] at gs gp gd;obtain⟨md,rd,d1,d2,d3,d4,d5,d6⟩:=gd.ex;obtain⟨me,re,p1,p2,p3,p4,p5,p6⟩:=gp.ex;rw[adE] at d4 p4
  cases J:i.nO.getD k default with
  |true=>
   repeat' first|apply vI<;>(simp only[go_sem,ac2,ac3,W,Y,gs,I,J];try simp (disch:=omega) only[Iw])|apply vT (by omega)|refine⟨by omega,?_⟩|fail
   exact O _ _ _ (k+1,s1,N,p) noF _ (by omega) (by dsimp only;omega) (by repeat' first|exact C1|refine xqI rfl rfl ?_|refine xqP (by omega) rfl rfl ?_|fail) aI ⟨by dsimp only;omega,m,g.mono (by omega),F,L.none (NW (.inl J)),by dsimp only;omega⟩
  |false=>
  have ds: ∀{A:Prop},¬(i.nO.getD k default=true\/A)↔¬A:=fun {A}=>by rw[J];simp
  by_cases ca:v.pipe.length=0
  ·have hlen:((v.pipe.length:Int)=0)=True:=eq_true (by omega);repeat' first|apply vI<;>(simp only[go_sem,ac2,ac3,W,Y,gs,I,J,hlen];try simp (disch:=omega) only[Iw])|apply vT (by omega)|refine⟨by omega,?_⟩|fail
   exact O _ _ _ (k+1,s1,N,p) noF _ (by omega) (by dsimp only;omega) (by repeat' first|exact C1|refine xqI rfl rfl ?_|refine xqP (by omega) rfl rfl ?_|fail) aI ⟨by dsimp only;omega,m,g.mono (by omega),F,L.none (NW (.inr (by rw[<-y];exact ca))),by dsimp only;omega⟩
  have aj: ¬(i.nO.getD k default=true\/(aU s1 k).pipe.length=0):=by rw[<-y];exact ds.2 ca
  have hlen:((v.pipe.length:Int)=0)=False:=eq_false (by omega);obtain⟨j,T⟩: ∃j,j=v.pipe.getD 0 default:=⟨_,rfl⟩
  have C:eL s1 k=j:=by rw[T,y];rfl
  have p7:re[po]?=some (eCJ j):=by have:(re.drop po)[0]?=some (eCJ j):=(by rw[p2,adJ];simp[T,List.getD,show 0<v.pipe.length by omega]);rwa [adO,Nat.add_zero] at this
  have f:=g.rep.apart (nx':=t) [nx,nx+1] [0,1,2,3,4,11+k,15+k] (ac1 _) (by simp) (fun x hx=>.inl (.inr (by simpa using hx))) (by simp;omega) (by simp;omega);simp only[aT,bM,List.map,List.cons_append,List.nil_append] at f;have dv:=m.slv k B;have dx:j∈(aU s1 k).pipe:=by rw[T,y];exact cC (by rw[<-y];omega)
  obtain⟨cc,Z,ao⟩:=m.vIn B (VB dx);dsimp only at cc Z ao;have aa:kL c j.who j.n:=by have:=(m.port j.who.toNat (by omega)).asks (n:=j.n) (by omega) Z (by omega);rwa [show ((j.who.toNat:Nat):Int)=j.who by omega] at this
  have dy:=(dv.left 0 (by rw[<-y];omega)).1;rw[<-y,<-T] at dy;have dz:=U7 hb B;have eb:=FE hb aa;have hg:=hb.1.1;have cd: ∀r,(rv.set k r)[k]?=some r:=fun r=>by rw[adW (by omega)]
  obtain⟨cf,ck,cl⟩:=aa;have ho:s1.told.length<=36:=by have:=m.st.lens hb;simp only[dN] at this;omega
  obtain⟨mw,hq,w1,w2,w3,w4,w5,w6⟩:=g3.ex;obtain⟨mh,ht,ei,cp,hy,hz,eo,ep⟩:=g4.ex;rw[ad6] at w2 cp;subst w2;subst cp;refine aK.DN fun et=> ?_;have bb: ∀k l,msk (t+k) l H1=H1:=fun k l=>BH et (by omega);by_cases bk:0<j.left
  ·repeat' first|apply vI<;>(simp only[go_sem,ac2,ac3,bb,umS (G:=H1),umD (G:=H1),umB,W,Y,gs,I,J,hlen,p1,p7,f];try simp (disch:=omega) only[Iw])|apply vT (by omega)|refine⟨by omega,?_⟩|fail
   have hO:mQ i s1 k=some (.tick k):=aw aj (by rw[C];exact bk);have hL:=L.some hO;obtain⟨s',o⟩: ∃s',s'=bS c s1 (.tick k):=⟨_,rfl⟩
   rw[<-o,show CZ s1 (.tick k)=[] from rfl,adR] at hL;have P:COk c s':=(by rw[o];exact CW hb m (I9 m B hO));have z:aU s' k= {v with pipe:=v.pipe.set 0 {j with left:=j.left-1}}:=(by rw[o,dE rfl (by rw[m.sl];omega),if_pos rfl,C,<-y]);have cq:=g.upd (H':=(H1.set (t+29) ⟨3,1,[eCJ j]⟩).set (p (11+k)) ⟨3,me,re.set po [cI j.who,cI j.n,cI (j.left-1)]⟩) (nx':=t+48) 14 k p s' (by omega) (g.rep.names.mono (by omega)) (fun j _=>.inl rfl) ?_ ?_ ?_ ?_ (.inr rfl) (.inl B) (fun j hj w=>by rw[o];rfl) (fun j hj w=>by rw[o,dE rfl (by rw[m.sl];omega),if_neg w]);·exact O _ _ _ (k+1,s',N,p) noF _ (by omega) (by dsimp only;omega) (by repeat' first|exact C1|refine xqI rfl rfl ?_|refine xqP (by omega) rfl rfl ?_|fail) aI ⟨by dsimp only;omega,P,cq.1,fun id b=>(cq.2 id b).trans (F id b),hL,by dsimp only;omega⟩
   ·intro id b h0 w;rw[aA.aB (w (11+k) (by omega) (by omega)),aA.aB (by omega)]
   ·refine⟨wc,hc,pc,vc,tc,?_,?_,?_,?_,g6,g7⟩;·simp only[aA.set,f,if_false];rw[W,o];rfl
    ·rw[o];exact g3.frame (by simp only[aA.set,f,if_false])
    ·rw[o];exact g4.frame (by simp only[aA.set,f,if_false])
    ·rw[o];exact g5.frame (by simp only[aA.set,f,if_false])
   ·exact⟨mp,rp,mp,rp,g1,by simp only[aA.set,f,if_false];exact g1,g8,fun _ _ _=>rfl,fun hh=>by omega⟩
   ·refine⟨mv,rv,mv,rv,Y,by simp only[aA.set,f,if_false];exact Y,g9,fun _ _ _=>rfl,fun _=>⟨_,gs,⟨po,ai,do_,dc,?_,?_,?_⟩⟩⟩;·rw[z];simp only[lz,adM]
    ·rw[z];refine⟨me,_,aA.aJ,?_,by simpa using p3,by simp,by simpa using p5,p6⟩;rw[List.drop_set,if_neg (by omega),aeZ,p2,aeH];rfl
    ·rw[z];exact gd.frame (by simp only[aA.set,f,if_false])
  by_cases cr:v.done.length<2
  ·repeat' first|apply vI<;>(simp only[go_sem,ac2,ac3,bb,umS (G:=H1),umD (G:=H1),umB,W,Y,gs,cd,ad0,ad,I,J,hlen,p1,p7,f])|apply vT (by omega)|apply vF (by omega)|refine⟨by omega,?_⟩|fail
   refine DY (q:=bF c j.who j.n) (m0:=mw) (m1:=mh) (i0:=i0) (by omega) m.atm w5 eo cc eb ?_ ?_ (by simp only[aA.set,f,if_false];exact W) (by simp only[aA.set,f,if_false];exact w1) (by simp only[aA.set,f,if_false];exact ei) (fun H' nx' ia f1 f2 U=> ?_);·have:=g.rep.i0.1;have:=g.rep.names.lt 0 (by omega);have:=g.rep.names.lt 1 (by omega);omega
   ·simp only[aeA,adA,ad4,or_false,not_or,f,not_false_eq_true,and_self,List.nodup_nil]
   have V: ∀a,a<19->p a<t:=g.rep.names.lt;have e3:H' (p 3)=some ⟨3,mv,rv.set k [.osl 3 (p (11+k)) (po+1) (v.pipe.length-1) (ai-1),.osl 5 (p (15+k)) do_ v.done.length dc,cI v.last]⟩:=(by rw[U _ (by have:=V 3 (by omega);omega) (by simp only[ne_eq,f,not_false_eq_true]) (by simp only[ne_eq,f,not_false_eq_true])];exact aA.aJ);have ej:H' (t+29)=some ⟨3,1,[eCJ j]⟩:=(by rw[U _ (by omega) (by have:=V 0 (by omega);omega) (by have:=V 1 (by omega);omega)];simp only[aA.set,f,if_false,if_true]);have ed:H' (p (15+k))=some ⟨5,md,rd⟩:=(by rw[U _ (by have:=V (15+k) (by omega);omega) (by simp only[ne_eq,f,not_false_eq_true]) (by simp only[ne_eq,f,not_false_eq_true])];simp only[aA.set,f,if_false];exact d1);have D:=g.rep.apart (nx':=nx') [nx,nx+1] [0,1,2,3,4,11+k,15+k] (by omega) (by simp) (fun x hx=>.inl (.inr (by simpa using hx))) (by simp;omega) (by simp;omega);simp only[aT,bM,List.map,List.cons_append,List.nil_append] at D;simp only[go_sem,ac2,ac3,msk,List.map,adA,ad4,or_false,ac4,Nat.reduceEqDiff,Nat.reduceAdd,e3,ej,ed,cd,f,D,if_false,if_true,ad0];refine⟨⟨by omega,by omega⟩,by omega,fun cap bp ih=> ?_⟩;obtain⟨d,br⟩: ∃d:Job,d=⟨j.who,j.n,(doM c.map s1.words s1.holds j.who (bF c j.who j.n)).2⟩:=⟨_,rfl⟩
   have er:List.take v.done.length (List.drop do_ rd)++[cI j.who::cI j.n::lP (doM c.map s1.words s1.holds j.who (bF c j.who j.n)).snd]=(v.done++[d]).map aL:=(by rw[d2,ac6 (by simp),adF,br];rfl);have eu:[cI j.who::cI j.n::lP (doM c.map s1.words s1.holds j.who (bF c j.who j.n)).snd]=[aL d]:=(by rw[br];rfl);rw[er,eu];repeat' first|apply vI<;>(simp only[go_sem,ac2,ac3,ej,f,D])|fail
   obtain⟨E,R⟩: ∃E,E=put p (15+k) (t+80):=⟨_,rfl⟩
   have S: ∀j,j≠15+k->E j=p j:=fun j h1=>by rw[R,bV h1]
   have ct:E (15+k)=t+80:=(by rw[R,fS]);have hO:mQ i s1 k=some (.work k):=jm aj (by rw[C];exact bk) (by rw[<-y];exact cr);have hL:=L.some hO;obtain⟨s',o⟩: ∃s',s'=bS c s1 (.work k):=⟨_,rfl⟩
   rw[<-o,show CZ s1 (.work k)=[⟨2,j.who,j.n⟩] from by rw[<-C];rfl] at hL;have P:COk c s':=(by rw[o];exact CW hb m (I9 m B hO));have z:aU s' k= {v with pipe:=v.pipe.drop 1,done:=v.done++[d]}:=(by rw[o,dE rfl (by rw[m.sl];omega),if_pos rfl,C,<-y,br];unfold K6;rw[C]);have ew:s'.words=(doM c.map s1.words s1.holds j.who (bF c j.who j.n)).1.1:=(by rw[o,<-C];rfl);have ff:s'.holds=(doM c.map s1.words s1.holds j.who (bF c j.who j.n)).1.2:=(by rw[o,<-C];rfl);have fh:s'.words.length=s1.words.length:=(by obtain⟨h1,_⟩:=P.atm;obtain⟨h2,_⟩:=m.atm;omega);have fi:s'.holds.length=s1.holds.length:=(by obtain⟨_,_,h1,_⟩:=P.atm;obtain⟨_,_,h2,_⟩:=m.atm;omega);rw[<-ew] at f1;rw[<-ff] at f2;have cv:s'.told=s1.told:=(by rw[o];rfl);have hH: ∀id,id<t->id≠p 0->id≠p 1->id≠p 3->H' id=H1 id:=fun id e e0 e1 e3=>by rw[U id (by omega) e0 e1,aA.aB e3,aA.aB (by omega)]
   refine Ey (g.upd 14 k E s' (by omega) ?_ ?_ ?_ ?_ ?_ ?_ (.inr rfl) (.inl B) (fun j hj w=>by rw[o];rfl) (fun j hj w=>by rw[o,dE rfl (by rw[m.sl];omega),if_neg w])) (by omega) fun H2 iv hx fl fm=> ?_
   ·rw[R];have fo: ∀v,t<=v->¬((X v\/v=nx\/v=nx+1)\/v=i1):=fun v hv V=>by have:=g.rep.x v V;omega
    exact g.rep.names.put (by omega) (by omega) (fo _ (by omega))
   ·intro j hj;by_cases h4:j=15+k;·subst h4;exact .inr ⟨.inr (.inr (.inr (.inr rfl))),by omega⟩
    ·exact .inl (S j h4)
   ·intro id b h0 w;have e3:=w 3 (by omega) (by omega);simp only[aA.set,aA.del,e3,w (15+k) (by omega) (by omega),show ¬id=t+79 by omega,show ¬id=t+80 by omega,if_false];exact hH id b (w 0 (by omega) (by omega)) (w 1 (by omega) (by omega)) e3
   ·refine⟨wc,hc,pc,vc,tc,?_,?_,?_,?_,g6,g7⟩;·simp only[aA.set,aA.del,f,D,if_false,I6,S 0 (by omega),S 1 (by omega),S 2 (by omega),S 3 (by omega),S 4 (by omega),fh,fi,cv];rw[hH i0 (by have:=g.rep.i0.1;omega) (by simp only[ne_eq,f,not_false_eq_true]) (by simp only[ne_eq,f,not_false_eq_true]) (by simp only[ne_eq,f,not_false_eq_true])];exact W
    ·rw[S 0 (by omega)];exact⟨mw,s'.words.map aF,by simp only[aA.set,aA.del,f,D,if_false];exact f1,rfl,by simp,by simp,by omega,w6⟩
    ·rw[S 1 (by omega)];exact⟨mh,s'.holds.map aF,by simp only[aA.set,aA.del,f,D,if_false];exact f2,rfl,by simp,by simp,by omega,ep⟩
    ·rw[S 4 (by omega),cv];apply g5.frame;simp only[aA.set,aA.del,f,D,if_false];exact hH _ (V 4 (by omega)) (by simp only[ne_eq,f,not_false_eq_true]) (by simp only[ne_eq,f,not_false_eq_true]) (by simp only[ne_eq,f,not_false_eq_true])
   ·refine⟨mp,rp,mp,rp,g1,?_,g8,fun _ _ _=>rfl,fun hh=>by omega⟩;simp only[aA.set,aA.del,f,D,if_false];rw[hH _ (V 2 (by omega)) (by simp only[ne_eq,f,not_false_eq_true]) (by simp only[ne_eq,f,not_false_eq_true]) (by simp only[ne_eq,f,not_false_eq_true])];exact g1
   ·refine⟨mv,_,mv,rv,Y,aA.aJ,by simp only[adM,g9],fun j hj w=>by rw[adX (Ne.symm w)],fun _=>⟨_,adW (by omega),⟨po+1,ai-1,0,cap,?_,?_,?_⟩⟩⟩;·rw[z,S (11+k) (by omega),ct];simp only[lz,adL,ac7,List.length_singleton]
    ·rw[z,S (11+k) (by omega)];refine⟨me,re,?_,by rw[aeI,<-p2,aeP],?_,by simp,?_,?_⟩;·simp only[aA.set,aA.del,f,D,if_false];rw[hH _ (V (11+k) (by omega)) (by simp only[ne_eq,f,not_false_eq_true]) (by simp only[ne_eq,f,not_false_eq_true]) (by simp only[ne_eq,f,not_false_eq_true])];exact p1
     ·simp only[adL];omega
     ·simp only[adL];omega
     ·omega
    ·rw[z,ct];refine⟨cap,(v.done++[d]).map aL,by simp only[aA.set,aA.del,f,if_false,if_true],rfl,by simp,by simp,by simpa using bp,by simp⟩
   ·simp only[go_sem];repeat' first|apply vI<;>(simp only[go_sem];try simp (disch:=omega) only[Iw])|fail
    exact O _ _ _ (k+1,s',N++[⟨2,j.who,j.n⟩],E) noF _ (by omega) (by dsimp only;omega) (by repeat' first|exact C1|refine xqI rfl rfl ?_|refine xqP (by omega) rfl rfl ?_|fail) aI ⟨by dsimp only;omega,P,fl.mono (by omega),fun id b=>(fm id b).trans (F id b),hL,by simp;omega⟩
  ·repeat' first|apply vI<;>(simp only[go_sem,ac2,ac3,bb,umS (G:=H1),umD (G:=H1),umB,W,Y,gs,I,J,hlen,p1,p7,f];try simp (disch:=omega) only[Iw])|apply vT (by omega)|apply vF (by omega)|refine⟨by omega,?_⟩|fail
   have hO:=ZE aj (by rw[C];exact bk) (by rw[<-y];exact cr);refine O _ _ _ (k+1,s1,N,p) noF _ (by omega) (by dsimp only;omega) (by repeat' first|exact C1|refine xqI rfl rfl ?_|refine xqP (by omega) rfl rfl ?_|fail) aI ⟨by dsimp only;omega,m,g.next (by omega) (fun id h1 h2=>by rw[aA.aB (by omega)]) fun id b=>⟨?_,.inl b⟩,fun id b=> ?_,L.none hO,by dsimp only;omega⟩;·have:=g.rep.x id (.inl b);omega
   ·have:=g.rep.x id (.inl b);rw[aA.aB (by omega)];exact F id b
 ·repeat' first|apply vI<;>(simp only[go_sem])|apply vF (by omega)|fail
  have fp:k=4:=by omega
  subst fp;obtain⟨rfl,rfl⟩:=DP.nil ab;refine hQ _ _ _ _ _ (.inl rfl) rfl (h _ _ p (by omega) (g.next (by omega) (fun _ _ _=>rfl) fun id b=>⟨?_,.inl (.inl b)⟩) fun id b=> ?_);·have:=hB.rep.x id (.inl b);omega
  ·have:=hB.rep.x id (.inl b);rw[F id (.inl b),M,aA.aB (by omega),aA.aB (by omega)]
variable{s:TSt}{c0 c1 c2 c3 c4 c5 i2 i3 i4 i5:Nat}
theorem NA{c:Cfg}{e:Ev}{m0 m1 k m n o j:Nat}(q:bG c)(hs:kM c s)(l:L7 c s e=0)(hc:s.words.length<=c0/\s.holds.length<=c1/\s.asked.length<=c2/\s.wait.length<=c3/\s.done.length<=c4/\s.told.length<=c5)(hm:c3<=m/\c4<=n/\c5<=o)
 (t:i0<nx/\i1<nx/\i2<nx/\i3<nx/\i4<nx/\i5<nx/\j<nx) (p:[i0,i1,i2,i3,i4,i5,j].Nodup) (u:H i0=some ⟨6,1,[oIm i1 i2 i3 i4 i5 j c0 c1 c2 c3 c4 c5 s]⟩) (v:H i1=some ⟨1,m0,s.words.map aF⟩) (w:H i2=some ⟨1,m1,s.holds.map aF⟩) (y:H i3=some ⟨1,k,s.asked.map aF⟩) (z:H i4=some ⟨5,m,s.wait.map aL⟩) (A:H i5=some ⟨5,n,s.done.map aL⟩) (B:H j=some ⟨5,o,s.told.map aL⟩)
 (h: ∀a b d f g i,((dY c s e).wait.length<=a/\(dY c s e).done.length<=b/\(dY c s e).told.length<=d)->(a<=f/\b<=g/\d<=i)->K (.tup []) ((((((((((H.set i0 ⟨6,1,[oIm i1 i2 i3 nx (nx+1) (nx+2) c0 c1 c2 a b d (dY c s e)]⟩).set i1 ⟨1,m0,(dY c s e).words.map aF⟩).set i2 ⟨1,m1,(dY c s e).holds.map aF⟩).set i3 ⟨1,k,(dY c s e).asked.map aF⟩).del i4).del i5).del j).set nx ⟨5,f,(dY c s e).wait.map aL⟩).set (nx+1) ⟨5,g,(dY c s e).done.map aL⟩).set (nx+2) ⟨5,i,(dY c s e).told.map aL⟩) (nx+3)):
 ag1 l5 [dA (bO c),dP 6 i0,dA (eEv e)] H nx K:=by
 refine(MQ c s e c0 c1 c2 c3 c4 c5 m0 m1 k m n o q hs l hc hm).DD [i0,i1,i2,i3,i4,i5,j] rfl ⟨aE rfl,pL (by simp) rfl,aE rfl,trivial⟩ ?_ ?_ ?_ p fun r H' n' _ ⟨a,b,d,f,g,i,C,D,E,F,G⟩=> ?_
 ·refine⟨⟨by simp,id,_,u,aW ?_⟩,⟨by simp,id,_,v,aY (aG aP _) rfl rfl⟩,⟨by simp,id,_,w,aY (aG aP _) rfl rfl⟩,⟨by simp,id,_,y,aY (aG aP _) rfl rfl⟩,⟨by simp,id,_,z,aY (aG bC _) rfl rfl⟩,⟨by simp,id,_,A,aY (aG bC _) rfl rfl⟩,⟨by simp,id,_,B,aY (aG bC _) rfl rfl⟩,trivial⟩;unfold oIm;exact aH (gG (by simp) rfl rfl rfl rfl) (aH (gG (by simp) rfl rfl rfl rfl) (aH (gG (by simp) rfl rfl rfl rfl) (aH (gG (by simp) rfl rfl rfl rfl) (aH (gG (by simp) rfl rfl rfl rfl) (aH (gG (by simp) rfl rfl rfl rfl) cG)))))
 ·exact p
 ·intro x I;simp only[adA,ad4,or_false] at I;omega
 ·have h:=h a b d f g i C D;subst E;subst F;subst G;generalize dY c s e=S' at*;have J:bN.rn (tau 7 nx (nth [i0,i1,i2,i3,i4,i5,j])) ⟨6,1,[oIm 1 2 3 7 8 9 c0 c1 c2 a b d S']⟩=⟨6,1,[oIm i1 i2 i3 nx (nx+1) (nx+2) c0 c1 c2 a b d S']⟩:=rfl;have L:back (tau 7 nx (nth [i0,i1,i2,i3,i4,i5,j])) (hp [(0,⟨6,1,[oIm 1 2 3 7 8 9 c0 c1 c2 a b d S']⟩),(1,⟨1,m0,(S').words.map aF⟩),(2,⟨1,m1,(S').holds.map aF⟩),(3,⟨1,k,(S').asked.map aF⟩),(7,⟨5,f,(S').wait.map aL⟩),(8,⟨5,g,(S').done.map aL⟩),(9,⟨5,i,(S').told.map aL⟩)]) 10 H=((((((((((H.set i0 ⟨6,1,[oIm i1 i2 i3 nx (nx+1) (nx+2) c0 c1 c2 a b d S']⟩).set i1 ⟨1,m0,S'.words.map aF⟩).set i2 ⟨1,m1,S'.holds.map aF⟩).set i3 ⟨1,k,S'.asked.map aF⟩).del i4).del i5).del j).set nx ⟨5,f,S'.wait.map aL⟩).set (nx+1) ⟨5,g,S'.done.map aL⟩).set (nx+2) ⟨5,i,S'.told.map aL⟩):=by simp only[back,hp,aA.set,aA.nil,Option.map_some,Option.map_none,J,nN,sV,aA.fI,aA.wR,if_true,Nat.reduceEqDiff,if_false,reduceIte];rfl
  rw[<-L] at h;exact h
theorem iu{H:aA}{F:Nat->Prop}{σ:Nat->Nat}{nh a m0 m1 b c d e:Nat}(hc:s.words.length<=c0/\s.holds.length<=c1/\s.asked.length<=c2/\s.wait.length<=c3/\s.done.length<=c4/\s.told.length<=c5)(f:H i1=some ⟨1,m0,s.words.map aF⟩)(g:H i2=some ⟨1,m1,s.holds.map aF⟩)(h:H i3=some ⟨1,b,s.asked.map aF⟩)(i:H i4=some ⟨5,c,s.wait.map aL⟩)(j:H i5=some ⟨5,d,s.done.map aL⟩)(k:H a=some ⟨5,e,s.told.map aL⟩)
 (l:F i1) (m:F i2) (n:F i3) (o:F i4) (p:F i5) (f6:F a):CvL H F σ nh (eSt s) (oIm i1 i2 i3 i4 i5 a c0 c1 c2 c3 c4 c5 s):=by
 obtain⟨q,r,t,u,v,w⟩:=hc
 exact aH (cM aP f rfl q l) (aH (cM aP g rfl r m) (aH (cM aP h rfl t n) (aH (cM bC i rfl u o) (aH (cM bC j rfl v p) (aH (cM bC k rfl w f6) cG)))))
theorem Us:(oIm i0 i1 i2 i3 i4 i5 c0 c1 c2 c3 c4 c5 s).length=6:=rfl
theorem Ro:(oIm i0 i1 i2 i3 i4 i5 c0 c1 c2 c3 c4 c5 s).take 6=oIm i0 i1 i2 i3 i4 i5 c0 c1 c2 c3 c4 c5 s:=rfl
theorem Tm:(oIm i0 i1 i2 i3 i4 i5 c0 c1 c2 c3 c4 c5 s).drop 6=[]:=rfl
theorem Qh{k:Nat}{cs:List D1}:kD cs (k+1) (oIm i0 i1 i2 i3 i4 i5 c0 c1 c2 c3 c4 c5 s)=kD cs (k+1) [.osl 1 i0 0 s.words.length c0,.osl 1 i1 0 s.holds.length c1,.osl 1 i2 0 s.asked.length c2,.osl 5 i3 0 s.wait.length c3,.osl 5 i4 0 s.done.length c4,.osl 5 i5 0 s.told.length c5]:=rfl
attribute [go_sem] Us Ro Tm Qh
end
end Go.Proofs.YtlncecohbakleaaGreat
namespace Go.AM
abbrev aq:=List Job
def RQ(l:aq):List D1:=[.isl (l.map aL)]
theorem Mn{l:aq}:(RQ l).length=1:=rfl
theorem Ag{l:aq}:(RQ l).take 1=[.isl (l.map aL)]:=rfl
theorem Am{l:aq}:(RQ l).drop 1=[]:=rfl
theorem Hd{l:aq}{cs:List D1}{k:Nat}:kD cs (k+1) (RQ l)=kD cs (k+1) [.isl (l.map aL)]:=rfl
theorem Rp(l:aq):(RQ l).length=1/\(RQ l).all D1.eW=true:=⟨rfl,rfl⟩
attribute [go_sem] Mn Ag Am Hd
theorem aK.Oq{P:Program}{T:Nat}{e:Env}{H:aA}{nx:Nat}{Q:AQ}{zs:List AC}(h: ∀G,G=H->aK P T zs e G nx Q):aK P T zs e H nx Q:=h H rfl
theorem Pc{H:aA}{F:Nat->Prop}{nh:Nat}{f:FuncId}{caps:List D1}(h: ∀x∈caps,∃n id row a,id<nh/\x= .ptr n id row a):Cv1 H F id nh (.clo f caps) (.clo f caps):=
 .clo f caps caps rfl fun i x y b c=>by
  rw[b] at c;obtain rfl:x=y:=by simpa using c
  obtain⟨n,id,row,a,d,rfl⟩:=h x (adI b);exact .inr ⟨n,id,row,a,d,rfl,rfl⟩
def Pb(V:List (Int×Int))(k:Nat)(u:List Int):Prop:=u.length=3/\ ∀w,w<3->u.getD w default= -1\/ ∃i,i<k/\V[i]?=some ((w:Int),u.getD w default)
theorem Pb.next{c:Cfg}{s:CSt}{st k:Nat}{u:List Int}{x:Int×Int}(hs:COk c s)(b:st<4)(h:Pb (gZ (aU s st)) k u)(l:(gZ (aU s st))[k]?=some x):
 (x.1=(x.1.toNat:Int)/\x.1.toNat<3)/\u.getD x.1.toNat default<x.2/\Pb (gZ (aU s st)) (k+1) (u.set x.1.toNat x.2):=by
 obtain⟨m,d⟩:=adB.1 l
 have hm:x∈gZ (aU s st):=d▸aeT m
 obtain⟨hw,p,q⟩:=hs.vIn b hm
 have e:x.1.toNat<3:=by omega
 have a:x.1=(x.1.toNat:Int):=by omega
 refine⟨⟨a,e⟩,?_,by simp[h.1],fun w f=> ?_⟩
 ·rcases h.2 _ e with g|⟨i,hi,g⟩
  ·omega
  ·obtain⟨j,o⟩:=adB.1 g;have n:=adZ.1 (hs.slv st b).inc i k j m hi;rw[o,d] at n;exact n a.symm
 ·by_cases he:w=x.1.toNat;·right;refine⟨k,by omega,?_⟩;rw[he,FB (by rw[h.1];omega),if_pos rfl,l,<-a]
  ·rw[FB (by rw[h.1];omega),if_neg he];exact(h.2 w f).imp (fun h=>h) fun⟨i,hi,g⟩=>⟨i,by omega,g⟩
theorem uq{M:List (List Int×Int)}{l c:List Int}{n:Int}:j9 (B1 M l n) c=if c=l then some n else j9 M c:=by
 induction M with
 |nil=>
  by_cases h:c=l;·simp[B1,j9,h]
  ·simp[B1,j9,h]
 |cons p M d=>
  obtain⟨a,b⟩:=p;simp only[B1];by_cases hl:l=a
  ·subst hl;rw[if_pos rfl];by_cases h:c=l;·simp[j9,h]
   ·simp[j9,h]
  ·rw[if_neg hl];unfold j9 at d ⊢;simp only[List.find?_cons];by_cases h:c=a;·subst h;simp[Ne.symm hl]
   ·simp only[h,decide_false];rw[d]
def wq(c:Cfg)(who:Nat)(out:List gX)(k:Nat)(M:List (List Int×Int)):Prop:=∀i v,j9 M [i]=some v->∃j∈out.take k,(bF c who j.n).id=i/\j.left=v
theorem wq.next{c:Cfg}{who:Nat}{out:List gX}{k:Nat}{M:List (List Int×Int)}(h:wq c who out k M)(b:k<out.length):wq c who out (k+1) (B1 M [(bF c who (out.getD k default).n).id] (out.getD k default).left):=by
 intro i v a;rw[uq] at a;have hm:out.getD k default∈out.take (k+1):=by rw[gP b];simp
 split at a;·rename_i he;simp only[List.cons.injEq,and_true] at he;simp only[Option.some.injEq] at a;exact⟨_,hm,he.symm,a⟩
 ·obtain⟨j,d,e⟩:=h i v a;exact⟨j,(List.take_sublist_take_left (by omega)).mem d,e⟩
end Go.AM
namespace Go.Proofs.YtlncecohbakleaaGreat
open Go Go.AM
attribute [local irreducible] aK wv aC vd wvH
section
variable{H:aA}{nx:Nat}{K:ag2}
variable{l:List Job}
theorem Fe(h: ∀i,i<l.length->1<=i->zu (l.getD (i-1) default) (l.getD i default)<0):gJ l:=by
 have a: ∀(d i:Nat) (hi:i+d+1<l.length),eV (l.getD i default) (l.getD (i+d+1) default)=true:=by
  intro d
  induction d with
  |zero=>intro i hi;have:=h (i+1) (by omega) (by omega);rw[JO] at this;simpa using this
  |succ d b=>intro i hi;have g:=b i (by omega);have c:=h (i+d+2) (by omega) (by omega);rw[JO,show i+d+2-1=i+d+1 by omega] at c;rw[show i+(d+1)+1=i+d+2 by omega];rw[oM] at*;omega
 refine adZ.2 fun i j hi e f=> ?_;have:=a (j-i-1) i (by omega);rw[show i+(j-i-1)+1=j by omega] at this;simpa [List.getD,hi,e] using this
theorem A3(hl:l.length<2^21){j:D}(c:CvD H (fun _=>True) id 0 (dS (l.map aL)) j)(h:K (dB (decide (gJ l))) H nx):ag1 BF [j] H nx K:=by
 refine aC.pure (args0:=[dS (l.map aL)]) (R:=fun n=>n=dB (decide (gJ l))) ?_ rfl (aM ⟨c,trivial⟩) (fun r hr=>hr▸h);clear h;refine aR.mk Tryz.func284 (by kernel_rfl) fu rfl fun Q m=> ?_;unfold xT;repeat' first|apply vI<;>(simp only[go_sem])|fail
 refine aK.zE 0 (β:=Nat) (fun b k=>en [(3,dI k),(0,dS (l.map aL))]) (fun b k=>hp []) (fun k=>(1<=k/\(k<=l.length\/k=1))/\ ∀i,i<k->i<l.length->1<=i->zu (l.getD (i-1) default) (l.getD i default)<0) (fun k=>l.length-k) 1 (bI (ac1 _) (by repeat' first|exact C1|refine xqI rfl rfl ?_|fail)) ⟨by omega,fun i hi _ _=>by omega⟩ ?_;rintro k ⟨q,hinv⟩ s d;by_cases a:k<l.length
 ·have o:((k:Int)-1).toNat=k-1:=by omega
  repeat' first| (first|apply vI|apply nW)<;>(simp only[go_sem,o];try simp (disch:=omega) only[Iw])|apply vT (by omega)|refine iR (fun h=> ?_) fun h=> ?_|refine⟨by omega,?_⟩|fail
  ·refine aQ m (dB false) rfl rfl (gV fun hs=> ?_);have p:=adZ.1 hs (k-1) k (by omega) a (by omega);have t:zu (l.getD (k-1) default) (l.getD k default)<0:=(by rw[JO];simpa [List.getD,a,show k-1<l.length by omega] using p);omega
  ·exact d _ _ _ (k+1) (by omega) (bI (ac1 _) (by repeat' first|exact C1|refine xqI rfl rfl ?_|fail)) ⟨by omega,fun i hi e f=>by
    rcases agC.1 hi with g|g
    ·exact hinv i g e f
    ·subst g;omega⟩ (by omega)
 ·repeat' first|apply vI<;>(simp only[go_sem])|apply vF (by omega)|fail
  exact aQ m (dB true) rfl rfl (nB (Fe fun i hi f=>hinv i (by omega) hi f))
theorem SY{r:Rsp}(hr:r.data.length<2^40)(h:K (dB (decide (r=iL))) H nx):ag1 oD [dA (lP r)] H nx K:=by
 refine aC.pure (args0:=[dA (lP r)]) (R:=fun a=>a=dB (decide (r=iL))) ?_ rfl (aM ⟨aE rfl,trivial⟩) (fun r hr=>hr▸h);clear h;refine aR.mk Tryz.func285 (by kernel_rfl) PY rfl fun Q b=> ?_;unfold mR;repeat' first| (first|apply vI|refine Y6 (fun h=> ?_) fun h=> ?_)<;>(simp only[go_sem])|fail
 all_goals first|with_reducible refine aQ b _ rfl rfl ?_|skip
 all_goals (obtain⟨c,d,e⟩:=r;unfold iL;dsimp only at*;first|exact nB (by simp_all)|exact gV (by simp_all)|exact nJ (by simp_all)|exact nJ (by simp only[Rsp.mk.injEq];rw[<-aeG];omega))
theorem vx{r:Rsp}(hr:r.data.length<2^40)(h:K (dB (decide (jY r))) H nx):ag1 xG [dA (lP r)] H nx K:=by
 refine aC.pure (args0:=[dA (lP r)]) (R:=fun a=>a=dB (decide (jY r))) ?_ rfl (aM ⟨aE rfl,trivial⟩) (fun r hr=>hr▸h);clear h;refine aR.mk Tryz.func283 (by kernel_rfl) qy rfl fun Q b=> ?_;unfold BC;repeat' first| (first|apply vI|refine Y6 (fun h=> ?_) fun h=> ?_|apply cQ|refine DM hr (aE rfl) ?_)<;>(simp only[go_sem])|fail
 all_goals first|with_reducible refine aQ b _ rfl rfl ?_|skip
 all_goals first|exact gV (by unfold jY;grind)|exact nJ (by unfold jY;grind)|exact nB (by unfold jY;grind)
theorem DT{r:Rsp}(hr:r.data.length<2^40)(h:K (dB (decide (r=iL))) H nx):ag1 oD [.one (.agg [cI r.id,cI r.code,.isl (r.data.map aF)])] H nx K:=SY hr h
theorem sX{r:Rsp}(hr:r.data.length<2^40)(h:K (dB (decide (jY r))) H nx):ag1 xG [.one (.agg [cI r.id,cI r.code,.isl (r.data.map aF)])] H nx K:=vx hr h
def YI(l:List Job):List (List Int×Int):=l.map fun j=>([j.who,j.n],1)
theorem Ny{j:Job}(h:key j∉l.map key):j9 (YI l) [j.who,j.n]=none:=by unfold j9 YI;rw[Option.map_eq_none_iff,List.find?_eq_none];intro p hp;obtain⟨x,a,rfl⟩:=ac9.1 hp;simp only[List.cons.injEq,and_true,decide_eq_true_eq];intro he;exact h (ac9.2 ⟨x,a,by simp[key,he.1,he.2]⟩)
theorem Rv{j:Job}(h:key j∉l.map key):B1 (YI l) [j.who,j.n] 1=YI (l++[j]):=by
 induction l with
 |nil=>rfl
 |cons x l b=>simp only[adG,adA,not_or] at h;have a: ¬[j.who,j.n]=[x.who,x.n]:=fun he=>h.1 (by simp only[List.cons.injEq,and_true] at he;simp[key,he.1,he.2]);show B1 (([x.who,x.n],1)::YI l) _ _=_;simp only[B1,a,if_false,b h.2];rfl
theorem Nt:(YI l).length=l.length:=by simp[YI]
theorem Ss{l:List Int}{k:Nat}(h:k<l.length):(l.take (k+1)).sum=(l.take k).sum+l.getD k default:=by rw[ae5 h,List.sum_append];simp[List.getD,h]
theorem Mq{l:List Int}(h:l.length=3):(l.take 3).sum=l.getD 0 default+l.getD 1 default+l.getD 2 default:=by
 match l,h with
 | [a,b,c],_=>simp[List.getD];omega
theorem jq{w u:List Int}(h:QF w u):pT w u:=⟨⟨by rw[h.wl];rfl,h.wr⟩,by rw[h.hl];rfl,h.hr⟩
end
theorem sT:bW ag0 dC Tryz.f282 gT sQ:=bW.mk Tryz.func282 (by kernel_rfl) ID
section
variable{H:aA}{nx:Nat}{K:ag2}
theorem eJ{s:CSt}{st who:Nat}{w n:Int}{u:List Int}{i0 i1 i2:Nat}(j:w=who)(hu:u.length=3)(hw:who<3)(F:u.getD who default<n)(r:s.bJ.length=3)(d:(aN s who).out.length<2^40)
 (m:0<=bK (isC n) (aN s who).out) (e:(bK (isC n) (aN s who).out).toNat<(aN s who).out.length) (b:((aN s who).out.getD (bK (isC n) (aN s who).out).toNat default).left=st)
 (t:i0<nx/\i1<nx/\i2<nx) (x:[i0,i1,i2].Nodup) (y:H i0=some ⟨3,1,[u.map cI]⟩) (z:H i1=some ⟨5,1,[dX s]⟩) (A:H i2=some ⟨1,1,[[cI st]]⟩)
 (h: ∀H' nx',nx<=nx'->H' i0=some ⟨3,1,[(u.set who n).map cI]⟩->(∀id,id<nx->id≠i0->H' id=H id)->K (dB true) H' nx'):
 ag1 dC [dI w,dI n,.one (.c (.ptr 3 i0 0 0)),.one (.c (.ptr 5 i1 0 0)),.one (.c (.ptr 1 i2 0 0))] H nx K:=by
 subst j
 refine sT rfl fun Q B=> ?_
 unfold gT
 have o:aT nx [i0,i1,i2]:=AM.apart x (by simp;omega)
 simp only[aT,bM] at o
 obtain⟨p,f⟩: ∃p,p=aN s who:=⟨_,rfl⟩
 have g:s.bJ.getD who default=p:=f.symm
 rw[<-f] at d m e b
 obtain⟨a,q⟩: ∃a,a=bK (isC n) p.out:=⟨_,rfl⟩
 have k:((u.map cI).drop who).take 1=[cI (u.getD who default)]:=by rw[aeC (by simp;omega)];simp[List.getD,show who<u.length by omega]
 have i:(u.map cI).length=3:=by rw[adE,hu]
 have hle:(who+1<=3)=True:=eq_true (by omega)
 have l: ∀{H:aA} {nx:Nat} {K:ag2},K (dI a) H nx->ag1 nV [dA (dK p),dI n] H nx K:=fun h=>J6 (p:=p) d (aE rfl) (by rw[<-q];exact h)
 rw[<-q] at m e b
 repeat' first| (first|apply vI|apply Y4 (by omega)|apply Y5 (by omega)|apply cV|apply l)<;>(simp only[go_sem,ac2,ac3,ae0,y,z,A,k,i,hle,g,b,o])|apply vF (by omega)|refine⟨by omega,?_⟩|fail
 have C:List.take who (List.map cI u)++[D1.v (.int .i64 n)]++List.drop (who+1) (List.map cI u)=(u.set who n).map cI:=by rw[aeH,agN,if_pos (by simp;omega),adH];rfl
 rw[C]
 exact B _ _ _ _ _ (.inr rfl) rfl (h _ _ (by omega) aA.aJ fun id G E=>aA.aB E)
end
theorem S7{c:Cfg}{s:CSt}{l:List Mic}:(iE c s l).length<=l.length:=by
 induction l generalizing s with
 |nil=>simp[iE]
 |cons m l a=>
  have:=@a (bS c s m);rw[iE,ac7,List.length_cons];have b:(CZ s m).length<=1:=by cases m<;>simp[CZ]
  omega
theorem NG{c:Cfg}{f:CSt->Nat->Option Mic}{l:List Nat}{s:CSt}:(ET c f s l).length<=l.length:=by
 induction l generalizing s with
 |nil=>simp[ET]
 |cons k l a=>
  rw[ET];split;·have:=@a s;rw[List.length_cons];omega
  ·rename_i m _;have:=@a (bS c s m);rw[List.length_cons,List.length_cons];omega
theorem aaW{c:Cfg}{l:List Nat}{s a:CSt}{u:List Bool}:iE c a (af c s u l)=[]:=by
 induction l generalizing s u a with
 |nil=>simp[af,iE]
 |cons k l b=>
  rw[af];split;·exact b
  ·rw[iE,b];rfl
theorem yb{c:Cfg}{i:CIn}{s:CSt}:WL c i s=([]++iE c s (N2 c i s))++iE c (F9 c i s) (GY c i (F9 c i s))++iE c (KX c i s) (XG c i (KX c i s)):=by
 have a:l6 c s (N2 c i s++GY c i (F9 c i s)++Cg c (OA c i s))=KX c i s:=by rw[zR,zR];rfl
 have b:l6 c s (N2 c i s++GY c i (F9 c i s))=OA c i s:=by rw[zR];rfl
 rw[WL,Mw,O3,O3,O3,a,b,List.nil_append];rw[show iE c (OA c i s) (Cg c (OA c i s))=[] from aaW,adR];rfl
section
variable{H:aA}{nx:Nat}{K:ag2}
theorem CO{X:Nat->Prop}{c:Cfg}{i:CIn}{s:CSt}{i0:Nat}{nm:Nat->Nat}(t:bG c)(hs:COk c s)(hi:i.ready.length=3/\i.nO.length=4/\i.send.length=3)(v:Rep X H nx i0 nm s)
 (h: ∀H' nx' U a b d e,nx<=nx'->Rep X H' nx' i0 U (L4 c i s)->(∀id,X id->H' id=H id)->K (dA [.isl ((WL c i s).map eEv),cI a,cI b,cI d,cI e]) H' nx'):
 ag1 lZ [.one (.c (.ptr 5 i0 0 0)),dA (bO c),dA (eIn i)] H nx K:=by
 apply aC.qC
 refine bW.mk Tryz.func97 (by kernel_rfl) L8 rfl fun Q hQ=> ?_
 unfold lD
 repeat' first|apply vI<;>(simp only[go_sem,ac2,ac3])|fail
 have w:=v.i0.1
 have l:=v.x
 have V:pN (fun id=>X id\/id=nx\/id=nx+1\/id=nx+2) ((((H.set nx ⟨3,1,[bO c]⟩).set (nx+1) ⟨3,1,[eIn i]⟩).set (nx+2) ⟨5,1,[[.osl 0 0 0 0 0,cI 0,cI 0,cI 0,cI 0]]⟩).set (nx+3) ⟨5,1,[[.osl 0 0 0 0 0,cI 0,cI 0,cI 0,cI 0]]⟩) (nx+7) i0 (nx+3) nm s []:=by
  have ho: ∀id,id<nx->((((H.set nx ⟨3,1,[bO c]⟩).set (nx+1) ⟨3,1,[eIn i]⟩).set (nx+2) ⟨5,1,[[.osl 0 0 0 0 0,cI 0,cI 0,cI 0,cI 0]]⟩).set (nx+3) ⟨5,1,[[.osl 0 0 0 0 0,cI 0,cI 0,cI 0,cI 0]]⟩) id=H id:=fun id f=>by rw[aA.aB (by omega),aA.aB (by omega),aA.aB (by omega),aA.aB (by omega)]
  have o:=v.names.lt;refine⟨v.frame (by omega) (ho _ w) (fun k g=>ho _ (o k g)) fun id f=> ?_,⟨⟨_,0,0,0,0,aA.aJ,.inl ⟨rfl,rfl⟩⟩,⟨by omega,?_⟩,?_⟩⟩
  ·rcases f with(f|f)|f;·have:=l id f;exact⟨by omega,fun he=>v.i0.2 (he▸f),fun k g he=>v.names.av k g (he▸f)⟩
   ·exact⟨by omega,by omega,fun k g=>by have:=o k g;omega⟩
   ·exact⟨by omega,by omega,fun k g=>by have:=o k g;omega⟩
  ·rintro((f|f)|f|⟨k,g,f⟩);·have:=l _ f;omega
   ·omega
   ·omega
   ·have:=o k g;omega
  ·rintro id ((f|f)|f|⟨k,g,f⟩);·have:=l _ f;omega
   ·omega
   ·omega
   ·have:=o k g;omega
 have q: ∀{G:aA},(∀id,X id\/id=nx\/id=nx+1\/id=nx+2->G id=((((H.set nx ⟨3,1,[bO c]⟩).set (nx+1) ⟨3,1,[eIn i]⟩).set (nx+2) ⟨5,1,[[.osl 0 0 0 0 0,cI 0,cI 0,cI 0,cI 0]]⟩).set (nx+3) ⟨5,1,[[.osl 0 0 0 0 0,cI 0,cI 0,cI 0,cI 0]]⟩) id)->G nx=some ⟨3,1,[bO c]⟩/\G (nx+1)=some ⟨3,1,[eIn i]⟩/\G (nx+2)=some ⟨5,1,[[.osl 0 0 0 0 0,cI 0,cI 0,cI 0,cI 0]]⟩/\ ∀id,X id->G id=H id:=fun S=>by
  refine⟨?_,?_,?_,fun id f=> ?_⟩;·rw[S _ (.inr (.inl rfl)),aA.aB (by omega),aA.aB (by omega),aA.aB (by omega)];exact aA.aJ
  ·rw[S _ (.inr (.inr (.inl rfl))),aA.aB (by omega),aA.aB (by omega)];exact aA.aJ
  ·rw[S _ (.inr (.inr (.inr rfl))),aA.aB (by omega)];exact aA.aJ
  ·have:=l id f;rw[S _ (.inl f),aA.aB (by omega),aA.aB (by omega),aA.aB (by omega),aA.aB (by omega)]
 have ao:(iE c s (N2 c i s)).length<=3:=aeB S7 NG
 have bb:(iE c (F9 c i s) (GY c i (F9 c i s))).length<=4:=aeB S7 NG
 refine NS t hs hi.1 V (by simp) fun H1 bk bp br W r=> ?_
 obtain⟨b1,b2,b3,b4⟩:=q r
 simp only[go_sem]
 repeat' first|apply vI<;>(simp only[go_sem,b1,b2,b3])|fail
 refine OJ t (YP t hs) hi.2.1 (W.mono (by omega)) (by simp;omega) fun H2 ca cc cd Y u=> ?_
 obtain⟨c1,c2,c3,c4⟩:=q fun id f=>(u id f).trans (r id f)
 simp only[go_sem]
 repeat' first|apply vI<;>(simp only[go_sem,c1,c2,c3])|fail
 refine PL t (YY t hs) (Y.mono (by omega)) fun H3 cf ck cl Z y=> ?_
 obtain⟨d1,d2,d3,d4⟩:=q fun id f=>(y id f).trans ((u id f).trans (r id f))
 simp only[go_sem]
 repeat' first|apply vI<;>(simp only[go_sem,d1,d2,d3])|fail
 refine PU t (Ie t hs) hi.2.2 (Z.mono (by omega)) (by simp;omega) fun H4 aa p cp n ab=> ?_
 obtain⟨e1,e2,e3,e4⟩:=q fun id f=>(ab id f).trans ((y id f).trans ((u id f).trans (r id f)))
 obtain⟨dv,z,A,B,C,ad,D⟩:=n.hap.ex
 rw[<-yb] at D
 simp only[go_sem]
 repeat' first|apply vI<;>(simp only[go_sem,ac2,ac3,e1,e2,e3,ad])|fail
 have E:=n.rep.names.av
 have ai:=n.rep.names.lt
 have I:=n.rep.i0
 have J:i0≠nx+2:=by omega
 have L: ∀k,k<19->p k≠nx+2:=fun k g he=>E k g (.inl (.inr (.inr (.inr he))))
 have M: ∀id,X id->id<aa+2/\id≠i0/\ ∀k,k<19->id≠p k:=fun id f=>⟨by have:=l id f;omega,fun he=>I.2 (.inl (.inl (he▸f))),fun k g he=>E k g (.inl (.inl (he▸f)))⟩
 have N:L4 c i s=l6 c (KX c i s) (XG c i (KX c i s)):=rfl
 rcases D with⟨he,rfl⟩|⟨ev,cap,rfl,⟨m,rows,v1,v2,v3,v4,v5,v6⟩,v7,T,v9⟩
 ·refine hQ _ _ _ _ _ (.inr rfl) (iM rfl aA.aJ rfl) ⟨dA [.isl ((WL c i s).map eEv),cI z,cI A,cI B,cI C],_,noF,by rw[he];simp only[List.map];repeat' first|exact C1| (with_reducible first|exact C3|apply C4)| ((with_reducible apply C0);first|exact CB rfl|exact CF)| ((with_reducible apply D0);apply C9)|fail,aI,h _ _ p _ _ _ _ (by omega) (N▸n.rep.frame (by omega) (aA.aB J) (fun k g=>aA.aB (L k g)) M) fun id f=> ?_⟩;have:=l id f;rw[aA.aB (by omega)];exact e4 id f
 ·have O:ev≠nx+2:=fun he=>T (.inl (.inr (.inr (.inr he))));have P:i0≠ev:=fun he=>T (.inr (.inl he.symm));have R: ∀k,k<19->p k≠ev:=fun k g he=>T (.inr (.inr ⟨k,g,he.symm⟩));rw[ad6] at v2;subst v2;refine hQ _ _ _ _ _ (.inr rfl) (iM rfl aA.aJ rfl) ⟨dA [.isl ((WL c i s).map eEv),cI z,cI A,cI B,cI C],_,fun j=>j=ev,oH (aH (cM (F:=fun j=>j=ev) (m:=m) MV ((aA.aB O).trans v1) rfl (by omega) rfl) (aH (bE rfl) (aH (bE rfl) (aH (bE rfl) (aH (bE rfl) cG))))),O9,h _ _ p _ _ _ _ (by omega) (N▸n.rep.frame (by omega) ((aA.cL P).trans (aA.aB J)) (fun k g=>(aA.cL (R k g)).trans (aA.aB (L k g))) M) fun id f=> ?_⟩;have:=l id f;have aj:id≠ev:=fun he=>T (.inl (.inl (he▸f)));rw[aA.cL aj,aA.aB (by omega)];exact e4 id f
theorem B3(l:List gX)(hl:l.length<2^21):ag1 gL [dS (l.map eCJ)] (hp []) 0
 fun r H' n'=>∃cap,l.length<=cap/\n'=1/\H'=hp [(0,⟨3,cap,l.map eCJ⟩)]/\r=dO 3 0 l.length cap:=by
 refine aR.mk Tryz.func264 (by kernel_rfl) AE rfl fun Q c=> ?_
 unfold gC
 refine aK.seq (aK.oB 3 ?_)
 repeat' first|apply vI<;>(simp only[go_sem])|refine Z7 (fun h=> ?_) fun h=> ?_| (with_reducible first|refine fun(cap:Nat) (d:_<=cap)=> ?_|refine fun(e:_<=cap)=> ?_|refine fun(b:Bool)=> ?_)| ((refine CK (fun h=> ?_) (fun h=> ?_))<;>try subst h)|refine⟨by omega,?_⟩|fail
 all_goals first
  | (have a:=ac1 cap
     (refine c _ _ _ _ _ 1 (dO 3 0 l.length cap) (hp [(0,⟨3,cap,l.map eCJ⟩)]) _ _ (.inr rfl) rfl (fT [6] (by omega) (by repeat' first|exact C1| ((with_reducible apply C0);exact CQ (by omega) rfl rfl (by rfl) rfl)| ((with_reducible apply D0);apply CJ)|fail) ⟨⟨by simp,by simp[sgL],_,rfl,aY (aG DL _) rfl rfl⟩,trivial⟩ (by simp[sgL])) ?_)
     exact⟨cap,by omega,rfl,rfl,rfl⟩)
  | (have f:l=[]:=ad5 (by omega)
     subst f
     (refine c _ _ _ _ _ 1 (dO 3 0 0 0) (hp [(0,⟨3,0,([]:List gX).map eCJ⟩)]) _ _ (.inr rfl) rfl (fT [0] (by omega) (by repeat' first|exact C1| ((with_reducible apply C0);exact CC)| ((with_reducible apply D0);apply CJ)|fail) ⟨⟨by simp,by simp[sgL],_,rfl,aY (aG DL _) rfl rfl⟩,trivial⟩ (by simp[sgL])) ?_)
     exact⟨0,ac1 _,rfl,rfl,rfl⟩)
theorem B8{l:List gX}(hl:l.length<2^21)(h: ∀cap,l.length<=cap->K (dO 3 nx l.length cap) (H.set nx ⟨3,cap,l.map eCJ⟩) (nx+1)):ag1 gL [dS (l.map eCJ)] H nx K:=by
 refine(B3 l hl).DD (l0:=[]) [] rfl ⟨aE rfl,trivial⟩ trivial (by simp) (by simp) (by simp) fun r H' n' _ ⟨cap,a,b,c,d⟩=> ?_;have h:=h cap a;subst b;subst c;subst d;have e:back (tau 0 nx (nth [])) (hp [(0,⟨3,cap,l.map eCJ⟩)]) 1 H=H.set nx ⟨3,cap,l.map eCJ⟩:=by simp only[back,hp,aA.set,tau,adV,if_true,if_false,Nat.sub_zero,Nat.add_zero,Option.map_some,xc,aA.fI]
 rw[<-e] at h;exact h
theorem DF(l:List gX)(cap m:Nat)(hl:l.length<2^21)(hc:l.length<=cap):ag1 gW [dO 3 0 l.length cap] (hp [(0,⟨3,m,l.map eCJ⟩)]) 1
 fun r H' n'=>n'=1/\ ∃o',H'=hp [(0,o')]/\kC o'/\o'=⟨3,m,l.map eCJ⟩/\r=dO 3 0 l.length l.length:=by
 refine aR.mk Tryz.func263 (by kernel_rfl) B9 rfl fun Q a=> ?_
 unfold gK
 repeat' first|apply vI<;>(simp only[go_sem])|refine⟨by omega,?_⟩|fail
 exact jZ a (dO 3 0 l.length l.length) _ _ rfl (by repeat' first|exact C1| ((with_reducible apply C0);exact CQ (by omega) rfl rfl (by rfl) rfl)| ((with_reducible apply D0);apply CJ)|fail) rfl (eC DL _) ⟨rfl,rfl⟩
theorem DC{l:List gX}{cap m i:Nat}(hl:l.length<2^21)(hc:l.length<=cap)(hi:i<nx)(a:H i=some ⟨3,m,l.map eCJ⟩)(h:K (dO 3 i l.length l.length) (H.set i ⟨3,m,l.map eCJ⟩) nx):
 ag1 gW [dO 3 i l.length cap] H nx K:=
 (DF l cap m hl hc).ML i rfl (eO ⟨qL (by omega) rfl rfl rfl rfl,trivial⟩) hi a (eC DL _) fun r o' ⟨b,c⟩=>by subst b;subst c;exact h
theorem HN(l:List gX)(hl:l.length<2^21):ag1 gS [dS (l.map eCJ)] (hp []) 0
 fun r H' n'=>∃cap,l.length<=cap/\n'=1/\H'=hp [(0,⟨3,cap,l.map eCJ⟩)]/\r=dO 3 0 l.length l.length:=by
 refine aR.mk Tryz.func186 (by kernel_rfl) GR rfl fun Q b=> ?_
 unfold iW
 repeat' first| (first|apply vI|refine B8 hl (fun cap a=> ?_)|refine DC hl a (by omega) rfl ?_)<;>(simp only[go_sem])|fail
 (refine b _ _ _ _ _ 1 (dO 3 0 l.length l.length) (hp [(0,⟨3,cap,l.map eCJ⟩)]) _ _ (.inr rfl) rfl (fT [5] (by omega) (by repeat' first|exact C1| ((with_reducible apply C0);exact CQ (by omega) rfl rfl (by rfl) rfl)| ((with_reducible apply D0);apply CJ)|fail) ⟨⟨by simp,by simp[sgL],_,rfl,aY (aG DL _) rfl rfl⟩,trivial⟩ (by simp[sgL])) ?_)
 exact⟨cap,a,rfl,rfl,rfl⟩
theorem sK{l:List gX}(hl:l.length<2^21)(h: ∀m,l.length<=m->K (dO 3 nx l.length l.length) (H.set nx ⟨3,m,l.map eCJ⟩) (nx+1)):ag1 gS [dS (l.map eCJ)] H nx K:=by
 refine(HN l hl).DD (l0:=[]) [] rfl ⟨aE rfl,trivial⟩ trivial (by simp) (by simp) (by simp) fun r H' n' _ ⟨cap,a,b,c,d⟩=> ?_;have h:=h cap a;subst b;subst c;subst d;have e:back (tau 0 nx (nth [])) (hp [(0,⟨3,cap,l.map eCJ⟩)]) 1 H=H.set nx ⟨3,cap,l.map eCJ⟩:=by simp only[back,hp,aA.set,tau,adV,if_true,if_false,Nat.sub_zero,Nat.add_zero,Option.map_some,xc,aA.fI]
 rw[<-e] at h;exact h
theorem su{τ:Nat->Nat}{n m:Nat}{l:List fF}:bN.rn τ ⟨n,m,l.map dK⟩=⟨n,m,l.map dK⟩:=by refine mW fun r hr x a=> ?_;obtain⟨y,_,rfl⟩:=ac9.1 hr;exact adK.1 (JI y).2 x a
theorem yP(l:List fF)(hl:l.length<2^21):ag1 fL [dS (l.map dK)] (hp []) 0
 fun r H' n'=>∃cap,l.length<=cap/\n'=1/\H'=hp [(0,⟨4,cap,l.map dK⟩)]/\r=dO 4 0 l.length cap:=by
 refine aR.mk Tryz.func257 (by kernel_rfl) xR rfl fun Q c=> ?_
 unfold fH
 refine aK.seq (aK.oB 4 ?_)
 repeat' first|apply vI<;>(simp only[go_sem])|refine Z7 (fun h=> ?_) fun h=> ?_| (with_reducible first|refine fun(cap:Nat) (d:_<=cap)=> ?_|refine fun(e:_<=cap)=> ?_|refine fun(b:Bool)=> ?_)| ((refine CK (fun h=> ?_) (fun h=> ?_))<;>try subst h)|refine⟨by omega,?_⟩|fail
 all_goals first
  | (have a:=ac1 cap
     (refine c _ _ _ _ _ 1 (dO 4 0 l.length cap) (hp [(0,⟨4,cap,l.map dK⟩)]) _ _ (.inr rfl) rfl (fT [6] (by omega) (by repeat' first|exact C1| ((with_reducible apply C0);exact CQ (by omega) rfl rfl (by rfl) rfl)| ((with_reducible apply D0);apply CJ)|fail) ⟨⟨by simp,by simp[sgL],_,rfl,aY (aG JI _) rfl rfl⟩,trivial⟩ (by simp[sgL])) ?_)
     exact⟨cap,by omega,rfl,rfl,rfl⟩)
  | (have f:l=[]:=ad5 (by omega)
     subst f
     (refine c _ _ _ _ _ 1 (dO 4 0 0 0) (hp [(0,⟨4,0,([]:List fF).map dK⟩)]) _ _ (.inr rfl) rfl (fT [0] (by omega) (by repeat' first|exact C1| ((with_reducible apply C0);exact CC)| ((with_reducible apply D0);apply CJ)|fail) ⟨⟨by simp,by simp[sgL],_,rfl,aY (aG JI _) rfl rfl⟩,trivial⟩ (by simp[sgL])) ?_)
     exact⟨0,ac1 _,rfl,rfl,rfl⟩)
theorem yY{l:List fF}(hl:l.length<2^21)(h: ∀cap,l.length<=cap->K (dO 4 nx l.length cap) (H.set nx ⟨4,cap,l.map dK⟩) (nx+1)):ag1 fL [dS (l.map dK)] H nx K:=by
 refine(yP l hl).DD (l0:=[]) [] rfl ⟨aE rfl,trivial⟩ trivial (by simp) (by simp) (by simp) fun r H' n' _ ⟨cap,a,b,c,d⟩=> ?_;have h:=h cap a;subst b;subst c;subst d;have e:back (tau 0 nx (nth [])) (hp [(0,⟨4,cap,l.map dK⟩)]) 1 H=H.set nx ⟨4,cap,l.map dK⟩:=by simp only[back,hp,aA.set,tau,adV,if_true,if_false,Nat.sub_zero,Nat.add_zero,Option.map_some,su,aA.fI]
 rw[<-e] at h;exact h
theorem zX(l:List fF)(cap m:Nat)(hl:l.length<2^21)(hc:l.length<=cap):ag1 fY [dO 4 0 l.length cap] (hp [(0,⟨4,m,l.map dK⟩)]) 1
 fun r H' n'=>n'=1/\ ∃o',H'=hp [(0,o')]/\kC o'/\o'=⟨4,m,l.map dK⟩/\r=dO 4 0 l.length l.length:=by
 refine aR.mk Tryz.func256 (by kernel_rfl) yU rfl fun Q a=> ?_
 unfold fQ
 repeat' first|apply vI<;>(simp only[go_sem])|refine⟨by omega,?_⟩|fail
 exact jZ a (dO 4 0 l.length l.length) _ _ rfl (by repeat' first|exact C1| ((with_reducible apply C0);exact CQ (by omega) rfl rfl (by rfl) rfl)| ((with_reducible apply D0);apply CJ)|fail) rfl (eC JI _) ⟨rfl,rfl⟩
theorem zN{l:List fF}{cap m i:Nat}(hl:l.length<2^21)(hc:l.length<=cap)(hi:i<nx)(a:H i=some ⟨4,m,l.map dK⟩)(h:K (dO 4 i l.length l.length) (H.set i ⟨4,m,l.map dK⟩) nx):
 ag1 fY [dO 4 i l.length cap] H nx K:=
 (zX l cap m hl hc).ML i rfl (eO ⟨qL (by omega) rfl rfl rfl rfl,trivial⟩) hi a (eC JI _) fun r o' ⟨b,c⟩=>by subst b;subst c;exact h
theorem GN(l:List fF)(hl:l.length<2^21):ag1 iX [dS (l.map dK)] (hp []) 0
 fun r H' n'=>∃cap,l.length<=cap/\n'=1/\H'=hp [(0,⟨4,cap,l.map dK⟩)]/\r=dO 4 0 l.length l.length:=by
 refine aR.mk Tryz.func182 (by kernel_rfl) FF rfl fun Q b=> ?_
 unfold iN
 repeat' first| (first|apply vI|refine yY hl (fun cap a=> ?_)|refine zN hl a (by omega) rfl ?_)<;>(simp only[go_sem])|fail
 (refine b _ _ _ _ _ 1 (dO 4 0 l.length l.length) (hp [(0,⟨4,cap,l.map dK⟩)]) _ _ (.inr rfl) rfl (fT [5] (by omega) (by repeat' first|exact C1| ((with_reducible apply C0);exact CQ (by omega) rfl rfl (by rfl) rfl)| ((with_reducible apply D0);apply CJ)|fail) ⟨⟨by simp,by simp[sgL],_,rfl,aY (aG JI _) rfl rfl⟩,trivial⟩ (by simp[sgL])) ?_)
 exact⟨cap,a,rfl,rfl,rfl⟩
theorem GK{l:List fF}(hl:l.length<2^21)(h: ∀m,l.length<=m->K (dO 4 nx l.length l.length) (H.set nx ⟨4,m,l.map dK⟩) (nx+1)):ag1 iX [dS (l.map dK)] H nx K:=by
 refine(GN l hl).DD (l0:=[]) [] rfl ⟨aE rfl,trivial⟩ trivial (by simp) (by simp) (by simp) fun r H' n' _ ⟨cap,a,b,c,d⟩=> ?_;have h:=h cap a;subst b;subst c;subst d;have e:back (tau 0 nx (nth [])) (hp [(0,⟨4,cap,l.map dK⟩)]) 1 H=H.set nx ⟨4,cap,l.map dK⟩:=by simp only[back,hp,aA.set,tau,adV,if_true,if_false,Nat.sub_zero,Nat.add_zero,Option.map_some,su,aA.fI]
 rw[<-e] at h;exact h
theorem Bi{τ:Nat->Nat}{n m:Nat}{l:List uM}:bN.rn τ ⟨n,m,l.map jF⟩=⟨n,m,l.map jF⟩:=by refine mW fun r hr x a=> ?_;obtain⟨y,_,rfl⟩:=ac9.1 hr;exact adK.1 (OY y).2 x a
theorem vD(l:List uM)(hl:l.length<2^21):ag1 eZ [dS (l.map jF)] (hp []) 0
 fun r H' n'=>∃cap,l.length<=cap/\n'=1/\H'=hp [(0,⟨3,cap,l.map jF⟩)]/\r=dO 3 0 l.length cap:=by
 refine aR.mk Tryz.func259 (by kernel_rfl) uB rfl fun Q c=> ?_
 unfold eR
 refine aK.seq (aK.oB 3 ?_)
 repeat' first|apply vI<;>(simp only[go_sem])|refine Z7 (fun h=> ?_) fun h=> ?_| (with_reducible first|refine fun(cap:Nat) (d:_<=cap)=> ?_|refine fun(e:_<=cap)=> ?_|refine fun(b:Bool)=> ?_)| ((refine CK (fun h=> ?_) (fun h=> ?_))<;>try subst h)|refine⟨by omega,?_⟩|fail
 all_goals first
  | (have a:=ac1 cap
     (refine c _ _ _ _ _ 1 (dO 3 0 l.length cap) (hp [(0,⟨3,cap,l.map jF⟩)]) _ _ (.inr rfl) rfl (fT [6] (by omega) (by repeat' first|exact C1| ((with_reducible apply C0);exact CQ (by omega) rfl rfl (by rfl) rfl)| ((with_reducible apply D0);apply CJ)|fail) ⟨⟨by simp,by simp[sgL],_,rfl,aY (aG OY _) rfl rfl⟩,trivial⟩ (by simp[sgL])) ?_)
     exact⟨cap,by omega,rfl,rfl,rfl⟩)
  | (have f:l=[]:=ad5 (by omega)
     subst f
     (refine c _ _ _ _ _ 1 (dO 3 0 0 0) (hp [(0,⟨3,0,([]:List uM).map jF⟩)]) _ _ (.inr rfl) rfl (fT [0] (by omega) (by repeat' first|exact C1| ((with_reducible apply C0);exact CC)| ((with_reducible apply D0);apply CJ)|fail) ⟨⟨by simp,by simp[sgL],_,rfl,aY (aG OY _) rfl rfl⟩,trivial⟩ (by simp[sgL])) ?_)
     exact⟨0,ac1 _,rfl,rfl,rfl⟩)
theorem vB{l:List uM}(hl:l.length<2^21)(h: ∀cap,l.length<=cap->K (dO 3 nx l.length cap) (H.set nx ⟨3,cap,l.map jF⟩) (nx+1)):ag1 eZ [dS (l.map jF)] H nx K:=by
 refine(vD l hl).DD (l0:=[]) [] rfl ⟨aE rfl,trivial⟩ trivial (by simp) (by simp) (by simp) fun r H' n' _ ⟨cap,a,b,c,d⟩=> ?_;have h:=h cap a;subst b;subst c;subst d;have e:back (tau 0 nx (nth [])) (hp [(0,⟨3,cap,l.map jF⟩)]) 1 H=H.set nx ⟨3,cap,l.map jF⟩:=by simp only[back,hp,aA.set,tau,adV,if_true,if_false,Nat.sub_zero,Nat.add_zero,Option.map_some,Bi,aA.fI]
 rw[<-e] at h;exact h
theorem yB(l:List uM)(cap m:Nat)(hl:l.length<2^21)(hc:l.length<=cap):ag1 fG [dO 3 0 l.length cap] (hp [(0,⟨3,m,l.map jF⟩)]) 1
 fun r H' n'=>n'=1/\ ∃o',H'=hp [(0,o')]/\kC o'/\o'=⟨3,m,l.map jF⟩/\r=dO 3 0 l.length l.length:=by
 refine aR.mk Tryz.func258 (by kernel_rfl) vC rfl fun Q a=> ?_
 unfold eY
 repeat' first|apply vI<;>(simp only[go_sem])|refine⟨by omega,?_⟩|fail
 exact jZ a (dO 3 0 l.length l.length) _ _ rfl (by repeat' first|exact C1| ((with_reducible apply C0);exact CQ (by omega) rfl rfl (by rfl) rfl)| ((with_reducible apply D0);apply CJ)|fail) rfl (eC OY _) ⟨rfl,rfl⟩
theorem wT{l:List uM}{cap m i:Nat}(hl:l.length<2^21)(hc:l.length<=cap)(hi:i<nx)(a:H i=some ⟨3,m,l.map jF⟩)(h:K (dO 3 i l.length l.length) (H.set i ⟨3,m,l.map jF⟩) nx):
 ag1 fG [dO 3 i l.length cap] H nx K:=
 (yB l cap m hl hc).ML i rfl (eO ⟨qL (by omega) rfl rfl rfl rfl,trivial⟩) hi a (eC OY _) fun r o' ⟨b,c⟩=>by subst b;subst c;exact h
theorem FP(l:List uM)(hl:l.length<2^21):ag1 iQ [dS (l.map jF)] (hp []) 0
 fun r H' n'=>∃cap,l.length<=cap/\n'=1/\H'=hp [(0,⟨3,cap,l.map jF⟩)]/\r=dO 3 0 l.length l.length:=by
 refine aR.mk Tryz.func183 (by kernel_rfl) EN rfl fun Q b=> ?_
 unfold iG
 repeat' first| (first|apply vI|refine vB hl (fun cap a=> ?_)|refine wT hl a (by omega) rfl ?_)<;>(simp only[go_sem])|fail
 (refine b _ _ _ _ _ 1 (dO 3 0 l.length l.length) (hp [(0,⟨3,cap,l.map jF⟩)]) _ _ (.inr rfl) rfl (fT [5] (by omega) (by repeat' first|exact C1| ((with_reducible apply C0);exact CQ (by omega) rfl rfl (by rfl) rfl)| ((with_reducible apply D0);apply CJ)|fail) ⟨⟨by simp,by simp[sgL],_,rfl,aY (aG OY _) rfl rfl⟩,trivial⟩ (by simp[sgL])) ?_)
 exact⟨cap,a,rfl,rfl,rfl⟩
theorem GH{l:List uM}(hl:l.length<2^21)(h: ∀m,l.length<=m->K (dO 3 nx l.length l.length) (H.set nx ⟨3,m,l.map jF⟩) (nx+1)):ag1 iQ [dS (l.map jF)] H nx K:=by
 refine(FP l hl).DD (l0:=[]) [] rfl ⟨aE rfl,trivial⟩ trivial (by simp) (by simp) (by simp) fun r H' n' _ ⟨cap,a,b,c,d⟩=> ?_;have h:=h cap a;subst b;subst c;subst d;have e:back (tau 0 nx (nth [])) (hp [(0,⟨3,cap,l.map jF⟩)]) 1 H=H.set nx ⟨3,cap,l.map jF⟩:=by simp only[back,hp,aA.set,tau,adV,if_true,if_false,Nat.sub_zero,Nat.add_zero,Option.map_some,Bi,aA.fI]
 rw[<-e] at h;exact h
end
section
variable{H:aA}{nx:Nat}{K:ag2}
theorem V1(l:List Ev)(cap m:Nat)(hl:l.length<2^21)(hc:l.length<=cap):ag1 fJ [dO 3 0 l.length cap] (hp [(0,⟨3,m,l.map eEv⟩)]) 1
 fun r H' n'=>n'=1/\ ∃o',H'=hp [(0,o')]/\kC o'/\o'=⟨3,m,l.map eEv⟩/\r=dO 3 0 l.length l.length:=by
 refine aR.mk Tryz.func98 (by kernel_rfl) vO rfl fun Q a=> ?_
 unfold eX
 repeat' first|apply vI<;>(simp only[go_sem])|refine⟨by omega,?_⟩|fail
 exact jZ a (dO 3 0 l.length l.length) _ _ rfl (by repeat' first|exact C1| ((with_reducible apply C0);exact CQ (by omega) rfl rfl (by rfl) rfl)| ((with_reducible apply D0);apply CJ)|fail) rfl (eC MV _) ⟨rfl,rfl⟩
theorem VL{l:List Ev}{cap m i:Nat}(hl:l.length<2^21)(hc:l.length<=cap)(hi:i<nx)(a:H i=some ⟨3,m,l.map eEv⟩)(h:K (dO 3 i l.length l.length) (H.set i ⟨3,m,l.map eEv⟩) nx):
 ag1 fJ [dO 3 i l.length cap] H nx K:=
 (V1 l cap m hl hc).ML i rfl (eO ⟨qL (by omega) rfl rfl rfl rfl,trivial⟩) hi a (eC MV _) fun r o' ⟨b,c⟩=>by subst b;subst c;exact h
end
end Go.Proofs.YtlncecohbakleaaGreat
