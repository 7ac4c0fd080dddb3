/- Texts laid together by a program: rules, contracts and the walk that leads to the law. -/
import Derived.Test.YtegiblhkjfiooaaGreatPx14
set_option linter.unusedVariables false
set_option linter.unusedSimpArgs false
set_option linter.unusedSectionVars false
section
namespace Go.Proofs.YtegiblhkjfiooaaGreat
open Go Go.AM
set_option maxRecDepth 100000
set_option maxHeartbeats 8000000
theorem EE:cJ Tryz.prog mM Tryz.f138 lQ sI:=cJ.mk Tryz.func138 (by kernel_rfl) EC
theorem aa0 {i:CIn} {s:CSt} {st:Nat} (h:i.n9.getD st default=true∨(aL s st).pipe.length=0):qW i s st=none:=if_pos h
theorem acO {i:CIn} {s:CSt} {st:Nat} (h: ¬(i.n9.getD st default=true∨(aL s st).pipe.length=0)) (h2:0<(bI s st).left):qW i s st=some (.tick st):=by
 unfold qW;rw[if_neg h,if_pos h2]
theorem adE {i:CIn} {s:CSt} {st:Nat} (h: ¬(i.n9.getD st default=true∨(aL s st).pipe.length=0)) (h2: ¬0<(bI s st).left) (h3:(aL s st).done.length<2):qW i s st=some (.work st):=by
 unfold qW;rw[if_neg h,if_neg h2,if_pos h3]
theorem ae2 {i:CIn} {s:CSt} {st:Nat} (h: ¬(i.n9.getD st default=true∨(aL s st).pipe.length=0)) (h2: ¬0<(bI s st).left) (h3: ¬(aL s st).done.length<2):qW i s st=none:=by
 unfold qW;rw[if_neg h,if_neg h2,if_neg h3]
section
variable {H : aA} {nx : Nat} {K : D → aA → Nat → Prop}
theorem GF {X:Nat→Prop} {c:Cfg} {i:CIn} {s:CSt} {es:List Ev} {i0 i1:Nat} {nm:Nat→Nat} (hb:aQ c) (hs:COk c s) (hin:i.n9.length=4) (hB:l9 X H nx i0 i1 nm s es) (hl:es.length<900)
 (h: ∀H' nx' nm',nx≤nx'→l9 X H' nx' i0 i1 nm' (dR c s (xX c i s)) (es++iP c s (xX c i s))→(∀id,X id→H' id=H id)→K (.tup []) H' nx'):
 aB Tryz.prog mM [.one (.c (.ptr 5 i0 0 0)),dA (cU c),dA (eIn i),.one (.c (.ptr 5 i1 0 0))] H nx K:=by
 refine EE rfl fun Q hQ=> ?_
 unfold lQ
 obtain⟨hp3,hpr⟩:=hC hb
 obtain⟨wc,hc,pc,vc,tc,hi0,hw0,hh0,ht0,hpc,hvc⟩: ∃wc hc pc vc tc,H i0=some ⟨5,1,[[.osl 1 (nm 0) 0 s.words.length wc,.osl 1 (nm 1) 0 s.holds.length hc,.osl 4 (nm 2) 0 3 pc,.osl 3 (nm 3) 0 4 vc,.osl 5 (nm 4) 0 s.told.length tc]]⟩∧_:=by
  obtain⟨cells,h1,⟨wc,hc,pc,vc,tc,rfl,h2⟩,_⟩:=hB.rep.st
  exact⟨wc,hc,pc,vc,tc,h1,h2⟩
 have hA:=hB.rep.apart (nx':=nx) [] [] (Nat.le_refl _) (by simp) (by simp) (by simp) (by simp)
 simp only[bQ,eZ,List.map,List.nil_append] at hA
 repeat' (first| (with_reducible first| (refine hK _ _ _ ?_;clear hK K)|refine Z1 ?_|refine Z3 fun KB hKB=> ?_)| (with_reducible refine Y2 fun K hK=> ?_)<;>(simp only[go_sem,Nat.add_assoc,Nat.left_eq_add,hi0,hA])|fail)
 (have hKX:=hKB;clear hKB)
 obtain⟨H0,hH0⟩: ∃H0,H0=(H.set nx ⟨3,1,[cU c]⟩).set (nx+1) ⟨3,1,[eIn i]⟩:=⟨_,rfl⟩
 rw[←hH0]
 have h0c:H0 nx=some ⟨3,1,[cU c]⟩:=by rw[hH0,aA.aC (by omega)];exact aA.bH
 have h0i:H0 (nx+1)=some ⟨3,1,[eIn i]⟩:=by rw[hH0];exact aA.bH
 have hxi0:=hB.rep.i0.1
 have hxi1:=hB.hap.i1.1
 have hB0:l9 (fun id=>X id∨id=nx∨id=nx+1) H0 (nx+8) i0 i1 nm s es:=hB.next (by omega) (fun id h1 h2=>by rw[hH0,aA.aC (by omega),aA.aC (by omega)]) fun id hid=>by
  rcases hid with hid|rfl|rfl
  ·have:=hB.rep.x id (.inl hid)
   exact⟨by omega,.inl hid⟩
  ·exact⟨by omega,.inr (Nat.le_refl _)⟩
  ·exact⟨by omega,.inr (by omega)⟩
 refine aM.gP (β:=Nat×CSt×List Ev×(Nat→Nat)) (fun u=>en [(16,dI u.1),(15,dI 4),(6,.one (.c (.ptr 3 (nx+1) 0 0))),(5,.one (.c (.ptr 3 nx 0 0))),(3,.one (.c (.ptr 5 i1 0 0))),(0,.one (.c (.ptr 5 i0 0 0)))])
  (fun u H1 nx1=>u.1≤4∧COk c u.2.1∧l9 (fun id=>X id∨id=nx∨id=nx+1) H1 nx1 i0 i1 u.2.2.2 u.2.1 u.2.2.1∧(∀id,X id∨id=nx∨id=nx+1→H1 id=H0 id)∧vU c (qW i) ([0,1,2,3].drop u.1) u.2.1 u.2.2.1 (dR c s (xX c i s)) (es++iP c s (xX c i s))∧u.2.2.1.length≤es.length+u.1)
  (fun u=>4-u.1) (0,s,es,nm) ⟨noF,_,by repeat' (first| (with_reducible first|exact C1|refine C2 ?_ ?_)| ((with_reducible refine C0 ?_);exact CE (by omega) rfl)| ((with_reducible refine D0 ?_);first|exact CA rfl|refine CJ ?_)|fail),aK,by dsimp only;omega,hs,hB0.mono (by omega),fun _ _=>rfl,⟨rfl,rfl⟩,by simp⟩ ?_
 rintro⟨k,s1,es1,nm1⟩ H1 nx1 hnx ⟨hk,hs1,hB1,hX1,hS1,hL1⟩ KL hKL
 dsimp only at hk hs1 hB1 hS1 hL1
 obtain⟨wc,hc,pc,vc,tc,mp,rp,mv,rv,g0,g1,g2,g3,g4,g5,g6,g7,g8,g9,ga,gb⟩:=hB1.rep.get
 have hin1:H1 (nx+1)=some ⟨3,1,[eIn i]⟩:=by rw[hX1 _ (.inr (.inr rfl))];exact h0i
 have hcf1:H1 nx=some ⟨3,1,[cU c]⟩:=by rw[hX1 _ (.inr (.inl rfl))];exact h0c
 by_cases hlt:k<4
 ·have hS2:=hS1
  rw[apX hlt] at hS2
  obtain⟨v,hvd⟩: ∃v,v=aL s1 k:=⟨_,rfl⟩
  obtain⟨po,ppc,do_,dc,gs,gp,gd⟩:=gb k hlt
  rw[←hvd] at gs gp gd
  obtain⟨md,rd,d1,d2,d3,d4,d5,d6⟩:=gd.ex
  obtain⟨me,re,p1,p2,p3,p4,p5,p6⟩:=gp.ex
  rw[List.length_map] at d4 p4
  cases hst:i.n9.getD k default with
  |true=>
   repeat' (first| (with_reducible first| (refine hK _ _ _ ?_;clear hK K)| (refine hA ?_;clear hA hB A B)|refine Z1 ?_|refine Z2 ?_|refine Z3 fun KB hKB=> ?_|refine Z4 (by omega) ?_)| (with_reducible first|refine Y2 fun K hK=> ?_|refine Y3 fun A B hA hB=> ?_)<;>(simp only[go_sem,Nat.add_assoc,Nat.left_eq_add,g0,g2,gs,hin1,hst];try simp (disch:=omega) only[Iw])| ((with_reducible refine Y9 ?_);try simp only[AQ.then,AQ.blk,reduceIte,Nat.reduceEqDiff])| ((with_reducible refine Y0 ?_);simp only[AQ.then,AQ.blk])|refine⟨by omega,?_⟩| (with_reducible refine hKB _ _ _ ?_)|fail)
   exact hKL _ _ _ (k+1,s1,es1,nm1) noF _ (by omega) (by dsimp only;omega) (by repeat' (first| (with_reducible first|exact C1|refine C2 ?_ ?_)| ((with_reducible refine C0 ?_);exact CE (by omega) rfl)| ((with_reducible refine D0 ?_);first|exact CA rfl|refine CJ ?_)|fail)) aK ⟨by dsimp only;omega,hs1,hB1.mono (by omega),hX1,hS2.none (aa0 (.inl hst)),by dsimp only;omega⟩
  |false=>
  have hnf: ∀{A:Prop},¬(i.n9.getD k default=true∨A)↔¬A:=fun {A}=>by rw[hst];simp
  by_cases hp0:v.pipe.length=0
  ·have hlen:((v.pipe.length:Int)=0)=True:=eq_true (by omega)
   repeat' (first| (with_reducible first| (refine hK _ _ _ ?_;clear hK K)| (refine hA ?_;clear hA hB A B)|refine Z1 ?_|refine Z2 ?_|refine Z3 fun KB hKB=> ?_|refine Z4 (by omega) ?_)| (with_reducible first|refine Y2 fun K hK=> ?_|refine Y3 fun A B hA hB=> ?_)<;>(simp only[go_sem,Nat.add_assoc,Nat.left_eq_add,g0,g2,gs,hin1,hst,hlen];try simp (disch:=omega) only[Iw])| ((with_reducible refine Y9 ?_);try simp only[AQ.then,AQ.blk,reduceIte,Nat.reduceEqDiff])| ((with_reducible refine Y0 ?_);simp only[AQ.then,AQ.blk])|refine⟨by omega,?_⟩| (with_reducible refine hKB _ _ _ ?_)|fail)
   exact hKL _ _ _ (k+1,s1,es1,nm1) noF _ (by omega) (by dsimp only;omega) (by repeat' (first| (with_reducible first|exact C1|refine C2 ?_ ?_)| ((with_reducible refine C0 ?_);exact CE (by omega) rfl)| ((with_reducible refine D0 ?_);first|exact CA rfl|refine CJ ?_)|fail)) aK ⟨by dsimp only;omega,hs1,hB1.mono (by omega),hX1,hS2.none (aa0 (.inr (by rw[←hvd];exact hp0))),by dsimp only;omega⟩
  have hnp: ¬(i.n9.getD k default=true∨(aL s1 k).pipe.length=0):=by rw[←hvd];exact hnf.2 hp0
  have hlen:((v.pipe.length:Int)=0)=False:=eq_false (by omega)
  obtain⟨j,hjd⟩: ∃j,j=v.pipe.getD 0 default:=⟨_,rfl⟩
  have hjp:bI s1 k=j:=by rw[hjd,hvd];rfl
  have p7:re[po]?=some (eCJ j):=by
   have:(re.drop po)[0]?=some (eCJ j):=by rw[p2,List.getElem?_map];simp[hjd,List.getD,show 0<v.pipe.length by omega]
   rwa [List.getElem?_drop,Nat.add_zero] at this
  have hA:=hB1.rep.apart (nx':=nx1) [nx,nx+1] [0,1,2,3,4,11+k,15+k] (Nat.le_refl _) (by simp) (fun x hx=>.inl (.inr (by simpa using hx))) (by simp;omega) (by simp;omega)
  simp only[bQ,eZ,List.map,List.cons_append,List.nil_append] at hA
  have hsk:=hs1.slv k hlt
  have hjm:j∈(aL s1 k).pipe:=by rw[hjd,hvd];exact cC (by rw[←hvd];omega)
  obtain⟨hjw,hjn1,hjn2⟩:=hs1.vIn hlt (JB hjm)
  dsimp only at hjw hjn1 hjn2
  have hask:oA c j.who j.n:=by
   have:=(hs1.port j.who.toNat (by omega)).asks (n:=j.n) (by omega) hjn1 (by omega)
   rwa [show ((j.who.toNat:Nat):Int)=j.who by omega] at this
  have hjl:=(hsk.left 0 (by rw[←hvd];omega)).1
  rw[←hvd,←hjd] at hjl
  have hlat:=S0 hb hlt
  have hrq:=GK hb hask
  have hml:=hb.1.1
  have hgk: ∀r,(rv.set k r)[k]?=some r:=fun r=>by rw[List.getElem?_set_self (by omega)]
  obtain⟨hask1,hask2,hask3⟩:=hask
  have htl:s1.told.length≤36:=by have:=hs1.st.lens hb;simp only[cX] at this;omega
  obtain⟨mw,rw0,w1,w2,w3,w4,w5,w6⟩:=g3.ex
  obtain⟨mh,rh0,h1',h2',h3',h4',h5',h6'⟩:=g4.ex
  rw[List.drop_zero] at w2 h2'
  subst w2;subst h2'
  refine aM.BW fun hnm=> ?_
  have hmk: ∀k l,msk (nx1+k) l H1=H1:=fun k l=>BV hnm (by omega)
  by_cases hl0:0<j.left
  ·repeat' (first| (with_reducible first| (refine hK _ _ _ ?_;clear hK K)| (refine hA ?_;clear hA hB A B)| (refine hB ?_;clear hA hB A B)|refine Z1 ?_|refine Z2 ?_|refine Z3 fun KB hKB=> ?_|refine Z4 (by omega) ?_)| (with_reducible first|refine Y2 fun K hK=> ?_|refine Y3 fun A B hA hB=> ?_)<;>(simp only[go_sem,Nat.add_assoc,Nat.left_eq_add,hmk,umS (G:=H1),umD (G:=H1),umB,g0,g2,gs,hin1,hst,hlen,p1,p7,hA];try simp (disch:=omega) only[Iw])| ((with_reducible refine Y0 ?_);simp only[AQ.then,AQ.blk])|refine⟨by omega,?_⟩| (with_reducible first|refine hKB _ _ _ ?_| (clear hKB KB;refine hKB _ _ _ ?_))|fail)
   have hO:qW i s1 k=some (.tick k):=acO hnp (by rw[hjp];exact hl0)
   have hL:=hS2.some hO
   obtain⟨s',hs'⟩: ∃s',s'=aR c s1 (.tick k):=⟨_,rfl⟩
   rw[←hs',show y0 s1 (.tick k)=[] from rfl,List.append_nil] at hL
   have hs2:COk c s':=by rw[hs'];exact o9 hb hs1 (LM hs1 hlt hO)
   have hvd':aL s' k= {v with pipe:=v.pipe.set 0 {j with left:=j.left-1}}:=by rw[hs',bO rfl (by rw[hs1.sl];omega),if_pos rfl,hjp,←hvd]
   have hBu:=hB1.upd (H':=(H1.set (nx1+29) ⟨3,1,[eCJ j]⟩).set (nm1 (11+k)) ⟨3,me,re.set po [cI j.who,cI j.n,cI (j.left-1)]⟩) (nx':=nx1+48) 14 k nm1 s' (by omega) (hB1.rep.names.mono (by omega)) (fun j _=>.inl rfl) ?_ ?_ ?_ ?_ (.inr rfl) (.inl hlt) (fun j hj hne=>by rw[hs'];rfl) (fun j hj hne=>by rw[hs',bO rfl (by rw[hs1.sl];omega),if_neg hne])
   ·exact hKL _ _ _ (k+1,s',es1,nm1) noF _ (by omega) (by dsimp only;omega) (by repeat' (first| (with_reducible first|exact C1|refine C2 ?_ ?_)| ((with_reducible refine C0 ?_);exact CE (by omega) rfl)| ((with_reducible refine D0 ?_);first|exact CA rfl|refine CJ ?_)|fail)) aK ⟨by dsimp only;omega,hs2,hBu.1,fun id hid=>(hBu.2 id hid).trans (hX1 id hid),hL,by dsimp only;omega⟩
   ·intro id hid h0 hne
    rw[aA.aC (hne (11+k) (by omega) (by omega)),aA.aC (by omega)]
   ·refine⟨wc,hc,pc,vc,tc,?_,?_,?_,?_,g6,g7⟩
    ·simp only[aA.set,hA,if_false]
     rw[g0,hs'];rfl
    ·rw[hs']
     exact g3.frame (by simp only[aA.set,hA,if_false])
    ·rw[hs']
     exact g4.frame (by simp only[aA.set,hA,if_false])
    ·rw[hs']
     exact g5.frame (by simp only[aA.set,hA,if_false])
   ·exact⟨mp,rp,mp,rp,g1,by simp only[aA.set,hA,if_false];exact g1,g8,fun _ _ _=>rfl,fun hh=>by omega⟩
   ·refine⟨mv,rv,mv,rv,g2,by simp only[aA.set,hA,if_false];exact g2,g9,fun _ _ _=>rfl,fun _=>⟨_,gs,⟨po,ppc,do_,dc,?_,?_,?_⟩⟩⟩
    ·rw[hvd'];simp only[aj9,List.length_set]
    ·rw[hvd']
     refine⟨me,_,aA.bH,?_,by simpa using p3,by simp,by simpa using p5,p6⟩
     rw[List.drop_set,if_neg (by omega),Nat.sub_self,p2,List.map_set];rfl
    ·rw[hvd']
     exact gd.frame (by simp only[aA.set,hA,if_false])
  by_cases hd2:v.done.length<2
  ·repeat' (first| (with_reducible first| (refine hK _ _ _ ?_;clear hK K)| (refine hA ?_;clear hA hB A B)| (refine hB ?_;clear hA hB A B)|refine Z1 ?_|refine Z2 ?_|refine Z3 fun KB hKB=> ?_|refine Z4 (by omega) ?_|refine Z5 (by omega) ?_)| (with_reducible first|refine Y2 fun K hK=> ?_|refine Y3 fun A B hA hB=> ?_)<;>(simp only[go_sem,Nat.add_assoc,Nat.left_eq_add,hmk,umS (G:=H1),umD (G:=H1),umB,g0,g2,gs,hgk,List.set_set,hcf1,hin1,hst,hlen,p1,p7,hA])|refine⟨by omega,?_⟩|fail)
   refine HZ (q:=bT c j.who j.n) (m0:=mw) (m1:=mh) (i0:=i0) (by omega) hs1.atm w5 h5' hjw hrq ?_ ?_ (by simp only[aA.set,hA,if_false];exact g0) (by simp only[aA.set,hA,if_false];exact w1) (by simp only[aA.set,hA,if_false];exact h1') (fun H' nx' hx' f1 f2 ffr=> ?_)
   ·have:=hB1.rep.i0.1;have:=hB1.rep.names.lt 0 (by omega);have:=hB1.rep.names.lt 1 (by omega)
    omega
   ·simp only[List.nodup_cons,List.mem_cons,List.not_mem_nil,or_false,not_or,hA,not_false_eq_true,and_self,List.nodup_nil]
   have hn: ∀a,a<19→nm1 a<nx1:=hB1.rep.names.lt
   have e3:H' (nm1 3)=some ⟨3,mv,rv.set k [.osl 3 (nm1 (11+k)) (po+1) (v.pipe.length-1) (ppc-1),.osl 5 (nm1 (15+k)) do_ v.done.length dc,cI v.last]⟩:=by
    rw[ffr _ (by have:=hn 3 (by omega);omega) (by simp only[ne_eq,hA,not_false_eq_true]) (by simp only[ne_eq,hA,not_false_eq_true])]
    exact aA.bH
   have ej:H' (nx1+29)=some ⟨3,1,[eCJ j]⟩:=by
    rw[ffr _ (by omega) (by have:=hn 0 (by omega);omega) (by have:=hn 1 (by omega);omega)]
    simp only[aA.set,hA,if_false,if_true]
   have ed:H' (nm1 (15+k))=some ⟨5,md,rd⟩:=by
    rw[ffr _ (by have:=hn (15+k) (by omega);omega) (by simp only[ne_eq,hA,not_false_eq_true]) (by simp only[ne_eq,hA,not_false_eq_true])]
    simp only[aA.set,hA,if_false]
    exact d1
   have hA':=hB1.rep.apart (nx':=nx') [nx,nx+1] [0,1,2,3,4,11+k,15+k] (by omega) (by simp) (fun x hx=>.inl (.inr (by simpa using hx))) (by simp;omega) (by simp;omega)
   simp only[bQ,eZ,List.map,List.cons_append,List.nil_append] at hA'
   simp only[go_sem,Nat.add_assoc,Nat.left_eq_add,msk,List.map,List.mem_cons,List.not_mem_nil,or_false,Nat.add_left_cancel_iff,Nat.reduceEqDiff,Nat.reduceAdd,e3,ej,ed,hgk,hA,hA',if_false,if_true,List.set_set]
   refine⟨⟨by omega,by omega⟩,by omega,fun cap hcap hcp=> ?_⟩
   obtain⟨d,hdd⟩: ∃d:Job,d=⟨j.who,j.n,(doM c.map s1.words s1.holds j.who (bT c j.who j.n)).2⟩:=⟨_,rfl⟩
   have er:List.take v.done.length (List.drop do_ rd)++[cI j.who::cI j.n::tG (doM c.map s1.words s1.holds j.who (bT c j.who j.n)).snd]=(v.done++[d]).map aS:=by
    rw[d2,List.take_of_length_le (by simp),List.map_append,hdd];rfl
   have er1:[cI j.who::cI j.n::tG (doM c.map s1.words s1.holds j.who (bT c j.who j.n)).snd]=[aS d]:=by rw[hdd];rfl
   rw[er,er1]
   repeat' (first| (with_reducible (refine hK _ _ _ ?_;clear hK K))| (with_reducible refine Y2 fun K hK=> ?_)<;>(simp only[go_sem,Nat.add_assoc,Nat.left_eq_add,ej,hA,hA'])|fail)
   obtain⟨nm',hnm'⟩: ∃nm',nm'=put nm1 (15+k) (nx1+80):=⟨_,rfl⟩
   have pn: ∀j,j≠15+k→nm' j=nm1 j:=fun j h1=>by rw[hnm',jE h1]
   have p15:nm' (15+k)=nx1+80:=by rw[hnm',t8]
   have hO:qW i s1 k=some (.work k):=adE hnp (by rw[hjp];exact hl0) (by rw[←hvd];exact hd2)
   have hL:=hS2.some hO
   obtain⟨s',hs'⟩: ∃s',s'=aR c s1 (.work k):=⟨_,rfl⟩
   rw[←hs',show y0 s1 (.work k)=[⟨2,j.who,j.n⟩] from by rw[←hjp];rfl] at hL
   have hs2:COk c s':=by rw[hs'];exact o9 hb hs1 (LM hs1 hlt hO)
   have hvd':aL s' k= {v with pipe:=v.pipe.drop 1,done:=v.done++[d]}:=by rw[hs',bO rfl (by rw[hs1.sl];omega),if_pos rfl,hjp,←hvd,hdd];unfold jD;rw[hjp]
   have hwd:s'.words=(doM c.map s1.words s1.holds j.who (bT c j.who j.n)).1.1:=by rw[hs',←hjp];rfl
   have hhd:s'.holds=(doM c.map s1.words s1.holds j.who (bT c j.who j.n)).1.2:=by rw[hs',←hjp];rfl
   have hwl:s'.words.length=s1.words.length:=by obtain⟨h1,_⟩:=hs2.atm;obtain⟨h2,_⟩:=hs1.atm;omega
   have hhl:s'.holds.length=s1.holds.length:=by obtain⟨_,_,h1,_⟩:=hs2.atm;obtain⟨_,_,h2,_⟩:=hs1.atm;omega
   rw[←hwd] at f1
   rw[←hhd] at f2
   have htd:s'.told=s1.told:=by rw[hs'];rfl
   have hH: ∀id,id<nx1→id≠nm1 0→id≠nm1 1→id≠nm1 3→H' id=H1 id:=fun id e e0 e1 e3=>by rw[ffr id (by omega) e0 e1,aA.aC e3,aA.aC (by omega)]
   refine acI (hB1.upd 14 k nm' s' (by omega) ?_ ?_ ?_ ?_ ?_ ?_ (.inr rfl) (.inl hlt) (fun j hj hne=>by rw[hs'];rfl) (fun j hj hne=>by rw[hs',bO rfl (by rw[hs1.sl];omega),if_neg hne])) (by omega) fun H2 nx2 hx hB' hX'=> ?_
   ·rw[hnm']
    have hXl: ∀v,nx1≤v→¬((X v∨v=nx∨v=nx+1)∨v=i1):=fun v hv hn=>by have:=hB1.rep.x v hn;omega
    exact hB1.rep.names.put (by omega) (by omega) (hXl _ (by omega))
   ·intro j hj
    by_cases h4:j=15+k
    ·subst h4;exact .inr ⟨.inr (.inr (.inr (.inr rfl))),by omega⟩
    ·exact .inl (pn j h4)
   ·intro id hid h0 hne
    have e3:=hne 3 (by omega) (by omega)
    simp only[aA.set,aA.del,e3,hne (15+k) (by omega) (by omega),show ¬id=nx1+79 by omega,show ¬id=nx1+80 by omega,if_false]
    exact hH id hid (hne 0 (by omega) (by omega)) (hne 1 (by omega) (by omega)) e3
   ·refine⟨wc,hc,pc,vc,tc,?_,?_,?_,?_,g6,g7⟩
    ·simp only[aA.set,aA.del,hA,hA',if_false,U2,pn 0 (by omega),pn 1 (by omega),pn 2 (by omega),pn 3 (by omega),pn 4 (by omega),hwl,hhl,htd]
     rw[hH i0 (by have:=hB1.rep.i0.1;omega) (by simp only[ne_eq,hA,not_false_eq_true]) (by simp only[ne_eq,hA,not_false_eq_true]) (by simp only[ne_eq,hA,not_false_eq_true])]
     exact g0
    ·rw[pn 0 (by omega)]
     exact⟨mw,s'.words.map aJ,by simp only[aA.set,aA.del,hA,hA',if_false];exact f1,rfl,by simp,by simp,by omega,w6⟩
    ·rw[pn 1 (by omega)]
     exact⟨mh,s'.holds.map aJ,by simp only[aA.set,aA.del,hA,hA',if_false];exact f2,rfl,by simp,by simp,by omega,h6'⟩
    ·rw[pn 4 (by omega),htd]
     refine g5.frame ?_
     simp only[aA.set,aA.del,hA,hA',if_false]
     exact hH _ (hn 4 (by omega)) (by simp only[ne_eq,hA,not_false_eq_true]) (by simp only[ne_eq,hA,not_false_eq_true]) (by simp only[ne_eq,hA,not_false_eq_true])
   ·refine⟨mp,rp,mp,rp,g1,?_,g8,fun _ _ _=>rfl,fun hh=>by omega⟩
    simp only[aA.set,aA.del,hA,hA',if_false]
    rw[hH _ (hn 2 (by omega)) (by simp only[ne_eq,hA,not_false_eq_true]) (by simp only[ne_eq,hA,not_false_eq_true]) (by simp only[ne_eq,hA,not_false_eq_true])]
    exact g1
   ·refine⟨mv,_,mv,rv,g2,aA.bH,by simp only[List.length_set,g9],fun j hj hne=>by rw[List.getElem?_set_ne (Ne.symm hne)],fun _=>⟨_,List.getElem?_set_self (by omega),⟨po+1,ppc-1,0,cap,?_,?_,?_⟩⟩⟩
    ·rw[hvd',pn (11+k) (by omega),p15]
     simp only[aj9,List.length_drop,List.length_append,List.length_singleton]
    ·rw[hvd',pn (11+k) (by omega)]
     refine⟨me,re,?_,by rw[List.map_drop,←p2,List.drop_drop],?_,by simp,?_,?_⟩
     ·simp only[aA.set,aA.del,hA,hA',if_false]
      rw[hH _ (hn (11+k) (by omega)) (by simp only[ne_eq,hA,not_false_eq_true]) (by simp only[ne_eq,hA,not_false_eq_true]) (by simp only[ne_eq,hA,not_false_eq_true])]
      exact p1
     ·simp only[List.length_drop];omega
     ·simp only[List.length_drop];omega
     ·omega
    ·rw[hvd',p15]
     refine⟨cap,(v.done++[d]).map aS,by simp only[aA.set,aA.del,hA,if_false,if_true],rfl,by simp,by simp,by simpa using hcap,by simp⟩
   ·simp only[go_sem]
    repeat' (first| (with_reducible (refine hK _ _ _ ?_;clear hK K))| (with_reducible refine Y2 fun K hK=> ?_)<;>(simp only[go_sem];try simp (disch:=omega) only[Iw])| ((with_reducible refine Y0 ?_);simp only[AQ.then,AQ.blk])| (with_reducible first|refine hKB _ _ _ ?_| (clear hKB KB;refine hKB _ _ _ ?_))|fail)
    exact hKL _ _ _ (k+1,s',es1++[⟨2,j.who,j.n⟩],nm') noF _ (by omega) (by dsimp only;omega) (by repeat' (first| (with_reducible first|exact C1|refine C2 ?_ ?_)| ((with_reducible refine C0 ?_);exact CE (by omega) rfl)| ((with_reducible refine D0 ?_);first|exact CA rfl|refine CJ ?_)|fail)) aK ⟨by dsimp only;omega,hs2,hB'.mono (by omega),fun id hid=>(hX' id hid).trans (hX1 id hid),hL,by simp;omega⟩
  ·repeat' (first| (with_reducible first| (refine hK _ _ _ ?_;clear hK K)| (refine hA ?_;clear hA hB A B)| (refine hB ?_;clear hA hB A B)|refine Z1 ?_|refine Z2 ?_|refine Z3 fun KB hKB=> ?_|refine Z4 (by omega) ?_|refine Z5 (by omega) ?_)| (with_reducible first|refine Y2 fun K hK=> ?_|refine Y3 fun A B hA hB=> ?_)<;>(simp only[go_sem,Nat.add_assoc,Nat.left_eq_add,hmk,umS (G:=H1),umD (G:=H1),umB,g0,g2,gs,hin1,hst,hlen,p1,p7,hA];try simp (disch:=omega) only[Iw])| ((with_reducible refine Y0 ?_);simp only[AQ.then,AQ.blk])|refine⟨by omega,?_⟩| (with_reducible first|refine hKB _ _ _ ?_| (clear hKB KB;refine hKB _ _ _ ?_))|fail)
   have hO:=ae2 hnp (by rw[hjp];exact hl0) (by rw[←hvd];exact hd2)
   refine hKL _ _ _ (k+1,s1,es1,nm1) noF _ (by omega) (by dsimp only;omega) (by repeat' (first| (with_reducible first|exact C1|refine C2 ?_ ?_)| ((with_reducible refine C0 ?_);exact CE (by omega) rfl)| ((with_reducible refine D0 ?_);first|exact CA rfl|refine CJ ?_)|fail)) aK ⟨by dsimp only;omega,hs1,hB1.next (by omega) (fun id h1 h2=>by rw[aA.aC (by omega)]) fun id hid=>⟨?_,.inl hid⟩,fun id hid=> ?_,hS2.none hO,by dsimp only;omega⟩
   ·have:=hB1.rep.x id (.inl hid);omega
   ·have:=hB1.rep.x id (.inl hid)
    rw[aA.aC (by omega)];exact hX1 id hid
 ·repeat' (first| (with_reducible first| (refine hK _ _ _ ?_;clear hK K)| (refine hB ?_;clear hA hB A B)|refine Z1 ?_|refine Z5 (by omega) ?_|refine hKX _ _ _ ?_)| (with_reducible first|refine Y2 fun K hK=> ?_|refine Y3 fun A B hA hB=> ?_)<;>(simp only[go_sem])| ((with_reducible refine Y9 ?_);try simp only[AQ.then,AQ.blk,reduceIte,Nat.reduceEqDiff])| ((with_reducible refine Y0 ?_);simp only[AQ.then,AQ.blk])|fail)
  have hk4:k=4:=by omega
  subst hk4
  obtain⟨rfl,rfl⟩:=vU.nil hS1
  refine hQ _ _ _ _ _ (.inl rfl) rfl (h _ _ nm1 (by omega) (hB1.next (by omega) (fun _ _ _=>rfl) fun id hid=>⟨?_,.inl (.inl hid)⟩) fun id hid=> ?_)
  ·have:=hB.rep.x id (.inl hid);omega
  ·have:=hB.rep.x id (.inl hid)
   rw[hX1 id (.inl hid),hH0,aA.aC (by omega),aA.aC (by omega)]
end
end Go.Proofs.YtegiblhkjfiooaaGreat
end
section
namespace Go.Proofs.YtegiblhkjfiooaaGreat
open Go Go.AM
set_option maxRecDepth 100000
set_option maxHeartbeats 8000000
theorem EY:cJ Tryz.prog nX Tryz.f140 mI uE:=cJ.mk Tryz.func140 (by kernel_rfl) FG
theorem aoP {c:Cfg} {i:CIn} {s:CSt} {k:Nat} (h: ¬(i.send.getD k default=true∧(aF s k).queue.length<2∧(aF s k).next<(c.cP.getD k default).length)):PA c i s k=none:=if_neg h
section
variable {H : aA} {nx : Nat} {K : D → aA → Nat → Prop}
theorem HN {X:Nat→Prop} {c:Cfg} {i:CIn} {s:CSt} {es:List Ev} {i0 i1:Nat} {nm:Nat→Nat} (hb:aQ c) (hs:COk c s) (hin:i.send.length=3) (hB:l9 X H nx i0 i1 nm s es) (hl:es.length<900)
 (h: ∀H' nx' nm',nx≤nx'→l9 X H' nx' i0 i1 nm' (dR c s (MV c i s)) (es++iP c s (MV c i s))→(∀id,X id→H' id=H id)→K (.tup []) H' nx'):
 aB Tryz.prog nX [.one (.c (.ptr 5 i0 0 0)),dA (cU c),dA (eIn i),.one (.c (.ptr 5 i1 0 0))] H nx K:=by
 refine EY rfl fun Q hQ=> ?_
 unfold mI
 obtain⟨hp3,hpr⟩:=hC hb
 obtain⟨wc,hc,pc,vc,tc,hi0,hw0,hh0,ht0,hpc,hvc⟩: ∃wc hc pc vc tc,H i0=some ⟨5,1,[[.osl 1 (nm 0) 0 s.words.length wc,.osl 1 (nm 1) 0 s.holds.length hc,.osl 4 (nm 2) 0 3 pc,.osl 3 (nm 3) 0 4 vc,.osl 5 (nm 4) 0 s.told.length tc]]⟩∧_:=by
  obtain⟨cells,h1,⟨wc,hc,pc,vc,tc,rfl,h2⟩,_⟩:=hB.rep.st
  exact⟨wc,hc,pc,vc,tc,h1,h2⟩
 have hA:=hB.rep.apart (nx':=nx) [] [] (Nat.le_refl _) (by simp) (by simp) (by simp) (by simp)
 simp only[bQ,eZ,List.map,List.nil_append] at hA
 repeat' (first| (with_reducible first| (refine hK _ _ _ ?_;clear hK K)|refine Z1 ?_|refine Z3 fun KB hKB=> ?_)| (with_reducible refine Y2 fun K hK=> ?_)<;>(simp only[go_sem,Nat.add_assoc,Nat.left_eq_add,hi0,hA])|fail)
 (have hKX:=hKB;clear hKB)
 obtain⟨H0,hH0⟩: ∃H0,H0=(H.set nx ⟨3,1,[cU c]⟩).set (nx+1) ⟨3,1,[eIn i]⟩:=⟨_,rfl⟩
 rw[←hH0]
 have h0c:H0 nx=some ⟨3,1,[cU c]⟩:=by rw[hH0,aA.aC (by omega)];exact aA.bH
 have h0i:H0 (nx+1)=some ⟨3,1,[eIn i]⟩:=by rw[hH0];exact aA.bH
 have hxi0:=hB.rep.i0.1
 have hxi1:=hB.hap.i1.1
 have hB0:l9 (fun id=>X id∨id=nx∨id=nx+1) H0 (nx+8) i0 i1 nm s es:=hB.next (by omega) (fun id h1 h2=>by rw[hH0,aA.aC (by omega),aA.aC (by omega)]) fun id hid=>by
  rcases hid with hid|rfl|rfl
  ·have:=hB.rep.x id (.inl hid)
   exact⟨by omega,.inl hid⟩
  ·exact⟨by omega,.inr (Nat.le_refl _)⟩
  ·exact⟨by omega,.inr (by omega)⟩
 refine aM.gP (β:=Nat×CSt×List Ev×(Nat→Nat)) (fun u=>en [(15,dI u.1),(14,dI 3),(6,.one (.c (.ptr 3 (nx+1) 0 0))),(5,.one (.c (.ptr 3 nx 0 0))),(3,.one (.c (.ptr 5 i1 0 0))),(0,.one (.c (.ptr 5 i0 0 0)))])
  (fun u H1 nx1=>u.1≤3∧COk c u.2.1∧l9 (fun id=>X id∨id=nx∨id=nx+1) H1 nx1 i0 i1 u.2.2.2 u.2.1 u.2.2.1∧(∀id,X id∨id=nx∨id=nx+1→H1 id=H0 id)∧vU c (PA c i) ([0,1,2].drop u.1) u.2.1 u.2.2.1 (dR c s (MV c i s)) (es++iP c s (MV c i s))∧u.2.2.1.length≤es.length+u.1)
  (fun u=>3-u.1) (0,s,es,nm) ⟨noF,_,by repeat' (first| (with_reducible first|exact C1|refine C2 ?_ ?_)| ((with_reducible refine C0 ?_);exact CE (by omega) rfl)| ((with_reducible refine D0 ?_);first|exact CA rfl|refine CJ ?_)|fail),aK,by dsimp only;omega,hs,hB0.mono (by omega),fun _ _=>rfl,⟨rfl,rfl⟩,by simp⟩ ?_
 rintro⟨k,s1,es1,nm1⟩ H1 nx1 hnx ⟨hk,hs1,hB1,hX1,hS1,hL1⟩ KL hKL
 dsimp only at hk hs1 hB1 hS1 hL1
 obtain⟨wc,hc,pc,vc,tc,mp,rp,mv,rv,g0,g1,g2,g3,g4,g5,g6,g7,g8,g9,ga,gb⟩:=hB1.rep.get
 have hin1:H1 (nx+1)=some ⟨3,1,[eIn i]⟩:=by rw[hX1 _ (.inr (.inr rfl))];exact h0i
 have hcf1:H1 nx=some ⟨3,1,[cU c]⟩:=by rw[hX1 _ (.inr (.inl rfl))];exact h0c
 by_cases hlt:k<3
 ·have hS2:=hS1
  rw[ap4 hlt] at hS2
  obtain⟨p,hpd⟩: ∃p,p=aF s1 k:=⟨_,rfl⟩
  obtain⟨qo,qc,oc,gr,gq,go⟩:=ga k hlt
  rw[←hpd] at gr gq go
  have hpo:=hs1.port k hlt
  rw[←hpd] at hpo
  obtain⟨hn1,hn2⟩:=hpo.next
  have hql:=hpo.ql
  have hprk:=hpr k
  obtain⟨mq,rq0,q1,q2,q3,q4,q5,q6⟩:=gq.ex
  rw[List.length_map] at q4
  by_cases hO:i.send.getD k default=true∧(aF s1 k).queue.length<2∧(aF s1 k).next<(c.cP.getD k default).length
  ·have hO2:PA c i s1 k=some (.ask k):=if_pos hO
   obtain⟨hsd,hq2,hnl⟩:=hO
   rw[←hpd] at hq2 hnl
   have hA:=hB1.rep.apart (nx':=nx1) [nx,nx+1] [0,1,2,3,4,5+k,8+k] (Nat.le_refl _) (by simp) (fun x hx=>.inl (.inr (by simpa using hx))) (by simp;omega) (by simp;omega)
   simp only[bQ,eZ,List.map,List.cons_append,List.nil_append] at hA
   have hgk: ∀r,(rp.set k r)[k]?=some r:=fun r=>by rw[List.getElem?_set_self (by omega)]
   refine aM.BW fun hnm=> ?_
   have hmk: ∀k l,msk (nx1+k) l H1=H1:=fun k l=>BV hnm (by omega)
   repeat' (first| (with_reducible first| (refine hK _ _ _ ?_;clear hK K)| (refine hA ?_;clear hA hB A B)|refine Z1 ?_|refine Z2 ?_|refine Z3 fun KB hKB=> ?_|refine Z4 (by omega) ?_|refine fun(cap:Nat) (hcap:_≤cap)=> ?_|refine fun(hcp:_≤cap)=> ?_)| (with_reducible first|refine Y2 fun K hK=> ?_|refine Y3 fun A B hA hB=> ?_|refine Y4 (by omega) ?_)<;>(simp only[go_sem,Nat.add_assoc,Nat.left_eq_add,hmk,umS (G:=H1),umD (G:=H1),umB,g0,g1,gr,hgk,List.set_set,hcf1,hin1,hsd,q1,hA])|refine⟨by omega,?_⟩|fail)
   have er:List.take p.queue.length (List.drop qo rq0)++[[cI p.next]]=(p.queue++[p.next]).map aJ:=by
    rw[q2,List.take_of_length_le (by simp),List.map_append];rfl
   rw[er]
   obtain⟨nm',hnm'⟩: ∃nm',nm'=put nm1 (5+k) (nx1+46):=⟨_,rfl⟩
   have pn: ∀j,j≠5+k→nm' j=nm1 j:=fun j h1=>by rw[hnm',jE h1]
   have p5:nm' (5+k)=nx1+46:=by rw[hnm',t8]
   have hL:=hS2.some hO2
   obtain⟨s2,hs2⟩: ∃s2:CSt,s2= {s1 with bM:=s1.bM.set k {p with queue:=p.queue++[p.next]}}:=⟨_,rfl⟩
   obtain⟨s',hs'⟩: ∃s',s'=aR c s1 (.ask k):=⟨_,rfl⟩
   rw[←hs',show y0 s1 (.ask k)=[⟨1,k,p.next⟩] from by rw[hpd];rfl] at hL
   have hsk:COk c s':=by rw[hs'];exact o9 hb hs1 (YH hs1 hlt hO2)
   have hpd2:aF s2 k= {p with queue:=p.queue++[p.next]}:=by rw[hs2,bL rfl (by rw[hs1.pl];omega),if_pos rfl]
   have hpd':aF s' k= {p with queue:=p.queue++[p.next],next:=p.next+1}:=by rw[hs',bL rfl (by rw[hs1.pl];omega),if_pos rfl,←hpd]
   refine acI (hB1.upd k 8 nm' s2 (by omega) ?_ ?_ ?_ ?_ ?_ ?_ (.inl hlt) (.inr rfl) (fun j hj hne=>by rw[hs2,bL rfl (by rw[hs1.pl];omega),if_neg hne]) (fun j hj hne=>by rw[hs2];rfl)) (by omega) fun H' nx' hx hB' hX'=> ?_
   ·rw[hnm']
    have hXl: ∀v,nx1≤v→¬((X v∨v=nx∨v=nx+1)∨v=i1):=fun v hv hn=>by have:=hB1.rep.x v hn;omega
    exact hB1.rep.names.put (by omega) (by omega) (hXl _ (by omega))
   ·intro j hj
    by_cases h4:j=5+k
    ·subst h4;exact .inr ⟨.inr (.inl rfl),by omega⟩
    ·exact .inl (pn j h4)
   ·intro id hid h0 hne
    simp only[aA.set,aA.del,hne 2 (by omega) (by omega),hne (5+k) (by omega) (by omega),show ¬id=nx1+45 by omega,show ¬id=nx1+46 by omega,if_false]
   ·refine⟨wc,hc,pc,vc,tc,?_,?_,?_,?_,g6,g7⟩
    ·simp only[aA.set,aA.del,hA,if_false,U2,pn 0 (by omega),pn 1 (by omega),pn 2 (by omega),pn 3 (by omega),pn 4 (by omega)]
     rw[hs2];exact g0
    ·rw[pn 0 (by omega),hs2]
     exact g3.frame (by simp only[aA.set,aA.del,hA,if_false])
    ·rw[pn 1 (by omega),hs2]
     exact g4.frame (by simp only[aA.set,aA.del,hA,if_false])
    ·rw[pn 4 (by omega),hs2]
     exact g5.frame (by simp only[aA.set,aA.del,hA,if_false])
   ·refine⟨mp,_,mp,rp,g1,aA.bH,by simp only[List.length_set,g8],fun j hj hne=>by rw[List.getElem?_set_ne (Ne.symm hne)],fun _=>⟨_,hgk _,⟨0,cap,oc,?_,?_,?_⟩⟩⟩
    ·rw[hpd2,pn (8+k) (by omega),p5]
     simp only[af5,List.length_append,List.length_singleton]
    ·rw[hpd2,p5]
     exact⟨cap,(p.queue++[p.next]).map aJ,by simp only[aA.set,aA.del,hA,if_false,if_true],rfl,by simp,by simp,by simpa using hcap,by simp⟩
    ·rw[hpd2,pn (8+k) (by omega)]
     exact go.frame (by simp only[aA.set,aA.del,hA,if_false])
   ·exact⟨mv,rv,mv,rv,g2,by simp only[aA.set,aA.del,hA,if_false];exact g2,g9,fun _ _ _=>rfl,fun hh=>by omega⟩
   ·obtain⟨wc,hc,pc,vc,tc,mp,rp,mv,rv,g0,g1,g2,g3,g4,g5,g6,g7,g8,g9,ga,gb⟩:=hB'.rep.get
    obtain⟨qo,qc,oc,gr,gq,go⟩:=ga k hlt
    have hgk: ∀r,(rp.set k r)[k]?=some r:=fun r=>by rw[List.getElem?_set_self (by omega)]
    have hA2:=hB'.rep.apart (nx':=nx') [nx,nx+1] [0,1,2,3,4,5+k,8+k] (Nat.le_refl _) (by simp) (fun x hx=>.inl (.inr (by simpa using hx))) (by simp;omega) (by simp;omega)
    simp only[bQ,eZ,List.map,List.cons_append,List.nil_append] at hA2
    have pn2:=(pn 2 (by omega)).symm
    rw[hpd2] at gr gq go
    simp only[go_sem]
    repeat' (first| (with_reducible (refine hK _ _ _ ?_;clear hK K))| (with_reducible refine Y2 fun K hK=> ?_)<;>(simp only[go_sem,Nat.add_assoc,Nat.left_eq_add,pn2,g0,g1,gr,hgk,List.set_set,hA2];try simp (disch:=omega) only[Iw])| ((with_reducible refine Y0 ?_);simp only[AQ.then,AQ.blk])| (with_reducible refine hKB _ _ _ ?_)|fail)
    have hBu:=hB'.upd (H':=H'.set (nm' 2) ⟨4,mp,rp.set k [cI (p.next+1),.osl 1 (nm' (5+k)) qo (p.queue.length+1) qc,.osl 3 (nm' (8+k)) 0 p.out.length oc,cI p.last]⟩) (nx':=nx'+10) k 8 nm' s' (by omega) (hB'.rep.names.mono (by omega)) (fun j _=>.inl rfl) ?_ ?_ ?_ ?_ (.inl hlt) (.inr rfl) (fun j hj hne=>(show aF s' j=aF s1 j from by rw[hs',bL (s:=s1) rfl (by rw[hs1.pl];omega),if_neg hne]).trans (show aF s2 j=aF s1 j from by rw[hs2,bL (s:=s1) rfl (by rw[hs1.pl];omega),if_neg hne]).symm) (fun j hj hne=>by rw[hs',hs2];rfl)
    ·exact hKL _ _ _ (k+1,s',es1++[⟨1,k,p.next⟩],nm') noF _ (by omega) (by dsimp only;omega) (by repeat' (first| (with_reducible first|exact C1|refine C2 ?_ ?_)| ((with_reducible refine C0 ?_);exact CE (by omega) rfl)| ((with_reducible refine D0 ?_);first|exact CA rfl|refine CJ ?_)|fail)) aK ⟨by dsimp only;omega,hsk,hBu.1,fun id hid=>(hBu.2 id hid).trans ((hX' id hid).trans (hX1 id hid)),hL,by simp;omega⟩
    ·intro id hid h0 hne
     exact aA.aC (hne 2 (by omega) (by omega))
    ·refine⟨wc,hc,pc,vc,tc,?_,?_,?_,?_,g6,g7⟩
     ·simp only[aA.set,hA2,if_false]
      rw[g0,hs',hs2];rfl
     ·rw[hs2] at g3;rw[hs']
      exact g3.frame (by simp only[aA.set,hA2,if_false])
     ·rw[hs2] at g4;rw[hs']
      exact g4.frame (by simp only[aA.set,hA2,if_false])
     ·rw[hs2] at g5;rw[hs']
      exact g5.frame (by simp only[aA.set,hA2,if_false])
    ·refine⟨mp,_,mp,rp,g1,aA.bH,by simp only[List.length_set,g8],fun j hj hne=>by rw[List.getElem?_set_ne (Ne.symm hne)],fun _=>⟨_,hgk _,⟨qo,qc,oc,?_,?_,?_⟩⟩⟩
     ·rw[hpd']
      simp only[af5,List.length_append,List.length_singleton]
     ·rw[hpd']
      exact gq.frame (by simp only[aA.set,hA2,if_false])
     ·rw[hpd']
      exact go.frame (by simp only[aA.set,hA2,if_false])
    ·exact⟨mv,rv,mv,rv,g2,by simp only[aA.set,hA2,if_false];exact g2,g9,fun _ _ _=>rfl,fun hh=>by omega⟩
  ·have hO2:=aoP hO
   rw[←hpd] at hO
   cases hsd:i.send.getD k default with
   |false=>
    repeat' (first| (with_reducible first| (refine hK _ _ _ ?_;clear hK K)| (refine hA ?_;clear hA hB A B)| (refine hB ?_;clear hA hB A B)|refine Z1 ?_|refine Z2 ?_|refine Z3 fun KB hKB=> ?_|refine Z4 (by omega) ?_)| (with_reducible first|refine Y2 fun K hK=> ?_|refine Y3 fun A B hA hB=> ?_)<;>(simp only[go_sem,Nat.add_assoc,Nat.left_eq_add,g0,g1,gr,hcf1,hin1,hsd];try simp (disch:=omega) only[Iw])| ((with_reducible refine Y0 ?_);simp only[AQ.then,AQ.blk])|refine⟨by omega,?_⟩| (with_reducible refine hKB _ _ _ ?_)|fail)
    exact hKL _ _ _ (k+1,s1,es1,nm1) noF _ (by omega) (by dsimp only;omega) (by repeat' (first| (with_reducible first|exact C1|refine C2 ?_ ?_)| ((with_reducible refine C0 ?_);exact CE (by omega) rfl)| ((with_reducible refine D0 ?_);first|exact CA rfl|refine CJ ?_)|fail)) aK ⟨by dsimp only;omega,hs1,hB1.mono (by omega),hX1,hS2.none (hO2),by dsimp only;omega⟩
   |true=>
   rw[hsd] at hO
   repeat' (first| (with_reducible first| (refine hK _ _ _ ?_;clear hK K)| (refine hA ?_;clear hA hB A B)| (refine hB ?_;clear hA hB A B)|refine Z1 ?_|refine Z2 ?_|refine Z3 fun KB hKB=> ?_|refine Z4 (by omega) ?_|refine Z6 (fun h=> ?_) fun h=> ?_)| (with_reducible first|refine Y2 fun K hK=> ?_|refine Y3 fun A B hA hB=> ?_|refine Y6 (fun h=> ?_) fun h=> ?_)<;>(simp only[go_sem,Nat.add_assoc,Nat.left_eq_add,g0,g1,gr,hcf1,hin1,hsd];try simp (disch:=omega) only[Iw])| ((with_reducible refine Y0 ?_);simp only[AQ.then,AQ.blk])|refine⟨by omega,?_⟩| (with_reducible refine hKB _ _ _ ?_)|fail)
   all_goals first|exact absurd ⟨rfl,by omega,by omega⟩ hO| (exact hKL _ _ _ (k+1,s1,es1,nm1) noF _ (by omega) (by dsimp only;omega) (by repeat' (first| (with_reducible first|exact C1|refine C2 ?_ ?_)| ((with_reducible refine C0 ?_);exact CE (by omega) rfl)| ((with_reducible refine D0 ?_);first|exact CA rfl|refine CJ ?_)|fail)) aK ⟨by dsimp only;omega,hs1,hB1.mono (by omega),hX1,hS2.none hO2,by dsimp only;omega⟩)
 ·repeat' (first| (with_reducible first| (refine hK _ _ _ ?_;clear hK K)| (refine hB ?_;clear hA hB A B)|refine Z1 ?_|refine Z5 (by omega) ?_|refine hKX _ _ _ ?_)| (with_reducible first|refine Y2 fun K hK=> ?_|refine Y3 fun A B hA hB=> ?_)<;>(simp only[go_sem])| ((with_reducible refine Y9 ?_);try simp only[AQ.then,AQ.blk,reduceIte,Nat.reduceEqDiff])| ((with_reducible refine Y0 ?_);simp only[AQ.then,AQ.blk])|fail)
  have hk4:k=3:=by omega
  subst hk4
  obtain⟨rfl,rfl⟩:=vU.nil hS1
  refine hQ _ _ _ _ _ (.inl rfl) rfl (h _ _ nm1 (by omega) (hB1.next (by omega) (fun _ _ _=>rfl) fun id hid=>⟨?_,.inl (.inl hid)⟩) fun id hid=> ?_)
  ·have:=hB.rep.x id (.inl hid);omega
  ·have:=hB.rep.x id (.inl hid)
   rw[hX1 id (.inl hid),hH0,aA.aC (by omega),aA.aC (by omega)]
end
end Go.Proofs.YtegiblhkjfiooaaGreat
end
section
namespace Go.Proofs.YtegiblhkjfiooaaGreat
open Go Go.AM
set_option maxRecDepth 100000
set_option maxHeartbeats 8000000
theorem F1:cJ Tryz.prog n6 Tryz.f139 mL uR:=cJ.mk Tryz.func139 (by kernel_rfl) FB
end Go.Proofs.YtegiblhkjfiooaaGreat
namespace Go.AM
theorem l9.cells {X:Nat→Prop} {H:aA} {nx i0 i1:Nat} {nm:Nat→Nat} {s:CSt} {es:List Ev} (h:l9 X H nx i0 i1 nm s es) {r r':List D1} {k:Nat} (hk:k<4) (h1:H i1=some ⟨5,1,[r]⟩) (hr:r'=r.set (1+k) (cI 1)):l9 X (H.set i1 ⟨5,1,[r']⟩) nx i0 i1 nm s es:=by
 subst hr
 have hav:=h.rep.names.av
 have hi0:=h.rep.i0
 refine⟨h.rep.frame (Nat.le_refl _) (aA.aC fun he=>hi0.2 (.inr he)) (fun k hk=>aA.aC fun he=>hav k hk (.inr he)) fun id hid=>⟨h.rep.x id hid,fun he=>hi0.2 (he▸hid),fun k hk he=>hav k hk (he▸hid)⟩,?_⟩
 obtain⟨⟨d,a,b,c,e,g1,g2⟩,g3,g4⟩:=h.hap
 rw[h1] at g1
 obtain rfl:r=[d,cI a,cI b,cI c,cI e]:=by simpa using g1
 have hd:aqA (fun id=>X id∨id=i0∨ ∃k,k<19∧id=nm k) (H.set i1 ⟨5,1,[[d,cI a,cI b,cI c,cI e].set (1+k) (cI 1)]⟩) nx i1 es d:=by
  rcases g2 with g2|⟨ev,cap,k1,k2,k3,k4,k5⟩
  ·exact .inl g2
  ·exact .inr ⟨ev,cap,k1,k2.frame (aA.aC k5),k3,k4,k5⟩
 refine⟨?_,g3,g4⟩
 obtain rfl|rfl|rfl|rfl:k=0∨k=1∨k=2∨k=3:=by omega
 ·exact⟨d,1,b,c,e,aA.bH,hd⟩
 ·exact⟨d,a,1,c,e,aA.bH,hd⟩
 ·exact⟨d,a,b,1,e,aA.bH,hd⟩
 ·exact⟨d,a,b,c,1,aA.bH,hd⟩
theorem l9.atI {X:Nat→Prop} {H:aA} {nx i0 i1:Nat} {nm:Nat→Nat} {s:CSt} {es:List Ev} {j:Nat} {o:bA} (h:l9 X H nx i0 i1 nm s es) (hj:X j):l9 X (H.set j o) nx i0 i1 nm s es:=
 h.next (Nat.le_refl _) (fun id _ hn=>aA.aC fun he=>hn (he▸hj)) fun id hid=>⟨h.rep.x id (.inl hid),.inl hid⟩
end Go.AM
namespace Go.Proofs.YtegiblhkjfiooaaGreat
open Go Go.AM
set_option maxRecDepth 100000
set_option maxHeartbeats 8000000
section
variable {H : aA} {nx : Nat} {K : D → aA → Nat → Prop}
theorem HT {X:Nat→Prop} {c:Cfg} {s:CSt} {es:List Ev} {i0 i1:Nat} {nm:Nat→Nat} (hb:aQ c) (hs:COk c s) (hB:l9 X H nx i0 i1 nm s es)
 (h: ∀H' nx' nm',nx≤nx'→l9 X H' nx' i0 i1 nm' (dR c s (ad4 c s)) es→(∀id,X id→H' id=H id)→K (.tup []) H' nx'):
 aB Tryz.prog n6 [.one (.c (.ptr 5 i0 0 0)),dA (cU c),.one (.c (.ptr 5 i1 0 0))] H nx K:=by
 refine F1 rfl fun Q hQ=> ?_
 unfold mL
 obtain⟨hp3,hpr⟩:=hC hb
 obtain⟨wc,hc,pc,vc,tc,hi0,hw0,hh0,ht0,hpc,hvc⟩: ∃wc hc pc vc tc,H i0=some ⟨5,1,[[.osl 1 (nm 0) 0 s.words.length wc,.osl 1 (nm 1) 0 s.holds.length hc,.osl 4 (nm 2) 0 3 pc,.osl 3 (nm 3) 0 4 vc,.osl 5 (nm 4) 0 s.told.length tc]]⟩∧_:=by
  obtain⟨cells,h1,⟨wc,hc,pc,vc,tc,rfl,h2⟩,_⟩:=hB.rep.st
  exact⟨wc,hc,pc,vc,tc,h1,h2⟩
 have hA:=hB.rep.apart (nx':=nx) [] [] (Nat.le_refl _) (by simp) (by simp) (by simp) (by simp)
 simp only[bQ,eZ,List.map,List.nil_append] at hA
 repeat' (first| (with_reducible first| (refine hK _ _ _ ?_;clear hK K)|refine Z1 ?_|refine Z3 fun KB hKB=> ?_)| (with_reducible refine Y2 fun K hK=> ?_)<;>(simp only[go_sem,Nat.add_assoc,Nat.left_eq_add,hi0,hA])|fail)
 (have hKX:=hKB;clear hKB)
 obtain⟨H0,hH0⟩: ∃H0,H0=(H.set nx ⟨3,1,[cU c]⟩).set (nx+1) ⟨3,1,[[false,false,false].map cB]⟩:=⟨_,rfl⟩
 have hH0':=hH0
 simp only[List.map] at hH0'
 unfold cB at hH0'
 rw[←hH0']
 clear hH0'
 have h0c:H0 nx=some ⟨3,1,[cU c]⟩:=by rw[hH0,aA.aC (by omega)];exact aA.bH
 have h0u:H0 (nx+1)=some ⟨3,1,[[false,false,false].map cB]⟩:=by rw[hH0];exact aA.bH
 have hxi0:=hB.rep.i0.1
 have hxi1:=hB.hap.i1.1
 have hB0:l9 (fun id=>X id∨id=nx∨id=nx+1) H0 (nx+8) i0 i1 nm s es:=hB.next (by omega) (fun id h1 h2=>by rw[hH0,aA.aC (by omega),aA.aC (by omega)]) fun id hid=>by
  rcases hid with hid|rfl|rfl
  ·have:=hB.rep.x id (.inl hid)
   exact⟨by omega,.inl hid⟩
  ·exact⟨by omega,.inr (Nat.le_refl _)⟩
  ·exact⟨by omega,.inr (by omega)⟩
 refine aM.gP (β:=Nat×CSt×List Bool×(Nat→Nat)) (fun u=>en [(18,dI u.1),(17,dI 4),(6,.one (.c (.ptr 3 (nx+1) 0 0))),(4,.one (.c (.ptr 3 nx 0 0))),(2,.one (.c (.ptr 5 i1 0 0))),(0,.one (.c (.ptr 5 i0 0 0)))])
  (fun u H1 nx1=>u.1≤4∧COk c u.2.1∧l9 (fun id=>X id∨id=nx∨id=nx+1) H1 nx1 i0 i1 u.2.2.2 u.2.1 es∧(∀id,X id∨id=nx→H1 id=H0 id)∧LV c ([0,1,2,3].drop u.1) u.2.1 u.2.2.1 (dR c s (ad4 c s))∧u.2.2.1.length=3∧H1 (nx+1)=some ⟨3,1,[u.2.2.1.map cB]⟩)
  (fun u=>4-u.1) (0,s,[false,false,false],nm) ⟨noF,_,by repeat' (first| (with_reducible first|exact C1|refine C2 ?_ ?_)| ((with_reducible refine C0 ?_);exact CE (by omega) rfl)| ((with_reducible refine D0 ?_);first|exact CA rfl|refine CJ ?_)|fail),aK,by dsimp only;omega,hs,hB0.mono (by omega),fun _ _=>rfl,rfl,rfl,h0u⟩ ?_
 rintro⟨k,s1,u,nm1⟩ H1 nx1 hnx ⟨hk,hs1,hB1,hX1,hS1,hul,hu1⟩ KL hKL
 dsimp only at hk hs1 hB1 hS1 hul hu1
 obtain⟨wc,hc,pc,vc,tc,mp,rp,mv,rv,g0,g1,g2,g3,g4,g5,g6,g7,g8,g9,ga,gb⟩:=hB1.rep.get
 have hcf1:H1 nx=some ⟨3,1,[cU c]⟩:=by rw[hX1 _ (.inr rfl)];exact h0c
 by_cases hlt:k<4
 ·have hS2:=hS1
  rw[apX hlt] at hS2
  obtain⟨v,hvd⟩: ∃v,v=aL s1 k:=⟨_,rfl⟩
  obtain⟨po,ppc,do_,dc,gs,gp,gd⟩:=gb k hlt
  rw[←hvd] at gs gp gd
  obtain⟨me,re,p1,p2,p3,p4,p5,p6⟩:=gp.ex
  rw[List.length_map] at p4
  have hvo:=(hs1.slv k hlt).last
  have hn3:=hB1.rep.names.lt 3 (by omega)
  rw[←hvd] at hvo
  repeat' (first| (with_reducible first| (refine hK _ _ _ ?_;clear hK K)| (refine hA ?_;clear hA hB A B)|refine Z1 ?_|refine Z2 ?_|refine Z3 fun KB hKB=> ?_|refine Z4 (by omega) ?_)| (with_reducible first|refine Y2 fun K hK=> ?_|refine Y3 fun A B hA hB=> ?_)<;>(simp only[go_sem,Nat.add_assoc,Nat.left_eq_add,g0,g2,gs])|refine⟨by omega,?_⟩|fail)
  (have hKY:=hKB;clear hKB)
  refine aM.gP (β:=Nat) (fun j=>en [(18,dI k),(17,dI 4),(9,dI j),(8,.one (.c (.ptr 3 (nm1 3) k 0))),(7,dI k),(6,.one (.c (.ptr 3 (nx+1) 0 0))),(4,.one (.c (.ptr 3 nx 0 0))),(2,.one (.c (.ptr 5 i1 0 0))),(0,.one (.c (.ptr 5 i0 0 0)))])
   (fun j H2 _=>1≤j∧j≤4∧H2=H1∧ ∀j',1≤j'→j'<j→KE c s1 u k (sM s1 k j')=false) (fun j=>4-j) 1 ⟨noF,_,by repeat' (first| (with_reducible first|exact C1|refine C2 ?_ ?_)| ((with_reducible refine C0 ?_);exact CE (by omega) rfl)| ((with_reducible refine D0 ?_);first|exact CA rfl|refine CJ ?_)|fail),aK,by omega,by omega,rfl,fun j' h1 h2=>by omega⟩ ?_
  rintro j H2 nx2 hnx2 ⟨hj1,hj5,hH2,hinv⟩ KJ hKJ
  subst hH2
  by_cases hp2:v.pipe.length<2
  ·by_cases hj4:j≤3
   ·obtain⟨who,hwd⟩: ∃who,who=sM s1 k j:=⟨_,rfl⟩
    have hwd':who=((v.last+(j:Int))%3).toNat:=by rw[hwd,hvd];rfl
    have hw3:who<3:=by omega
    have hmod:(v.last+(j:Int)).tmod 3=(who:Int):=by rw[Int.tmod_eq_emod_of_nonneg (by omega)];omega
    have hut:((u.map cB).drop who).take 1=[cB (u.getD who default)]:=by
     rw[List.drop_eq_getElem_cons (by simp;omega)]
     simp[List.getD,show who<u.length by omega]
    have hull:(u.map cB).length=3:=by rw[List.length_map,hul]
    have hle:(who+1≤3)=True:=eq_true (by omega)
    have hback:KE c s1 u k who=false→∀j',1≤j'→j'<j+1→KE c s1 u k (sM s1 k j')=false:=fun hf j' h1 h2=>by
     by_cases hj:j'<j
     ·exact hinv j' h1 hj
     ·have:j'=j:=by omega
      subst this
      rw[←hwd];exact hf
    cases huw:u.getD who default with
    |true=>
     repeat' (first| (with_reducible first| (refine hK _ _ _ ?_;clear hK K)| (refine hA ?_;clear hA hB A B)|refine Z1 ?_|refine Z2 ?_|refine Z3 fun KB hKB=> ?_|refine Z4 (by omega) ?_)| (with_reducible first|refine Y2 fun K hK=> ?_|refine Y3 fun A B hA hB=> ?_|refine Y4 (by omega) ?_)<;>(simp only[go_sem,Nat.add_assoc,Nat.left_eq_add,g0,g2,gs,Nat.mul_one,hmod,hu1,hut,hull,hle,huw];try simp (disch:=omega) only[Iw])| ((with_reducible refine Y9 ?_);try simp only[AQ.then,AQ.blk,reduceIte,Nat.reduceEqDiff])| ((with_reducible refine Y0 ?_);simp only[AQ.then,AQ.blk])|refine⟨by omega,?_⟩| (with_reducible refine hKB _ _ _ ?_)|fail)
     exact hKJ _ _ _ (j+1) noF _ (by omega) (by omega) (by repeat' (first| (with_reducible first|exact C1|refine C2 ?_ ?_)| ((with_reducible refine C0 ?_);exact CE (by omega) rfl)| ((with_reducible refine D0 ?_);first|exact CA rfl|refine CJ ?_)|fail)) aK ⟨by omega,by omega,rfl,hback (by unfold KE;rw[huw];rfl)⟩
    |false=>
    by_cases hmay:HV c s1 who k
    ·have hmd:decide (HV c s1 who k)=true:=decide_eq_true hmay
     obtain⟨p,hpd⟩: ∃p,p=aF s1 who:=⟨_,rfl⟩
     obtain⟨qo,qc,oc,gr,gq,go⟩:=ga who hw3
     rw[←hpd] at gr gq go
     have hm1:=hmay.1
     have hm2:=hmay.2.1
     rw[←hpd] at hm1 hm2
     have hpo:=hs1.port who hw3
     rw[←hpd] at hpo
     have hql:=hpo.ql
     obtain⟨mq,rq0,q1,q2,q3,q4,q5,q6⟩:=gq.ex
     obtain⟨mo,ro,o1,o2,o3,o4,o5,o6⟩:=go.ex
     rw[List.length_map] at q4 o4
     rw[List.drop_zero] at o2
     subst o2
     obtain⟨n0,hn0⟩: ∃n0,n0=p.queue.getD 0 default:=⟨_,rfl⟩
     have q7:rq0[qo]?=some [cI n0]:=by
      have:(rq0.drop qo)[0]?=some [cI n0]:=by rw[q2,List.getElem?_map];simp[hn0,List.getD,show 0<p.queue.length by omega,aJ]
      rwa [List.getElem?_drop,Nat.add_zero] at this
     have hlt4:=hb.2.1
     have hgk: ∀r,(rp.set who r)[who]?=some r:=fun r=>by rw[List.getElem?_set_self (by omega)]
     have hgv: ∀r,(rv.set k r)[k]?=some r:=fun r=>by rw[List.getElem?_set_self (by omega)]
     have hA:=hB1.rep.apart (nx':=nx2) [nx,nx+1,i1] [0,1,2,3,4,5+who,8+who,11+k,15+k] (by omega) (by simp;omega) (fun x hx=>by simp at hx;rcases hx with rfl|rfl|rfl;exact .inl (.inr (.inl rfl));exact .inl (.inr (.inr rfl));exact .inr rfl) (by simp;omega) (by simp;omega)
     simp only[bQ,eZ,List.map,List.cons_append,List.nil_append] at hA
     obtain⟨dh,ha1,ha2,ha3,ha4,hi1,_⟩:=hB1.hap.ex
     refine aM.BW fun hnm=> ?_
     have hmk: ∀k l,msk (nx2+k) l H2=H2:=fun k l=>BV hnm (by omega)
     repeat' (first| (with_reducible first| (refine hK _ _ _ ?_;clear hK K)| (refine hA ?_;clear hA hB A B)| (refine hB ?_;clear hA hB A B)|refine Z1 ?_|refine Z2 ?_|refine Z3 fun KB hKB=> ?_|refine Z4 (by omega) ?_|refine fun(cap:Nat) (hcap:_≤cap)=> ?_|refine fun(hcp:_≤cap)=> ?_|refine hKY _ _ _ ?_)| (first| (with_reducible first|refine Y2 fun K hK=> ?_|refine Y3 fun A B hA hB=> ?_|refine Y4 (by omega) ?_)| (refine vW (s:=s1) hb hs1 hw3 hlt (hB1.rep.ar5 hs1.pl hs1.sl) ?_))<;>(simp only[go_sem,Nat.add_assoc,Nat.left_eq_add,Nat.mul_one,hmod,hu1,hut,hull,hle,huw,hcf1,hmd,hmk,umS (G:=H2),umD (G:=H2),umB,List.set_set,g0,g1,g2,gr,gs,hgk,hgv,q1,q7,o1,p1,hi1,hA];try simp (disch:=omega) only[Iw])| ((with_reducible refine Y9 ?_);try simp only[AQ.then,AQ.blk,reduceIte,Nat.reduceEqDiff])| ((with_reducible refine Y0 ?_);simp only[AQ.then,AQ.blk])|refine⟨by omega,?_⟩| (with_reducible (clear hKB KB;refine hKB _ _ _ ?_))|fail)
     rename_i cap1 hcap1 hcp1
     obtain⟨jo,hjo⟩: ∃jo:fC,jo=⟨who,n0,k⟩:=⟨_,rfl⟩
     obtain⟨jp,hjp⟩: ∃jp:fC,jp=⟨who,n0,c.lat.getD k default⟩:=⟨_,rfl⟩
     have eo:List.map eCJ p.out++[[D1.v (.int .i64 who),cI n0,D1.v (.int .i64 k)]]=(p.out++[jo]).map eCJ:=by rw[List.map_append,hjo];rfl
     have ep:List.take v.pipe.length (List.drop po re)++[[D1.v (.int .i64 who),cI n0,D1.v (.int .i64 (c.lat.getD k default))]]=(v.pipe++[jp]).map eCJ:=by
      rw[p2,List.take_of_length_le (by simp),List.map_append,hjp];rfl
     have eu:List.take who (List.map cB u)++[D1.v (.bool true)]++List.drop (who+1) (List.map cB u)=(u.set who true).map cB:=by
      rw[List.map_set,List.set_eq_take_append_cons_drop,if_pos (by simp;omega),List.append_assoc];rfl
     have ei:List.take (1+k) [dh,cI ha1,cI ha2,cI ha3,cI ha4]++[D1.v (.int .i64 1)]++List.drop (1+(k+1)) [dh,cI ha1,cI ha2,cI ha3,cI ha4]=[dh,cI ha1,cI ha2,cI ha3,cI ha4].set (1+k) (cI 1):=by
      rw[List.set_eq_take_append_cons_drop,if_pos (by simp;omega),List.append_assoc];rfl
     rw[eo,ep,eu,ei]
     obtain⟨nm',hnm'⟩: ∃nm',nm'=put (put nm1 (8+who) (nx2+62)) (11+k) (nx2+80):=⟨_,rfl⟩
     have pn: ∀j,j≠8+who→j≠11+k→nm' j=nm1 j:=fun j h1 h2=>by rw[hnm',jE h2,jE h1]
     have p8':nm' (8+who)=nx2+62:=by rw[hnm',jE (by omega),t8]
     have p11:nm' (11+k)=nx2+80:=by rw[hnm',t8]
     have hW:AO c s1 u k=some who:=by rw[hwd];exact ahR (by rw[←hvd];exact hp2) hj1 hj4 hinv (by rw[←hwd];unfold KE;rw[huw,hmd];rfl)
     obtain⟨s',hs'⟩: ∃s',s'=aR c s1 (.adm who k):=⟨_,rfl⟩
     have hL:=hS2.some hW
     rw[←hs'] at hL
     have hsk:COk c s':=by rw[hs'];exact o9 hb hs1 (XH hlt hW)
     have hpd':aF s' who= {p with queue:=p.queue.drop 1,out:=p.out++[jo]}:=by rw[hs',bL rfl (by rw[hs1.pl];omega),if_pos rfl,←hpd,hjo,hn0]
     have hvd':aL s' k= {v with pipe:=v.pipe++[jp],last:=who}:=by rw[hs',bO rfl (by rw[hs1.sl];omega),if_pos rfl,←hpd,←hvd,hjp,hn0]
     obtain⟨Hm,hHm⟩: ∃Hm,Hm=(((((((H2.del (nm1 (8+who))).del (nm1 (11+k))).set (nm1 2) ⟨4,mp,rp.set who [cI p.next,.osl 1 (nm1 (5+who)) (qo+1) (p.queue.length-1) (qc-1),.osl 3 (nx2+62) 0 (p.out.length+1) cap1,cI p.last]⟩).set (nx2+61) ⟨3,1,[eCJ jo]⟩).set (nx2+62) ⟨3,cap1,(p.out++[jo]).map eCJ⟩).set (nx2+79) ⟨3,1,[eCJ jp]⟩).set (nx2+80) ⟨3,cap,(v.pipe++[jp]).map eCJ⟩).set (nm1 3) ⟨3,mv,rv.set k [.osl 3 (nx2+80) 0 (v.pipe.length+1) cap,.osl 5 (nm1 (15+k)) do_ v.done.length dc,cI who]⟩:=⟨_,rfl⟩
     have hBu:=hB1.upd (H':=Hm) (nx':=nx2+100) who k nm' s' (by omega) ?_ ?_ ?_ ?_ ?_ ?_ (.inl hw3) (.inl hlt) (fun j hj hne=>by rw[hs',bL rfl (by rw[hs1.pl];omega),if_neg hne]) (fun j hj hne=>by rw[hs',bO rfl (by rw[hs1.sl];omega),if_neg hne])
     ·have hXn:X nx∨nx=nx∨nx=nx+1:=.inr (.inl rfl)
      have hi1n:Hm i1=some ⟨5,1,[[dh,cI ha1,cI ha2,cI ha3,cI ha4]]⟩:=by
       rw[hHm]
       simp only[aA.set,aA.del,hA,if_false]
       exact hi1
      have hni:i1≠nx+1:=by omega
      refine hKL _ _ _ (k+1,s',u.set who true,nm') noF ((Hm.set (nx+1) ⟨3,1,[(u.set who true).map cB]⟩).set i1 ⟨5,1,[[dh,cI ha1,cI ha2,cI ha3,cI ha4].set (1+k) (cI 1)]⟩) (by omega) (by dsimp only;omega) (by repeat' (first| (with_reducible first|exact C1|refine C2 ?_ ?_)| ((with_reducible refine C0 ?_);exact CE (by omega) rfl)| ((with_reducible refine D0 ?_);first|exact CA rfl|refine CJ ?_)|fail)) ?_ ⟨by dsimp only;omega,hsk,(hBu.1.atI (.inr (.inr rfl))).cells hlt ((aA.aC hni).trans hi1n) rfl,fun id hid=> ?_,hL,by simpa using hul,?_⟩
      ·rw[hHm,hjo,hjp]
       exact aK
      ·have h1:id≠i1:=by
        rintro rfl
        rcases hid with hid|rfl
        ·exact hB1.hap.i1.2 (.inl (.inl hid))
        ·omega
       have h2:id≠nx+1:=by
        rcases hid with hid|rfl
        ·have:=hB.rep.x id (.inl hid);omega
        ·omega
       rw[aA.aC h1,aA.aC h2,hBu.2 id (hid.imp (fun h=>h) .inl)]
       exact hX1 id hid
      ·rw[aA.aC hni.symm];exact aA.bH
     ·rw[hnm']
      have hXl: ∀v,nx1≤v→¬((X v∨v=nx∨v=nx+1)∨v=i1):=fun v hv hn=>by have:=hB1.rep.x v hn;omega
      exact((hB1.rep.names.mono (by omega:nx1≤nx2)).put (nx':=nx2+63) (by omega) (by omega) (hXl _ (by omega))).put (by omega) (by omega) (hXl _ (by omega))
     ·intro j hj
      by_cases h4:j=8+who
      ·subst h4;exact .inr ⟨.inr (.inr (.inl rfl)),by omega⟩
      ·by_cases h8:j=11+k
       ·subst h8;exact .inr ⟨.inr (.inr (.inr (.inl rfl))),by omega⟩
       ·exact .inl (pn j h4 h8)
     ·intro id hid h0 hne
      rw[hHm]
      simp only[aA.set,aA.del,hne 2 (by omega) (by omega),hne 3 (by omega) (by omega),hne (8+who) (by omega) (by omega),hne (11+k) (by omega) (by omega),show ¬id=nx2+61 by omega,show ¬id=nx2+62 by omega,show ¬id=nx2+79 by omega,show ¬id=nx2+80 by omega,if_false]
     ·refine⟨wc,hc,pc,vc,tc,?_,?_,?_,?_,g6,g7⟩
      ·rw[hHm]
       simp only[aA.set,aA.del,hA,if_false,U2,pn 0 (by omega) (by omega),pn 1 (by omega) (by omega),pn 2 (by omega) (by omega),pn 3 (by omega) (by omega),pn 4 (by omega) (by omega)]
       rw[hs'];exact g0
      ·rw[pn 0 (by omega) (by omega),hs']
       exact g3.frame (by rw[hHm];simp only[aA.set,aA.del,hA,if_false])
      ·rw[pn 1 (by omega) (by omega),hs']
       exact g4.frame (by rw[hHm];simp only[aA.set,aA.del,hA,if_false])
      ·rw[pn 4 (by omega) (by omega),hs']
       exact g5.frame (by rw[hHm];simp only[aA.set,aA.del,hA,if_false])
     ·refine⟨mp,rp.set who [cI p.next,.osl 1 (nm1 (5+who)) (qo+1) (p.queue.length-1) (qc-1),.osl 3 (nx2+62) 0 (p.out.length+1) cap1,cI p.last],mp,rp,g1,by rw[hHm];simp only[aA.set,aA.del,hA,if_false,if_true],by simp only[List.length_set,g8],fun j hj hne=>by rw[List.getElem?_set_ne (Ne.symm hne)],fun _=>⟨_,hgk _,⟨qo+1,qc-1,cap1,?_,?_,?_⟩⟩⟩
      ·rw[hpd',pn (5+who) (by omega) (by omega),p8']
       simp only[af5,List.length_drop,List.length_append,List.length_singleton]
      ·rw[hpd',pn (5+who) (by omega) (by omega)]
       refine⟨mq,rq0,?_,by rw[List.map_drop,←q2,List.drop_drop],?_,by simp,?_,?_⟩
       ·rw[hHm]
        simp only[aA.set,aA.del,hA,if_false]
        exact q1
       ·simp only[List.length_drop];omega
       ·simp only[List.length_drop];omega
       ·omega
      ·rw[hpd',p8']
       refine⟨cap1,(p.out++[jo]).map eCJ,?_,rfl,by simp,by simp,by simpa using hcap1,by simp⟩
       rw[hHm]
       simp only[aA.set,aA.del,hA,if_false,if_true,Nat.add_left_cancel_iff,Nat.reduceEqDiff]
     ·refine⟨mv,rv.set k [.osl 3 (nx2+80) 0 (v.pipe.length+1) cap,.osl 5 (nm1 (15+k)) do_ v.done.length dc,cI who],mv,rv,g2,by rw[hHm];exact aA.bH,by simp only[List.length_set,g9],fun j hj hne=>by rw[List.getElem?_set_ne (Ne.symm hne)],fun _=>⟨_,hgv _,⟨0,cap,do_,dc,?_,?_,?_⟩⟩⟩
      ·rw[hvd',p11,pn (15+k) (by omega) (by omega)]
       simp only[aj9,List.length_append,List.length_singleton]
      ·rw[hvd',p11]
       refine⟨cap,(v.pipe++[jp]).map eCJ,?_,rfl,by simp,by simp,by simpa using hcap,by simp⟩
       rw[hHm]
       simp only[aA.set,aA.del,hA,if_false,if_true]
      ·rw[hvd',pn (15+k) (by omega) (by omega)]
       exact gd.frame (by rw[hHm];simp only[aA.set,aA.del,hA,if_false])
    ·have hmd:decide (HV c s1 who k)=false:=decide_eq_false hmay
     repeat' (first| (with_reducible first| (refine hK _ _ _ ?_;clear hK K)| (refine hA ?_;clear hA hB A B)|refine Z1 ?_|refine Z2 ?_|refine Z3 fun KB hKB=> ?_|refine Z4 (by omega) ?_)| (first| (with_reducible first|refine Y2 fun K hK=> ?_|refine Y3 fun A B hA hB=> ?_|refine Y4 (by omega) ?_)| (refine vW (s:=s1) hb hs1 hw3 hlt (hB1.rep.ar5 hs1.pl hs1.sl) ?_))<;>(simp only[go_sem,Nat.add_assoc,Nat.left_eq_add,g0,g2,gs,Nat.mul_one,hmod,hu1,hut,hull,hle,huw,hcf1,hmd];try simp (disch:=omega) only[Iw])| ((with_reducible refine Y9 ?_);try simp only[AQ.then,AQ.blk,reduceIte,Nat.reduceEqDiff])| ((with_reducible refine Y0 ?_);simp only[AQ.then,AQ.blk])|refine⟨by omega,?_⟩| (with_reducible refine hKB _ _ _ ?_)|fail)
     exact hKJ _ _ _ (j+1) noF _ (by omega) (by omega) (by repeat' (first| (with_reducible first|exact C1|refine C2 ?_ ?_)| ((with_reducible refine C0 ?_);exact CE (by omega) rfl)| ((with_reducible refine D0 ?_);first|exact CA rfl|refine CJ ?_)|fail)) aK ⟨by omega,by omega,rfl,hback (by unfold KE;rw[huw];rw[hmd];rfl)⟩
   ·repeat' (first| (with_reducible first| (refine hK _ _ _ ?_;clear hK K)| (refine hB ?_;clear hA hB A B)|refine Z1 ?_|refine hKY _ _ _ ?_)| (with_reducible first|refine Y2 fun K hK=> ?_|refine Y3 fun A B hA hB=> ?_|refine Y5 (by omega) ?_)<;>(simp only[go_sem,Nat.add_assoc,Nat.left_eq_add,g0,g2,gs];try simp (disch:=omega) only[Iw])| ((with_reducible refine Y9 ?_);try simp only[AQ.then,AQ.blk,reduceIte,Nat.reduceEqDiff])| ((with_reducible refine Y0 ?_);simp only[AQ.then,AQ.blk])| (with_reducible refine hKB _ _ _ ?_)|fail)
    exact hKL _ _ _ (k+1,s1,u,nm1) noF _ (by omega) (by dsimp only;omega) (by repeat' (first| (with_reducible first|exact C1|refine C2 ?_ ?_)| ((with_reducible refine C0 ?_);exact CE (by omega) rfl)| ((with_reducible refine D0 ?_);first|exact CA rfl|refine CJ ?_)|fail)) aK ⟨by dsimp only;omega,hs1,hB1.mono (by omega),hX1,hS2.none (ah0 fun j' h1 h2=>hinv j' h1 (by omega)),hul,hu1⟩
  ·repeat' (first| (with_reducible first| (refine hK _ _ _ ?_;clear hK K)| (refine hB ?_;clear hA hB A B)|refine Z1 ?_|refine Z5 (by omega) ?_|refine hKY _ _ _ ?_)| (with_reducible first|refine Y2 fun K hK=> ?_|refine Y3 fun A B hA hB=> ?_|refine Y6 (fun h=> ?_) fun h=> ?_)<;>(simp only[go_sem,Nat.add_assoc,Nat.left_eq_add,g0,g2,gs];try simp (disch:=omega) only[Iw])| ((with_reducible refine Y9 ?_);try simp only[AQ.then,AQ.blk,reduceIte,Nat.reduceEqDiff])| ((with_reducible refine Y0 ?_);simp only[AQ.then,AQ.blk])| (with_reducible refine hKB _ _ _ ?_)|fail)
   all_goals exact hKL _ _ _ (k+1,s1,u,nm1) noF _ (by omega) (by dsimp only;omega) (by repeat' (first| (with_reducible first|exact C1|refine C2 ?_ ?_)| ((with_reducible refine C0 ?_);exact CE (by omega) rfl)| ((with_reducible refine D0 ?_);first|exact CA rfl|refine CJ ?_)|fail)) aK ⟨by dsimp only;omega,hs1,hB1.mono (by omega),hX1,hS2.none (anA (by rw[←hvd];exact hp2)),hul,hu1⟩
 ·repeat' (first| (with_reducible first| (refine hK _ _ _ ?_;clear hK K)| (refine hB ?_;clear hA hB A B)|refine Z1 ?_|refine Z5 (by omega) ?_|refine hKX _ _ _ ?_)| (with_reducible first|refine Y2 fun K hK=> ?_|refine Y3 fun A B hA hB=> ?_)<;>(simp only[go_sem])| ((with_reducible refine Y9 ?_);try simp only[AQ.then,AQ.blk,reduceIte,Nat.reduceEqDiff])| ((with_reducible refine Y0 ?_);simp only[AQ.then,AQ.blk])|fail)
  have hk4:k=4:=by omega
  subst hk4
  obtain rfl:=hS1
  refine hQ _ _ _ _ _ (.inl rfl) rfl (h _ _ nm1 (by omega) (hB1.next (by omega) (fun _ _ _=>rfl) fun id hid=>⟨?_,.inl (.inl hid)⟩) fun id hid=> ?_)
  ·have:=hB.rep.x id (.inl hid);omega
  ·have:=hB.rep.x id (.inl hid)
   rw[hX1 id (.inl hid),hH0,aA.aC (by omega),aA.aC (by omega)]
end
end Go.Proofs.YtegiblhkjfiooaaGreat
end
